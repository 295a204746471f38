-- Written by a program of this session (wip/tools) over the kit's print.
import Derived.Test.YtppniempndnghaaPAx0
import Derived.Test.YtppniempndnghaaPAx5
import Derived.Test.YtppniempndnghaaPAx10
import Derived.Test.YtppniempndnghaaPAx11
import Derived.Test.YtppniempndnghaaPAx12
import Derived.Test.YtppniempndnghaaPAx13
import Derived.Test.YtppniempndnghaaPAy19
namespace Go.Proofs.Ytppniempndnghaa.PA
open Go.RowKit Go.Proofs.YtppniempndnghaaW.PrintWords Go.Proofs.YtppniempndnghaaW.PrintLast Go.Proofs.YtppniempndnghaaW.PrintMore
attribute [local go_sem] max2_int min2_int max_two min_two max_three min_three max_four min_four   -- for this text's walks alone
set_option linter.unusedVariables false
set_option linter.unusedSimpArgs false

/-! ### standbylaw33_ThrottleAccounts: function 7 -/
mutual
def standbylaw33_ThrottleAccounts.j0 : Nat → Bool → Bool → Int → List Int → Int → Int → Int → Int → List (S71) → Option (Bool)
  | 0, _, _, _, _, _, _, _, _, _ => none
  | k + 1, x8, x34, x391000, x391001, x400000, x400001, x400002, x400003, x400004 => if x34 = true then (if x8 = true then ((standbylaw33_awake.f k).bind fun t400 => (some t400)) else (some false)) else (standbylaw33_ThrottleAccounts.l0 k (wrap64 (x391000)) 0 0 ([] : List (S49)) x391001 (x391001.length : Int) 0 x400000 x400001 x400002 x400003 x400004)
def standbylaw33_ThrottleAccounts.l0 : Nat → Int → Int → Int → List (S49) → List Int → Int → Int → Int → Int → Int → Int → List (S71) → Option (Bool)
  | 0, _, _, _, _, _, _, _, _, _, _, _, _ => none
  | k + 1, x9, x10, x11, x12, x43, x44, x45, x400000, x400001, x400002, x400003, x400004 => if x45 < x44 then (if 0 ≤ x45 then (if x45 < (x43.length : Int) then (if (rd x43 x45) < 0 then ((throttle_Progress.f k x400000 x400001 x400002 x400003 x400004 (wrap64 (x9 + (Int.tmod x45 3))) (mn x10 (wrap64 (x11 - (wrap64 (rd x43 x45)))))).bind fun bt403 => (if bt403.2.2.2.2.2 = 0 then (standbylaw33_ThrottleAccounts.j3 k (wrap64 (x9 + (Int.tmod x45 3))) x10 (mn x10 (wrap64 (x11 - (wrap64 (rd x43 x45))))) x12 x43 x44 x45 bt403.1 bt403.2.1 bt403.2.2.1 bt403.2.2.2.1 bt403.2.2.2.2.1) else (some false))) else (if (wrap64 ((wrap64 (rd x43 x45)) + 1)) ≤ (wrap64 (x400001 * x400000)) then ((throttle_Write.f k x400000 x400001 x400002 x400003 x400004 (wrap64 (x9 + (Int.tmod x45 3))) (wrap64 ((wrap64 (rd x43 x45)) + 1))).bind fun bt412 => (if bt412.2.2.2.2.2.2 = 0 then (standbylaw33_ThrottleAccounts.j2 k (wrap64 (x9 + (Int.tmod x45 3))) x10 x11 x12 (wrap64 ((wrap64 (rd x43 x45)) + 1)) bt412.2.2.2.2.2.1 x43 x44 x45 ((bt412.2.2.2.2.2.1 == 0) != (decide ((wrap64 ((wrap64 (x10 - x11)) + (wrap64 ((wrap64 (rd x43 x45)) + 1)))) ≤ (wrap64 (x400001 * x400000))))) bt412.1 bt412.2.1 bt412.2.2.1 bt412.2.2.2.1 bt412.2.2.2.2.1) else (standbylaw33_ThrottleAccounts.j2 k (wrap64 (x9 + (Int.tmod x45 3))) x10 x11 x12 (wrap64 ((wrap64 (rd x43 x45)) + 1)) bt412.2.2.2.2.2.1 x43 x44 x45 true bt412.1 bt412.2.1 bt412.2.2.1 bt412.2.2.2.1 bt412.2.2.2.2.1))) else (standbylaw33_ThrottleAccounts.j3 k (wrap64 (x9 + (Int.tmod x45 3))) x10 x11 x12 x43 x44 x45 x400000 x400001 x400002 x400003 x400004))) else (none)) else (none)) else ((standbylaw33_awake.f k).bind fun t401 => (some t401))
def standbylaw33_ThrottleAccounts.j3 : Nat → Int → Int → Int → List (S49) → List Int → Int → Int → Int → Int → Int → Int → List (S71) → Option (Bool)
  | 0, _, _, _, _, _, _, _, _, _, _, _, _ => none
  | k + 1, x9, x10, x11, x12, x43, x44, x45, x400000, x400001, x400002, x400003, x400004 => (throttle_Check.f k x400000 x400001 x400002 x400003 x400004).bind fun t425 => (if t425 = 0 then ((throttle_Backlog.f k x400000 x400001 x400002 x400003 x400004).bind fun t426 => (if t426 = (wrap64 (x10 - x11)) then ((throttle_Age.f k x400000 x400001 x400002 x400003 x400004 (wrap64 (x9 + 5))).bind fun t427 => ((standbylaw33_oldest.f k x12 x11 (wrap64 (x9 + 5))).bind fun t428 => (if t427 = t428 then (standbylaw33_ThrottleAccounts.l0 k x9 x10 x11 x12 x43 x44 (wrap64 (x45 + 1)) x400000 x400001 x400002 x400003 x400004) else (some false)))) else (some false))) else (some false))
def standbylaw33_ThrottleAccounts.j2 : Nat → Int → Int → Int → List (S49) → Int → Int → List Int → Int → Int → Bool → Int → Int → Int → Int → List (S71) → Option (Bool)
  | 0, _, _, _, _, _, _, _, _, _, _, _, _, _, _, _ => none
  | k + 1, x9, x10, x11, x12, x17, x19, x43, x44, x45, x107, x422000, x422001, x422002, x422003, x422004 => if x107 = true then (some false) else (if x19 = 0 then (if x12.length < 8796093022208 then (standbylaw33_ThrottleAccounts.j3 k x9 (wrap64 (x10 + x17)) x11 (x12 ++ [(⟨x9, wrap64 (x10 + x17)⟩ : S49)]) x43 x44 x45 x422000 x422001 x422002 x422003 x422004) else (none)) else (standbylaw33_ThrottleAccounts.j3 k x9 x10 x11 x12 x43 x44 x45 x422000 x422001 x422002 x422003 x422004))
end
def standbylaw33_ThrottleAccounts.f (k : Nat) (a0 : Int) (a1 : Int) (a2_0 : Int) (l2_1 : List Int) : Option (Bool) := (standbylaw33_begin.f a0 a1).bind fun bt391 => (if (l2_1.length : Int) > 60 then (standbylaw33_ThrottleAccounts.j0 k bt391.2.2.2.2.2 true a2_0 l2_1 bt391.1 bt391.2.1 bt391.2.2.1 bt391.2.2.2.1 bt391.2.2.2.2.1) else (standbylaw33_ThrottleAccounts.j0 k bt391.2.2.2.2.2 (!bt391.2.2.2.2.2) a2_0 l2_1 bt391.1 bt391.2.1 bt391.2.2.1 bt391.2.2.2.1 bt391.2.2.2.2.1))
theorem standbylaw33_ThrottleAccounts.mono_l : ∀ k, (∀ y0 y1 y2 y3 y4 y5 y6 y7 y8, LeO (standbylaw33_ThrottleAccounts.j0 k y0 y1 y2 y3 y4 y5 y6 y7 y8) (standbylaw33_ThrottleAccounts.j0 (k + 1) y0 y1 y2 y3 y4 y5 y6 y7 y8)) ∧ (∀ y0 y1 y2 y3 y4 y5 y6 y7 y8 y9 y10 y11, LeO (standbylaw33_ThrottleAccounts.l0 k y0 y1 y2 y3 y4 y5 y6 y7 y8 y9 y10 y11) (standbylaw33_ThrottleAccounts.l0 (k + 1) y0 y1 y2 y3 y4 y5 y6 y7 y8 y9 y10 y11)) ∧ (∀ y0 y1 y2 y3 y4 y5 y6 y7 y8 y9 y10 y11, LeO (standbylaw33_ThrottleAccounts.j3 k y0 y1 y2 y3 y4 y5 y6 y7 y8 y9 y10 y11) (standbylaw33_ThrottleAccounts.j3 (k + 1) y0 y1 y2 y3 y4 y5 y6 y7 y8 y9 y10 y11)) ∧ (∀ y0 y1 y2 y3 y4 y5 y6 y7 y8 y9 y10 y11 y12 y13 y14, LeO (standbylaw33_ThrottleAccounts.j2 k y0 y1 y2 y3 y4 y5 y6 y7 y8 y9 y10 y11 y12 y13 y14) (standbylaw33_ThrottleAccounts.j2 (k + 1) y0 y1 y2 y3 y4 y5 y6 y7 y8 y9 y10 y11 y12 y13 y14))
  | 0 => ⟨fun _ _ _ _ _ _ _ _ _ r h => by simp [standbylaw33_ThrottleAccounts.j0] at h, fun _ _ _ _ _ _ _ _ _ _ _ _ r h => by simp [standbylaw33_ThrottleAccounts.l0] at h, fun _ _ _ _ _ _ _ _ _ _ _ _ r h => by simp [standbylaw33_ThrottleAccounts.j3] at h, fun _ _ _ _ _ _ _ _ _ _ _ _ _ _ _ r h => by simp [standbylaw33_ThrottleAccounts.j2] at h⟩
  | k + 1 => by
    obtain ⟨ih0, ih1, ih2, ih3⟩ := standbylaw33_ThrottleAccounts.mono_l k
    refine ⟨?_, ?_, ?_, ?_⟩
    · intro y0 y1 y2 y3 y4 y5 y6 y7 y8
      unfold standbylaw33_ThrottleAccounts.j0
      repeat' first
      | (with_reducible exact ih0 _ _ _ _ _ _ _ _ _)
      | (with_reducible exact ih1 _ _ _ _ _ _ _ _ _ _ _ _)
      | (with_reducible exact ih2 _ _ _ _ _ _ _ _ _ _ _ _)
      | (with_reducible exact ih3 _ _ _ _ _ _ _ _ _ _ _ _ _ _ _)
      | (with_reducible exact standbylaw33_awake.mono _)
      | (with_reducible exact standbylaw33_oldest.mono _ _ _ _)
      | (with_reducible exact throttle_Age.mono _ _ _ _ _ _ _)
      | (with_reducible exact throttle_Backlog.mono _ _ _ _ _ _)
      | (with_reducible exact throttle_Check.mono _ _ _ _ _ _)
      | (with_reducible exact throttle_Progress.mono _ _ _ _ _ _ _ _)
      | (with_reducible exact throttle_Write.mono _ _ _ _ _ _ _ _)
      | (with_reducible exact LeO.refl _)
      | (with_reducible exact LeO.none _)
      | (with_reducible refine LeO.ite ?_ ?_)
      | (with_reducible refine LeO.bind ?_ (fun _ => ?_))
      | exact ih0 _ _ _ _ _ _ _ _ _
      | exact ih1 _ _ _ _ _ _ _ _ _ _ _ _
      | exact ih2 _ _ _ _ _ _ _ _ _ _ _ _
      | exact ih3 _ _ _ _ _ _ _ _ _ _ _ _ _ _ _
      | exact standbylaw33_awake.mono _
      | exact standbylaw33_oldest.mono _ _ _ _
      | exact throttle_Age.mono _ _ _ _ _ _ _
      | exact throttle_Backlog.mono _ _ _ _ _ _
      | exact throttle_Check.mono _ _ _ _ _ _
      | exact throttle_Progress.mono _ _ _ _ _ _ _ _
      | exact throttle_Write.mono _ _ _ _ _ _ _ _
      | exact LeO.none _
      | refine LeO.ite ?_ ?_
      | refine LeO.bind ?_ (fun _ => ?_)
    · intro y0 y1 y2 y3 y4 y5 y6 y7 y8 y9 y10 y11
      unfold standbylaw33_ThrottleAccounts.l0
      repeat' first
      | (with_reducible exact ih0 _ _ _ _ _ _ _ _ _)
      | (with_reducible exact ih1 _ _ _ _ _ _ _ _ _ _ _ _)
      | (with_reducible exact ih2 _ _ _ _ _ _ _ _ _ _ _ _)
      | (with_reducible exact ih3 _ _ _ _ _ _ _ _ _ _ _ _ _ _ _)
      | (with_reducible exact standbylaw33_awake.mono _)
      | (with_reducible exact standbylaw33_oldest.mono _ _ _ _)
      | (with_reducible exact throttle_Age.mono _ _ _ _ _ _ _)
      | (with_reducible exact throttle_Backlog.mono _ _ _ _ _ _)
      | (with_reducible exact throttle_Check.mono _ _ _ _ _ _)
      | (with_reducible exact throttle_Progress.mono _ _ _ _ _ _ _ _)
      | (with_reducible exact throttle_Write.mono _ _ _ _ _ _ _ _)
      | (with_reducible exact LeO.refl _)
      | (with_reducible exact LeO.none _)
      | (with_reducible refine LeO.ite ?_ ?_)
      | (with_reducible refine LeO.bind ?_ (fun _ => ?_))
      | exact ih0 _ _ _ _ _ _ _ _ _
      | exact ih1 _ _ _ _ _ _ _ _ _ _ _ _
      | exact ih2 _ _ _ _ _ _ _ _ _ _ _ _
      | exact ih3 _ _ _ _ _ _ _ _ _ _ _ _ _ _ _
      | exact standbylaw33_awake.mono _
      | exact standbylaw33_oldest.mono _ _ _ _
      | exact throttle_Age.mono _ _ _ _ _ _ _
      | exact throttle_Backlog.mono _ _ _ _ _ _
      | exact throttle_Check.mono _ _ _ _ _ _
      | exact throttle_Progress.mono _ _ _ _ _ _ _ _
      | exact throttle_Write.mono _ _ _ _ _ _ _ _
      | exact LeO.none _
      | refine LeO.ite ?_ ?_
      | refine LeO.bind ?_ (fun _ => ?_)
    · intro y0 y1 y2 y3 y4 y5 y6 y7 y8 y9 y10 y11
      unfold standbylaw33_ThrottleAccounts.j3
      repeat' first
      | (with_reducible exact ih0 _ _ _ _ _ _ _ _ _)
      | (with_reducible exact ih1 _ _ _ _ _ _ _ _ _ _ _ _)
      | (with_reducible exact ih2 _ _ _ _ _ _ _ _ _ _ _ _)
      | (with_reducible exact ih3 _ _ _ _ _ _ _ _ _ _ _ _ _ _ _)
      | (with_reducible exact standbylaw33_awake.mono _)
      | (with_reducible exact standbylaw33_oldest.mono _ _ _ _)
      | (with_reducible exact throttle_Age.mono _ _ _ _ _ _ _)
      | (with_reducible exact throttle_Backlog.mono _ _ _ _ _ _)
      | (with_reducible exact throttle_Check.mono _ _ _ _ _ _)
      | (with_reducible exact throttle_Progress.mono _ _ _ _ _ _ _ _)
      | (with_reducible exact throttle_Write.mono _ _ _ _ _ _ _ _)
      | (with_reducible exact LeO.refl _)
      | (with_reducible exact LeO.none _)
      | (with_reducible refine LeO.ite ?_ ?_)
      | (with_reducible refine LeO.bind ?_ (fun _ => ?_))
      | exact ih0 _ _ _ _ _ _ _ _ _
      | exact ih1 _ _ _ _ _ _ _ _ _ _ _ _
      | exact ih2 _ _ _ _ _ _ _ _ _ _ _ _
      | exact ih3 _ _ _ _ _ _ _ _ _ _ _ _ _ _ _
      | exact standbylaw33_awake.mono _
      | exact standbylaw33_oldest.mono _ _ _ _
      | exact throttle_Age.mono _ _ _ _ _ _ _
      | exact throttle_Backlog.mono _ _ _ _ _ _
      | exact throttle_Check.mono _ _ _ _ _ _
      | exact throttle_Progress.mono _ _ _ _ _ _ _ _
      | exact throttle_Write.mono _ _ _ _ _ _ _ _
      | exact LeO.none _
      | refine LeO.ite ?_ ?_
      | refine LeO.bind ?_ (fun _ => ?_)
    · intro y0 y1 y2 y3 y4 y5 y6 y7 y8 y9 y10 y11 y12 y13 y14
      unfold standbylaw33_ThrottleAccounts.j2
      repeat' first
      | (with_reducible exact ih0 _ _ _ _ _ _ _ _ _)
      | (with_reducible exact ih1 _ _ _ _ _ _ _ _ _ _ _ _)
      | (with_reducible exact ih2 _ _ _ _ _ _ _ _ _ _ _ _)
      | (with_reducible exact ih3 _ _ _ _ _ _ _ _ _ _ _ _ _ _ _)
      | (with_reducible exact standbylaw33_awake.mono _)
      | (with_reducible exact standbylaw33_oldest.mono _ _ _ _)
      | (with_reducible exact throttle_Age.mono _ _ _ _ _ _ _)
      | (with_reducible exact throttle_Backlog.mono _ _ _ _ _ _)
      | (with_reducible exact throttle_Check.mono _ _ _ _ _ _)
      | (with_reducible exact throttle_Progress.mono _ _ _ _ _ _ _ _)
      | (with_reducible exact throttle_Write.mono _ _ _ _ _ _ _ _)
      | (with_reducible exact LeO.refl _)
      | (with_reducible exact LeO.none _)
      | (with_reducible refine LeO.ite ?_ ?_)
      | (with_reducible refine LeO.bind ?_ (fun _ => ?_))
      | exact ih0 _ _ _ _ _ _ _ _ _
      | exact ih1 _ _ _ _ _ _ _ _ _ _ _ _
      | exact ih2 _ _ _ _ _ _ _ _ _ _ _ _
      | exact ih3 _ _ _ _ _ _ _ _ _ _ _ _ _ _ _
      | exact standbylaw33_awake.mono _
      | exact standbylaw33_oldest.mono _ _ _ _
      | exact throttle_Age.mono _ _ _ _ _ _ _
      | exact throttle_Backlog.mono _ _ _ _ _ _
      | exact throttle_Check.mono _ _ _ _ _ _
      | exact throttle_Progress.mono _ _ _ _ _ _ _ _
      | exact throttle_Write.mono _ _ _ _ _ _ _ _
      | exact LeO.none _
      | refine LeO.ite ?_ ?_
      | refine LeO.bind ?_ (fun _ => ?_)
theorem standbylaw33_ThrottleAccounts.mono : ∀ a0 a1 a2 a3 k, LeO (standbylaw33_ThrottleAccounts.f k a0 a1 a2 a3) (standbylaw33_ThrottleAccounts.f (k + 1) a0 a1 a2 a3) := by
  intro a0 a1 a2 a3 k
  obtain ⟨ih0, ih1, ih2, ih3⟩ := standbylaw33_ThrottleAccounts.mono_l k
  unfold standbylaw33_ThrottleAccounts.f
  repeat' first
      | (with_reducible exact ih0 _ _ _ _ _ _ _ _ _)
      | (with_reducible exact ih1 _ _ _ _ _ _ _ _ _ _ _ _)
      | (with_reducible exact ih2 _ _ _ _ _ _ _ _ _ _ _ _)
      | (with_reducible exact ih3 _ _ _ _ _ _ _ _ _ _ _ _ _ _ _)
      | (with_reducible exact standbylaw33_awake.mono _)
      | (with_reducible exact standbylaw33_oldest.mono _ _ _ _)
      | (with_reducible exact throttle_Age.mono _ _ _ _ _ _ _)
      | (with_reducible exact throttle_Backlog.mono _ _ _ _ _ _)
      | (with_reducible exact throttle_Check.mono _ _ _ _ _ _)
      | (with_reducible exact throttle_Progress.mono _ _ _ _ _ _ _ _)
      | (with_reducible exact throttle_Write.mono _ _ _ _ _ _ _ _)
      | (with_reducible exact LeO.refl _)
      | (with_reducible exact LeO.none _)
      | (with_reducible refine LeO.ite ?_ ?_)
      | (with_reducible refine LeO.bind ?_ (fun _ => ?_))
      | exact ih0 _ _ _ _ _ _ _ _ _
      | exact ih1 _ _ _ _ _ _ _ _ _ _ _ _
      | exact ih2 _ _ _ _ _ _ _ _ _ _ _ _
      | exact ih3 _ _ _ _ _ _ _ _ _ _ _ _ _ _ _
      | exact standbylaw33_awake.mono _
      | exact standbylaw33_oldest.mono _ _ _ _
      | exact throttle_Age.mono _ _ _ _ _ _ _
      | exact throttle_Backlog.mono _ _ _ _ _ _
      | exact throttle_Check.mono _ _ _ _ _ _
      | exact throttle_Progress.mono _ _ _ _ _ _ _ _
      | exact throttle_Write.mono _ _ _ _ _ _ _ _
      | exact LeO.none _
      | refine LeO.ite ?_ ?_
      | refine LeO.bind ?_ (fun _ => ?_)
set_option maxHeartbeats 8000000 in
set_option maxRecDepth 100000 in
theorem standbylaw33_ThrottleAccounts.calls (k : Nat) (a0 : Int) (a1 : Int) (a2_0 : Int) (A2_1 : Option Addr) (c2_1 : Nat) (l2_1 : List Int) (r : Bool) (w : World) (hr2_1 : Kd.C (Kd.int .i8) w A2_1 l2_1.length l2_1) (hc2_1 : l2_1.length ≤ c2_1) (h : standbylaw33_ThrottleAccounts.f k a0 a1 a2_0 l2_1 = some r) :
    Calls Try.prog 7 #[.int .u8 a0, .int .u8 a1, .agg #[.int .u8 a2_0, .slice A2_1 l2_1.length c2_1]] w fun e w' => e = .returned (.bool r) ∧ Below w.heap.size w w' := by
  have hu55 := Try.underlying55
  have hu24 := Try.underlying24
  have hu49 := Try.underlying49
  have HR2_1 := Aside0.mk hr2_1
  have HC2_1 := Aside0.mk hc2_1
  clear hr2_1 hc2_1
  have HB := Aside0.mk (Below.refl w.heap.size w)
  have H : ((standbylaw33_begin.f a0 a1).bind fun bt391 => (if (l2_1.length : Int) > 60 then (standbylaw33_ThrottleAccounts.j0 k bt391.2.2.2.2.2 true a2_0 l2_1 bt391.1 bt391.2.1 bt391.2.2.1 bt391.2.2.2.1 bt391.2.2.2.2.1) else (standbylaw33_ThrottleAccounts.j0 k bt391.2.2.2.2.2 (!bt391.2.2.2.2.2) a2_0 l2_1 bt391.1 bt391.2.1 bt391.2.2.1 bt391.2.2.2.1 bt391.2.2.2.2.1))) = some r := h
  clear h
  replace H := Option.bind_eq_some_iff.mp H
  obtain ⟨⟨t391, t392, t393, t394, t395, t398⟩, A40, H⟩ := H
  replace H : (if (l2_1.length : Int) > 60 then (standbylaw33_ThrottleAccounts.j0 k t398 true a2_0 l2_1 t391 t392 t393 t394 t395) else (standbylaw33_ThrottleAccounts.j0 k t398 (!t398) a2_0 l2_1 t391 t392 t393 t394 t395)) = some r := H
  have A4 := Aside0.mk A40
  clear A40
  have HC5 := Aside0.mk H
  clear H
  go_enter Try.func7, Try.ntmps7
  go_upto_region 2 with (first | ((with_reducible refine gate_dst (N := 5) rfl ?_); refine box_event ?hg (N := 5) ?hd (cs := #[.int .u8 a2_0, .slice A2_1 l2_1.length c2_1]) (t := 55) ?hr ?_; (case hd => rfl); (case hg => rfl); (case hr => first | (go_simp; done) | (go_simp; rfl)); intro gb390 hg w6 hbox hb; have n0_ := Aside0.mk (below_step (by repeat (first | (with_reducible first | exact HB.out | apply below_alloc | apply pw_below_drewN | apply below_drew1) | exact HB.out)) hb); have n1_ := Aside0.mk (hbox); have n2_ := Aside0.mk ((by rw [hg]; exact (below_size (by repeat (first | (with_reducible first | exact HB.out | apply below_alloc | apply pw_below_drewN | apply below_drew1) | exact HB.out))) : w.heap.size ≤ gb390)); have n3_ := Aside0.mk ((by rw [hg]; exact (below_size (by repeat (first | (with_reducible first | exact HB.out | apply below_alloc | apply pw_below_drewN | apply below_drew1) | exact HB.out))) : w.heap.size ≤ gb390)); clear HB; have HB := n0_; have BK390 := n1_; have GW390 := n2_; have GE390 := n3_; clear n0_ n1_ n2_ n3_; clear hb hbox hg) | ((with_reducible refine gate_callee (f := 18) rfl ?_); refine goesL_ (some 24) rfl rfl Try.func18 (by kernel_rfl) rfl #[.int .u8 a0, .int .u8 a1] rfl (by (try simp only [List.map_toArray, List.map_cons, List.map_nil]); first | done | rfl | (simp only [List.length_drop, List.length_take]; rfl)) ?_; (with_reducible refine (standbylaw33_begin.calls a0 a1 t391 t392 t393 t394 t395 t398 _ A4.out).mono ?_); rintro e w7 ⟨v396, rfl, ho0, hb⟩; refine ⟨_, rfl, ?_⟩; have n0_ := Aside0.mk (Kd.R_lower ho0 (below_size (by repeat (first | (with_reducible first | exact HB.out | apply below_alloc | apply pw_below_drewN | apply below_drew1 | refine below_set ?_ GE390.out) | exact HB.out)))); have n1_ := Aside0.mk (blk_below (g := gb390) (o := .cells #[.int .u8 a2_0, .slice A2_1 l2_1.length c2_1] 55 (0, 0)) (by (with_reducible repeat (first | refine blk_drewN ?_ _ | refine blk_drew ?_ | refine blk_alloc ?_ _)); exact BK390.out) hb); have n2_ := Aside0.mk (below_step (by repeat (first | (with_reducible first | exact HB.out | apply below_alloc | apply pw_below_drewN | apply below_drew1 | refine below_set ?_ GE390.out) | exact HB.out)) hb); clear BK390; clear HB; have HO397 := n0_; have BK390 := n1_; have HB := n2_; clear n0_ n1_ n2_; (try clear hb); (try clear hb2); (try clear hk); (try clear hi); (try clear ho0)) | ((with_reducible refine gate_dst (N := 7) rfl ?_); refine box_event ?hg (N := 7) ?hd (cs := #[.int .i64 0, .int .i64 0, .int .i64 0, .int .i64 0, .slice none 0 0]) (t := 24) ?hr ?_; (case hd => rfl); (case hg => rfl); (case hr => first | (go_simp; done) | (go_simp; rfl)); intro gb399 hg w8 hbox hb; have n0_ := Aside0.mk (Kd.R_below (by (with_reducible repeat (first | apply Kd.R_alloc | apply Kd.R_drewN | apply Kd.R_drew)); exact HO397.out) hb); have n1_ := Aside0.mk (blk_below (g := gb390) (o := .cells #[.int .u8 a2_0, .slice A2_1 l2_1.length c2_1] 55 (0, 0)) (by (with_reducible repeat (first | refine blk_drewN ?_ _ | refine blk_drew ?_ | refine blk_alloc ?_ _)); exact BK390.out) hb); have n2_ := Aside0.mk (below_step (by repeat (first | (with_reducible first | exact HB.out | apply below_alloc | apply pw_below_drewN | apply below_drew1 | refine below_set ?_ GE390.out) | exact HB.out)) hb); have n3_ := Aside0.mk (hbox); have n4_ := Aside0.mk ((by rw [hg]; exact (below_size (by repeat (first | (with_reducible first | exact HB.out | apply below_alloc | apply pw_below_drewN | apply below_drew1 | refine below_set ?_ GE390.out) | exact HB.out))) : w.heap.size ≤ gb399)); have n5_ := Aside0.mk ((by rw [hg]; exact (below_size (by repeat (first | (with_reducible first | exact HB.out | apply below_alloc | apply pw_below_drewN | apply below_drew1 | refine below_set ?_ GE390.out) | exact HB.out))) : w.heap.size ≤ gb399)); have n6_ := Aside0.mk ((by rw [hg]; exact Nat.ne_of_lt (blk_lt (g := gb390) (o := .cells #[.int .u8 a2_0, .slice A2_1 l2_1.length c2_1] 55 (0, 0)) (by (with_reducible repeat (first | refine blk_drewN ?_ _ | refine blk_drew ?_ | refine blk_alloc ?_ _)); exact BK390.out)) : gb390 ≠ gb399)); have n7_ := Aside0.mk ((by rw [hg]; exact Nat.ne_of_gt (blk_lt (g := gb390) (o := .cells #[.int .u8 a2_0, .slice A2_1 l2_1.length c2_1] 55 (0, 0)) (by (with_reducible repeat (first | refine blk_drewN ?_ _ | refine blk_drew ?_ | refine blk_alloc ?_ _)); exact BK390.out)) : gb399 ≠ gb390)); clear HO397; clear BK390; clear HB; have HO397 := n0_; have BK390 := n1_; have HB := n2_; have BK399 := n3_; have GW399 := n4_; have GE399 := n5_; have NB390_399 := n6_; have NB399_390 := n7_; clear n0_ n1_ n2_ n3_ n4_ n5_ n6_ n7_; clear hb hbox hg; have hnb9 := NB399_390.out; have hnc9 := NB390_399.out; have hcz10_0 : w8.cell? ⟨gb399, 0, none⟩ = some (.int .i64 0) := (blk_cell BK399.out 0).trans rfl; have hcz10_1 : w8.cell? ⟨gb399, 1, none⟩ = some (.int .i64 0) := (blk_cell BK399.out 1).trans rfl; have hcz10_2 : w8.cell? ⟨gb399, 2, none⟩ = some (.int .i64 0) := (blk_cell BK399.out 2).trans rfl; have hcz10_3 : w8.cell? ⟨gb399, 3, none⟩ = some (.int .i64 0) := (blk_cell BK399.out 3).trans rfl; have hcz10_4 : w8.cell? ⟨gb399, 4, none⟩ = some (.slice none 0 0) := (blk_cell BK399.out 4).trans rfl; have hfz10_0 := blk_frozen BK399.out 0; have hfz10_1 := blk_frozen BK399.out 1; have hfz10_2 := blk_frozen BK399.out 2; have hfz10_3 := blk_frozen BK399.out 3; have hfz10_4 := blk_frozen BK399.out 4; obtain ⟨Ao11, co11, eo11⟩ := Kd.R_slice HO397.out; subst eo11))
  (try simp only [Act.put, List.setIfInBounds_toArray, List.set_cons_zero, List.set_cons_succ])
  go_cut [34] (fun v34 wc => ∃ (kq : Nat) (x34_4 : Bool), v34 = .bool x34_4 ∧ Aside0 (standbylaw33_ThrottleAccounts.j0 kq t398 x34_4 a2_0 l2_1 t391 t392 t393 t394 t395 = some r) ∧ Aside0 (kq ≤ k) ∧ Aside0 (Kd.Q k71 71 wc w.heap.size (fun _ => True) (.slice Ao11 t395.length co11) t395) ∧ Aside0 (wc.heap[gb390]? = some (.cells #[.int .u8 a2_0, (.slice A2_1 l2_1.length c2_1)] 55 (0, 0))) ∧ Aside0 (wc.heap[gb399]? = some (.cells #[.int .i64 t391, .int .i64 t392, .int .i64 t393, .int .i64 t394, (.slice Ao11 t395.length co11)] 24 (0, 0))) ∧ Aside0 (Below w.heap.size w wc))
  case first =>
    have H := HC5.out
    clear HC5
    by_cases c12 : (l2_1.length : Int) > 60
    · rw [if_pos c12] at H
      have c12b0 : decide (60 < (l2_1.length : Int)) = true := decide_eq_true c12
      have c12b1 : decide (60 < l2_1.length) = true := decide_eq_true (by omega)
      clear c12
      (first | rw [c12b0] | (simp only [i64_w, i32_w]; rw [c12b0]) | skip)
      have H' := Aside0.mk H
      clear H
      have hnb13 := NB390_399.out
      have hnc13 := NB399_390.out
      have hcz14_0 : w8.cell? ⟨gb390, 0, none⟩ = some (.int .u8 a2_0) := (blk_cell BK390.out 0).trans rfl
      have hcz14_1 : w8.cell? ⟨gb390, 1, none⟩ = some (.slice A2_1 l2_1.length c2_1) := (blk_cell BK390.out 1).trans rfl
      have hfz14_0 := blk_frozen BK390.out 0
      have hfz14_1 := blk_frozen BK390.out 1
      go_wp2
      go_meet
      case rel => exact ⟨_, (true), (by first | rfl | (simp; done) | (simp [*]; done)), H', ⟨by first | omega | exact Nat.le_refl _⟩, ⟨Kd.Q_of_R (by (with_reducible repeat (first | apply Kd.R_alloc | apply Kd.R_drewN | apply Kd.R_drew)); exact Kd.R_mono (Kd.R_far (p := ⟨gb399, 4, none⟩) (Kd.R_far (p := ⟨gb399, 3, none⟩) (Kd.R_far (p := ⟨gb399, 2, none⟩) (Kd.R_far (p := ⟨gb399, 1, none⟩) (Kd.R_far (p := ⟨gb399, 0, none⟩) (Kd.R_types HO397.out BK399.out (by decide)) (fun _ hk => hk.2) (.int .i64 t391)) (fun _ hk => hk.2) (.int .i64 t392)) (fun _ hk => hk.2) (.int .i64 t393)) (fun _ hk => hk.2) (.int .i64 t394)) (fun _ hk => hk.2) (.slice Ao11 t395.length co11)) (fun _ hk => trivial))⟩, ⟨by (with_reducible repeat (first | refine blk_drewN ?_ _ | refine blk_drew ?_ | refine blk_alloc ?_ _)); refine blk_far ?_ NB390_399.out _; (with_reducible repeat (first | refine blk_drewN ?_ _ | refine blk_drew ?_ | refine blk_alloc ?_ _)); refine blk_far ?_ NB390_399.out _; (with_reducible repeat (first | refine blk_drewN ?_ _ | refine blk_drew ?_ | refine blk_alloc ?_ _)); refine blk_far ?_ NB390_399.out _; (with_reducible repeat (first | refine blk_drewN ?_ _ | refine blk_drew ?_ | refine blk_alloc ?_ _)); refine blk_far ?_ NB390_399.out _; (with_reducible repeat (first | refine blk_drewN ?_ _ | refine blk_drew ?_ | refine blk_alloc ?_ _)); refine blk_far ?_ NB390_399.out _; (with_reducible repeat (first | refine blk_drewN ?_ _ | refine blk_drew ?_ | refine blk_alloc ?_ _)); exact BK390.out⟩, ⟨by (with_reducible repeat (first | refine blk_drewN ?_ _ | refine blk_drew ?_ | refine blk_alloc ?_ _)); refine blk_put (cs := #[.int .i64 t391, .int .i64 t392, .int .i64 t393, .int .i64 t394, .slice none 0 0]) ?_ 4 _ rfl; (with_reducible repeat (first | refine blk_drewN ?_ _ | refine blk_drew ?_ | refine blk_alloc ?_ _)); refine blk_put (cs := #[.int .i64 t391, .int .i64 t392, .int .i64 t393, .int .i64 0, .slice none 0 0]) ?_ 3 _ rfl; (with_reducible repeat (first | refine blk_drewN ?_ _ | refine blk_drew ?_ | refine blk_alloc ?_ _)); refine blk_put (cs := #[.int .i64 t391, .int .i64 t392, .int .i64 0, .int .i64 0, .slice none 0 0]) ?_ 2 _ rfl; (with_reducible repeat (first | refine blk_drewN ?_ _ | refine blk_drew ?_ | refine blk_alloc ?_ _)); refine blk_put (cs := #[.int .i64 t391, .int .i64 0, .int .i64 0, .int .i64 0, .slice none 0 0]) ?_ 1 _ rfl; (with_reducible repeat (first | refine blk_drewN ?_ _ | refine blk_drew ?_ | refine blk_alloc ?_ _)); refine blk_put (cs := #[.int .i64 0, .int .i64 0, .int .i64 0, .int .i64 0, .slice none 0 0]) ?_ 0 _ rfl; (with_reducible repeat (first | refine blk_drewN ?_ _ | refine blk_drew ?_ | refine blk_alloc ?_ _)); exact BK399.out⟩, ⟨by repeat (first | (with_reducible first | exact HB.out | apply below_alloc | apply pw_below_drewN | apply below_drew1 | refine below_set ?_ GE390.out | refine below_set ?_ GE399.out) | exact HB.out)⟩⟩
    · rw [if_neg c12] at H
      have c12b0 : decide (60 < (l2_1.length : Int)) = false := decide_eq_false c12
      have c12b1 : decide (60 < l2_1.length) = false := decide_eq_false (by omega)
      clear c12
      (first | rw [c12b0] | (simp only [i64_w, i32_w]; rw [c12b0]) | skip)
      have H' := Aside0.mk H
      clear H
      have hnb15 := NB390_399.out
      have hnc15 := NB399_390.out
      have hcz16_0 : w8.cell? ⟨gb390, 0, none⟩ = some (.int .u8 a2_0) := (blk_cell BK390.out 0).trans rfl
      have hcz16_1 : w8.cell? ⟨gb390, 1, none⟩ = some (.slice A2_1 l2_1.length c2_1) := (blk_cell BK390.out 1).trans rfl
      have hfz16_0 := blk_frozen BK390.out 0
      have hfz16_1 := blk_frozen BK390.out 1
      go_wp2
      go_meet
      case rel => exact ⟨_, (!t398), (by first | rfl | (simp; done) | (simp [*]; done)), H', ⟨by first | omega | exact Nat.le_refl _⟩, ⟨Kd.Q_of_R (by (with_reducible repeat (first | apply Kd.R_alloc | apply Kd.R_drewN | apply Kd.R_drew)); exact Kd.R_mono (Kd.R_far (p := ⟨gb399, 4, none⟩) (Kd.R_far (p := ⟨gb399, 3, none⟩) (Kd.R_far (p := ⟨gb399, 2, none⟩) (Kd.R_far (p := ⟨gb399, 1, none⟩) (Kd.R_far (p := ⟨gb399, 0, none⟩) (Kd.R_types HO397.out BK399.out (by decide)) (fun _ hk => hk.2) (.int .i64 t391)) (fun _ hk => hk.2) (.int .i64 t392)) (fun _ hk => hk.2) (.int .i64 t393)) (fun _ hk => hk.2) (.int .i64 t394)) (fun _ hk => hk.2) (.slice Ao11 t395.length co11)) (fun _ hk => trivial))⟩, ⟨by (with_reducible repeat (first | refine blk_drewN ?_ _ | refine blk_drew ?_ | refine blk_alloc ?_ _)); refine blk_far ?_ NB390_399.out _; (with_reducible repeat (first | refine blk_drewN ?_ _ | refine blk_drew ?_ | refine blk_alloc ?_ _)); refine blk_far ?_ NB390_399.out _; (with_reducible repeat (first | refine blk_drewN ?_ _ | refine blk_drew ?_ | refine blk_alloc ?_ _)); refine blk_far ?_ NB390_399.out _; (with_reducible repeat (first | refine blk_drewN ?_ _ | refine blk_drew ?_ | refine blk_alloc ?_ _)); refine blk_far ?_ NB390_399.out _; (with_reducible repeat (first | refine blk_drewN ?_ _ | refine blk_drew ?_ | refine blk_alloc ?_ _)); refine blk_far ?_ NB390_399.out _; (with_reducible repeat (first | refine blk_drewN ?_ _ | refine blk_drew ?_ | refine blk_alloc ?_ _)); exact BK390.out⟩, ⟨by (with_reducible repeat (first | refine blk_drewN ?_ _ | refine blk_drew ?_ | refine blk_alloc ?_ _)); refine blk_put (cs := #[.int .i64 t391, .int .i64 t392, .int .i64 t393, .int .i64 t394, .slice none 0 0]) ?_ 4 _ rfl; (with_reducible repeat (first | refine blk_drewN ?_ _ | refine blk_drew ?_ | refine blk_alloc ?_ _)); refine blk_put (cs := #[.int .i64 t391, .int .i64 t392, .int .i64 t393, .int .i64 0, .slice none 0 0]) ?_ 3 _ rfl; (with_reducible repeat (first | refine blk_drewN ?_ _ | refine blk_drew ?_ | refine blk_alloc ?_ _)); refine blk_put (cs := #[.int .i64 t391, .int .i64 t392, .int .i64 0, .int .i64 0, .slice none 0 0]) ?_ 2 _ rfl; (with_reducible repeat (first | refine blk_drewN ?_ _ | refine blk_drew ?_ | refine blk_alloc ?_ _)); refine blk_put (cs := #[.int .i64 t391, .int .i64 0, .int .i64 0, .int .i64 0, .slice none 0 0]) ?_ 1 _ rfl; (with_reducible repeat (first | refine blk_drewN ?_ _ | refine blk_drew ?_ | refine blk_alloc ?_ _)); refine blk_put (cs := #[.int .i64 0, .int .i64 0, .int .i64 0, .int .i64 0, .slice none 0 0]) ?_ 0 _ rfl; (with_reducible repeat (first | refine blk_drewN ?_ _ | refine blk_drew ?_ | refine blk_alloc ?_ _)); exact BK399.out⟩, ⟨by repeat (first | (with_reducible first | exact HB.out | apply below_alloc | apply pw_below_drewN | apply below_drew1 | refine below_set ?_ GE390.out | refine below_set ?_ GE399.out) | exact HB.out)⟩⟩
  case rest =>
    clear HC5
    try clear c1
    try clear c2
    try clear p2
    try clear c7
    try clear c9
    try clear c12
    try clear c12b0
    try clear c12b1
    try clear c13
    try clear c15
    try clear hcz10_0
    try clear hcz10_1
    try clear hcz10_2
    try clear hcz10_3
    try clear hcz10_4
    try clear hcz14_0
    try clear hcz14_1
    try clear hcz16_0
    try clear hcz16_1
    try clear hfz10_0
    try clear hfz10_1
    try clear hfz10_2
    try clear hfz10_3
    try clear hfz10_4
    try clear hfz14_0
    try clear hfz14_1
    try clear hfz16_0
    try clear hfz16_1
    obtain ⟨kq, x34_4, rfl, HA, HJ4, HO_400004, BK390, BK399, HB⟩ := hcut
    cases kq with
    | zero => exact absurd HA.out (by simp [standbylaw33_ThrottleAccounts.j0])
    | succ kj4 =>
      have H := HA.out
      clear HA
      simp only [standbylaw33_ThrottleAccounts.j0] at H
      by_cases c17 : x34_4 = true
      · subst c17
        have H1 : (if t398 = true then ((standbylaw33_awake.f kj4).bind fun t400 => (some t400)) else (some false)) = some r := by rw [if_pos rfl] at H; exact H
        clear H
        have H := H1
        clear H1
        by_cases c18 : t398 = true
        · subst c18
          have H1 : ((standbylaw33_awake.f kj4).bind fun t400 => (some t400)) = some r := by rw [if_pos rfl] at H; exact H
          clear H
          have H := H1
          clear H1
          replace H := Option.bind_eq_some_iff.mp H
          obtain ⟨t400, A190, H⟩ := H
          replace H : (some t400) = some r := H
          have A19 := Aside0.mk A190
          clear A190
          obtain rfl := Option.some.inj H
          go_wp2_with (first | (go_at_call 10; (with_reducible refine (standbylaw33_awake.calls kj4  t400 _ A19.out).mono ?_); rintro e w20 ⟨rfl, hb⟩; have n0_ := Aside0.mk (Kd.Q_below (by (with_reducible repeat (first | apply Kd.Q_alloc | apply Kd.Q_drewN | apply Kd.Q_drew)); exact HO_400004.out) hb); have n1_ := Aside0.mk (blk_below (g := gb390) (o := .cells #[.int .u8 a2_0, .slice A2_1 l2_1.length c2_1] 55 (0, 0)) (by (with_reducible repeat (first | refine blk_drewN ?_ _ | refine blk_drew ?_ | refine blk_alloc ?_ _)); exact BK390.out) hb); have n2_ := Aside0.mk (blk_below (g := gb399) (o := .cells #[.int .i64 t391, .int .i64 t392, .int .i64 t393, .int .i64 t394, .slice Ao11 t395.length co11] 24 (0, 0)) (by (with_reducible repeat (first | refine blk_drewN ?_ _ | refine blk_drew ?_ | refine blk_alloc ?_ _)); exact BK399.out) hb); have n3_ := Aside0.mk (below_step (by repeat (first | (with_reducible first | exact HB.out | apply below_alloc | apply pw_below_drewN | apply below_drew1 | refine below_set ?_ GE390.out | refine below_set ?_ GE399.out) | exact HB.out)) hb); clear HO_400004; clear BK390; clear BK399; clear HB; have HO_400004 := n0_; have BK390 := n1_; have BK399 := n2_; have HB := n3_; clear n0_ n1_ n2_ n3_; (try clear hb); (try clear hb2); (try clear hk); (try clear hi)))
          go_ret
          exact ⟨by first | rfl | (simp [errW_none, errW_some] <;> rfl) | (simp [*, errW_none, errW_some] <;> rfl), by repeat (first | (with_reducible first | exact HB.out | apply below_alloc | apply pw_below_drewN | apply below_drew1 | refine below_set ?_ GE390.out | refine below_set ?_ GE399.out) | exact HB.out)⟩
        · replace c18 := Bool.eq_false_iff.mpr c18
          subst c18
          have H1 : (some false) = some r := by rw [if_neg (show ¬ (false = true) by decide)] at H; exact H
          clear H
          have H := H1
          clear H1
          obtain rfl := Option.some.inj H
          go_wp2
          go_ret
          exact ⟨by first | rfl | (simp [errW_none, errW_some] <;> rfl) | (simp [*, errW_none, errW_some] <;> rfl), by repeat (first | (with_reducible first | exact HB.out | apply below_alloc | apply pw_below_drewN | apply below_drew1 | refine below_set ?_ GE390.out | refine below_set ?_ GE399.out) | exact HB.out)⟩
      · replace c17 := Bool.eq_false_iff.mpr c17
        subst c17
        have H1 : (standbylaw33_ThrottleAccounts.l0 kj4 (wrap64 (a2_0)) 0 0 ([] : List (S49)) l2_1 (l2_1.length : Int) 0 t391 t392 t393 t394 t395) = some r := by rw [if_neg (show ¬ (false = true) by decide)] at H; exact H
        clear H
        have H := H1
        clear H1
        have H' := Aside0.mk H
        clear H
        have hnb21 := NB390_399.out
        have hnc21 := NB399_390.out
        have hcz22_0 : wc.cell? ⟨gb390, 0, none⟩ = some (.int .u8 a2_0) := (blk_cell BK390.out 0).trans rfl
        have hcz22_1 : wc.cell? ⟨gb390, 1, none⟩ = some (.slice A2_1 l2_1.length c2_1) := (blk_cell BK390.out 1).trans rfl
        have hfz22_0 := blk_frozen BK390.out 0
        have hfz22_1 := blk_frozen BK390.out 1
        go_wp2
        go_loopg [9, 10, 11, 12, 45] kj4 (fun kq v9 v10 v11 v12 v45 w' => ∃ (x9_2 : Int) (x10_2 : Int) (x11_2 : Int) (x12_2 : List (S49)) (x45_2 : Int) (x400000_2 : Int) (x400001_2 : Int) (x400002_2 : Int) (x400003_2 : Int) (x400004_2 : List (S71)) (u400004 : Value), v9 = .int .i64 x9_2 ∧ v10 = .int .i64 x10_2 ∧ v11 = .int .i64 x11_2 ∧ v45 = .int .i64 x45_2 ∧ Aside0 (standbylaw33_ThrottleAccounts.l0 kq x9_2 x10_2 x11_2 x12_2 l2_1 (l2_1.length : Int) x45_2 x400000_2 x400001_2 x400002_2 x400003_2 x400004_2 = some r) ∧ Aside0 (kq ≤ kj4) ∧ Aside0 (Kd.R k49 49 w' w.heap.size (fun _ => True) v12 x12_2) ∧ Aside0 (Kd.Q k71 71 w' w.heap.size (fun _ => True) u400004 x400004_2) ∧ Aside0 (w'.heap[gb390]? = some (.cells #[.int .u8 a2_0, (.slice A2_1 l2_1.length c2_1)] 55 (0, 0))) ∧ Aside0 (w'.heap[gb399]? = some (.cells #[.int .i64 x400000_2, .int .i64 x400001_2, .int .i64 x400002_2, .int .i64 x400003_2, u400004] 24 (0, 0))) ∧ Aside0 (Below w.heap.size w w'))
        case atStart => exact ⟨(wrap64 (a2_0)), (0), (0), (([] : List (S49))), (0), (t391), (t392), (t393), (t394), (t395), (.slice Ao11 t395.length co11), (by first | rfl | (simp; done) | (simp [*]; done)), (by first | rfl | (simp; done) | (simp [*]; done)), (by first | rfl | (simp; done) | (simp [*]; done)), (by first | rfl | (simp; done) | (simp [*]; done)), H', ⟨Nat.le_refl _⟩, ⟨by first | exact Kd.R_nil _ _ _ _ _ | exact Kd.N_nil _ _ _ _ _ | exact Kd.V_nil _ _ _ _ _ | exact Kd.Q_nil _ _ _ _ _ | exact Kd.S_nil _ _ _ _ _⟩, ⟨by (with_reducible repeat (first | apply Kd.Q_alloc | apply Kd.Q_drewN | apply Kd.Q_drew)); exact HO_400004.out⟩, ⟨by (with_reducible repeat (first | refine blk_drewN ?_ _ | refine blk_drew ?_ | refine blk_alloc ?_ _)); exact BK390.out⟩, ⟨by (with_reducible repeat (first | refine blk_drewN ?_ _ | refine blk_drew ?_ | refine blk_alloc ?_ _)); exact BK399.out⟩, ⟨by repeat (first | (with_reducible first | exact HB.out | apply below_alloc | apply pw_below_drewN | apply below_drew1 | refine below_set ?_ GE390.out | refine below_set ?_ GE399.out) | exact HB.out)⟩⟩
        case round =>
          clear H'
          try clear c1
          try clear c2
          try clear p2
          try clear p6
          try clear c7
          try clear c9
          try clear c12
          try clear c12b0
          try clear c12b1
          try clear c13
          try clear c15
          try clear c17
          try clear c18
          try clear c21
          try clear hcz10_0
          try clear hcz10_1
          try clear hcz10_2
          try clear hcz10_3
          try clear hcz10_4
          try clear hcz14_0
          try clear hcz14_1
          try clear hcz16_0
          try clear hcz16_1
          try clear hcz22_0
          try clear hcz22_1
          try clear hfz10_0
          try clear hfz10_1
          try clear hfz10_2
          try clear hfz10_3
          try clear hfz10_4
          try clear hfz14_0
          try clear hfz14_1
          try clear hfz16_0
          try clear hfz16_1
          try clear hfz22_0
          try clear hfz22_1
          try clear p2
          obtain ⟨x9_2, x10_2, x11_2, x12_2, x45_2, x400000_2, x400001_2, x400002_2, x400003_2, x400004_2, u400004, rfl, rfl, rfl, rfl, HA, HK2, HO_12, HO_400004, BK390, BK399, HB⟩ := hrel
          cases gk with
          | zero => exact absurd HA.out (by simp [standbylaw33_ThrottleAccounts.l0])
          | succ k2 =>
            have H := HA.out
            clear HA
            simp only [standbylaw33_ThrottleAccounts.l0] at H
            by_cases c23 : x45_2 < (l2_1.length : Int)
            · rw [if_pos c23] at H
              have c23b0 : decide (x45_2 < (l2_1.length : Int)) = true := decide_eq_true c23
              clear c23
              by_cases c24 : 0 ≤ x45_2
              · rw [if_pos c24] at H
                have c24b0 : decide (0 ≤ x45_2) = true := decide_eq_true c24
                clear c24
                by_cases c25 : x45_2 < (l2_1.length : Int)
                · rw [if_pos c25] at H
                  have c25b0 : decide (x45_2 < (l2_1.length : Int)) = true := decide_eq_true c25
                  clear c25
                  have HC26 := Aside0.mk H
                  clear H
                  have p402 : 0 ≤ (x45_2 : Int) := of_decide_eq_true (by first | (with_reducible assumption) | assumption)
                  have q402 : x45_2 < (l2_1.length : Int) := of_decide_eq_true (by first | (with_reducible assumption) | assumption)
                  obtain ⟨ad402, e402, hx402_0⟩ := Kd.at_int HR2_1.out x45_2 p402 q402
                  cases e402
                  replace hx402_0 := (HB.out.cell (World.block_lt_of_cell? w _ hx402_0)).trans hx402_0
                  replace p402 := eq_true p402
                  replace q402 := eq_true q402
                  go_upto_if 55 with (fail)
                  go_cut [10, 11, 12] (fun v10 v11 v12 wc => ∃ (kq : Nat) (x10_25 : Int) (x11_25 : Int) (x12_25 : List (S49)) (x400000_25 : Int) (x400001_25 : Int) (x400002_25 : Int) (x400003_25 : Int) (x400004_25 : List (S71)) (u400004 : Value), v10 = .int .i64 x10_25 ∧ v11 = .int .i64 x11_25 ∧ Aside0 (standbylaw33_ThrottleAccounts.j3 kq (wrap64 (x9_2 + (Int.tmod x45_2 3))) x10_25 x11_25 x12_25 l2_1 (l2_1.length : Int) x45_2 x400000_25 x400001_25 x400002_25 x400003_25 x400004_25 = some r) ∧ Aside0 (kq ≤ k2) ∧ Aside0 (Kd.R k49 49 wc w.heap.size (fun _ => True) v12 x12_25) ∧ Aside0 (Kd.Q k71 71 wc w.heap.size (fun _ => True) u400004 x400004_25) ∧ Aside0 (wc.heap[gb390]? = some (.cells #[.int .u8 a2_0, (.slice (some ad402) l2_1.length c2_1)] 55 (0, 0))) ∧ Aside0 (wc.heap[gb399]? = some (.cells #[.int .i64 x400000_25, .int .i64 x400001_25, .int .i64 x400002_25, .int .i64 x400003_25, u400004] 24 (0, 0))) ∧ Aside0 (Below w.heap.size w wc))
                  case first =>
                    have H := HC26.out
                    clear HC26
                    by_cases c27 : (rd l2_1 x45_2) < 0
                    · rw [if_pos c27] at H
                      have c27b0 : decide ((rd l2_1 x45_2) < 0) = true := decide_eq_true c27
                      clear c27
                      (first | rw [c27b0] | (simp only [i64_w, i32_w]; rw [c27b0]) | skip)
                      obtain ⟨ji28, hji28⟩ : ∃ j_ : Int, (mn x10_2 (wrap64 (x11_2 - (wrap64 (rd l2_1 x45_2))))) = j_ := ⟨_, rfl⟩
                      replace H : ((throttle_Progress.f k2 x400000_2 x400001_2 x400002_2 x400003_2 x400004_2 (wrap64 (x9_2 + (Int.tmod x45_2 3))) (ji28)).bind fun bt403 => (if bt403.2.2.2.2.2 = 0 then (standbylaw33_ThrottleAccounts.j3 k2 (wrap64 (x9_2 + (Int.tmod x45_2 3))) x10_2 ji28 x12_2 l2_1 (l2_1.length : Int) x45_2 bt403.1 bt403.2.1 bt403.2.2.1 bt403.2.2.2.1 bt403.2.2.2.2.1) else (some false))) = some r := by first | (rw [hji28] at H; exact H) | (simp only [hji28] at H ⊢; exact H)
                      have hji28_ : (if (wrap64 (x11_2 - (wrap64 (rd l2_1 x45_2)))) < x10_2 then (wrap64 (x11_2 - (wrap64 (rd l2_1 x45_2)))) else x10_2) = ji28 := hji28
                      replace H := Option.bind_eq_some_iff.mp H
                      obtain ⟨⟨t403, t404, t405, t406, t407, t410⟩, A290, H⟩ := H
                      replace H : (if t410 = 0 then (standbylaw33_ThrottleAccounts.j3 k2 (wrap64 (x9_2 + (Int.tmod x45_2 3))) x10_2 ji28 x12_2 l2_1 (l2_1.length : Int) x45_2 t403 t404 t405 t406 t407) else (some false)) = some r := H
                      have A29 := Aside0.mk A290
                      clear A290
                      by_cases c30 : t410 = 0
                      · rw [if_pos c30] at H
                        have c30b0 : (t410 == 0) = true := beq_iff_eq.mpr c30
                        have c30b1 : (t410 != 0) = false := bne_eq_false_iff_eq.mpr c30
                        clear c30
                        have H' := Aside0.mk H
                        clear H
                        have hnb31 := NB399_390.out
                        have hnc31 := NB390_399.out
                        have hcz32_0 : wr.cell? ⟨gb399, 0, none⟩ = some (.int .i64 x400000_2) := (blk_cell BK399.out 0).trans rfl
                        have hcz32_1 : wr.cell? ⟨gb399, 1, none⟩ = some (.int .i64 x400001_2) := (blk_cell BK399.out 1).trans rfl
                        have hcz32_2 : wr.cell? ⟨gb399, 2, none⟩ = some (.int .i64 x400002_2) := (blk_cell BK399.out 2).trans rfl
                        have hcz32_3 : wr.cell? ⟨gb399, 3, none⟩ = some (.int .i64 x400003_2) := (blk_cell BK399.out 3).trans rfl
                        have hcz32_4 : wr.cell? ⟨gb399, 4, none⟩ = some (u400004) := (blk_cell BK399.out 4).trans rfl
                        have hfz32_0 := blk_frozen BK399.out 0
                        have hfz32_1 := blk_frozen BK399.out 1
                        have hfz32_2 := blk_frozen BK399.out 2
                        have hfz32_3 := blk_frozen BK399.out 3
                        have hfz32_4 := blk_frozen BK399.out 4
                        obtain ⟨Ao33, co33, eo33, _⟩ := Kd.Q_slice HO_400004.out
                        subst eo33
                        go_wp2_with (first | ((with_reducible refine gate_callee (f := 19) rfl ?_); refine goesL_ (some 66) rfl rfl Try.func19 (by kernel_rfl) rfl #[.agg #[.int .i64 x400000_2, .int .i64 x400001_2, .int .i64 x400002_2, .int .i64 x400003_2, .slice Ao33 x400004_2.length co33], .int .i64 (wrap64 (x9_2 + (Int.tmod x45_2 3))), .int .i64 ji28] rfl (by (try simp only [List.map_toArray, List.map_cons, List.map_nil]); first | done | (simp only [hji28]; rfl) | rfl | (simp only [List.length_drop, List.length_take]; rfl)) ?_; (with_reducible refine (throttle_Progress.calls k2 x400000_2 x400001_2 x400002_2 x400003_2 _ _ x400004_2 (wrap64 (x9_2 + (Int.tmod x45_2 3))) ji28 t403 t404 t405 t406 t407 t410 _ ?side1 ?side2 A29.out).mono ?_); (case side1 => repeat (first | exact (Kd.Q_reads' HO_400004.out).2.2 | (with_reducible refine Kd.C_alloc ?_ _) | (with_reducible refine Kd.C_drewN ?_ _) | (with_reducible refine Kd.C_drew ?_))); (case side2 => exact (Kd.Q_reads' HO_400004.out).2.1); rintro e w34 ⟨v408, rfl, ho0, hb⟩; refine ⟨_, rfl, ?_⟩; have n0_ := Aside0.mk (Kd.R_below (by (with_reducible repeat (first | apply Kd.R_alloc | apply Kd.R_drewN | apply Kd.R_drew)); exact HO_12.out) hb); have n1_ := Aside0.mk (Kd.Q_elder' (by (with_reducible repeat (first | apply Kd.Q_alloc | apply Kd.Q_drewN | apply Kd.Q_drew)); exact HO_400004.out) (Kd.Q_base ho0) hb); have n2_ := Aside0.mk (Kd.Q_lower (Kd.Q_new' ho0 (Kd.Q_lt (by (with_reducible repeat (first | apply Kd.Q_alloc | apply Kd.Q_drewN | apply Kd.Q_drew)); exact HO_400004.out))) (below_size (by repeat (first | (with_reducible first | exact HB.out | apply below_alloc | apply pw_below_drewN | apply below_drew1 | refine below_set ?_ GE390.out | refine below_set ?_ GE399.out) | exact HB.out)))); have n3_ := Aside0.mk (blk_below (g := gb390) (o := .cells #[.int .u8 a2_0, .slice (some ad402) l2_1.length c2_1] 55 (0, 0)) (by (with_reducible repeat (first | refine blk_drewN ?_ _ | refine blk_drew ?_ | refine blk_alloc ?_ _)); exact BK390.out) hb); have n4_ := Aside0.mk (blk_below (g := gb399) (o := .cells #[.int .i64 x400000_2, .int .i64 x400001_2, .int .i64 x400002_2, .int .i64 x400003_2, .slice Ao33 x400004_2.length co33] 24 (0, 0)) (by (with_reducible repeat (first | refine blk_drewN ?_ _ | refine blk_drew ?_ | refine blk_alloc ?_ _)); exact BK399.out) hb); have n5_ := Aside0.mk (below_step (by repeat (first | (with_reducible first | exact HB.out | apply below_alloc | apply pw_below_drewN | apply below_drew1 | refine below_set ?_ GE390.out | refine below_set ?_ GE399.out) | exact HB.out)) hb); clear HO_12; clear HO_400004; clear BK390; clear BK399; clear HB; have HO_12 := n0_; have HO_400004 := n1_; have HO409 := n2_; have BK390 := n3_; have BK399 := n4_; have HB := n5_; clear n0_ n1_ n2_ n3_ n4_ n5_; (try clear hb); (try clear hb2); (try clear hk); (try clear hi); (try clear ho0)) | ((with_reducible refine gate_dst (N := 15) rfl ?_); refine box_event ?hg (N := 15) ?hd (cs := #[.int .i64 0, .int .i64 0, .int .i64 0, .int .i64 0, .slice none 0 0]) (t := 24) ?hr ?_; (case hd => rfl); (case hg => rfl); (case hr => first | (go_simp; done) | (go_simp; rfl)); intro gb411 hg w35 hbox hb; have n0_ := Aside0.mk (Kd.R_below (by (with_reducible repeat (first | apply Kd.R_alloc | apply Kd.R_drewN | apply Kd.R_drew)); exact HO_12.out) hb); have n1_ := Aside0.mk (Kd.Q_below (by (with_reducible repeat (first | apply Kd.Q_alloc | apply Kd.Q_drewN | apply Kd.Q_drew)); exact HO_400004.out) hb); have n2_ := Aside0.mk (Kd.Q_below (by (with_reducible repeat (first | apply Kd.Q_alloc | apply Kd.Q_drewN | apply Kd.Q_drew)); exact HO409.out) hb); have n3_ := Aside0.mk (blk_below (g := gb390) (o := .cells #[.int .u8 a2_0, .slice (some ad402) l2_1.length c2_1] 55 (0, 0)) (by (with_reducible repeat (first | refine blk_drewN ?_ _ | refine blk_drew ?_ | refine blk_alloc ?_ _)); exact BK390.out) hb); have n4_ := Aside0.mk (blk_below (g := gb399) (o := .cells #[.int .i64 x400000_2, .int .i64 x400001_2, .int .i64 x400002_2, .int .i64 x400003_2, .slice Ao33 x400004_2.length co33] 24 (0, 0)) (by (with_reducible repeat (first | refine blk_drewN ?_ _ | refine blk_drew ?_ | refine blk_alloc ?_ _)); exact BK399.out) hb); have n5_ := Aside0.mk (below_step (by repeat (first | (with_reducible first | exact HB.out | apply below_alloc | apply pw_below_drewN | apply below_drew1 | refine below_set ?_ GE390.out | refine below_set ?_ GE399.out) | exact HB.out)) hb); have n6_ := Aside0.mk (hbox); have n7_ := Aside0.mk ((by rw [hg]; exact (below_size (by repeat (first | (with_reducible first | exact HB.out | apply below_alloc | apply pw_below_drewN | apply below_drew1 | refine below_set ?_ GE390.out | refine below_set ?_ GE399.out) | exact HB.out))) : w.heap.size ≤ gb411)); have n8_ := Aside0.mk ((by rw [hg]; exact (below_size (by repeat (first | (with_reducible first | exact HB.out | apply below_alloc | apply pw_below_drewN | apply below_drew1 | refine below_set ?_ GE390.out | refine below_set ?_ GE399.out) | exact HB.out))) : w.heap.size ≤ gb411)); have n9_ := Aside0.mk ((by rw [hg]; exact Nat.ne_of_lt (blk_lt (g := gb390) (o := .cells #[.int .u8 a2_0, .slice (some ad402) l2_1.length c2_1] 55 (0, 0)) (by (with_reducible repeat (first | refine blk_drewN ?_ _ | refine blk_drew ?_ | refine blk_alloc ?_ _)); exact BK390.out)) : gb390 ≠ gb411)); have n10_ := Aside0.mk ((by rw [hg]; exact Nat.ne_of_gt (blk_lt (g := gb390) (o := .cells #[.int .u8 a2_0, .slice (some ad402) l2_1.length c2_1] 55 (0, 0)) (by (with_reducible repeat (first | refine blk_drewN ?_ _ | refine blk_drew ?_ | refine blk_alloc ?_ _)); exact BK390.out)) : gb411 ≠ gb390)); have n11_ := Aside0.mk ((by rw [hg]; exact Nat.ne_of_lt (blk_lt (g := gb399) (o := .cells #[.int .i64 x400000_2, .int .i64 x400001_2, .int .i64 x400002_2, .int .i64 x400003_2, .slice Ao33 x400004_2.length co33] 24 (0, 0)) (by (with_reducible repeat (first | refine blk_drewN ?_ _ | refine blk_drew ?_ | refine blk_alloc ?_ _)); exact BK399.out)) : gb399 ≠ gb411)); have n12_ := Aside0.mk ((by rw [hg]; exact Nat.ne_of_gt (blk_lt (g := gb399) (o := .cells #[.int .i64 x400000_2, .int .i64 x400001_2, .int .i64 x400002_2, .int .i64 x400003_2, .slice Ao33 x400004_2.length co33] 24 (0, 0)) (by (with_reducible repeat (first | refine blk_drewN ?_ _ | refine blk_drew ?_ | refine blk_alloc ?_ _)); exact BK399.out)) : gb411 ≠ gb399)); clear HO_12; clear HO_400004; clear HO409; clear BK390; clear BK399; clear HB; have HO_12 := n0_; have HO_400004 := n1_; have HO409 := n2_; have BK390 := n3_; have BK399 := n4_; have HB := n5_; have BK411 := n6_; have GW411 := n7_; have GE411 := n8_; have NB390_411 := n9_; have NB411_390 := n10_; have NB399_411 := n11_; have NB411_399 := n12_; clear n0_ n1_ n2_ n3_ n4_ n5_ n6_ n7_ n8_ n9_ n10_ n11_ n12_; clear hb hbox hg; have hnb36 := NB411_390.out; have hnc36 := NB390_411.out; have hnb37 := NB411_399.out; have hnc37 := NB399_411.out; have hcz38_0 : w35.cell? ⟨gb411, 0, none⟩ = some (.int .i64 0) := (blk_cell BK411.out 0).trans rfl; have hcz38_1 : w35.cell? ⟨gb411, 1, none⟩ = some (.int .i64 0) := (blk_cell BK411.out 1).trans rfl; have hcz38_2 : w35.cell? ⟨gb411, 2, none⟩ = some (.int .i64 0) := (blk_cell BK411.out 2).trans rfl; have hcz38_3 : w35.cell? ⟨gb411, 3, none⟩ = some (.int .i64 0) := (blk_cell BK411.out 3).trans rfl; have hcz38_4 : w35.cell? ⟨gb411, 4, none⟩ = some (.slice none 0 0) := (blk_cell BK411.out 4).trans rfl; have hfz38_0 := blk_frozen BK411.out 0; have hfz38_1 := blk_frozen BK411.out 1; have hfz38_2 := blk_frozen BK411.out 2; have hfz38_3 := blk_frozen BK411.out 3; have hfz38_4 := blk_frozen BK411.out 4; obtain ⟨Ao39, co39, eo39, _⟩ := Kd.Q_slice HO409.out; subst eo39; have hcz40_0 : w35.cell? ⟨gb399, 0, none⟩ = some (.int .i64 x400000_2) := (blk_cell BK399.out 0).trans rfl; have hcz40_1 : w35.cell? ⟨gb399, 1, none⟩ = some (.int .i64 x400001_2) := (blk_cell BK399.out 1).trans rfl; have hcz40_2 : w35.cell? ⟨gb399, 2, none⟩ = some (.int .i64 x400002_2) := (blk_cell BK399.out 2).trans rfl; have hcz40_3 : w35.cell? ⟨gb399, 3, none⟩ = some (.int .i64 x400003_2) := (blk_cell BK399.out 3).trans rfl; have hcz40_4 : w35.cell? ⟨gb399, 4, none⟩ = some (.slice Ao33 x400004_2.length co33) := (blk_cell BK399.out 4).trans rfl; have hfz40_0 := blk_frozen BK399.out 0; have hfz40_1 := blk_frozen BK399.out 1; have hfz40_2 := blk_frozen BK399.out 2; have hfz40_3 := blk_frozen BK399.out 3; have hfz40_4 := blk_frozen BK399.out 4))
                        go_meet
                        case rel => exact ⟨_, (x10_2), (ji28), (x12_2), (t403), (t404), (t405), (t406), (t407), (.slice Ao39 t407.length co39), (by first | rfl | (simp; done) | (simp [*]; done)), (by first | rfl | (simp; done) | (simp only [← hji28] <;> (first | rfl | simp)) | (simp [*]; done)), H', ⟨by have := HJ4.out; have := HK2.out; first | omega | exact Nat.le_refl _⟩, ⟨by (with_reducible repeat (first | apply Kd.R_alloc | apply Kd.R_drewN | apply Kd.R_drew)); exact Kd.R_mono (Kd.R_far (p := ⟨gb399, 4, none⟩) (Kd.R_far (p := ⟨gb399, 3, none⟩) (Kd.R_far (p := ⟨gb399, 2, none⟩) (Kd.R_far (p := ⟨gb399, 1, none⟩) (Kd.R_far (p := ⟨gb399, 0, none⟩) (Kd.R_far (p := ⟨gb411, 4, none⟩) (Kd.R_far (p := ⟨gb411, 3, none⟩) (Kd.R_far (p := ⟨gb411, 2, none⟩) (Kd.R_far (p := ⟨gb411, 1, none⟩) (Kd.R_far (p := ⟨gb411, 0, none⟩) (Kd.R_types (Kd.R_types HO_12.out BK411.out (by decide)) BK399.out (by decide)) (fun _ hk => hk.1.2) (.int .i64 t403)) (fun _ hk => hk.1.2) (.int .i64 t404)) (fun _ hk => hk.1.2) (.int .i64 t405)) (fun _ hk => hk.1.2) (.int .i64 t406)) (fun _ hk => hk.1.2) (.slice Ao39 t407.length co39)) (fun _ hk => hk.2) (.int .i64 t403)) (fun _ hk => hk.2) (.int .i64 t404)) (fun _ hk => hk.2) (.int .i64 t405)) (fun _ hk => hk.2) (.int .i64 t406)) (fun _ hk => hk.2) (.slice Ao39 t407.length co39)) (fun _ hk => trivial)⟩, ⟨by (with_reducible repeat (first | apply Kd.Q_alloc | apply Kd.Q_drewN | apply Kd.Q_drew)); exact Kd.Q_mono (Kd.Q_far (p := ⟨gb399, 4, none⟩) (Kd.Q_far (p := ⟨gb399, 3, none⟩) (Kd.Q_far (p := ⟨gb399, 2, none⟩) (Kd.Q_far (p := ⟨gb399, 1, none⟩) (Kd.Q_far (p := ⟨gb399, 0, none⟩) (Kd.Q_far (p := ⟨gb411, 4, none⟩) (Kd.Q_far (p := ⟨gb411, 3, none⟩) (Kd.Q_far (p := ⟨gb411, 2, none⟩) (Kd.Q_far (p := ⟨gb411, 1, none⟩) (Kd.Q_far (p := ⟨gb411, 0, none⟩) (Kd.Q_types (Kd.Q_types HO409.out BK411.out (by decide)) BK399.out (by decide)) (fun _ hk => hk.1.2) (.int .i64 t403)) (fun _ hk => hk.1.2) (.int .i64 t404)) (fun _ hk => hk.1.2) (.int .i64 t405)) (fun _ hk => hk.1.2) (.int .i64 t406)) (fun _ hk => hk.1.2) (.slice Ao39 t407.length co39)) (fun _ hk => hk.2) (.int .i64 t403)) (fun _ hk => hk.2) (.int .i64 t404)) (fun _ hk => hk.2) (.int .i64 t405)) (fun _ hk => hk.2) (.int .i64 t406)) (fun _ hk => hk.2) (.slice Ao39 t407.length co39)) (fun _ hk => trivial)⟩, ⟨by (with_reducible repeat (first | refine blk_drewN ?_ _ | refine blk_drew ?_ | refine blk_alloc ?_ _)); refine blk_far ?_ NB390_399.out _; (with_reducible repeat (first | refine blk_drewN ?_ _ | refine blk_drew ?_ | refine blk_alloc ?_ _)); refine blk_far ?_ NB390_399.out _; (with_reducible repeat (first | refine blk_drewN ?_ _ | refine blk_drew ?_ | refine blk_alloc ?_ _)); refine blk_far ?_ NB390_399.out _; (with_reducible repeat (first | refine blk_drewN ?_ _ | refine blk_drew ?_ | refine blk_alloc ?_ _)); refine blk_far ?_ NB390_399.out _; (with_reducible repeat (first | refine blk_drewN ?_ _ | refine blk_drew ?_ | refine blk_alloc ?_ _)); refine blk_far ?_ NB390_399.out _; (with_reducible repeat (first | refine blk_drewN ?_ _ | refine blk_drew ?_ | refine blk_alloc ?_ _)); refine blk_far ?_ NB390_411.out _; (with_reducible repeat (first | refine blk_drewN ?_ _ | refine blk_drew ?_ | refine blk_alloc ?_ _)); refine blk_far ?_ NB390_411.out _; (with_reducible repeat (first | refine blk_drewN ?_ _ | refine blk_drew ?_ | refine blk_alloc ?_ _)); refine blk_far ?_ NB390_411.out _; (with_reducible repeat (first | refine blk_drewN ?_ _ | refine blk_drew ?_ | refine blk_alloc ?_ _)); refine blk_far ?_ NB390_411.out _; (with_reducible repeat (first | refine blk_drewN ?_ _ | refine blk_drew ?_ | refine blk_alloc ?_ _)); refine blk_far ?_ NB390_411.out _; (with_reducible repeat (first | refine blk_drewN ?_ _ | refine blk_drew ?_ | refine blk_alloc ?_ _)); exact BK390.out⟩, ⟨by (with_reducible repeat (first | refine blk_drewN ?_ _ | refine blk_drew ?_ | refine blk_alloc ?_ _)); refine blk_put (cs := #[.int .i64 t403, .int .i64 t404, .int .i64 t405, .int .i64 t406, .slice Ao33 x400004_2.length co33]) ?_ 4 _ rfl; (with_reducible repeat (first | refine blk_drewN ?_ _ | refine blk_drew ?_ | refine blk_alloc ?_ _)); refine blk_put (cs := #[.int .i64 t403, .int .i64 t404, .int .i64 t405, .int .i64 x400003_2, .slice Ao33 x400004_2.length co33]) ?_ 3 _ rfl; (with_reducible repeat (first | refine blk_drewN ?_ _ | refine blk_drew ?_ | refine blk_alloc ?_ _)); refine blk_put (cs := #[.int .i64 t403, .int .i64 t404, .int .i64 x400002_2, .int .i64 x400003_2, .slice Ao33 x400004_2.length co33]) ?_ 2 _ rfl; (with_reducible repeat (first | refine blk_drewN ?_ _ | refine blk_drew ?_ | refine blk_alloc ?_ _)); refine blk_put (cs := #[.int .i64 t403, .int .i64 x400001_2, .int .i64 x400002_2, .int .i64 x400003_2, .slice Ao33 x400004_2.length co33]) ?_ 1 _ rfl; (with_reducible repeat (first | refine blk_drewN ?_ _ | refine blk_drew ?_ | refine blk_alloc ?_ _)); refine blk_put (cs := #[.int .i64 x400000_2, .int .i64 x400001_2, .int .i64 x400002_2, .int .i64 x400003_2, .slice Ao33 x400004_2.length co33]) ?_ 0 _ rfl; (with_reducible repeat (first | refine blk_drewN ?_ _ | refine blk_drew ?_ | refine blk_alloc ?_ _)); refine blk_far ?_ NB399_411.out _; (with_reducible repeat (first | refine blk_drewN ?_ _ | refine blk_drew ?_ | refine blk_alloc ?_ _)); refine blk_far ?_ NB399_411.out _; (with_reducible repeat (first | refine blk_drewN ?_ _ | refine blk_drew ?_ | refine blk_alloc ?_ _)); refine blk_far ?_ NB399_411.out _; (with_reducible repeat (first | refine blk_drewN ?_ _ | refine blk_drew ?_ | refine blk_alloc ?_ _)); refine blk_far ?_ NB399_411.out _; (with_reducible repeat (first | refine blk_drewN ?_ _ | refine blk_drew ?_ | refine blk_alloc ?_ _)); refine blk_far ?_ NB399_411.out _; (with_reducible repeat (first | refine blk_drewN ?_ _ | refine blk_drew ?_ | refine blk_alloc ?_ _)); exact BK399.out⟩, ⟨by repeat (first | (with_reducible first | exact HB.out | apply below_alloc | apply pw_below_drewN | apply below_drew1 | refine below_set ?_ GE390.out | refine below_set ?_ GE399.out | refine below_set ?_ GE411.out) | exact HB.out)⟩⟩
                      · rw [if_neg c30] at H
                        have c30b0 : (t410 == 0) = false := beq_eq_false_iff_ne.mpr c30
                        have c30b1 : (t410 != 0) = true := bne_iff_ne.mpr c30
                        obtain rfl := Option.some.inj H
                        have hnb41 := NB399_390.out
                        have hnc41 := NB390_399.out
                        have hcz42_0 : wr.cell? ⟨gb399, 0, none⟩ = some (.int .i64 x400000_2) := (blk_cell BK399.out 0).trans rfl
                        have hcz42_1 : wr.cell? ⟨gb399, 1, none⟩ = some (.int .i64 x400001_2) := (blk_cell BK399.out 1).trans rfl
                        have hcz42_2 : wr.cell? ⟨gb399, 2, none⟩ = some (.int .i64 x400002_2) := (blk_cell BK399.out 2).trans rfl
                        have hcz42_3 : wr.cell? ⟨gb399, 3, none⟩ = some (.int .i64 x400003_2) := (blk_cell BK399.out 3).trans rfl
                        have hcz42_4 : wr.cell? ⟨gb399, 4, none⟩ = some (u400004) := (blk_cell BK399.out 4).trans rfl
                        have hfz42_0 := blk_frozen BK399.out 0
                        have hfz42_1 := blk_frozen BK399.out 1
                        have hfz42_2 := blk_frozen BK399.out 2
                        have hfz42_3 := blk_frozen BK399.out 3
                        have hfz42_4 := blk_frozen BK399.out 4
                        obtain ⟨Ao43, co43, eo43, _⟩ := Kd.Q_slice HO_400004.out
                        subst eo43
                        go_wp2_with (first | ((with_reducible refine gate_callee (f := 19) rfl ?_); refine goesL_ (some 66) rfl rfl Try.func19 (by kernel_rfl) rfl #[.agg #[.int .i64 x400000_2, .int .i64 x400001_2, .int .i64 x400002_2, .int .i64 x400003_2, .slice Ao43 x400004_2.length co43], .int .i64 (wrap64 (x9_2 + (Int.tmod x45_2 3))), .int .i64 ji28] rfl (by (try simp only [List.map_toArray, List.map_cons, List.map_nil]); first | done | (simp only [hji28]; rfl) | rfl | (simp only [List.length_drop, List.length_take]; rfl)) ?_; (with_reducible refine (throttle_Progress.calls k2 x400000_2 x400001_2 x400002_2 x400003_2 _ _ x400004_2 (wrap64 (x9_2 + (Int.tmod x45_2 3))) ji28 t403 t404 t405 t406 t407 t410 _ ?side1 ?side2 A29.out).mono ?_); (case side1 => repeat (first | exact (Kd.Q_reads' HO_400004.out).2.2 | (with_reducible refine Kd.C_alloc ?_ _) | (with_reducible refine Kd.C_drewN ?_ _) | (with_reducible refine Kd.C_drew ?_))); (case side2 => exact (Kd.Q_reads' HO_400004.out).2.1); rintro e w44 ⟨v408, rfl, ho0, hb⟩; refine ⟨_, rfl, ?_⟩; have n0_ := Aside0.mk (Kd.R_below (by (with_reducible repeat (first | apply Kd.R_alloc | apply Kd.R_drewN | apply Kd.R_drew)); exact HO_12.out) hb); have n1_ := Aside0.mk (Kd.Q_elder' (by (with_reducible repeat (first | apply Kd.Q_alloc | apply Kd.Q_drewN | apply Kd.Q_drew)); exact HO_400004.out) (Kd.Q_base ho0) hb); have n2_ := Aside0.mk (Kd.Q_lower (Kd.Q_new' ho0 (Kd.Q_lt (by (with_reducible repeat (first | apply Kd.Q_alloc | apply Kd.Q_drewN | apply Kd.Q_drew)); exact HO_400004.out))) (below_size (by repeat (first | (with_reducible first | exact HB.out | apply below_alloc | apply pw_below_drewN | apply below_drew1 | refine below_set ?_ GE390.out | refine below_set ?_ GE399.out) | exact HB.out)))); have n3_ := Aside0.mk (blk_below (g := gb390) (o := .cells #[.int .u8 a2_0, .slice (some ad402) l2_1.length c2_1] 55 (0, 0)) (by (with_reducible repeat (first | refine blk_drewN ?_ _ | refine blk_drew ?_ | refine blk_alloc ?_ _)); exact BK390.out) hb); have n4_ := Aside0.mk (blk_below (g := gb399) (o := .cells #[.int .i64 x400000_2, .int .i64 x400001_2, .int .i64 x400002_2, .int .i64 x400003_2, .slice Ao43 x400004_2.length co43] 24 (0, 0)) (by (with_reducible repeat (first | refine blk_drewN ?_ _ | refine blk_drew ?_ | refine blk_alloc ?_ _)); exact BK399.out) hb); have n5_ := Aside0.mk (below_step (by repeat (first | (with_reducible first | exact HB.out | apply below_alloc | apply pw_below_drewN | apply below_drew1 | refine below_set ?_ GE390.out | refine below_set ?_ GE399.out) | exact HB.out)) hb); clear HO_12; clear HO_400004; clear BK390; clear BK399; clear HB; have HO_12 := n0_; have HO_400004 := n1_; have HO409 := n2_; have BK390 := n3_; have BK399 := n4_; have HB := n5_; clear n0_ n1_ n2_ n3_ n4_ n5_; (try clear hb); (try clear hb2); (try clear hk); (try clear hi); (try clear ho0)) | ((with_reducible refine gate_dst (N := 15) rfl ?_); refine box_event ?hg (N := 15) ?hd (cs := #[.int .i64 0, .int .i64 0, .int .i64 0, .int .i64 0, .slice none 0 0]) (t := 24) ?hr ?_; (case hd => rfl); (case hg => rfl); (case hr => first | (go_simp; done) | (go_simp; rfl)); intro gb411 hg w45 hbox hb; have n0_ := Aside0.mk (Kd.R_below (by (with_reducible repeat (first | apply Kd.R_alloc | apply Kd.R_drewN | apply Kd.R_drew)); exact HO_12.out) hb); have n1_ := Aside0.mk (Kd.Q_below (by (with_reducible repeat (first | apply Kd.Q_alloc | apply Kd.Q_drewN | apply Kd.Q_drew)); exact HO_400004.out) hb); have n2_ := Aside0.mk (Kd.Q_below (by (with_reducible repeat (first | apply Kd.Q_alloc | apply Kd.Q_drewN | apply Kd.Q_drew)); exact HO409.out) hb); have n3_ := Aside0.mk (blk_below (g := gb390) (o := .cells #[.int .u8 a2_0, .slice (some ad402) l2_1.length c2_1] 55 (0, 0)) (by (with_reducible repeat (first | refine blk_drewN ?_ _ | refine blk_drew ?_ | refine blk_alloc ?_ _)); exact BK390.out) hb); have n4_ := Aside0.mk (blk_below (g := gb399) (o := .cells #[.int .i64 x400000_2, .int .i64 x400001_2, .int .i64 x400002_2, .int .i64 x400003_2, .slice Ao43 x400004_2.length co43] 24 (0, 0)) (by (with_reducible repeat (first | refine blk_drewN ?_ _ | refine blk_drew ?_ | refine blk_alloc ?_ _)); exact BK399.out) hb); have n5_ := Aside0.mk (below_step (by repeat (first | (with_reducible first | exact HB.out | apply below_alloc | apply pw_below_drewN | apply below_drew1 | refine below_set ?_ GE390.out | refine below_set ?_ GE399.out) | exact HB.out)) hb); have n6_ := Aside0.mk (hbox); have n7_ := Aside0.mk ((by rw [hg]; exact (below_size (by repeat (first | (with_reducible first | exact HB.out | apply below_alloc | apply pw_below_drewN | apply below_drew1 | refine below_set ?_ GE390.out | refine below_set ?_ GE399.out) | exact HB.out))) : w.heap.size ≤ gb411)); have n8_ := Aside0.mk ((by rw [hg]; exact (below_size (by repeat (first | (with_reducible first | exact HB.out | apply below_alloc | apply pw_below_drewN | apply below_drew1 | refine below_set ?_ GE390.out | refine below_set ?_ GE399.out) | exact HB.out))) : w.heap.size ≤ gb411)); have n9_ := Aside0.mk ((by rw [hg]; exact Nat.ne_of_lt (blk_lt (g := gb390) (o := .cells #[.int .u8 a2_0, .slice (some ad402) l2_1.length c2_1] 55 (0, 0)) (by (with_reducible repeat (first | refine blk_drewN ?_ _ | refine blk_drew ?_ | refine blk_alloc ?_ _)); exact BK390.out)) : gb390 ≠ gb411)); have n10_ := Aside0.mk ((by rw [hg]; exact Nat.ne_of_gt (blk_lt (g := gb390) (o := .cells #[.int .u8 a2_0, .slice (some ad402) l2_1.length c2_1] 55 (0, 0)) (by (with_reducible repeat (first | refine blk_drewN ?_ _ | refine blk_drew ?_ | refine blk_alloc ?_ _)); exact BK390.out)) : gb411 ≠ gb390)); have n11_ := Aside0.mk ((by rw [hg]; exact Nat.ne_of_lt (blk_lt (g := gb399) (o := .cells #[.int .i64 x400000_2, .int .i64 x400001_2, .int .i64 x400002_2, .int .i64 x400003_2, .slice Ao43 x400004_2.length co43] 24 (0, 0)) (by (with_reducible repeat (first | refine blk_drewN ?_ _ | refine blk_drew ?_ | refine blk_alloc ?_ _)); exact BK399.out)) : gb399 ≠ gb411)); have n12_ := Aside0.mk ((by rw [hg]; exact Nat.ne_of_gt (blk_lt (g := gb399) (o := .cells #[.int .i64 x400000_2, .int .i64 x400001_2, .int .i64 x400002_2, .int .i64 x400003_2, .slice Ao43 x400004_2.length co43] 24 (0, 0)) (by (with_reducible repeat (first | refine blk_drewN ?_ _ | refine blk_drew ?_ | refine blk_alloc ?_ _)); exact BK399.out)) : gb411 ≠ gb399)); clear HO_12; clear HO_400004; clear HO409; clear BK390; clear BK399; clear HB; have HO_12 := n0_; have HO_400004 := n1_; have HO409 := n2_; have BK390 := n3_; have BK399 := n4_; have HB := n5_; have BK411 := n6_; have GW411 := n7_; have GE411 := n8_; have NB390_411 := n9_; have NB411_390 := n10_; have NB399_411 := n11_; have NB411_399 := n12_; clear n0_ n1_ n2_ n3_ n4_ n5_ n6_ n7_ n8_ n9_ n10_ n11_ n12_; clear hb hbox hg; have hnb46 := NB411_390.out; have hnc46 := NB390_411.out; have hnb47 := NB411_399.out; have hnc47 := NB399_411.out; have hcz48_0 : w45.cell? ⟨gb411, 0, none⟩ = some (.int .i64 0) := (blk_cell BK411.out 0).trans rfl; have hcz48_1 : w45.cell? ⟨gb411, 1, none⟩ = some (.int .i64 0) := (blk_cell BK411.out 1).trans rfl; have hcz48_2 : w45.cell? ⟨gb411, 2, none⟩ = some (.int .i64 0) := (blk_cell BK411.out 2).trans rfl; have hcz48_3 : w45.cell? ⟨gb411, 3, none⟩ = some (.int .i64 0) := (blk_cell BK411.out 3).trans rfl; have hcz48_4 : w45.cell? ⟨gb411, 4, none⟩ = some (.slice none 0 0) := (blk_cell BK411.out 4).trans rfl; have hfz48_0 := blk_frozen BK411.out 0; have hfz48_1 := blk_frozen BK411.out 1; have hfz48_2 := blk_frozen BK411.out 2; have hfz48_3 := blk_frozen BK411.out 3; have hfz48_4 := blk_frozen BK411.out 4; obtain ⟨Ao49, co49, eo49, _⟩ := Kd.Q_slice HO409.out; subst eo49))
                        go_ret
                        exact ⟨by first | rfl | (simp [errW_none, errW_some] <;> rfl) | (simp only [← hji28]; first | rfl | (simp [errW_none, errW_some] <;> rfl)) | (simp [*, errW_none, errW_some] <;> rfl), by repeat (first | (with_reducible first | exact HB.out | apply below_alloc | apply pw_below_drewN | apply below_drew1 | refine below_set ?_ GE390.out | refine below_set ?_ GE399.out | refine below_set ?_ GE411.out) | exact HB.out)⟩
                    · rw [if_neg c27] at H
                      have c27b0 : decide ((rd l2_1 x45_2) < 0) = false := decide_eq_false c27
                      clear c27
                      (first | rw [c27b0] | (simp only [i64_w, i32_w]; rw [c27b0]) | skip)
                      by_cases c50 : (wrap64 ((wrap64 (rd l2_1 x45_2)) + 1)) ≤ (wrap64 (x400001_2 * x400000_2))
                      · rw [if_pos c50] at H
                        have c50b0 : decide ((wrap64 ((wrap64 (rd l2_1 x45_2)) + 1)) ≤ (wrap64 (x400001_2 * x400000_2))) = true := decide_eq_true c50
                        clear c50
                        replace H := Option.bind_eq_some_iff.mp H
                        obtain ⟨⟨t412, t413, t414, t415, t416, t419, t420⟩, A510, H⟩ := H
                        replace H : (if t420 = 0 then (standbylaw33_ThrottleAccounts.j2 k2 (wrap64 (x9_2 + (Int.tmod x45_2 3))) x10_2 x11_2 x12_2 (wrap64 ((wrap64 (rd l2_1 x45_2)) + 1)) t419 l2_1 (l2_1.length : Int) x45_2 ((t419 == 0) != (decide ((wrap64 ((wrap64 (x10_2 - x11_2)) + (wrap64 ((wrap64 (rd l2_1 x45_2)) + 1)))) ≤ (wrap64 (x400001_2 * x400000_2))))) t412 t413 t414 t415 t416) else (standbylaw33_ThrottleAccounts.j2 k2 (wrap64 (x9_2 + (Int.tmod x45_2 3))) x10_2 x11_2 x12_2 (wrap64 ((wrap64 (rd l2_1 x45_2)) + 1)) t419 l2_1 (l2_1.length : Int) x45_2 true t412 t413 t414 t415 t416)) = some r := H
                        have A51 := Aside0.mk A510
                        clear A510
                        have HC52 := Aside0.mk H
                        clear H
                        have hnb53 := NB399_390.out
                        have hnc53 := NB390_399.out
                        have hcz54_0 : wr.cell? ⟨gb399, 0, none⟩ = some (.int .i64 x400000_2) := (blk_cell BK399.out 0).trans rfl
                        have hcz54_1 : wr.cell? ⟨gb399, 1, none⟩ = some (.int .i64 x400001_2) := (blk_cell BK399.out 1).trans rfl
                        have hcz54_2 : wr.cell? ⟨gb399, 2, none⟩ = some (.int .i64 x400002_2) := (blk_cell BK399.out 2).trans rfl
                        have hcz54_3 : wr.cell? ⟨gb399, 3, none⟩ = some (.int .i64 x400003_2) := (blk_cell BK399.out 3).trans rfl
                        have hcz54_4 : wr.cell? ⟨gb399, 4, none⟩ = some (u400004) := (blk_cell BK399.out 4).trans rfl
                        have hfz54_0 := blk_frozen BK399.out 0
                        have hfz54_1 := blk_frozen BK399.out 1
                        have hfz54_2 := blk_frozen BK399.out 2
                        have hfz54_3 := blk_frozen BK399.out 3
                        have hfz54_4 := blk_frozen BK399.out 4
                        obtain ⟨Ao55, co55, eo55, _⟩ := Kd.Q_slice HO_400004.out
                        subst eo55
                        go_upto_region 19 with (first | ((with_reducible refine gate_callee (f := 16) rfl ?_); refine goesL_ (some 86) rfl rfl Try.func16 (by kernel_rfl) rfl #[.agg #[.int .i64 x400000_2, .int .i64 x400001_2, .int .i64 x400002_2, .int .i64 x400003_2, .slice Ao55 x400004_2.length co55], .int .i64 (wrap64 (x9_2 + (Int.tmod x45_2 3))), .int .i64 (wrap64 ((wrap64 (rd l2_1 x45_2)) + 1))] rfl (by (try simp only [List.map_toArray, List.map_cons, List.map_nil]); first | done | rfl | (simp only [List.length_drop, List.length_take]; rfl)) ?_; (with_reducible refine (throttle_Write.calls k2 x400000_2 x400001_2 x400002_2 x400003_2 _ _ x400004_2 (wrap64 (x9_2 + (Int.tmod x45_2 3))) (wrap64 ((wrap64 (rd l2_1 x45_2)) + 1)) t412 t413 t414 t415 t416 t419 t420 _ ?side1 ?side2 A51.out).mono ?_); (case side1 => repeat (first | exact (Kd.Q_reads' HO_400004.out).2.2 | (with_reducible refine Kd.C_alloc ?_ _) | (with_reducible refine Kd.C_drewN ?_ _) | (with_reducible refine Kd.C_drew ?_))); (case side2 => exact (Kd.Q_reads' HO_400004.out).2.1); rintro e w56 ⟨v417, rfl, ho0, hb⟩; refine ⟨_, rfl, ?_⟩; have n0_ := Aside0.mk (Kd.R_below (by (with_reducible repeat (first | apply Kd.R_alloc | apply Kd.R_drewN | apply Kd.R_drew)); exact HO_12.out) hb); have n1_ := Aside0.mk (Kd.Q_elder' (by (with_reducible repeat (first | apply Kd.Q_alloc | apply Kd.Q_drewN | apply Kd.Q_drew)); exact HO_400004.out) (Kd.Q_base ho0) hb); have n2_ := Aside0.mk (Kd.Q_lower (Kd.Q_new' ho0 (Kd.Q_lt (by (with_reducible repeat (first | apply Kd.Q_alloc | apply Kd.Q_drewN | apply Kd.Q_drew)); exact HO_400004.out))) (below_size (by repeat (first | (with_reducible first | exact HB.out | apply below_alloc | apply pw_below_drewN | apply below_drew1 | refine below_set ?_ GE390.out | refine below_set ?_ GE399.out) | exact HB.out)))); have n3_ := Aside0.mk (blk_below (g := gb390) (o := .cells #[.int .u8 a2_0, .slice (some ad402) l2_1.length c2_1] 55 (0, 0)) (by (with_reducible repeat (first | refine blk_drewN ?_ _ | refine blk_drew ?_ | refine blk_alloc ?_ _)); exact BK390.out) hb); have n4_ := Aside0.mk (blk_below (g := gb399) (o := .cells #[.int .i64 x400000_2, .int .i64 x400001_2, .int .i64 x400002_2, .int .i64 x400003_2, .slice Ao55 x400004_2.length co55] 24 (0, 0)) (by (with_reducible repeat (first | refine blk_drewN ?_ _ | refine blk_drew ?_ | refine blk_alloc ?_ _)); exact BK399.out) hb); have n5_ := Aside0.mk (below_step (by repeat (first | (with_reducible first | exact HB.out | apply below_alloc | apply pw_below_drewN | apply below_drew1 | refine below_set ?_ GE390.out | refine below_set ?_ GE399.out) | exact HB.out)) hb); clear HO_12; clear HO_400004; clear BK390; clear BK399; clear HB; have HO_12 := n0_; have HO_400004 := n1_; have HO418 := n2_; have BK390 := n3_; have BK399 := n4_; have HB := n5_; clear n0_ n1_ n2_ n3_ n4_ n5_; (try clear hb); (try clear hb2); (try clear hk); (try clear hi); (try clear ho0)) | ((with_reducible refine gate_dst (N := 18) rfl ?_); refine box_event ?hg (N := 18) ?hd (cs := #[.int .i64 0, .int .i64 0, .int .i64 0, .int .i64 0, .slice none 0 0]) (t := 24) ?hr ?_; (case hd => rfl); (case hg => rfl); (case hr => first | (go_simp; done) | (go_simp; rfl)); intro gb421 hg w57 hbox hb; have n0_ := Aside0.mk (Kd.R_below (by (with_reducible repeat (first | apply Kd.R_alloc | apply Kd.R_drewN | apply Kd.R_drew)); exact HO_12.out) hb); have n1_ := Aside0.mk (Kd.Q_below (by (with_reducible repeat (first | apply Kd.Q_alloc | apply Kd.Q_drewN | apply Kd.Q_drew)); exact HO_400004.out) hb); have n2_ := Aside0.mk (Kd.Q_below (by (with_reducible repeat (first | apply Kd.Q_alloc | apply Kd.Q_drewN | apply Kd.Q_drew)); exact HO418.out) hb); have n3_ := Aside0.mk (blk_below (g := gb390) (o := .cells #[.int .u8 a2_0, .slice (some ad402) l2_1.length c2_1] 55 (0, 0)) (by (with_reducible repeat (first | refine blk_drewN ?_ _ | refine blk_drew ?_ | refine blk_alloc ?_ _)); exact BK390.out) hb); have n4_ := Aside0.mk (blk_below (g := gb399) (o := .cells #[.int .i64 x400000_2, .int .i64 x400001_2, .int .i64 x400002_2, .int .i64 x400003_2, .slice Ao55 x400004_2.length co55] 24 (0, 0)) (by (with_reducible repeat (first | refine blk_drewN ?_ _ | refine blk_drew ?_ | refine blk_alloc ?_ _)); exact BK399.out) hb); have n5_ := Aside0.mk (below_step (by repeat (first | (with_reducible first | exact HB.out | apply below_alloc | apply pw_below_drewN | apply below_drew1 | refine below_set ?_ GE390.out | refine below_set ?_ GE399.out) | exact HB.out)) hb); have n6_ := Aside0.mk (hbox); have n7_ := Aside0.mk ((by rw [hg]; exact (below_size (by repeat (first | (with_reducible first | exact HB.out | apply below_alloc | apply pw_below_drewN | apply below_drew1 | refine below_set ?_ GE390.out | refine below_set ?_ GE399.out) | exact HB.out))) : w.heap.size ≤ gb421)); have n8_ := Aside0.mk ((by rw [hg]; exact (below_size (by repeat (first | (with_reducible first | exact HB.out | apply below_alloc | apply pw_below_drewN | apply below_drew1 | refine below_set ?_ GE390.out | refine below_set ?_ GE399.out) | exact HB.out))) : w.heap.size ≤ gb421)); have n9_ := Aside0.mk ((by rw [hg]; exact Nat.ne_of_lt (blk_lt (g := gb390) (o := .cells #[.int .u8 a2_0, .slice (some ad402) l2_1.length c2_1] 55 (0, 0)) (by (with_reducible repeat (first | refine blk_drewN ?_ _ | refine blk_drew ?_ | refine blk_alloc ?_ _)); exact BK390.out)) : gb390 ≠ gb421)); have n10_ := Aside0.mk ((by rw [hg]; exact Nat.ne_of_gt (blk_lt (g := gb390) (o := .cells #[.int .u8 a2_0, .slice (some ad402) l2_1.length c2_1] 55 (0, 0)) (by (with_reducible repeat (first | refine blk_drewN ?_ _ | refine blk_drew ?_ | refine blk_alloc ?_ _)); exact BK390.out)) : gb421 ≠ gb390)); have n11_ := Aside0.mk ((by rw [hg]; exact Nat.ne_of_lt (blk_lt (g := gb399) (o := .cells #[.int .i64 x400000_2, .int .i64 x400001_2, .int .i64 x400002_2, .int .i64 x400003_2, .slice Ao55 x400004_2.length co55] 24 (0, 0)) (by (with_reducible repeat (first | refine blk_drewN ?_ _ | refine blk_drew ?_ | refine blk_alloc ?_ _)); exact BK399.out)) : gb399 ≠ gb421)); have n12_ := Aside0.mk ((by rw [hg]; exact Nat.ne_of_gt (blk_lt (g := gb399) (o := .cells #[.int .i64 x400000_2, .int .i64 x400001_2, .int .i64 x400002_2, .int .i64 x400003_2, .slice Ao55 x400004_2.length co55] 24 (0, 0)) (by (with_reducible repeat (first | refine blk_drewN ?_ _ | refine blk_drew ?_ | refine blk_alloc ?_ _)); exact BK399.out)) : gb421 ≠ gb399)); clear HO_12; clear HO_400004; clear HO418; clear BK390; clear BK399; clear HB; have HO_12 := n0_; have HO_400004 := n1_; have HO418 := n2_; have BK390 := n3_; have BK399 := n4_; have HB := n5_; have BK421 := n6_; have GW421 := n7_; have GE421 := n8_; have NB390_421 := n9_; have NB421_390 := n10_; have NB399_421 := n11_; have NB421_399 := n12_; clear n0_ n1_ n2_ n3_ n4_ n5_ n6_ n7_ n8_ n9_ n10_ n11_ n12_; clear hb hbox hg; have hnb58 := NB421_390.out; have hnc58 := NB390_421.out; have hnb59 := NB421_399.out; have hnc59 := NB399_421.out; have hcz60_0 : w57.cell? ⟨gb421, 0, none⟩ = some (.int .i64 0) := (blk_cell BK421.out 0).trans rfl; have hcz60_1 : w57.cell? ⟨gb421, 1, none⟩ = some (.int .i64 0) := (blk_cell BK421.out 1).trans rfl; have hcz60_2 : w57.cell? ⟨gb421, 2, none⟩ = some (.int .i64 0) := (blk_cell BK421.out 2).trans rfl; have hcz60_3 : w57.cell? ⟨gb421, 3, none⟩ = some (.int .i64 0) := (blk_cell BK421.out 3).trans rfl; have hcz60_4 : w57.cell? ⟨gb421, 4, none⟩ = some (.slice none 0 0) := (blk_cell BK421.out 4).trans rfl; have hfz60_0 := blk_frozen BK421.out 0; have hfz60_1 := blk_frozen BK421.out 1; have hfz60_2 := blk_frozen BK421.out 2; have hfz60_3 := blk_frozen BK421.out 3; have hfz60_4 := blk_frozen BK421.out 4; obtain ⟨Ao61, co61, eo61, _⟩ := Kd.Q_slice HO418.out; subst eo61))
                        (try simp only [Act.put, List.setIfInBounds_toArray, List.set_cons_zero, List.set_cons_succ])
                        go_cut [107] (fun v107 wc => ∃ (kq : Nat) (x107_51 : Bool), v107 = .bool x107_51 ∧ Aside0 (standbylaw33_ThrottleAccounts.j2 kq (wrap64 (x9_2 + (Int.tmod x45_2 3))) x10_2 x11_2 x12_2 (wrap64 ((wrap64 (rd l2_1 x45_2)) + 1)) t419 l2_1 (l2_1.length : Int) x45_2 x107_51 t412 t413 t414 t415 t416 = some r) ∧ Aside0 (kq ≤ k2) ∧ Aside0 (Kd.R k49 49 wc w.heap.size (fun _ => True) u12 x12_2) ∧ Aside0 (Kd.Q k71 71 wc w.heap.size (fun k_ => some k_ ≠ ((.slice Ao61 t416.length co61) : Value).ownBlock) (.slice Ao55 x400004_2.length co55) x400004_2) ∧ Aside0 (Kd.Q k71 71 wc w.heap.size (fun k_ => some k_ ≠ ((.slice Ao55 x400004_2.length co55) : Value).ownBlock) (.slice Ao61 t416.length co61) t416) ∧ Aside0 (wc.heap[gb390]? = some (.cells #[.int .u8 a2_0, (.slice (some ad402) l2_1.length c2_1)] 55 (0, 0))) ∧ Aside0 (wc.heap[gb399]? = some (.cells #[.int .i64 x400000_2, .int .i64 x400001_2, .int .i64 x400002_2, .int .i64 x400003_2, (.slice Ao55 x400004_2.length co55)] 24 (0, 0))) ∧ Aside0 (wc.heap[gb421]? = some (.cells #[.int .i64 t412, .int .i64 t413, .int .i64 t414, .int .i64 t415, (.slice Ao61 t416.length co61)] 24 (0, 0))) ∧ Aside0 (Below w.heap.size w wc))
                        case first =>
                          have H := HC52.out
                          clear HC52
                          by_cases c62 : t420 = 0
                          · rw [if_pos c62] at H
                            have c62b0 : (t420 == 0) = true := beq_iff_eq.mpr c62
                            have c62b1 : (t420 != 0) = false := bne_eq_false_iff_eq.mpr c62
                            clear c62
                            (first | rw [c62b0] | (simp only [i64_w, i32_w]; rw [c62b0]) | skip)
                            have H' := Aside0.mk H
                            clear H
                            have hnb63 := NB399_390.out
                            have hnc63 := NB390_399.out
                            have hnb64 := NB399_421.out
                            have hnc64 := NB421_399.out
                            have hcz65_0 : w57.cell? ⟨gb399, 0, none⟩ = some (.int .i64 x400000_2) := (blk_cell BK399.out 0).trans rfl
                            have hcz65_1 : w57.cell? ⟨gb399, 1, none⟩ = some (.int .i64 x400001_2) := (blk_cell BK399.out 1).trans rfl
                            have hcz65_2 : w57.cell? ⟨gb399, 2, none⟩ = some (.int .i64 x400002_2) := (blk_cell BK399.out 2).trans rfl
                            have hcz65_3 : w57.cell? ⟨gb399, 3, none⟩ = some (.int .i64 x400003_2) := (blk_cell BK399.out 3).trans rfl
                            have hcz65_4 : w57.cell? ⟨gb399, 4, none⟩ = some (.slice Ao55 x400004_2.length co55) := (blk_cell BK399.out 4).trans rfl
                            have hfz65_0 := blk_frozen BK399.out 0
                            have hfz65_1 := blk_frozen BK399.out 1
                            have hfz65_2 := blk_frozen BK399.out 2
                            have hfz65_3 := blk_frozen BK399.out 3
                            have hfz65_4 := blk_frozen BK399.out 4
                            go_wp2
                            go_meet
                            case rel => exact ⟨_, (((t419 == 0) != (decide ((wrap64 ((wrap64 (x10_2 - x11_2)) + (wrap64 ((wrap64 (rd l2_1 x45_2)) + 1)))) ≤ (wrap64 (x400001_2 * x400000_2)))))), (by first | rfl | (simp; done) | (simp [*]; done)), H', ⟨by have := HJ4.out; have := HK2.out; first | omega | exact Nat.le_refl _⟩, ⟨by (with_reducible repeat (first | apply Kd.R_alloc | apply Kd.R_drewN | apply Kd.R_drew)); exact Kd.R_mono (Kd.R_far (p := ⟨gb421, 4, none⟩) (Kd.R_far (p := ⟨gb421, 3, none⟩) (Kd.R_far (p := ⟨gb421, 2, none⟩) (Kd.R_far (p := ⟨gb421, 1, none⟩) (Kd.R_far (p := ⟨gb421, 0, none⟩) (Kd.R_types HO_12.out BK421.out (by decide)) (fun _ hk => hk.2) (.int .i64 t412)) (fun _ hk => hk.2) (.int .i64 t413)) (fun _ hk => hk.2) (.int .i64 t414)) (fun _ hk => hk.2) (.int .i64 t415)) (fun _ hk => hk.2) (.slice Ao61 t416.length co61)) (fun _ hk => trivial)⟩, ⟨by (with_reducible repeat (first | apply Kd.Q_alloc | apply Kd.Q_drewN | apply Kd.Q_drew)); exact Kd.Q_mono (Kd.Q_far (p := ⟨gb421, 4, none⟩) (Kd.Q_far (p := ⟨gb421, 3, none⟩) (Kd.Q_far (p := ⟨gb421, 2, none⟩) (Kd.Q_far (p := ⟨gb421, 1, none⟩) (Kd.Q_far (p := ⟨gb421, 0, none⟩) (Kd.Q_types HO_400004.out BK421.out (by decide)) (fun _ hk => hk.2) (.int .i64 t412)) (fun _ hk => hk.2) (.int .i64 t413)) (fun _ hk => hk.2) (.int .i64 t414)) (fun _ hk => hk.2) (.int .i64 t415)) (fun _ hk => hk.2) (.slice Ao61 t416.length co61)) (fun _ hk => hk.1.2)⟩, ⟨by (with_reducible repeat (first | apply Kd.Q_alloc | apply Kd.Q_drewN | apply Kd.Q_drew)); exact Kd.Q_mono (Kd.Q_far (p := ⟨gb421, 4, none⟩) (Kd.Q_far (p := ⟨gb421, 3, none⟩) (Kd.Q_far (p := ⟨gb421, 2, none⟩) (Kd.Q_far (p := ⟨gb421, 1, none⟩) (Kd.Q_far (p := ⟨gb421, 0, none⟩) (Kd.Q_types HO418.out BK421.out (by decide)) (fun _ hk => hk.2) (.int .i64 t412)) (fun _ hk => hk.2) (.int .i64 t413)) (fun _ hk => hk.2) (.int .i64 t414)) (fun _ hk => hk.2) (.int .i64 t415)) (fun _ hk => hk.2) (.slice Ao61 t416.length co61)) (fun _ hk => hk.1.2)⟩, ⟨by (with_reducible repeat (first | refine blk_drewN ?_ _ | refine blk_drew ?_ | refine blk_alloc ?_ _)); refine blk_far ?_ NB390_421.out _; (with_reducible repeat (first | refine blk_drewN ?_ _ | refine blk_drew ?_ | refine blk_alloc ?_ _)); refine blk_far ?_ NB390_421.out _; (with_reducible repeat (first | refine blk_drewN ?_ _ | refine blk_drew ?_ | refine blk_alloc ?_ _)); refine blk_far ?_ NB390_421.out _; (with_reducible repeat (first | refine blk_drewN ?_ _ | refine blk_drew ?_ | refine blk_alloc ?_ _)); refine blk_far ?_ NB390_421.out _; (with_reducible repeat (first | refine blk_drewN ?_ _ | refine blk_drew ?_ | refine blk_alloc ?_ _)); refine blk_far ?_ NB390_421.out _; (with_reducible repeat (first | refine blk_drewN ?_ _ | refine blk_drew ?_ | refine blk_alloc ?_ _)); exact BK390.out⟩, ⟨by (with_reducible repeat (first | refine blk_drewN ?_ _ | refine blk_drew ?_ | refine blk_alloc ?_ _)); refine blk_far ?_ NB399_421.out _; (with_reducible repeat (first | refine blk_drewN ?_ _ | refine blk_drew ?_ | refine blk_alloc ?_ _)); refine blk_far ?_ NB399_421.out _; (with_reducible repeat (first | refine blk_drewN ?_ _ | refine blk_drew ?_ | refine blk_alloc ?_ _)); refine blk_far ?_ NB399_421.out _; (with_reducible repeat (first | refine blk_drewN ?_ _ | refine blk_drew ?_ | refine blk_alloc ?_ _)); refine blk_far ?_ NB399_421.out _; (with_reducible repeat (first | refine blk_drewN ?_ _ | refine blk_drew ?_ | refine blk_alloc ?_ _)); refine blk_far ?_ NB399_421.out _; (with_reducible repeat (first | refine blk_drewN ?_ _ | refine blk_drew ?_ | refine blk_alloc ?_ _)); exact BK399.out⟩, ⟨by (with_reducible repeat (first | refine blk_drewN ?_ _ | refine blk_drew ?_ | refine blk_alloc ?_ _)); refine blk_put (cs := #[.int .i64 t412, .int .i64 t413, .int .i64 t414, .int .i64 t415, .slice none 0 0]) ?_ 4 _ rfl; (with_reducible repeat (first | refine blk_drewN ?_ _ | refine blk_drew ?_ | refine blk_alloc ?_ _)); refine blk_put (cs := #[.int .i64 t412, .int .i64 t413, .int .i64 t414, .int .i64 0, .slice none 0 0]) ?_ 3 _ rfl; (with_reducible repeat (first | refine blk_drewN ?_ _ | refine blk_drew ?_ | refine blk_alloc ?_ _)); refine blk_put (cs := #[.int .i64 t412, .int .i64 t413, .int .i64 0, .int .i64 0, .slice none 0 0]) ?_ 2 _ rfl; (with_reducible repeat (first | refine blk_drewN ?_ _ | refine blk_drew ?_ | refine blk_alloc ?_ _)); refine blk_put (cs := #[.int .i64 t412, .int .i64 0, .int .i64 0, .int .i64 0, .slice none 0 0]) ?_ 1 _ rfl; (with_reducible repeat (first | refine blk_drewN ?_ _ | refine blk_drew ?_ | refine blk_alloc ?_ _)); refine blk_put (cs := #[.int .i64 0, .int .i64 0, .int .i64 0, .int .i64 0, .slice none 0 0]) ?_ 0 _ rfl; (with_reducible repeat (first | refine blk_drewN ?_ _ | refine blk_drew ?_ | refine blk_alloc ?_ _)); exact BK421.out⟩, ⟨by repeat (first | (with_reducible first | exact HB.out | apply below_alloc | apply pw_below_drewN | apply below_drew1 | refine below_set ?_ GE390.out | refine below_set ?_ GE399.out | refine below_set ?_ GE421.out) | exact HB.out)⟩⟩
                          · rw [if_neg c62] at H
                            have c62b0 : (t420 == 0) = false := beq_eq_false_iff_ne.mpr c62
                            have c62b1 : (t420 != 0) = true := bne_iff_ne.mpr c62
                            (first | rw [c62b0] | (simp only [i64_w, i32_w]; rw [c62b0]) | skip)
                            have H' := Aside0.mk H
                            clear H
                            go_wp2
                            go_meet
                            case rel => exact ⟨_, (true), (by first | rfl | (simp; done) | (simp [*]; done)), H', ⟨by have := HJ4.out; have := HK2.out; first | omega | exact Nat.le_refl _⟩, ⟨by (with_reducible repeat (first | apply Kd.R_alloc | apply Kd.R_drewN | apply Kd.R_drew)); exact Kd.R_mono (Kd.R_far (p := ⟨gb421, 4, none⟩) (Kd.R_far (p := ⟨gb421, 3, none⟩) (Kd.R_far (p := ⟨gb421, 2, none⟩) (Kd.R_far (p := ⟨gb421, 1, none⟩) (Kd.R_far (p := ⟨gb421, 0, none⟩) (Kd.R_types HO_12.out BK421.out (by decide)) (fun _ hk => hk.2) (.int .i64 t412)) (fun _ hk => hk.2) (.int .i64 t413)) (fun _ hk => hk.2) (.int .i64 t414)) (fun _ hk => hk.2) (.int .i64 t415)) (fun _ hk => hk.2) (.slice Ao61 t416.length co61)) (fun _ hk => trivial)⟩, ⟨by (with_reducible repeat (first | apply Kd.Q_alloc | apply Kd.Q_drewN | apply Kd.Q_drew)); exact Kd.Q_mono (Kd.Q_far (p := ⟨gb421, 4, none⟩) (Kd.Q_far (p := ⟨gb421, 3, none⟩) (Kd.Q_far (p := ⟨gb421, 2, none⟩) (Kd.Q_far (p := ⟨gb421, 1, none⟩) (Kd.Q_far (p := ⟨gb421, 0, none⟩) (Kd.Q_types HO_400004.out BK421.out (by decide)) (fun _ hk => hk.2) (.int .i64 t412)) (fun _ hk => hk.2) (.int .i64 t413)) (fun _ hk => hk.2) (.int .i64 t414)) (fun _ hk => hk.2) (.int .i64 t415)) (fun _ hk => hk.2) (.slice Ao61 t416.length co61)) (fun _ hk => hk.1.2)⟩, ⟨by (with_reducible repeat (first | apply Kd.Q_alloc | apply Kd.Q_drewN | apply Kd.Q_drew)); exact Kd.Q_mono (Kd.Q_far (p := ⟨gb421, 4, none⟩) (Kd.Q_far (p := ⟨gb421, 3, none⟩) (Kd.Q_far (p := ⟨gb421, 2, none⟩) (Kd.Q_far (p := ⟨gb421, 1, none⟩) (Kd.Q_far (p := ⟨gb421, 0, none⟩) (Kd.Q_types HO418.out BK421.out (by decide)) (fun _ hk => hk.2) (.int .i64 t412)) (fun _ hk => hk.2) (.int .i64 t413)) (fun _ hk => hk.2) (.int .i64 t414)) (fun _ hk => hk.2) (.int .i64 t415)) (fun _ hk => hk.2) (.slice Ao61 t416.length co61)) (fun _ hk => hk.1.2)⟩, ⟨by (with_reducible repeat (first | refine blk_drewN ?_ _ | refine blk_drew ?_ | refine blk_alloc ?_ _)); refine blk_far ?_ NB390_421.out _; (with_reducible repeat (first | refine blk_drewN ?_ _ | refine blk_drew ?_ | refine blk_alloc ?_ _)); refine blk_far ?_ NB390_421.out _; (with_reducible repeat (first | refine blk_drewN ?_ _ | refine blk_drew ?_ | refine blk_alloc ?_ _)); refine blk_far ?_ NB390_421.out _; (with_reducible repeat (first | refine blk_drewN ?_ _ | refine blk_drew ?_ | refine blk_alloc ?_ _)); refine blk_far ?_ NB390_421.out _; (with_reducible repeat (first | refine blk_drewN ?_ _ | refine blk_drew ?_ | refine blk_alloc ?_ _)); refine blk_far ?_ NB390_421.out _; (with_reducible repeat (first | refine blk_drewN ?_ _ | refine blk_drew ?_ | refine blk_alloc ?_ _)); exact BK390.out⟩, ⟨by (with_reducible repeat (first | refine blk_drewN ?_ _ | refine blk_drew ?_ | refine blk_alloc ?_ _)); refine blk_far ?_ NB399_421.out _; (with_reducible repeat (first | refine blk_drewN ?_ _ | refine blk_drew ?_ | refine blk_alloc ?_ _)); refine blk_far ?_ NB399_421.out _; (with_reducible repeat (first | refine blk_drewN ?_ _ | refine blk_drew ?_ | refine blk_alloc ?_ _)); refine blk_far ?_ NB399_421.out _; (with_reducible repeat (first | refine blk_drewN ?_ _ | refine blk_drew ?_ | refine blk_alloc ?_ _)); refine blk_far ?_ NB399_421.out _; (with_reducible repeat (first | refine blk_drewN ?_ _ | refine blk_drew ?_ | refine blk_alloc ?_ _)); refine blk_far ?_ NB399_421.out _; (with_reducible repeat (first | refine blk_drewN ?_ _ | refine blk_drew ?_ | refine blk_alloc ?_ _)); exact BK399.out⟩, ⟨by (with_reducible repeat (first | refine blk_drewN ?_ _ | refine blk_drew ?_ | refine blk_alloc ?_ _)); refine blk_put (cs := #[.int .i64 t412, .int .i64 t413, .int .i64 t414, .int .i64 t415, .slice none 0 0]) ?_ 4 _ rfl; (with_reducible repeat (first | refine blk_drewN ?_ _ | refine blk_drew ?_ | refine blk_alloc ?_ _)); refine blk_put (cs := #[.int .i64 t412, .int .i64 t413, .int .i64 t414, .int .i64 0, .slice none 0 0]) ?_ 3 _ rfl; (with_reducible repeat (first | refine blk_drewN ?_ _ | refine blk_drew ?_ | refine blk_alloc ?_ _)); refine blk_put (cs := #[.int .i64 t412, .int .i64 t413, .int .i64 0, .int .i64 0, .slice none 0 0]) ?_ 2 _ rfl; (with_reducible repeat (first | refine blk_drewN ?_ _ | refine blk_drew ?_ | refine blk_alloc ?_ _)); refine blk_put (cs := #[.int .i64 t412, .int .i64 0, .int .i64 0, .int .i64 0, .slice none 0 0]) ?_ 1 _ rfl; (with_reducible repeat (first | refine blk_drewN ?_ _ | refine blk_drew ?_ | refine blk_alloc ?_ _)); refine blk_put (cs := #[.int .i64 0, .int .i64 0, .int .i64 0, .int .i64 0, .slice none 0 0]) ?_ 0 _ rfl; (with_reducible repeat (first | refine blk_drewN ?_ _ | refine blk_drew ?_ | refine blk_alloc ?_ _)); exact BK421.out⟩, ⟨by repeat (first | (with_reducible first | exact HB.out | apply below_alloc | apply pw_below_drewN | apply below_drew1 | refine below_set ?_ GE390.out | refine below_set ?_ GE399.out | refine below_set ?_ GE421.out) | exact HB.out)⟩⟩
                        case rest =>
                          clear HC52
                          try clear c1
                          try clear c2
                          try clear p2
                          try clear c3
                          try clear c4
                          try clear p4
                          try clear q4
                          try clear hx4
                          try clear c5
                          try clear c6
                          try clear p6
                          try clear c7
                          try clear c9
                          try clear c12
                          try clear c12b0
                          try clear c12b1
                          try clear c13
                          try clear c15
                          try clear c16
                          try clear c17
                          try clear c18
                          try clear c19
                          try clear c21
                          try clear c23
                          try clear c23b0
                          try clear c24
                          try clear c24b0
                          try clear c25
                          try clear c25b0
                          try clear c27
                          try clear c27b0
                          try clear c30
                          try clear c30b0
                          try clear c30b1
                          try clear c31
                          try clear c36
                          try clear c37
                          try clear p40
                          try clear q40
                          try clear hx40
                          try clear c41
                          try clear c46
                          try clear c47
                          try clear c50
                          try clear c50b0
                          try clear c53
                          try clear c58
                          try clear c59
                          try clear c62
                          try clear c62b0
                          try clear c62b1
                          try clear c63
                          try clear c64
                          try clear p64
                          try clear hcz10_0
                          try clear hcz10_1
                          try clear hcz10_2
                          try clear hcz10_3
                          try clear hcz10_4
                          try clear hcz14_0
                          try clear hcz14_1
                          try clear hcz16_0
                          try clear hcz16_1
                          try clear hcz22_0
                          try clear hcz22_1
                          try clear hcz32_0
                          try clear hcz32_1
                          try clear hcz32_2
                          try clear hcz32_3
                          try clear hcz32_4
                          try clear hcz38_0
                          try clear hcz38_1
                          try clear hcz38_2
                          try clear hcz38_3
                          try clear hcz38_4
                          try clear hcz40_0
                          try clear hcz40_1
                          try clear hcz40_2
                          try clear hcz40_3
                          try clear hcz40_4
                          try clear hcz42_0
                          try clear hcz42_1
                          try clear hcz42_2
                          try clear hcz42_3
                          try clear hcz42_4
                          try clear hcz48_0
                          try clear hcz48_1
                          try clear hcz48_2
                          try clear hcz48_3
                          try clear hcz48_4
                          try clear hcz54_0
                          try clear hcz54_1
                          try clear hcz54_2
                          try clear hcz54_3
                          try clear hcz54_4
                          try clear hcz60_0
                          try clear hcz60_1
                          try clear hcz60_2
                          try clear hcz60_3
                          try clear hcz60_4
                          try clear hcz65_0
                          try clear hcz65_1
                          try clear hcz65_2
                          try clear hcz65_3
                          try clear hcz65_4
                          try clear hfz10_0
                          try clear hfz10_1
                          try clear hfz10_2
                          try clear hfz10_3
                          try clear hfz10_4
                          try clear hfz14_0
                          try clear hfz14_1
                          try clear hfz16_0
                          try clear hfz16_1
                          try clear hfz22_0
                          try clear hfz22_1
                          try clear hfz32_0
                          try clear hfz32_1
                          try clear hfz32_2
                          try clear hfz32_3
                          try clear hfz32_4
                          try clear hfz38_0
                          try clear hfz38_1
                          try clear hfz38_2
                          try clear hfz38_3
                          try clear hfz38_4
                          try clear hfz40_0
                          try clear hfz40_1
                          try clear hfz40_2
                          try clear hfz40_3
                          try clear hfz40_4
                          try clear hfz42_0
                          try clear hfz42_1
                          try clear hfz42_2
                          try clear hfz42_3
                          try clear hfz42_4
                          try clear hfz48_0
                          try clear hfz48_1
                          try clear hfz48_2
                          try clear hfz48_3
                          try clear hfz48_4
                          try clear hfz54_0
                          try clear hfz54_1
                          try clear hfz54_2
                          try clear hfz54_3
                          try clear hfz54_4
                          try clear hfz60_0
                          try clear hfz60_1
                          try clear hfz60_2
                          try clear hfz60_3
                          try clear hfz60_4
                          try clear hfz65_0
                          try clear hfz65_1
                          try clear hfz65_2
                          try clear hfz65_3
                          try clear hfz65_4
                          try clear hx402_0
                          try clear p2
                          try clear p402
                          try clear p6
                          try clear q402
                          obtain ⟨kq, x107_51, rfl, HA, HJ51, HO_12, HO_400004, HO_422004, BK390, BK399, BK421, HB⟩ := hcut
                          cases kq with
                          | zero => exact absurd HA.out (by simp [standbylaw33_ThrottleAccounts.j2])
                          | succ kj51 =>
                            have H := HA.out
                            clear HA
                            simp only [standbylaw33_ThrottleAccounts.j2] at H
                            by_cases c66 : x107_51 = true
                            · subst c66
                              have H1 : (some false) = some r := by rw [if_pos rfl] at H; exact H
                              clear H
                              have H := H1
                              clear H1
                              obtain rfl := Option.some.inj H
                              go_wp2
                              go_ret
                              exact ⟨by first | rfl | (simp [errW_none, errW_some] <;> rfl) | (simp [*, errW_none, errW_some] <;> rfl), by repeat (first | (with_reducible first | exact HB.out | apply below_alloc | apply pw_below_drewN | apply below_drew1 | refine below_set ?_ GE390.out | refine below_set ?_ GE399.out | refine below_set ?_ GE421.out) | exact HB.out)⟩
                            · replace c66 := Bool.eq_false_iff.mpr c66
                              subst c66
                              have H1 : (if t419 = 0 then (if x12_2.length < 8796093022208 then (standbylaw33_ThrottleAccounts.j3 kj51 (wrap64 (x9_2 + (Int.tmod x45_2 3))) (wrap64 (x10_2 + (wrap64 ((wrap64 (rd l2_1 x45_2)) + 1)))) x11_2 (x12_2 ++ [(⟨(wrap64 (x9_2 + (Int.tmod x45_2 3))), wrap64 (x10_2 + (wrap64 ((wrap64 (rd l2_1 x45_2)) + 1)))⟩ : S49)]) l2_1 (l2_1.length : Int) x45_2 t412 t413 t414 t415 t416) else (none)) else (standbylaw33_ThrottleAccounts.j3 kj51 (wrap64 (x9_2 + (Int.tmod x45_2 3))) x10_2 x11_2 x12_2 l2_1 (l2_1.length : Int) x45_2 t412 t413 t414 t415 t416)) = some r := by rw [if_neg (show ¬ (false = true) by decide)] at H; exact H
                              clear H
                              have H := H1
                              clear H1
                              by_cases c67 : t419 = 0
                              · rw [if_pos c67] at H
                                have c67b0 : (t419 == 0) = true := beq_iff_eq.mpr c67
                                have c67b1 : (t419 != 0) = false := bne_eq_false_iff_eq.mpr c67
                                clear c67
                                by_cases c68 : x12_2.length < 8796093022208
                                · rw [if_pos c68] at H
                                  have LMc68 := Aside0.mk c68
                                  clear c68
                                  obtain ⟨y422, hy422⟩ : ∃ y_ : List (S49), y_ = (x12_2 ++ [(⟨(wrap64 (x9_2 + (Int.tmod x45_2 3))), wrap64 (x10_2 + (wrap64 ((wrap64 (rd l2_1 x45_2)) + 1)))⟩ : S49)]) := ⟨_, rfl⟩
                                  replace H : (standbylaw33_ThrottleAccounts.j3 kj51 (wrap64 (x9_2 + (Int.tmod x45_2 3))) (wrap64 (x10_2 + (wrap64 ((wrap64 (rd l2_1 x45_2)) + 1)))) x11_2 y422 l2_1 (l2_1.length : Int) x45_2 t412 t413 t414 t415 t416) = some r := by first | (rw [hy422]; with_reducible exact H) | (have H2_ := (Option.bind_some _ _).symm.trans H; rw [hy422]; with_reducible exact H2_) | (have H2_ := (Option.bind_some _ _).symm.trans H; with_reducible exact H2_) | with_reducible exact H | (rw [hy422]; exact H) | exact H
                                  have Ny422 := Aside0.mk hy422
                                  clear hy422
                                  have H' := Aside0.mk H
                                  clear H
                                  have hnb69 := NB421_390.out
                                  have hnc69 := NB390_421.out
                                  have hnb70 := NB421_399.out
                                  have hnc70 := NB399_421.out
                                  have hcz71_0 : wc.cell? ⟨gb421, 0, none⟩ = some (.int .i64 t412) := (blk_cell BK421.out 0).trans rfl
                                  have hcz71_1 : wc.cell? ⟨gb421, 1, none⟩ = some (.int .i64 t413) := (blk_cell BK421.out 1).trans rfl
                                  have hcz71_2 : wc.cell? ⟨gb421, 2, none⟩ = some (.int .i64 t414) := (blk_cell BK421.out 2).trans rfl
                                  have hcz71_3 : wc.cell? ⟨gb421, 3, none⟩ = some (.int .i64 t415) := (blk_cell BK421.out 3).trans rfl
                                  have hcz71_4 : wc.cell? ⟨gb421, 4, none⟩ = some (.slice Ao61 t416.length co61) := (blk_cell BK421.out 4).trans rfl
                                  have hfz71_0 := blk_frozen BK421.out 0
                                  have hfz71_1 := blk_frozen BK421.out 1
                                  have hfz71_2 := blk_frozen BK421.out 2
                                  have hfz71_3 := blk_frozen BK421.out 3
                                  have hfz71_4 := blk_frozen BK421.out 4
                                  have hnb72 := NB399_390.out
                                  have hnc72 := NB390_399.out
                                  have hcz73_0 : wc.cell? ⟨gb399, 0, none⟩ = some (.int .i64 x400000_2) := (blk_cell BK399.out 0).trans rfl
                                  have hcz73_1 : wc.cell? ⟨gb399, 1, none⟩ = some (.int .i64 x400001_2) := (blk_cell BK399.out 1).trans rfl
                                  have hcz73_2 : wc.cell? ⟨gb399, 2, none⟩ = some (.int .i64 x400002_2) := (blk_cell BK399.out 2).trans rfl
                                  have hcz73_3 : wc.cell? ⟨gb399, 3, none⟩ = some (.int .i64 x400003_2) := (blk_cell BK399.out 3).trans rfl
                                  have hcz73_4 : wc.cell? ⟨gb399, 4, none⟩ = some (.slice Ao55 x400004_2.length co55) := (blk_cell BK399.out 4).trans rfl
                                  have hfz73_0 := blk_frozen BK399.out 0
                                  have hfz73_1 := blk_frozen BK399.out 1
                                  have hfz73_2 := blk_frozen BK399.out 2
                                  have hfz73_3 := blk_frozen BK399.out 3
                                  have hfz73_4 := blk_frozen BK399.out 4
                                  go_wp2_with (first | ((with_reducible refine gate_builtin (b := .append) (xs := #[.tmp 114, .tmp 118]) rfl ?_); at_builtin; refine Kd.R_append k49 (w0 := w) w.heap.size rfl (.tmp 114) (.tmp 118) 43 49 (.agg #[(.int .i64 0), (.int .i64 0)]) 16 rfl Try.underlying43 info49 rfl (by decide) (by omega) u12 x12_2 (⟨(wrap64 (x9_2 + (Int.tmod x45_2 3))), wrap64 (x10_2 + (wrap64 ((wrap64 (rd l2_1 x45_2)) + 1)))⟩ : S49) [.int .i64 (wrap64 (x9_2 + (Int.tmod x45_2 3))), .int .i64 (wrap64 (x10_2 + (wrap64 ((wrap64 (rd l2_1 x45_2)) + 1))))] (fun _ => True) (fun _ => False) rfl (by first | (go_simp; done) | (go_simp; rfl)) ?aP (fun _ hk => hk.elim) ?aF ?aO ?aB ?aS ?aL ?_; (case aP => exact k49_mkM _ _ _ (⟨(wrap64 (x9_2 + (Int.tmod x45_2 3))), wrap64 (x10_2 + (wrap64 ((wrap64 (rd l2_1 x45_2)) + 1)))⟩ : S49)); (case aB => exact (by repeat (first | (with_reducible first | exact HB.out | apply below_alloc | apply pw_below_drewN | apply below_drew1 | refine below_set ?_ GE390.out | refine below_set ?_ GE399.out | refine below_set ?_ GE421.out) | exact HB.out))); (case aF => exact (fun _ _ => trivial)); (case aO => exact (by (with_reducible repeat (first | apply Kd.R_alloc | apply Kd.R_drewN | apply Kd.R_drew)); exact Kd.R_mono (Kd.R_far (p := ⟨gb399, 4, none⟩) (Kd.R_far (p := ⟨gb399, 3, none⟩) (Kd.R_far (p := ⟨gb399, 2, none⟩) (Kd.R_far (p := ⟨gb399, 1, none⟩) (Kd.R_far (p := ⟨gb399, 0, none⟩) (Kd.R_types HO_12.out BK399.out (by decide)) (fun _ hk => hk.2) (.int .i64 t412)) (fun _ hk => hk.2) (.int .i64 t413)) (fun _ hk => hk.2) (.int .i64 t414)) (fun _ hk => hk.2) (.int .i64 t415)) (fun _ hk => hk.2) (.slice Ao61 t416.length co61)) (fun _ hk => trivial))); (case aS => exact (below_size (by repeat (first | (with_reducible first | exact HB.out | apply below_alloc | apply pw_below_drewN | apply below_drew1 | refine below_set ?_ GE390.out | refine below_set ?_ GE399.out | refine below_set ?_ GE421.out) | exact HB.out)))); (case aL => have := LMc68.out; omega); intro v423 w74 ho hb hg hat; rw [← Ny422.out] at ho; have n0_ := Aside0.mk (Kd.Q_over' (by (with_reducible repeat (first | apply Kd.Q_alloc | apply Kd.Q_drewN | apply Kd.Q_drew)); exact (Kd.Q_mono (Kd.Q_far (p := ⟨gb399, 4, none⟩) (Kd.Q_far (p := ⟨gb399, 3, none⟩) (Kd.Q_far (p := ⟨gb399, 2, none⟩) (Kd.Q_far (p := ⟨gb399, 1, none⟩) (Kd.Q_far (p := ⟨gb399, 0, none⟩) (Kd.Q_types HO_400004.out BK399.out (by decide)) (fun _ hk => hk.2) (.int .i64 t412)) (fun _ hk => hk.2) (.int .i64 t413)) (fun _ hk => hk.2) (.int .i64 t414)) (fun _ hk => hk.2) (.int .i64 t415)) (fun _ hk => hk.2) (.slice Ao61 t416.length co61)) (fun _ h_ => h_.1))) (Kd.R_typed (by (with_reducible repeat (first | apply Kd.R_alloc | apply Kd.R_drewN | apply Kd.R_drew)); exact (Kd.R_mono (Kd.R_far (p := ⟨gb399, 4, none⟩) (Kd.R_far (p := ⟨gb399, 3, none⟩) (Kd.R_far (p := ⟨gb399, 2, none⟩) (Kd.R_far (p := ⟨gb399, 1, none⟩) (Kd.R_far (p := ⟨gb399, 0, none⟩) (Kd.R_types HO_12.out BK399.out (by decide)) (fun _ hk => hk.2) (.int .i64 t412)) (fun _ hk => hk.2) (.int .i64 t413)) (fun _ hk => hk.2) (.int .i64 t414)) (fun _ hk => hk.2) (.int .i64 t415)) (fun _ hk => hk.2) (.slice Ao61 t416.length co61)) (fun _ h_ => h_.1)))) (by decide) hg); have n1_ := Aside0.mk (Kd.Q_over' (by (with_reducible repeat (first | apply Kd.Q_alloc | apply Kd.Q_drewN | apply Kd.Q_drew)); exact (Kd.Q_mono (Kd.Q_far (p := ⟨gb399, 4, none⟩) (Kd.Q_far (p := ⟨gb399, 3, none⟩) (Kd.Q_far (p := ⟨gb399, 2, none⟩) (Kd.Q_far (p := ⟨gb399, 1, none⟩) (Kd.Q_far (p := ⟨gb399, 0, none⟩) (Kd.Q_types HO_422004.out BK399.out (by decide)) (fun _ hk => hk.2) (.int .i64 t412)) (fun _ hk => hk.2) (.int .i64 t413)) (fun _ hk => hk.2) (.int .i64 t414)) (fun _ hk => hk.2) (.int .i64 t415)) (fun _ hk => hk.2) (.slice Ao61 t416.length co61)) (fun _ h_ => h_.1))) (Kd.R_typed (by (with_reducible repeat (first | apply Kd.R_alloc | apply Kd.R_drewN | apply Kd.R_drew)); exact (Kd.R_mono (Kd.R_far (p := ⟨gb399, 4, none⟩) (Kd.R_far (p := ⟨gb399, 3, none⟩) (Kd.R_far (p := ⟨gb399, 2, none⟩) (Kd.R_far (p := ⟨gb399, 1, none⟩) (Kd.R_far (p := ⟨gb399, 0, none⟩) (Kd.R_types HO_12.out BK399.out (by decide)) (fun _ hk => hk.2) (.int .i64 t412)) (fun _ hk => hk.2) (.int .i64 t413)) (fun _ hk => hk.2) (.int .i64 t414)) (fun _ hk => hk.2) (.int .i64 t415)) (fun _ hk => hk.2) (.slice Ao61 t416.length co61)) (fun _ h_ => h_.1)))) (by decide) hg); have n2_ := Aside0.mk (blk_grown (g := gb390) (o := .cells #[.int .u8 a2_0, .slice (some ad402) l2_1.length c2_1] 55 (0, 0)) (by (with_reducible repeat (first | refine blk_drewN ?_ _ | refine blk_drew ?_ | refine blk_alloc ?_ _)); refine blk_far ?_ NB390_399.out _; (with_reducible repeat (first | refine blk_drewN ?_ _ | refine blk_drew ?_ | refine blk_alloc ?_ _)); refine blk_far ?_ NB390_399.out _; (with_reducible repeat (first | refine blk_drewN ?_ _ | refine blk_drew ?_ | refine blk_alloc ?_ _)); refine blk_far ?_ NB390_399.out _; (with_reducible repeat (first | refine blk_drewN ?_ _ | refine blk_drew ?_ | refine blk_alloc ?_ _)); refine blk_far ?_ NB390_399.out _; (with_reducible repeat (first | refine blk_drewN ?_ _ | refine blk_drew ?_ | refine blk_alloc ?_ _)); refine blk_far ?_ NB390_399.out _; (with_reducible repeat (first | refine blk_drewN ?_ _ | refine blk_drew ?_ | refine blk_alloc ?_ _)); exact BK390.out) hg (Kd.R_ne HO_12.out BK390.out (by decide))); have n3_ := Aside0.mk (blk_grown (g := gb399) (o := .cells #[.int .i64 t412, .int .i64 t413, .int .i64 t414, .int .i64 t415, .slice Ao61 t416.length co61] 24 (0, 0)) (by (with_reducible repeat (first | refine blk_drewN ?_ _ | refine blk_drew ?_ | refine blk_alloc ?_ _)); refine blk_put (cs := #[.int .i64 t412, .int .i64 t413, .int .i64 t414, .int .i64 t415, .slice Ao55 x400004_2.length co55]) ?_ 4 _ rfl; (with_reducible repeat (first | refine blk_drewN ?_ _ | refine blk_drew ?_ | refine blk_alloc ?_ _)); refine blk_put (cs := #[.int .i64 t412, .int .i64 t413, .int .i64 t414, .int .i64 x400003_2, .slice Ao55 x400004_2.length co55]) ?_ 3 _ rfl; (with_reducible repeat (first | refine blk_drewN ?_ _ | refine blk_drew ?_ | refine blk_alloc ?_ _)); refine blk_put (cs := #[.int .i64 t412, .int .i64 t413, .int .i64 x400002_2, .int .i64 x400003_2, .slice Ao55 x400004_2.length co55]) ?_ 2 _ rfl; (with_reducible repeat (first | refine blk_drewN ?_ _ | refine blk_drew ?_ | refine blk_alloc ?_ _)); refine blk_put (cs := #[.int .i64 t412, .int .i64 x400001_2, .int .i64 x400002_2, .int .i64 x400003_2, .slice Ao55 x400004_2.length co55]) ?_ 1 _ rfl; (with_reducible repeat (first | refine blk_drewN ?_ _ | refine blk_drew ?_ | refine blk_alloc ?_ _)); refine blk_put (cs := #[.int .i64 x400000_2, .int .i64 x400001_2, .int .i64 x400002_2, .int .i64 x400003_2, .slice Ao55 x400004_2.length co55]) ?_ 0 _ rfl; (with_reducible repeat (first | refine blk_drewN ?_ _ | refine blk_drew ?_ | refine blk_alloc ?_ _)); exact BK399.out) hg (Kd.R_ne HO_12.out BK399.out (by decide))); have n4_ := Aside0.mk (blk_grown (g := gb421) (o := .cells #[.int .i64 t412, .int .i64 t413, .int .i64 t414, .int .i64 t415, .slice Ao61 t416.length co61] 24 (0, 0)) (by (with_reducible repeat (first | refine blk_drewN ?_ _ | refine blk_drew ?_ | refine blk_alloc ?_ _)); refine blk_far ?_ NB421_399.out _; (with_reducible repeat (first | refine blk_drewN ?_ _ | refine blk_drew ?_ | refine blk_alloc ?_ _)); refine blk_far ?_ NB421_399.out _; (with_reducible repeat (first | refine blk_drewN ?_ _ | refine blk_drew ?_ | refine blk_alloc ?_ _)); refine blk_far ?_ NB421_399.out _; (with_reducible repeat (first | refine blk_drewN ?_ _ | refine blk_drew ?_ | refine blk_alloc ?_ _)); refine blk_far ?_ NB421_399.out _; (with_reducible repeat (first | refine blk_drewN ?_ _ | refine blk_drew ?_ | refine blk_alloc ?_ _)); refine blk_far ?_ NB421_399.out _; (with_reducible repeat (first | refine blk_drewN ?_ _ | refine blk_drew ?_ | refine blk_alloc ?_ _)); exact BK421.out) hg (Kd.R_ne HO_12.out BK421.out (by decide))); have n5_ := Aside0.mk (hb); have n6_ := Aside0.mk (ho); clear HO_400004; clear HO_422004; clear BK390; clear BK399; clear BK421; clear HB; clear HO_12; have HO_400004 := n0_; have HO_422004 := n1_; have BK390 := n2_; have BK399 := n3_; have BK421 := n4_; have HB := n5_; have HO424 := n6_; clear n0_ n1_ n2_ n3_ n4_ n5_ n6_; clear ho hb hg hat))
                                  go_meet
                                  case rel => exact ⟨_, (wrap64 (x10_2 + (wrap64 ((wrap64 (rd l2_1 x45_2)) + 1)))), (x11_2), (y422), (t412), (t413), (t414), (t415), (t416), (.slice Ao61 t416.length co61), (by first | rfl | (simp; done) | (simp [*]; done)), (by first | rfl | (simp; done) | (simp [*]; done)), H', ⟨by have := HJ4.out; have := HK2.out; have := HJ51.out; first | omega | exact Nat.le_refl _⟩, ⟨by (with_reducible repeat (first | apply Kd.R_alloc | apply Kd.R_drewN | apply Kd.R_drew)); exact HO424.out⟩, ⟨by (with_reducible repeat (first | apply Kd.Q_alloc | apply Kd.Q_drewN | apply Kd.Q_drew)); exact Kd.Q_mono HO_422004.out (fun _ hk => trivial)⟩, ⟨by (with_reducible repeat (first | refine blk_drewN ?_ _ | refine blk_drew ?_ | refine blk_alloc ?_ _)); exact BK390.out⟩, ⟨by (with_reducible repeat (first | refine blk_drewN ?_ _ | refine blk_drew ?_ | refine blk_alloc ?_ _)); exact BK399.out⟩, ⟨by repeat (first | (with_reducible first | exact HB.out | apply below_alloc | apply pw_below_drewN | apply below_drew1 | refine below_set ?_ GE390.out | refine below_set ?_ GE399.out | refine below_set ?_ GE421.out) | exact HB.out)⟩⟩
                                · rw [if_neg c68] at H
                                  exact absurd H (by simp)
                              · rw [if_neg c67] at H
                                have c67b0 : (t419 == 0) = false := beq_eq_false_iff_ne.mpr c67
                                have c67b1 : (t419 != 0) = true := bne_iff_ne.mpr c67
                                have H' := Aside0.mk H
                                clear H
                                have hnb75 := NB421_390.out
                                have hnc75 := NB390_421.out
                                have hnb76 := NB421_399.out
                                have hnc76 := NB399_421.out
                                have hcz77_0 : wc.cell? ⟨gb421, 0, none⟩ = some (.int .i64 t412) := (blk_cell BK421.out 0).trans rfl
                                have hcz77_1 : wc.cell? ⟨gb421, 1, none⟩ = some (.int .i64 t413) := (blk_cell BK421.out 1).trans rfl
                                have hcz77_2 : wc.cell? ⟨gb421, 2, none⟩ = some (.int .i64 t414) := (blk_cell BK421.out 2).trans rfl
                                have hcz77_3 : wc.cell? ⟨gb421, 3, none⟩ = some (.int .i64 t415) := (blk_cell BK421.out 3).trans rfl
                                have hcz77_4 : wc.cell? ⟨gb421, 4, none⟩ = some (.slice Ao61 t416.length co61) := (blk_cell BK421.out 4).trans rfl
                                have hfz77_0 := blk_frozen BK421.out 0
                                have hfz77_1 := blk_frozen BK421.out 1
                                have hfz77_2 := blk_frozen BK421.out 2
                                have hfz77_3 := blk_frozen BK421.out 3
                                have hfz77_4 := blk_frozen BK421.out 4
                                have hnb78 := NB399_390.out
                                have hnc78 := NB390_399.out
                                have hcz79_0 : wc.cell? ⟨gb399, 0, none⟩ = some (.int .i64 x400000_2) := (blk_cell BK399.out 0).trans rfl
                                have hcz79_1 : wc.cell? ⟨gb399, 1, none⟩ = some (.int .i64 x400001_2) := (blk_cell BK399.out 1).trans rfl
                                have hcz79_2 : wc.cell? ⟨gb399, 2, none⟩ = some (.int .i64 x400002_2) := (blk_cell BK399.out 2).trans rfl
                                have hcz79_3 : wc.cell? ⟨gb399, 3, none⟩ = some (.int .i64 x400003_2) := (blk_cell BK399.out 3).trans rfl
                                have hcz79_4 : wc.cell? ⟨gb399, 4, none⟩ = some (.slice Ao55 x400004_2.length co55) := (blk_cell BK399.out 4).trans rfl
                                have hfz79_0 := blk_frozen BK399.out 0
                                have hfz79_1 := blk_frozen BK399.out 1
                                have hfz79_2 := blk_frozen BK399.out 2
                                have hfz79_3 := blk_frozen BK399.out 3
                                have hfz79_4 := blk_frozen BK399.out 4
                                go_wp2
                                go_meet
                                case rel => exact ⟨_, (x10_2), (x11_2), (x12_2), (t412), (t413), (t414), (t415), (t416), (.slice Ao61 t416.length co61), (by first | rfl | (simp; done) | (simp [*]; done)), (by first | rfl | (simp; done) | (simp [*]; done)), H', ⟨by have := HJ4.out; have := HK2.out; have := HJ51.out; first | omega | exact Nat.le_refl _⟩, ⟨by (with_reducible repeat (first | apply Kd.R_alloc | apply Kd.R_drewN | apply Kd.R_drew)); exact Kd.R_mono (Kd.R_far (p := ⟨gb399, 4, none⟩) (Kd.R_far (p := ⟨gb399, 3, none⟩) (Kd.R_far (p := ⟨gb399, 2, none⟩) (Kd.R_far (p := ⟨gb399, 1, none⟩) (Kd.R_far (p := ⟨gb399, 0, none⟩) (Kd.R_types HO_12.out BK399.out (by decide)) (fun _ hk => hk.2) (.int .i64 t412)) (fun _ hk => hk.2) (.int .i64 t413)) (fun _ hk => hk.2) (.int .i64 t414)) (fun _ hk => hk.2) (.int .i64 t415)) (fun _ hk => hk.2) (.slice Ao61 t416.length co61)) (fun _ hk => trivial)⟩, ⟨by (with_reducible repeat (first | apply Kd.Q_alloc | apply Kd.Q_drewN | apply Kd.Q_drew)); exact Kd.Q_mono (Kd.Q_far (p := ⟨gb399, 4, none⟩) (Kd.Q_far (p := ⟨gb399, 3, none⟩) (Kd.Q_far (p := ⟨gb399, 2, none⟩) (Kd.Q_far (p := ⟨gb399, 1, none⟩) (Kd.Q_far (p := ⟨gb399, 0, none⟩) (Kd.Q_types HO_422004.out BK399.out (by decide)) (fun _ hk => hk.2) (.int .i64 t412)) (fun _ hk => hk.2) (.int .i64 t413)) (fun _ hk => hk.2) (.int .i64 t414)) (fun _ hk => hk.2) (.int .i64 t415)) (fun _ hk => hk.2) (.slice Ao61 t416.length co61)) (fun _ hk => trivial)⟩, ⟨by (with_reducible repeat (first | refine blk_drewN ?_ _ | refine blk_drew ?_ | refine blk_alloc ?_ _)); refine blk_far ?_ NB390_399.out _; (with_reducible repeat (first | refine blk_drewN ?_ _ | refine blk_drew ?_ | refine blk_alloc ?_ _)); refine blk_far ?_ NB390_399.out _; (with_reducible repeat (first | refine blk_drewN ?_ _ | refine blk_drew ?_ | refine blk_alloc ?_ _)); refine blk_far ?_ NB390_399.out _; (with_reducible repeat (first | refine blk_drewN ?_ _ | refine blk_drew ?_ | refine blk_alloc ?_ _)); refine blk_far ?_ NB390_399.out _; (with_reducible repeat (first | refine blk_drewN ?_ _ | refine blk_drew ?_ | refine blk_alloc ?_ _)); refine blk_far ?_ NB390_399.out _; (with_reducible repeat (first | refine blk_drewN ?_ _ | refine blk_drew ?_ | refine blk_alloc ?_ _)); exact BK390.out⟩, ⟨by (with_reducible repeat (first | refine blk_drewN ?_ _ | refine blk_drew ?_ | refine blk_alloc ?_ _)); refine blk_put (cs := #[.int .i64 t412, .int .i64 t413, .int .i64 t414, .int .i64 t415, .slice Ao55 x400004_2.length co55]) ?_ 4 _ rfl; (with_reducible repeat (first | refine blk_drewN ?_ _ | refine blk_drew ?_ | refine blk_alloc ?_ _)); refine blk_put (cs := #[.int .i64 t412, .int .i64 t413, .int .i64 t414, .int .i64 x400003_2, .slice Ao55 x400004_2.length co55]) ?_ 3 _ rfl; (with_reducible repeat (first | refine blk_drewN ?_ _ | refine blk_drew ?_ | refine blk_alloc ?_ _)); refine blk_put (cs := #[.int .i64 t412, .int .i64 t413, .int .i64 x400002_2, .int .i64 x400003_2, .slice Ao55 x400004_2.length co55]) ?_ 2 _ rfl; (with_reducible repeat (first | refine blk_drewN ?_ _ | refine blk_drew ?_ | refine blk_alloc ?_ _)); refine blk_put (cs := #[.int .i64 t412, .int .i64 x400001_2, .int .i64 x400002_2, .int .i64 x400003_2, .slice Ao55 x400004_2.length co55]) ?_ 1 _ rfl; (with_reducible repeat (first | refine blk_drewN ?_ _ | refine blk_drew ?_ | refine blk_alloc ?_ _)); refine blk_put (cs := #[.int .i64 x400000_2, .int .i64 x400001_2, .int .i64 x400002_2, .int .i64 x400003_2, .slice Ao55 x400004_2.length co55]) ?_ 0 _ rfl; (with_reducible repeat (first | refine blk_drewN ?_ _ | refine blk_drew ?_ | refine blk_alloc ?_ _)); exact BK399.out⟩, ⟨by repeat (first | (with_reducible first | exact HB.out | apply below_alloc | apply pw_below_drewN | apply below_drew1 | refine below_set ?_ GE390.out | refine below_set ?_ GE399.out | refine below_set ?_ GE421.out) | exact HB.out)⟩⟩
                      · rw [if_neg c50] at H
                        have c50b0 : decide ((wrap64 ((wrap64 (rd l2_1 x45_2)) + 1)) ≤ (wrap64 (x400001_2 * x400000_2))) = false := decide_eq_false c50
                        clear c50
                        have H' := Aside0.mk H
                        clear H
                        have hnb80 := NB399_390.out
                        have hnc80 := NB390_399.out
                        have hcz81_0 : wr.cell? ⟨gb399, 0, none⟩ = some (.int .i64 x400000_2) := (blk_cell BK399.out 0).trans rfl
                        have hcz81_1 : wr.cell? ⟨gb399, 1, none⟩ = some (.int .i64 x400001_2) := (blk_cell BK399.out 1).trans rfl
                        have hcz81_2 : wr.cell? ⟨gb399, 2, none⟩ = some (.int .i64 x400002_2) := (blk_cell BK399.out 2).trans rfl
                        have hcz81_3 : wr.cell? ⟨gb399, 3, none⟩ = some (.int .i64 x400003_2) := (blk_cell BK399.out 3).trans rfl
                        have hcz81_4 : wr.cell? ⟨gb399, 4, none⟩ = some (u400004) := (blk_cell BK399.out 4).trans rfl
                        have hfz81_0 := blk_frozen BK399.out 0
                        have hfz81_1 := blk_frozen BK399.out 1
                        have hfz81_2 := blk_frozen BK399.out 2
                        have hfz81_3 := blk_frozen BK399.out 3
                        have hfz81_4 := blk_frozen BK399.out 4
                        go_wp2
                        go_meet
                        case rel => exact ⟨_, (x10_2), (x11_2), (x12_2), (x400000_2), (x400001_2), (x400002_2), (x400003_2), (x400004_2), (u400004), (by first | rfl | (simp; done) | (simp [*]; done)), (by first | rfl | (simp; done) | (simp [*]; done)), H', ⟨by have := HJ4.out; have := HK2.out; first | omega | exact Nat.le_refl _⟩, ⟨by (with_reducible repeat (first | apply Kd.R_alloc | apply Kd.R_drewN | apply Kd.R_drew)); exact HO_12.out⟩, ⟨by (with_reducible repeat (first | apply Kd.Q_alloc | apply Kd.Q_drewN | apply Kd.Q_drew)); exact HO_400004.out⟩, ⟨by (with_reducible repeat (first | refine blk_drewN ?_ _ | refine blk_drew ?_ | refine blk_alloc ?_ _)); exact BK390.out⟩, ⟨by (with_reducible repeat (first | refine blk_drewN ?_ _ | refine blk_drew ?_ | refine blk_alloc ?_ _)); exact BK399.out⟩, ⟨by repeat (first | (with_reducible first | exact HB.out | apply below_alloc | apply pw_below_drewN | apply below_drew1 | refine below_set ?_ GE390.out | refine below_set ?_ GE399.out) | exact HB.out)⟩⟩
                  case rest =>
                    clear HC26
                    try clear c1
                    try clear c2
                    try clear p2
                    try clear c3
                    try clear c4
                    try clear p4
                    try clear q4
                    try clear hx4
                    try clear c5
                    try clear c6
                    try clear p6
                    try clear c7
                    try clear c8
                    try clear c9
                    try clear c12
                    try clear c12b0
                    try clear c12b1
                    try clear c13
                    try clear c15
                    try clear c16
                    try clear c17
                    try clear c18
                    try clear c19
                    try clear c21
                    try clear c23
                    try clear c23b0
                    try clear c24
                    try clear c24b0
                    try clear c25
                    try clear c25b0
                    try clear c27
                    try clear c27b0
                    try clear c30
                    try clear c30b0
                    try clear c30b1
                    try clear c31
                    try clear c36
                    try clear c37
                    try clear p40
                    try clear q40
                    try clear hx40
                    try clear c41
                    try clear c46
                    try clear c47
                    try clear c50
                    try clear c50b0
                    try clear c53
                    try clear c58
                    try clear c59
                    try clear c62
                    try clear c62b0
                    try clear c62b1
                    try clear c63
                    try clear c64
                    try clear p64
                    try clear c66
                    try clear c67
                    try clear c67b0
                    try clear c67b1
                    try clear c68
                    try clear c69
                    try clear c70
                    try clear c72
                    try clear c75
                    try clear c76
                    try clear c78
                    try clear c80
                    try clear hcz10_0
                    try clear hcz10_1
                    try clear hcz10_2
                    try clear hcz10_3
                    try clear hcz10_4
                    try clear hcz14_0
                    try clear hcz14_1
                    try clear hcz16_0
                    try clear hcz16_1
                    try clear hcz22_0
                    try clear hcz22_1
                    try clear hcz32_0
                    try clear hcz32_1
                    try clear hcz32_2
                    try clear hcz32_3
                    try clear hcz32_4
                    try clear hcz38_0
                    try clear hcz38_1
                    try clear hcz38_2
                    try clear hcz38_3
                    try clear hcz38_4
                    try clear hcz40_0
                    try clear hcz40_1
                    try clear hcz40_2
                    try clear hcz40_3
                    try clear hcz40_4
                    try clear hcz42_0
                    try clear hcz42_1
                    try clear hcz42_2
                    try clear hcz42_3
                    try clear hcz42_4
                    try clear hcz48_0
                    try clear hcz48_1
                    try clear hcz48_2
                    try clear hcz48_3
                    try clear hcz48_4
                    try clear hcz54_0
                    try clear hcz54_1
                    try clear hcz54_2
                    try clear hcz54_3
                    try clear hcz54_4
                    try clear hcz60_0
                    try clear hcz60_1
                    try clear hcz60_2
                    try clear hcz60_3
                    try clear hcz60_4
                    try clear hcz65_0
                    try clear hcz65_1
                    try clear hcz65_2
                    try clear hcz65_3
                    try clear hcz65_4
                    try clear hcz71_0
                    try clear hcz71_1
                    try clear hcz71_2
                    try clear hcz71_3
                    try clear hcz71_4
                    try clear hcz73_0
                    try clear hcz73_1
                    try clear hcz73_2
                    try clear hcz73_3
                    try clear hcz73_4
                    try clear hcz77_0
                    try clear hcz77_1
                    try clear hcz77_2
                    try clear hcz77_3
                    try clear hcz77_4
                    try clear hcz79_0
                    try clear hcz79_1
                    try clear hcz79_2
                    try clear hcz79_3
                    try clear hcz79_4
                    try clear hcz81_0
                    try clear hcz81_1
                    try clear hcz81_2
                    try clear hcz81_3
                    try clear hcz81_4
                    try clear hfz10_0
                    try clear hfz10_1
                    try clear hfz10_2
                    try clear hfz10_3
                    try clear hfz10_4
                    try clear hfz14_0
                    try clear hfz14_1
                    try clear hfz16_0
                    try clear hfz16_1
                    try clear hfz22_0
                    try clear hfz22_1
                    try clear hfz32_0
                    try clear hfz32_1
                    try clear hfz32_2
                    try clear hfz32_3
                    try clear hfz32_4
                    try clear hfz38_0
                    try clear hfz38_1
                    try clear hfz38_2
                    try clear hfz38_3
                    try clear hfz38_4
                    try clear hfz40_0
                    try clear hfz40_1
                    try clear hfz40_2
                    try clear hfz40_3
                    try clear hfz40_4
                    try clear hfz42_0
                    try clear hfz42_1
                    try clear hfz42_2
                    try clear hfz42_3
                    try clear hfz42_4
                    try clear hfz48_0
                    try clear hfz48_1
                    try clear hfz48_2
                    try clear hfz48_3
                    try clear hfz48_4
                    try clear hfz54_0
                    try clear hfz54_1
                    try clear hfz54_2
                    try clear hfz54_3
                    try clear hfz54_4
                    try clear hfz60_0
                    try clear hfz60_1
                    try clear hfz60_2
                    try clear hfz60_3
                    try clear hfz60_4
                    try clear hfz65_0
                    try clear hfz65_1
                    try clear hfz65_2
                    try clear hfz65_3
                    try clear hfz65_4
                    try clear hfz71_0
                    try clear hfz71_1
                    try clear hfz71_2
                    try clear hfz71_3
                    try clear hfz71_4
                    try clear hfz73_0
                    try clear hfz73_1
                    try clear hfz73_2
                    try clear hfz73_3
                    try clear hfz73_4
                    try clear hfz77_0
                    try clear hfz77_1
                    try clear hfz77_2
                    try clear hfz77_3
                    try clear hfz77_4
                    try clear hfz79_0
                    try clear hfz79_1
                    try clear hfz79_2
                    try clear hfz79_3
                    try clear hfz79_4
                    try clear hfz81_0
                    try clear hfz81_1
                    try clear hfz81_2
                    try clear hfz81_3
                    try clear hfz81_4
                    try clear hx402_0
                    try clear p2
                    try clear p4
                    try clear p40
                    try clear p402
                    try clear p6
                    try clear p64
                    try clear q4
                    try clear q40
                    try clear q402
                    obtain ⟨kq, x10_25, x11_25, x12_25, x400000_25, x400001_25, x400002_25, x400003_25, x400004_25, u400004, rfl, rfl, HA, HJ25, HO_12, HO_400004, BK390, BK399, HB⟩ := hcut
                    cases kq with
                    | zero => exact absurd HA.out (by simp [standbylaw33_ThrottleAccounts.j3])
                    | succ kj25 =>
                      have H := HA.out
                      clear HA
                      simp only [standbylaw33_ThrottleAccounts.j3] at H
                      replace H := Option.bind_eq_some_iff.mp H
                      obtain ⟨t425, A820, H⟩ := H
                      replace H : (if t425 = 0 then ((throttle_Backlog.f kj25 x400000_25 x400001_25 x400002_25 x400003_25 x400004_25).bind fun t426 => (if t426 = (wrap64 (x10_25 - x11_25)) then ((throttle_Age.f kj25 x400000_25 x400001_25 x400002_25 x400003_25 x400004_25 (wrap64 ((wrap64 (x9_2 + (Int.tmod x45_2 3))) + 5))).bind fun t427 => ((standbylaw33_oldest.f kj25 x12_25 x11_25 (wrap64 ((wrap64 (x9_2 + (Int.tmod x45_2 3))) + 5))).bind fun t428 => (if t427 = t428 then (standbylaw33_ThrottleAccounts.l0 kj25 (wrap64 (x9_2 + (Int.tmod x45_2 3))) x10_25 x11_25 x12_25 l2_1 (l2_1.length : Int) (wrap64 (x45_2 + 1)) x400000_25 x400001_25 x400002_25 x400003_25 x400004_25) else (some false)))) else (some false))) else (some false)) = some r := H
                      have A82 := Aside0.mk A820
                      clear A820
                      by_cases c83 : t425 = 0
                      · rw [if_pos c83] at H
                        have c83b0 : (t425 == 0) = true := beq_iff_eq.mpr c83
                        have c83b1 : (t425 != 0) = false := bne_eq_false_iff_eq.mpr c83
                        clear c83
                        replace H := Option.bind_eq_some_iff.mp H
                        obtain ⟨t426, A840, H⟩ := H
                        replace H : (if t426 = (wrap64 (x10_25 - x11_25)) then ((throttle_Age.f kj25 x400000_25 x400001_25 x400002_25 x400003_25 x400004_25 (wrap64 ((wrap64 (x9_2 + (Int.tmod x45_2 3))) + 5))).bind fun t427 => ((standbylaw33_oldest.f kj25 x12_25 x11_25 (wrap64 ((wrap64 (x9_2 + (Int.tmod x45_2 3))) + 5))).bind fun t428 => (if t427 = t428 then (standbylaw33_ThrottleAccounts.l0 kj25 (wrap64 (x9_2 + (Int.tmod x45_2 3))) x10_25 x11_25 x12_25 l2_1 (l2_1.length : Int) (wrap64 (x45_2 + 1)) x400000_25 x400001_25 x400002_25 x400003_25 x400004_25) else (some false)))) else (some false)) = some r := H
                        have A84 := Aside0.mk A840
                        clear A840
                        by_cases c85 : t426 = (wrap64 (x10_25 - x11_25))
                        · rw [if_pos c85] at H
                          have c85b0 : (t426 == (wrap64 (x10_25 - x11_25))) = true := beq_iff_eq.mpr c85
                          have c85b1 : (t426 != (wrap64 (x10_25 - x11_25))) = false := bne_eq_false_iff_eq.mpr c85
                          clear c85
                          replace H := Option.bind_eq_some_iff.mp H
                          obtain ⟨t427, A860, H⟩ := H
                          replace H : ((standbylaw33_oldest.f kj25 x12_25 x11_25 (wrap64 ((wrap64 (x9_2 + (Int.tmod x45_2 3))) + 5))).bind fun t428 => (if t427 = t428 then (standbylaw33_ThrottleAccounts.l0 kj25 (wrap64 (x9_2 + (Int.tmod x45_2 3))) x10_25 x11_25 x12_25 l2_1 (l2_1.length : Int) (wrap64 (x45_2 + 1)) x400000_25 x400001_25 x400002_25 x400003_25 x400004_25) else (some false))) = some r := H
                          have A86 := Aside0.mk A860
                          clear A860
                          replace H := Option.bind_eq_some_iff.mp H
                          obtain ⟨t428, A870, H⟩ := H
                          replace H : (if t427 = t428 then (standbylaw33_ThrottleAccounts.l0 kj25 (wrap64 (x9_2 + (Int.tmod x45_2 3))) x10_25 x11_25 x12_25 l2_1 (l2_1.length : Int) (wrap64 (x45_2 + 1)) x400000_25 x400001_25 x400002_25 x400003_25 x400004_25) else (some false)) = some r := H
                          have A87 := Aside0.mk A870
                          clear A870
                          by_cases c88 : t427 = t428
                          · rw [if_pos c88] at H
                            have c88b0 : (t427 == t428) = true := beq_iff_eq.mpr c88
                            have c88b1 : (t427 != t428) = false := bne_eq_false_iff_eq.mpr c88
                            clear c88
                            have H' := Aside0.mk H
                            clear H
                            have hnb89 := NB399_390.out
                            have hnc89 := NB390_399.out
                            have hcz90_0 : wc.cell? ⟨gb399, 0, none⟩ = some (.int .i64 x400000_25) := (blk_cell BK399.out 0).trans rfl
                            have hcz90_1 : wc.cell? ⟨gb399, 1, none⟩ = some (.int .i64 x400001_25) := (blk_cell BK399.out 1).trans rfl
                            have hcz90_2 : wc.cell? ⟨gb399, 2, none⟩ = some (.int .i64 x400002_25) := (blk_cell BK399.out 2).trans rfl
                            have hcz90_3 : wc.cell? ⟨gb399, 3, none⟩ = some (.int .i64 x400003_25) := (blk_cell BK399.out 3).trans rfl
                            have hcz90_4 : wc.cell? ⟨gb399, 4, none⟩ = some (u400004) := (blk_cell BK399.out 4).trans rfl
                            have hfz90_0 := blk_frozen BK399.out 0
                            have hfz90_1 := blk_frozen BK399.out 1
                            have hfz90_2 := blk_frozen BK399.out 2
                            have hfz90_3 := blk_frozen BK399.out 3
                            have hfz90_4 := blk_frozen BK399.out 4
                            obtain ⟨Ao91, co91, eo91, _⟩ := Kd.Q_slice HO_400004.out
                            subst eo91
                            go_wp2_with (first | ((with_reducible refine gate_callee (f := 14) rfl ?_); refine goesL_ (some 121) rfl rfl Try.func14 (by kernel_rfl) rfl #[.agg #[.int .i64 x400000_25, .int .i64 x400001_25, .int .i64 x400002_25, .int .i64 x400003_25, .slice Ao91 x400004_25.length co91]] rfl (by (try simp only [List.map_toArray, List.map_cons, List.map_nil]); first | done | rfl | (simp only [List.length_drop, List.length_take]; rfl)) ?_; (with_reducible refine (throttle_Check.calls kj25 x400000_25 x400001_25 x400002_25 x400003_25 _ _ x400004_25 t425 _ ?side1 ?side2 A82.out).mono ?_); (case side1 => repeat (first | exact (Kd.Q_reads' HO_400004.out).2.2 | (with_reducible refine Kd.C_alloc ?_ _) | (with_reducible refine Kd.C_drewN ?_ _) | (with_reducible refine Kd.C_drew ?_))); (case side2 => exact (Kd.Q_reads' HO_400004.out).2.1); rintro e w92 ⟨rfl, hb⟩; refine ⟨_, rfl, ?_⟩; have n0_ := Aside0.mk (Kd.R_below (by (with_reducible repeat (first | apply Kd.R_alloc | apply Kd.R_drewN | apply Kd.R_drew)); exact HO_12.out) hb); have n1_ := Aside0.mk (Kd.Q_below (by (with_reducible repeat (first | apply Kd.Q_alloc | apply Kd.Q_drewN | apply Kd.Q_drew)); exact HO_400004.out) hb); have n2_ := Aside0.mk (blk_below (g := gb390) (o := .cells #[.int .u8 a2_0, .slice (some ad402) l2_1.length c2_1] 55 (0, 0)) (by (with_reducible repeat (first | refine blk_drewN ?_ _ | refine blk_drew ?_ | refine blk_alloc ?_ _)); exact BK390.out) hb); have n3_ := Aside0.mk (blk_below (g := gb399) (o := .cells #[.int .i64 x400000_25, .int .i64 x400001_25, .int .i64 x400002_25, .int .i64 x400003_25, .slice Ao91 x400004_25.length co91] 24 (0, 0)) (by (with_reducible repeat (first | refine blk_drewN ?_ _ | refine blk_drew ?_ | refine blk_alloc ?_ _)); exact BK399.out) hb); have n4_ := Aside0.mk (below_step (by repeat (first | (with_reducible first | exact HB.out | apply below_alloc | apply pw_below_drewN | apply below_drew1 | refine below_set ?_ GE390.out | refine below_set ?_ GE399.out) | exact HB.out)) hb); clear HO_12; clear HO_400004; clear BK390; clear BK399; clear HB; have HO_12 := n0_; have HO_400004 := n1_; have BK390 := n2_; have BK399 := n3_; have HB := n4_; clear n0_ n1_ n2_ n3_ n4_; (try clear hb); (try clear hb2); (try clear hk); (try clear hi); have hcz93_0 : w92.cell? ⟨gb399, 0, none⟩ = some (.int .i64 x400000_25) := (blk_cell BK399.out 0).trans rfl; have hcz93_1 : w92.cell? ⟨gb399, 1, none⟩ = some (.int .i64 x400001_25) := (blk_cell BK399.out 1).trans rfl; have hcz93_2 : w92.cell? ⟨gb399, 2, none⟩ = some (.int .i64 x400002_25) := (blk_cell BK399.out 2).trans rfl; have hcz93_3 : w92.cell? ⟨gb399, 3, none⟩ = some (.int .i64 x400003_25) := (blk_cell BK399.out 3).trans rfl; have hcz93_4 : w92.cell? ⟨gb399, 4, none⟩ = some (.slice Ao91 x400004_25.length co91) := (blk_cell BK399.out 4).trans rfl; have hfz93_0 := blk_frozen BK399.out 0; have hfz93_1 := blk_frozen BK399.out 1; have hfz93_2 := blk_frozen BK399.out 2; have hfz93_3 := blk_frozen BK399.out 3; have hfz93_4 := blk_frozen BK399.out 4) | (go_at_call 22; (with_reducible refine (throttle_Backlog.calls kj25 x400000_25 x400001_25 x400002_25 x400003_25 _ _ x400004_25 t426 _ ?side1 ?side2 A84.out).mono ?_); (case side1 => repeat (first | exact (Kd.Q_reads' HO_400004.out).2.2 | (with_reducible refine Kd.C_alloc ?_ _) | (with_reducible refine Kd.C_drewN ?_ _) | (with_reducible refine Kd.C_drew ?_))); (case side2 => exact (Kd.Q_reads' HO_400004.out).2.1); rintro e w94 ⟨rfl, hb⟩; have n0_ := Aside0.mk (Kd.R_below (by (with_reducible repeat (first | apply Kd.R_alloc | apply Kd.R_drewN | apply Kd.R_drew)); exact HO_12.out) hb); have n1_ := Aside0.mk (Kd.Q_below (by (with_reducible repeat (first | apply Kd.Q_alloc | apply Kd.Q_drewN | apply Kd.Q_drew)); exact HO_400004.out) hb); have n2_ := Aside0.mk (blk_below (g := gb390) (o := .cells #[.int .u8 a2_0, .slice (some ad402) l2_1.length c2_1] 55 (0, 0)) (by (with_reducible repeat (first | refine blk_drewN ?_ _ | refine blk_drew ?_ | refine blk_alloc ?_ _)); exact BK390.out) hb); have n3_ := Aside0.mk (blk_below (g := gb399) (o := .cells #[.int .i64 x400000_25, .int .i64 x400001_25, .int .i64 x400002_25, .int .i64 x400003_25, .slice Ao91 x400004_25.length co91] 24 (0, 0)) (by (with_reducible repeat (first | refine blk_drewN ?_ _ | refine blk_drew ?_ | refine blk_alloc ?_ _)); exact BK399.out) hb); have n4_ := Aside0.mk (below_step (by repeat (first | (with_reducible first | exact HB.out | apply below_alloc | apply pw_below_drewN | apply below_drew1 | refine below_set ?_ GE390.out | refine below_set ?_ GE399.out) | exact HB.out)) hb); clear HO_12; clear HO_400004; clear BK390; clear BK399; clear HB; have HO_12 := n0_; have HO_400004 := n1_; have BK390 := n2_; have BK399 := n3_; have HB := n4_; clear n0_ n1_ n2_ n3_ n4_; (try clear hb); (try clear hb2); (try clear hk); (try clear hi); have hcz95_0 : w94.cell? ⟨gb399, 0, none⟩ = some (.int .i64 x400000_25) := (blk_cell BK399.out 0).trans rfl; have hcz95_1 : w94.cell? ⟨gb399, 1, none⟩ = some (.int .i64 x400001_25) := (blk_cell BK399.out 1).trans rfl; have hcz95_2 : w94.cell? ⟨gb399, 2, none⟩ = some (.int .i64 x400002_25) := (blk_cell BK399.out 2).trans rfl; have hcz95_3 : w94.cell? ⟨gb399, 3, none⟩ = some (.int .i64 x400003_25) := (blk_cell BK399.out 3).trans rfl; have hcz95_4 : w94.cell? ⟨gb399, 4, none⟩ = some (.slice Ao91 x400004_25.length co91) := (blk_cell BK399.out 4).trans rfl; have hfz95_0 := blk_frozen BK399.out 0; have hfz95_1 := blk_frozen BK399.out 1; have hfz95_2 := blk_frozen BK399.out 2; have hfz95_3 := blk_frozen BK399.out 3; have hfz95_4 := blk_frozen BK399.out 4) | (go_at_call 20; (with_reducible refine (throttle_Age.calls kj25 x400000_25 x400001_25 x400002_25 x400003_25 _ _ x400004_25 (wrap64 ((wrap64 (x9_2 + (Int.tmod x45_2 3))) + 5)) t427 _ ?side1 ?side2 A86.out).mono ?_); (case side1 => repeat (first | exact (Kd.Q_reads' HO_400004.out).2.2 | (with_reducible refine Kd.C_alloc ?_ _) | (with_reducible refine Kd.C_drewN ?_ _) | (with_reducible refine Kd.C_drew ?_))); (case side2 => exact (Kd.Q_reads' HO_400004.out).2.1); rintro e w96 ⟨rfl, hb⟩; have n0_ := Aside0.mk (Kd.R_below (by (with_reducible repeat (first | apply Kd.R_alloc | apply Kd.R_drewN | apply Kd.R_drew)); exact HO_12.out) hb); have n1_ := Aside0.mk (Kd.Q_below (by (with_reducible repeat (first | apply Kd.Q_alloc | apply Kd.Q_drewN | apply Kd.Q_drew)); exact HO_400004.out) hb); have n2_ := Aside0.mk (blk_below (g := gb390) (o := .cells #[.int .u8 a2_0, .slice (some ad402) l2_1.length c2_1] 55 (0, 0)) (by (with_reducible repeat (first | refine blk_drewN ?_ _ | refine blk_drew ?_ | refine blk_alloc ?_ _)); exact BK390.out) hb); have n3_ := Aside0.mk (blk_below (g := gb399) (o := .cells #[.int .i64 x400000_25, .int .i64 x400001_25, .int .i64 x400002_25, .int .i64 x400003_25, .slice Ao91 x400004_25.length co91] 24 (0, 0)) (by (with_reducible repeat (first | refine blk_drewN ?_ _ | refine blk_drew ?_ | refine blk_alloc ?_ _)); exact BK399.out) hb); have n4_ := Aside0.mk (below_step (by repeat (first | (with_reducible first | exact HB.out | apply below_alloc | apply pw_below_drewN | apply below_drew1 | refine below_set ?_ GE390.out | refine below_set ?_ GE399.out) | exact HB.out)) hb); clear HO_12; clear HO_400004; clear BK390; clear BK399; clear HB; have HO_12 := n0_; have HO_400004 := n1_; have BK390 := n2_; have BK399 := n3_; have HB := n4_; clear n0_ n1_ n2_ n3_ n4_; (try clear hb); (try clear hb2); (try clear hk); (try clear hi); obtain ⟨Ao97, co97, eo97⟩ := Kd.R_slice HO_12.out; subst eo97) | (go_at_call 21; (with_reducible refine (standbylaw33_oldest.calls kj25 _ _ x12_25 x11_25 (wrap64 ((wrap64 (x9_2 + (Int.tmod x45_2 3))) + 5)) t428 _ ?side1 ?side2 A87.out).mono ?_); (case side1 => repeat (first | exact (Kd.R_reads' HO_12.out).2.2 | (with_reducible refine Kd.C_alloc ?_ _) | (with_reducible refine Kd.C_drewN ?_ _) | (with_reducible refine Kd.C_drew ?_))); (case side2 => exact (Kd.R_reads' HO_12.out).2.1); rintro e w98 ⟨rfl, hb⟩; have n0_ := Aside0.mk (Kd.R_below (by (with_reducible repeat (first | apply Kd.R_alloc | apply Kd.R_drewN | apply Kd.R_drew)); exact HO_12.out) hb); have n1_ := Aside0.mk (Kd.Q_below (by (with_reducible repeat (first | apply Kd.Q_alloc | apply Kd.Q_drewN | apply Kd.Q_drew)); exact HO_400004.out) hb); have n2_ := Aside0.mk (blk_below (g := gb390) (o := .cells #[.int .u8 a2_0, .slice (some ad402) l2_1.length c2_1] 55 (0, 0)) (by (with_reducible repeat (first | refine blk_drewN ?_ _ | refine blk_drew ?_ | refine blk_alloc ?_ _)); exact BK390.out) hb); have n3_ := Aside0.mk (blk_below (g := gb399) (o := .cells #[.int .i64 x400000_25, .int .i64 x400001_25, .int .i64 x400002_25, .int .i64 x400003_25, .slice Ao91 x400004_25.length co91] 24 (0, 0)) (by (with_reducible repeat (first | refine blk_drewN ?_ _ | refine blk_drew ?_ | refine blk_alloc ?_ _)); exact BK399.out) hb); have n4_ := Aside0.mk (below_step (by repeat (first | (with_reducible first | exact HB.out | apply below_alloc | apply pw_below_drewN | apply below_drew1 | refine below_set ?_ GE390.out | refine below_set ?_ GE399.out) | exact HB.out)) hb); clear HO_12; clear HO_400004; clear BK390; clear BK399; clear HB; have HO_12 := n0_; have HO_400004 := n1_; have BK390 := n2_; have BK399 := n3_; have HB := n4_; clear n0_ n1_ n2_ n3_ n4_; (try clear hb); (try clear hb2); (try clear hk); (try clear hi)))
                            go_roundg kj25
                            case measure => have := HJ4.out; have := HK2.out; have := HJ25.out; omega
                            case rel => exact ⟨((wrap64 (x9_2 + (Int.tmod x45_2 3)))), (x10_25), (x11_25), (x12_25), (wrap64 (x45_2 + 1)), (x400000_25), (x400001_25), (x400002_25), (x400003_25), (x400004_25), (.slice Ao91 x400004_25.length co91), (by first | rfl | (simp; done) | (simp [*]; done)), (by first | rfl | (simp; done) | (simp [*]; done)), (by first | rfl | (simp; done) | (simp [*]; done)), (by first | rfl | (simp; done) | (simp [*]; done)), H', ⟨by have := HJ4.out; have := HK2.out; have := HJ25.out; omega⟩, ⟨by (with_reducible repeat (first | apply Kd.R_alloc | apply Kd.R_drewN | apply Kd.R_drew)); exact HO_12.out⟩, ⟨by (with_reducible repeat (first | apply Kd.Q_alloc | apply Kd.Q_drewN | apply Kd.Q_drew)); exact HO_400004.out⟩, ⟨by (with_reducible repeat (first | refine blk_drewN ?_ _ | refine blk_drew ?_ | refine blk_alloc ?_ _)); exact BK390.out⟩, ⟨by (with_reducible repeat (first | refine blk_drewN ?_ _ | refine blk_drew ?_ | refine blk_alloc ?_ _)); exact BK399.out⟩, ⟨by repeat (first | (with_reducible first | exact HB.out | apply below_alloc | apply pw_below_drewN | apply below_drew1 | refine below_set ?_ GE390.out | refine below_set ?_ GE399.out) | exact HB.out)⟩⟩
                          · rw [if_neg c88] at H
                            have c88b0 : (t427 == t428) = false := beq_eq_false_iff_ne.mpr c88
                            have c88b1 : (t427 != t428) = true := bne_iff_ne.mpr c88
                            obtain rfl := Option.some.inj H
                            have hnb99 := NB399_390.out
                            have hnc99 := NB390_399.out
                            have hcz100_0 : wc.cell? ⟨gb399, 0, none⟩ = some (.int .i64 x400000_25) := (blk_cell BK399.out 0).trans rfl
                            have hcz100_1 : wc.cell? ⟨gb399, 1, none⟩ = some (.int .i64 x400001_25) := (blk_cell BK399.out 1).trans rfl
                            have hcz100_2 : wc.cell? ⟨gb399, 2, none⟩ = some (.int .i64 x400002_25) := (blk_cell BK399.out 2).trans rfl
                            have hcz100_3 : wc.cell? ⟨gb399, 3, none⟩ = some (.int .i64 x400003_25) := (blk_cell BK399.out 3).trans rfl
                            have hcz100_4 : wc.cell? ⟨gb399, 4, none⟩ = some (u400004) := (blk_cell BK399.out 4).trans rfl
                            have hfz100_0 := blk_frozen BK399.out 0
                            have hfz100_1 := blk_frozen BK399.out 1
                            have hfz100_2 := blk_frozen BK399.out 2
                            have hfz100_3 := blk_frozen BK399.out 3
                            have hfz100_4 := blk_frozen BK399.out 4
                            obtain ⟨Ao101, co101, eo101, _⟩ := Kd.Q_slice HO_400004.out
                            subst eo101
                            go_wp2_with (first | ((with_reducible refine gate_callee (f := 14) rfl ?_); refine goesL_ (some 121) rfl rfl Try.func14 (by kernel_rfl) rfl #[.agg #[.int .i64 x400000_25, .int .i64 x400001_25, .int .i64 x400002_25, .int .i64 x400003_25, .slice Ao101 x400004_25.length co101]] rfl (by (try simp only [List.map_toArray, List.map_cons, List.map_nil]); first | done | rfl | (simp only [List.length_drop, List.length_take]; rfl)) ?_; (with_reducible refine (throttle_Check.calls kj25 x400000_25 x400001_25 x400002_25 x400003_25 _ _ x400004_25 t425 _ ?side1 ?side2 A82.out).mono ?_); (case side1 => repeat (first | exact (Kd.Q_reads' HO_400004.out).2.2 | (with_reducible refine Kd.C_alloc ?_ _) | (with_reducible refine Kd.C_drewN ?_ _) | (with_reducible refine Kd.C_drew ?_))); (case side2 => exact (Kd.Q_reads' HO_400004.out).2.1); rintro e w102 ⟨rfl, hb⟩; refine ⟨_, rfl, ?_⟩; have n0_ := Aside0.mk (Kd.R_below (by (with_reducible repeat (first | apply Kd.R_alloc | apply Kd.R_drewN | apply Kd.R_drew)); exact HO_12.out) hb); have n1_ := Aside0.mk (Kd.Q_below (by (with_reducible repeat (first | apply Kd.Q_alloc | apply Kd.Q_drewN | apply Kd.Q_drew)); exact HO_400004.out) hb); have n2_ := Aside0.mk (blk_below (g := gb390) (o := .cells #[.int .u8 a2_0, .slice (some ad402) l2_1.length c2_1] 55 (0, 0)) (by (with_reducible repeat (first | refine blk_drewN ?_ _ | refine blk_drew ?_ | refine blk_alloc ?_ _)); exact BK390.out) hb); have n3_ := Aside0.mk (blk_below (g := gb399) (o := .cells #[.int .i64 x400000_25, .int .i64 x400001_25, .int .i64 x400002_25, .int .i64 x400003_25, .slice Ao101 x400004_25.length co101] 24 (0, 0)) (by (with_reducible repeat (first | refine blk_drewN ?_ _ | refine blk_drew ?_ | refine blk_alloc ?_ _)); exact BK399.out) hb); have n4_ := Aside0.mk (below_step (by repeat (first | (with_reducible first | exact HB.out | apply below_alloc | apply pw_below_drewN | apply below_drew1 | refine below_set ?_ GE390.out | refine below_set ?_ GE399.out) | exact HB.out)) hb); clear HO_12; clear HO_400004; clear BK390; clear BK399; clear HB; have HO_12 := n0_; have HO_400004 := n1_; have BK390 := n2_; have BK399 := n3_; have HB := n4_; clear n0_ n1_ n2_ n3_ n4_; (try clear hb); (try clear hb2); (try clear hk); (try clear hi); have hcz103_0 : w102.cell? ⟨gb399, 0, none⟩ = some (.int .i64 x400000_25) := (blk_cell BK399.out 0).trans rfl; have hcz103_1 : w102.cell? ⟨gb399, 1, none⟩ = some (.int .i64 x400001_25) := (blk_cell BK399.out 1).trans rfl; have hcz103_2 : w102.cell? ⟨gb399, 2, none⟩ = some (.int .i64 x400002_25) := (blk_cell BK399.out 2).trans rfl; have hcz103_3 : w102.cell? ⟨gb399, 3, none⟩ = some (.int .i64 x400003_25) := (blk_cell BK399.out 3).trans rfl; have hcz103_4 : w102.cell? ⟨gb399, 4, none⟩ = some (.slice Ao101 x400004_25.length co101) := (blk_cell BK399.out 4).trans rfl; have hfz103_0 := blk_frozen BK399.out 0; have hfz103_1 := blk_frozen BK399.out 1; have hfz103_2 := blk_frozen BK399.out 2; have hfz103_3 := blk_frozen BK399.out 3; have hfz103_4 := blk_frozen BK399.out 4) | (go_at_call 22; (with_reducible refine (throttle_Backlog.calls kj25 x400000_25 x400001_25 x400002_25 x400003_25 _ _ x400004_25 t426 _ ?side1 ?side2 A84.out).mono ?_); (case side1 => repeat (first | exact (Kd.Q_reads' HO_400004.out).2.2 | (with_reducible refine Kd.C_alloc ?_ _) | (with_reducible refine Kd.C_drewN ?_ _) | (with_reducible refine Kd.C_drew ?_))); (case side2 => exact (Kd.Q_reads' HO_400004.out).2.1); rintro e w104 ⟨rfl, hb⟩; have n0_ := Aside0.mk (Kd.R_below (by (with_reducible repeat (first | apply Kd.R_alloc | apply Kd.R_drewN | apply Kd.R_drew)); exact HO_12.out) hb); have n1_ := Aside0.mk (Kd.Q_below (by (with_reducible repeat (first | apply Kd.Q_alloc | apply Kd.Q_drewN | apply Kd.Q_drew)); exact HO_400004.out) hb); have n2_ := Aside0.mk (blk_below (g := gb390) (o := .cells #[.int .u8 a2_0, .slice (some ad402) l2_1.length c2_1] 55 (0, 0)) (by (with_reducible repeat (first | refine blk_drewN ?_ _ | refine blk_drew ?_ | refine blk_alloc ?_ _)); exact BK390.out) hb); have n3_ := Aside0.mk (blk_below (g := gb399) (o := .cells #[.int .i64 x400000_25, .int .i64 x400001_25, .int .i64 x400002_25, .int .i64 x400003_25, .slice Ao101 x400004_25.length co101] 24 (0, 0)) (by (with_reducible repeat (first | refine blk_drewN ?_ _ | refine blk_drew ?_ | refine blk_alloc ?_ _)); exact BK399.out) hb); have n4_ := Aside0.mk (below_step (by repeat (first | (with_reducible first | exact HB.out | apply below_alloc | apply pw_below_drewN | apply below_drew1 | refine below_set ?_ GE390.out | refine below_set ?_ GE399.out) | exact HB.out)) hb); clear HO_12; clear HO_400004; clear BK390; clear BK399; clear HB; have HO_12 := n0_; have HO_400004 := n1_; have BK390 := n2_; have BK399 := n3_; have HB := n4_; clear n0_ n1_ n2_ n3_ n4_; (try clear hb); (try clear hb2); (try clear hk); (try clear hi); have hcz105_0 : w104.cell? ⟨gb399, 0, none⟩ = some (.int .i64 x400000_25) := (blk_cell BK399.out 0).trans rfl; have hcz105_1 : w104.cell? ⟨gb399, 1, none⟩ = some (.int .i64 x400001_25) := (blk_cell BK399.out 1).trans rfl; have hcz105_2 : w104.cell? ⟨gb399, 2, none⟩ = some (.int .i64 x400002_25) := (blk_cell BK399.out 2).trans rfl; have hcz105_3 : w104.cell? ⟨gb399, 3, none⟩ = some (.int .i64 x400003_25) := (blk_cell BK399.out 3).trans rfl; have hcz105_4 : w104.cell? ⟨gb399, 4, none⟩ = some (.slice Ao101 x400004_25.length co101) := (blk_cell BK399.out 4).trans rfl; have hfz105_0 := blk_frozen BK399.out 0; have hfz105_1 := blk_frozen BK399.out 1; have hfz105_2 := blk_frozen BK399.out 2; have hfz105_3 := blk_frozen BK399.out 3; have hfz105_4 := blk_frozen BK399.out 4) | (go_at_call 20; (with_reducible refine (throttle_Age.calls kj25 x400000_25 x400001_25 x400002_25 x400003_25 _ _ x400004_25 (wrap64 ((wrap64 (x9_2 + (Int.tmod x45_2 3))) + 5)) t427 _ ?side1 ?side2 A86.out).mono ?_); (case side1 => repeat (first | exact (Kd.Q_reads' HO_400004.out).2.2 | (with_reducible refine Kd.C_alloc ?_ _) | (with_reducible refine Kd.C_drewN ?_ _) | (with_reducible refine Kd.C_drew ?_))); (case side2 => exact (Kd.Q_reads' HO_400004.out).2.1); rintro e w106 ⟨rfl, hb⟩; have n0_ := Aside0.mk (Kd.R_below (by (with_reducible repeat (first | apply Kd.R_alloc | apply Kd.R_drewN | apply Kd.R_drew)); exact HO_12.out) hb); have n1_ := Aside0.mk (Kd.Q_below (by (with_reducible repeat (first | apply Kd.Q_alloc | apply Kd.Q_drewN | apply Kd.Q_drew)); exact HO_400004.out) hb); have n2_ := Aside0.mk (blk_below (g := gb390) (o := .cells #[.int .u8 a2_0, .slice (some ad402) l2_1.length c2_1] 55 (0, 0)) (by (with_reducible repeat (first | refine blk_drewN ?_ _ | refine blk_drew ?_ | refine blk_alloc ?_ _)); exact BK390.out) hb); have n3_ := Aside0.mk (blk_below (g := gb399) (o := .cells #[.int .i64 x400000_25, .int .i64 x400001_25, .int .i64 x400002_25, .int .i64 x400003_25, .slice Ao101 x400004_25.length co101] 24 (0, 0)) (by (with_reducible repeat (first | refine blk_drewN ?_ _ | refine blk_drew ?_ | refine blk_alloc ?_ _)); exact BK399.out) hb); have n4_ := Aside0.mk (below_step (by repeat (first | (with_reducible first | exact HB.out | apply below_alloc | apply pw_below_drewN | apply below_drew1 | refine below_set ?_ GE390.out | refine below_set ?_ GE399.out) | exact HB.out)) hb); clear HO_12; clear HO_400004; clear BK390; clear BK399; clear HB; have HO_12 := n0_; have HO_400004 := n1_; have BK390 := n2_; have BK399 := n3_; have HB := n4_; clear n0_ n1_ n2_ n3_ n4_; (try clear hb); (try clear hb2); (try clear hk); (try clear hi); obtain ⟨Ao107, co107, eo107⟩ := Kd.R_slice HO_12.out; subst eo107) | (go_at_call 21; (with_reducible refine (standbylaw33_oldest.calls kj25 _ _ x12_25 x11_25 (wrap64 ((wrap64 (x9_2 + (Int.tmod x45_2 3))) + 5)) t428 _ ?side1 ?side2 A87.out).mono ?_); (case side1 => repeat (first | exact (Kd.R_reads' HO_12.out).2.2 | (with_reducible refine Kd.C_alloc ?_ _) | (with_reducible refine Kd.C_drewN ?_ _) | (with_reducible refine Kd.C_drew ?_))); (case side2 => exact (Kd.R_reads' HO_12.out).2.1); rintro e w108 ⟨rfl, hb⟩; have n0_ := Aside0.mk (Kd.R_below (by (with_reducible repeat (first | apply Kd.R_alloc | apply Kd.R_drewN | apply Kd.R_drew)); exact HO_12.out) hb); have n1_ := Aside0.mk (Kd.Q_below (by (with_reducible repeat (first | apply Kd.Q_alloc | apply Kd.Q_drewN | apply Kd.Q_drew)); exact HO_400004.out) hb); have n2_ := Aside0.mk (blk_below (g := gb390) (o := .cells #[.int .u8 a2_0, .slice (some ad402) l2_1.length c2_1] 55 (0, 0)) (by (with_reducible repeat (first | refine blk_drewN ?_ _ | refine blk_drew ?_ | refine blk_alloc ?_ _)); exact BK390.out) hb); have n3_ := Aside0.mk (blk_below (g := gb399) (o := .cells #[.int .i64 x400000_25, .int .i64 x400001_25, .int .i64 x400002_25, .int .i64 x400003_25, .slice Ao101 x400004_25.length co101] 24 (0, 0)) (by (with_reducible repeat (first | refine blk_drewN ?_ _ | refine blk_drew ?_ | refine blk_alloc ?_ _)); exact BK399.out) hb); have n4_ := Aside0.mk (below_step (by repeat (first | (with_reducible first | exact HB.out | apply below_alloc | apply pw_below_drewN | apply below_drew1 | refine below_set ?_ GE390.out | refine below_set ?_ GE399.out) | exact HB.out)) hb); clear HO_12; clear HO_400004; clear BK390; clear BK399; clear HB; have HO_12 := n0_; have HO_400004 := n1_; have BK390 := n2_; have BK399 := n3_; have HB := n4_; clear n0_ n1_ n2_ n3_ n4_; (try clear hb); (try clear hb2); (try clear hk); (try clear hi)))
                            go_ret
                            exact ⟨by first | rfl | (simp [errW_none, errW_some] <;> rfl) | (simp [*, errW_none, errW_some] <;> rfl), by repeat (first | (with_reducible first | exact HB.out | apply below_alloc | apply pw_below_drewN | apply below_drew1 | refine below_set ?_ GE390.out | refine below_set ?_ GE399.out) | exact HB.out)⟩
                        · rw [if_neg c85] at H
                          have c85b0 : (t426 == (wrap64 (x10_25 - x11_25))) = false := beq_eq_false_iff_ne.mpr c85
                          have c85b1 : (t426 != (wrap64 (x10_25 - x11_25))) = true := bne_iff_ne.mpr c85
                          obtain rfl := Option.some.inj H
                          have hnb109 := NB399_390.out
                          have hnc109 := NB390_399.out
                          have hcz110_0 : wc.cell? ⟨gb399, 0, none⟩ = some (.int .i64 x400000_25) := (blk_cell BK399.out 0).trans rfl
                          have hcz110_1 : wc.cell? ⟨gb399, 1, none⟩ = some (.int .i64 x400001_25) := (blk_cell BK399.out 1).trans rfl
                          have hcz110_2 : wc.cell? ⟨gb399, 2, none⟩ = some (.int .i64 x400002_25) := (blk_cell BK399.out 2).trans rfl
                          have hcz110_3 : wc.cell? ⟨gb399, 3, none⟩ = some (.int .i64 x400003_25) := (blk_cell BK399.out 3).trans rfl
                          have hcz110_4 : wc.cell? ⟨gb399, 4, none⟩ = some (u400004) := (blk_cell BK399.out 4).trans rfl
                          have hfz110_0 := blk_frozen BK399.out 0
                          have hfz110_1 := blk_frozen BK399.out 1
                          have hfz110_2 := blk_frozen BK399.out 2
                          have hfz110_3 := blk_frozen BK399.out 3
                          have hfz110_4 := blk_frozen BK399.out 4
                          obtain ⟨Ao111, co111, eo111, _⟩ := Kd.Q_slice HO_400004.out
                          subst eo111
                          go_wp2_with (first | ((with_reducible refine gate_callee (f := 14) rfl ?_); refine goesL_ (some 121) rfl rfl Try.func14 (by kernel_rfl) rfl #[.agg #[.int .i64 x400000_25, .int .i64 x400001_25, .int .i64 x400002_25, .int .i64 x400003_25, .slice Ao111 x400004_25.length co111]] rfl (by (try simp only [List.map_toArray, List.map_cons, List.map_nil]); first | done | rfl | (simp only [List.length_drop, List.length_take]; rfl)) ?_; (with_reducible refine (throttle_Check.calls kj25 x400000_25 x400001_25 x400002_25 x400003_25 _ _ x400004_25 t425 _ ?side1 ?side2 A82.out).mono ?_); (case side1 => repeat (first | exact (Kd.Q_reads' HO_400004.out).2.2 | (with_reducible refine Kd.C_alloc ?_ _) | (with_reducible refine Kd.C_drewN ?_ _) | (with_reducible refine Kd.C_drew ?_))); (case side2 => exact (Kd.Q_reads' HO_400004.out).2.1); rintro e w112 ⟨rfl, hb⟩; refine ⟨_, rfl, ?_⟩; have n0_ := Aside0.mk (Kd.R_below (by (with_reducible repeat (first | apply Kd.R_alloc | apply Kd.R_drewN | apply Kd.R_drew)); exact HO_12.out) hb); have n1_ := Aside0.mk (Kd.Q_below (by (with_reducible repeat (first | apply Kd.Q_alloc | apply Kd.Q_drewN | apply Kd.Q_drew)); exact HO_400004.out) hb); have n2_ := Aside0.mk (blk_below (g := gb390) (o := .cells #[.int .u8 a2_0, .slice (some ad402) l2_1.length c2_1] 55 (0, 0)) (by (with_reducible repeat (first | refine blk_drewN ?_ _ | refine blk_drew ?_ | refine blk_alloc ?_ _)); exact BK390.out) hb); have n3_ := Aside0.mk (blk_below (g := gb399) (o := .cells #[.int .i64 x400000_25, .int .i64 x400001_25, .int .i64 x400002_25, .int .i64 x400003_25, .slice Ao111 x400004_25.length co111] 24 (0, 0)) (by (with_reducible repeat (first | refine blk_drewN ?_ _ | refine blk_drew ?_ | refine blk_alloc ?_ _)); exact BK399.out) hb); have n4_ := Aside0.mk (below_step (by repeat (first | (with_reducible first | exact HB.out | apply below_alloc | apply pw_below_drewN | apply below_drew1 | refine below_set ?_ GE390.out | refine below_set ?_ GE399.out) | exact HB.out)) hb); clear HO_12; clear HO_400004; clear BK390; clear BK399; clear HB; have HO_12 := n0_; have HO_400004 := n1_; have BK390 := n2_; have BK399 := n3_; have HB := n4_; clear n0_ n1_ n2_ n3_ n4_; (try clear hb); (try clear hb2); (try clear hk); (try clear hi); have hcz113_0 : w112.cell? ⟨gb399, 0, none⟩ = some (.int .i64 x400000_25) := (blk_cell BK399.out 0).trans rfl; have hcz113_1 : w112.cell? ⟨gb399, 1, none⟩ = some (.int .i64 x400001_25) := (blk_cell BK399.out 1).trans rfl; have hcz113_2 : w112.cell? ⟨gb399, 2, none⟩ = some (.int .i64 x400002_25) := (blk_cell BK399.out 2).trans rfl; have hcz113_3 : w112.cell? ⟨gb399, 3, none⟩ = some (.int .i64 x400003_25) := (blk_cell BK399.out 3).trans rfl; have hcz113_4 : w112.cell? ⟨gb399, 4, none⟩ = some (.slice Ao111 x400004_25.length co111) := (blk_cell BK399.out 4).trans rfl; have hfz113_0 := blk_frozen BK399.out 0; have hfz113_1 := blk_frozen BK399.out 1; have hfz113_2 := blk_frozen BK399.out 2; have hfz113_3 := blk_frozen BK399.out 3; have hfz113_4 := blk_frozen BK399.out 4) | (go_at_call 22; (with_reducible refine (throttle_Backlog.calls kj25 x400000_25 x400001_25 x400002_25 x400003_25 _ _ x400004_25 t426 _ ?side1 ?side2 A84.out).mono ?_); (case side1 => repeat (first | exact (Kd.Q_reads' HO_400004.out).2.2 | (with_reducible refine Kd.C_alloc ?_ _) | (with_reducible refine Kd.C_drewN ?_ _) | (with_reducible refine Kd.C_drew ?_))); (case side2 => exact (Kd.Q_reads' HO_400004.out).2.1); rintro e w114 ⟨rfl, hb⟩; have n0_ := Aside0.mk (Kd.R_below (by (with_reducible repeat (first | apply Kd.R_alloc | apply Kd.R_drewN | apply Kd.R_drew)); exact HO_12.out) hb); have n1_ := Aside0.mk (Kd.Q_below (by (with_reducible repeat (first | apply Kd.Q_alloc | apply Kd.Q_drewN | apply Kd.Q_drew)); exact HO_400004.out) hb); have n2_ := Aside0.mk (blk_below (g := gb390) (o := .cells #[.int .u8 a2_0, .slice (some ad402) l2_1.length c2_1] 55 (0, 0)) (by (with_reducible repeat (first | refine blk_drewN ?_ _ | refine blk_drew ?_ | refine blk_alloc ?_ _)); exact BK390.out) hb); have n3_ := Aside0.mk (blk_below (g := gb399) (o := .cells #[.int .i64 x400000_25, .int .i64 x400001_25, .int .i64 x400002_25, .int .i64 x400003_25, .slice Ao111 x400004_25.length co111] 24 (0, 0)) (by (with_reducible repeat (first | refine blk_drewN ?_ _ | refine blk_drew ?_ | refine blk_alloc ?_ _)); exact BK399.out) hb); have n4_ := Aside0.mk (below_step (by repeat (first | (with_reducible first | exact HB.out | apply below_alloc | apply pw_below_drewN | apply below_drew1 | refine below_set ?_ GE390.out | refine below_set ?_ GE399.out) | exact HB.out)) hb); clear HO_12; clear HO_400004; clear BK390; clear BK399; clear HB; have HO_12 := n0_; have HO_400004 := n1_; have BK390 := n2_; have BK399 := n3_; have HB := n4_; clear n0_ n1_ n2_ n3_ n4_; (try clear hb); (try clear hb2); (try clear hk); (try clear hi)))
                          go_ret
                          exact ⟨by first | rfl | (simp [errW_none, errW_some] <;> rfl) | (simp [*, errW_none, errW_some] <;> rfl), by repeat (first | (with_reducible first | exact HB.out | apply below_alloc | apply pw_below_drewN | apply below_drew1 | refine below_set ?_ GE390.out | refine below_set ?_ GE399.out) | exact HB.out)⟩
                      · rw [if_neg c83] at H
                        have c83b0 : (t425 == 0) = false := beq_eq_false_iff_ne.mpr c83
                        have c83b1 : (t425 != 0) = true := bne_iff_ne.mpr c83
                        obtain rfl := Option.some.inj H
                        have hnb115 := NB399_390.out
                        have hnc115 := NB390_399.out
                        have hcz116_0 : wc.cell? ⟨gb399, 0, none⟩ = some (.int .i64 x400000_25) := (blk_cell BK399.out 0).trans rfl
                        have hcz116_1 : wc.cell? ⟨gb399, 1, none⟩ = some (.int .i64 x400001_25) := (blk_cell BK399.out 1).trans rfl
                        have hcz116_2 : wc.cell? ⟨gb399, 2, none⟩ = some (.int .i64 x400002_25) := (blk_cell BK399.out 2).trans rfl
                        have hcz116_3 : wc.cell? ⟨gb399, 3, none⟩ = some (.int .i64 x400003_25) := (blk_cell BK399.out 3).trans rfl
                        have hcz116_4 : wc.cell? ⟨gb399, 4, none⟩ = some (u400004) := (blk_cell BK399.out 4).trans rfl
                        have hfz116_0 := blk_frozen BK399.out 0
                        have hfz116_1 := blk_frozen BK399.out 1
                        have hfz116_2 := blk_frozen BK399.out 2
                        have hfz116_3 := blk_frozen BK399.out 3
                        have hfz116_4 := blk_frozen BK399.out 4
                        obtain ⟨Ao117, co117, eo117, _⟩ := Kd.Q_slice HO_400004.out
                        subst eo117
                        go_wp2_with (first | ((with_reducible refine gate_callee (f := 14) rfl ?_); refine goesL_ (some 121) rfl rfl Try.func14 (by kernel_rfl) rfl #[.agg #[.int .i64 x400000_25, .int .i64 x400001_25, .int .i64 x400002_25, .int .i64 x400003_25, .slice Ao117 x400004_25.length co117]] rfl (by (try simp only [List.map_toArray, List.map_cons, List.map_nil]); first | done | rfl | (simp only [List.length_drop, List.length_take]; rfl)) ?_; (with_reducible refine (throttle_Check.calls kj25 x400000_25 x400001_25 x400002_25 x400003_25 _ _ x400004_25 t425 _ ?side1 ?side2 A82.out).mono ?_); (case side1 => repeat (first | exact (Kd.Q_reads' HO_400004.out).2.2 | (with_reducible refine Kd.C_alloc ?_ _) | (with_reducible refine Kd.C_drewN ?_ _) | (with_reducible refine Kd.C_drew ?_))); (case side2 => exact (Kd.Q_reads' HO_400004.out).2.1); rintro e w118 ⟨rfl, hb⟩; refine ⟨_, rfl, ?_⟩; have n0_ := Aside0.mk (Kd.R_below (by (with_reducible repeat (first | apply Kd.R_alloc | apply Kd.R_drewN | apply Kd.R_drew)); exact HO_12.out) hb); have n1_ := Aside0.mk (Kd.Q_below (by (with_reducible repeat (first | apply Kd.Q_alloc | apply Kd.Q_drewN | apply Kd.Q_drew)); exact HO_400004.out) hb); have n2_ := Aside0.mk (blk_below (g := gb390) (o := .cells #[.int .u8 a2_0, .slice (some ad402) l2_1.length c2_1] 55 (0, 0)) (by (with_reducible repeat (first | refine blk_drewN ?_ _ | refine blk_drew ?_ | refine blk_alloc ?_ _)); exact BK390.out) hb); have n3_ := Aside0.mk (blk_below (g := gb399) (o := .cells #[.int .i64 x400000_25, .int .i64 x400001_25, .int .i64 x400002_25, .int .i64 x400003_25, .slice Ao117 x400004_25.length co117] 24 (0, 0)) (by (with_reducible repeat (first | refine blk_drewN ?_ _ | refine blk_drew ?_ | refine blk_alloc ?_ _)); exact BK399.out) hb); have n4_ := Aside0.mk (below_step (by repeat (first | (with_reducible first | exact HB.out | apply below_alloc | apply pw_below_drewN | apply below_drew1 | refine below_set ?_ GE390.out | refine below_set ?_ GE399.out) | exact HB.out)) hb); clear HO_12; clear HO_400004; clear BK390; clear BK399; clear HB; have HO_12 := n0_; have HO_400004 := n1_; have BK390 := n2_; have BK399 := n3_; have HB := n4_; clear n0_ n1_ n2_ n3_ n4_; (try clear hb); (try clear hb2); (try clear hk); (try clear hi)))
                        go_ret
                        exact ⟨by first | rfl | (simp [errW_none, errW_some] <;> rfl) | (simp [*, errW_none, errW_some] <;> rfl), by repeat (first | (with_reducible first | exact HB.out | apply below_alloc | apply pw_below_drewN | apply below_drew1 | refine below_set ?_ GE390.out | refine below_set ?_ GE399.out) | exact HB.out)⟩
                · rw [if_neg c25] at H
                  exact absurd H (by simp)
              · rw [if_neg c24] at H
                exact absurd H (by simp)
            · rw [if_neg c23] at H
              have c23b0 : decide (x45_2 < (l2_1.length : Int)) = false := decide_eq_false c23
              clear c23
              replace H := Option.bind_eq_some_iff.mp H
              obtain ⟨t401, A1190, H⟩ := H
              replace H : (some t401) = some r := H
              have A119 := Aside0.mk A1190
              clear A1190
              obtain rfl := Option.some.inj H
              go_wp2_with (first | ((with_reducible refine gate_callee (f := 10) rfl ?_); refine goesL_ (some 144) rfl rfl Try.func10 (by kernel_rfl) rfl #[] rfl (by (try simp only [List.map_toArray, List.map_cons, List.map_nil]); first | done | rfl | (simp only [List.length_drop, List.length_take]; rfl)) ?_; (with_reducible refine (standbylaw33_awake.calls k2  t401 _ A119.out).mono ?_); rintro e w120 ⟨rfl, hb⟩; refine ⟨_, rfl, ?_⟩; have n0_ := Aside0.mk (Kd.R_below (by (with_reducible repeat (first | apply Kd.R_alloc | apply Kd.R_drewN | apply Kd.R_drew)); exact HO_12.out) hb); have n1_ := Aside0.mk (Kd.Q_below (by (with_reducible repeat (first | apply Kd.Q_alloc | apply Kd.Q_drewN | apply Kd.Q_drew)); exact HO_400004.out) hb); have n2_ := Aside0.mk (blk_below (g := gb390) (o := .cells #[.int .u8 a2_0, .slice A2_1 l2_1.length c2_1] 55 (0, 0)) (by (with_reducible repeat (first | refine blk_drewN ?_ _ | refine blk_drew ?_ | refine blk_alloc ?_ _)); exact BK390.out) hb); have n3_ := Aside0.mk (blk_below (g := gb399) (o := .cells #[.int .i64 x400000_2, .int .i64 x400001_2, .int .i64 x400002_2, .int .i64 x400003_2, u400004] 24 (0, 0)) (by (with_reducible repeat (first | refine blk_drewN ?_ _ | refine blk_drew ?_ | refine blk_alloc ?_ _)); exact BK399.out) hb); have n4_ := Aside0.mk (below_step (by repeat (first | (with_reducible first | exact HB.out | apply below_alloc | apply pw_below_drewN | apply below_drew1 | refine below_set ?_ GE390.out | refine below_set ?_ GE399.out) | exact HB.out)) hb); clear HO_12; clear HO_400004; clear BK390; clear BK399; clear HB; have HO_12 := n0_; have HO_400004 := n1_; have BK390 := n2_; have BK399 := n3_; have HB := n4_; clear n0_ n1_ n2_ n3_ n4_; (try clear hb); (try clear hb2); (try clear hk); (try clear hi)))
              go_ret
              exact ⟨by first | rfl | (simp [errW_none, errW_some] <;> rfl) | (simp [*, errW_none, errW_some] <;> rfl), by repeat (first | (with_reducible first | exact HB.out | apply below_alloc | apply pw_below_drewN | apply below_drew1 | refine below_set ?_ GE390.out | refine below_set ?_ GE399.out) | exact HB.out)⟩

end Go.Proofs.Ytppniempndnghaa.PA
