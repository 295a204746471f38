-- Written by a program of this session (wip/tools) over the kit's print.
import Derived.Test.YtppniempndnghaaPAx0
import Derived.Test.YtppniempndnghaaPAx10
import Derived.Test.YtppniempndnghaaPAx11
import Derived.Test.YtppniempndnghaaPAx12
import Derived.Test.YtppniempndnghaaPAx13
import Derived.Test.YtppniempndnghaaPAy19
namespace Go.Proofs.YtppniempndnghaaW.PrintWords.Kd
open Go Go.RowKit
theorem Q_drew {α : Type} {d : Kd α} {e : Nat} {w : World} {base : Nat} {ok : Nat → Prop} {v : Value} {xs : List α} (h : d.Q e w base ok v xs) : d.Q e w.drew base ok v xs := Q_below h (below_drew (Below.refl _ _))
end Go.Proofs.YtppniempndnghaaW.PrintWords.Kd
namespace Go.Proofs.Ytppniempndnghaa.PA
open Go.RowKit Go.Proofs.YtppniempndnghaaW.PrintWords Go.Proofs.YtppniempndnghaaW.PrintLast Go.Proofs.YtppniempndnghaaW.PrintMore
attribute [local go_sem] max2_int min2_int max_two min_two max_three min_three max_four min_four   -- for this text's walks alone
set_option linter.unusedVariables false
set_option linter.unusedSimpArgs false

/-! ### standbylaw33_ThrottleKeeps: function 5 -/
mutual
def standbylaw33_ThrottleKeeps.j0 : Nat → List Int → Bool → Bool → Int → Int → Int → Int → List (S71) → Option (Bool)
 | 0, _, _, _, _, _, _, _, _ => none
 | k + 1, x2, x8, x33, x318000, x318001, x318002, x318003, x318004 => if x33 = true then (if x8 = true then ((standbylaw33_awake.f k).bind fun t318 => (some t318)) else (some false)) else (standbylaw33_ThrottleKeeps.l0 k 0 0 0 ([] : List (S49)) x2 (x2.length : Int) 0 x318000 x318001 x318002 x318003 x318004)
def standbylaw33_ThrottleKeeps.l0 : Nat → Int → Int → Int → List (S49) → List Int → Int → Int → Int → Int → Int → Int → List (S71) → Option (Bool)
 | 0, _, _, _, _, _, _, _, _, _, _, _, _ => none
 | k + 1, x9, x10, x11, x12, x38, x39, x40, x318000, x318001, x318002, x318003, x318004 => if x40 < x39 then (if 0 ≤ x40 then (if x40 < (x38.length : Int) then (standbylaw33_ThrottleKeeps.l1 k x9 x10 x11 x12 (rd x38 x40) x38 x39 x40 (Int.tmod (wrap64 (rd x38 x40)) 4) 0 x318000 x318001 x318002 x318003 x318004) else (none)) else (none)) else ((standbylaw33_awake.f k).bind fun t319 => (some t319))
def standbylaw33_ThrottleKeeps.l1 : Nat → Int → Int → Int → List (S49) → Int → List Int → Int → Int → Int → Int → Int → Int → Int → Int → List (S71) → Option (Bool)
 | 0, _, _, _, _, _, _, _, _, _, _, _, _, _, _, _ => none
 | k + 1, x9, x10, x11, x12, x14, x38, x39, x40, x46, x47, x318000, x318001, x318002, x318003, x318004 => if x47 < x46 then ((throttle_Progress.f k x318000 x318001 x318002 x318003 x318004 (wrap64 (x9 + 1)) (mn x10 (wrap64 ((wrap64 (x11 + x318001)) + (Int.tmod (wrap64 (Int.tdiv (wrap64 (x14)) 4)) 3))))).bind fun bt321 => (if bt321.2.2.2.2.2 = 0 then ((throttle_Age.f k bt321.1 bt321.2.1 bt321.2.2.1 bt321.2.2.2.1 bt321.2.2.2.2.1 (wrap64 (x9 + 1))).bind fun t330 => (if t330 > bt321.1 then (some false) else ((throttle_Age.f k bt321.1 bt321.2.1 bt321.2.2.1 bt321.2.2.2.1 bt321.2.2.2.2.1 (wrap64 (x9 + 1))).bind fun t331 => ((standbylaw33_oldest.f k x12 (mn x10 (wrap64 ((wrap64 (x11 + x318001)) + (Int.tmod (wrap64 (Int.tdiv (wrap64 (x14)) 4)) 3)))) (wrap64 (x9 + 1))).bind fun t332 => (if t331 = t332 then (standbylaw33_ThrottleKeeps.l1 k (wrap64 (x9 + 1)) x10 (mn x10 (wrap64 ((wrap64 (x11 + x318001)) + (Int.tmod (wrap64 (Int.tdiv (wrap64 (x14)) 4)) 3)))) x12 x14 x38 x39 x40 x46 (wrap64 (x47 + 1)) bt321.1 bt321.2.1 bt321.2.2.1 bt321.2.2.2.1 bt321.2.2.2.2.1) else (some false)))))) else (some false))) else ((throttle_Write.f k x318000 x318001 x318002 x318003 x318004 x9 (wrap64 ((Int.tmod (wrap64 (Int.tdiv (wrap64 (x14)) 12)) 20) + 1))).bind fun bt333 => (if bt333.2.2.2.2.2.2 = 0 then (if bt333.2.2.2.2.2.1 = 0 then (if x12.length < 8796093022208 then (standbylaw33_ThrottleKeeps.j3 k x9 (wrap64 (x10 + (wrap64 ((Int.tmod (wrap64 (Int.tdiv (wrap64 (x14)) 12)) 20) + 1)))) x11 (x12 ++ [(⟨x9, wrap64 (x10 + (wrap64 ((Int.tmod (wrap64 (Int.tdiv (wrap64 (x14)) 12)) 20) + 1)))⟩ : S49)]) x38 x39 x40 bt333.1 bt333.2.1 bt333.2.2.1 bt333.2.2.2.1 bt333.2.2.2.2.1) else (none)) else (standbylaw33_ThrottleKeeps.j3 k x9 x10 x11 x12 x38 x39 x40 bt333.1 bt333.2.1 bt333.2.2.1 bt333.2.2.2.1 bt333.2.2.2.2.1)) else (if bt333.2.2.2.2.2.2 = 21 then (if (wrap64 ((Int.tmod (wrap64 (Int.tdiv (wrap64 (x14)) 12)) 20) + 1)) ≤ (wrap64 (x318001 * x318000)) then (some false) else (standbylaw33_ThrottleKeeps.l0 k x9 x10 x11 x12 x38 x39 (wrap64 (x40 + 1)) x318000 x318001 x318002 x318003 x318004)) else (some false))))
def standbylaw33_ThrottleKeeps.j3 : Nat → Int → Int → Int → List (S49) → List Int → Int → Int → Int → Int → Int → Int → List (S71) → Option (Bool)
 | 0, _, _, _, _, _, _, _, _, _, _, _, _ => none
 | k + 1, x9, x10, x11, x12, x38, x39, x40, x318000, x318001, x318002, x318003, x318004 => (throttle_Backlog.f k x318000 x318001 x318002 x318003 x318004).bind fun t346 => (if t346 > (wrap64 (x318001 * x318000)) then (some false) else ((throttle_Backlog.f k x318000 x318001 x318002 x318003 x318004).bind fun t347 => (if t347 = (wrap64 (x10 - x11)) then (standbylaw33_ThrottleKeeps.l0 k x9 x10 x11 x12 x38 x39 (wrap64 (x40 + 1)) x318000 x318001 x318002 x318003 x318004) else (some false))))
end
def standbylaw33_ThrottleKeeps.f (k : Nat) (a0 : Int) (a1 : Int) (l2 : List Int) : Option (Bool) := (standbylaw33_begin.f a0 a1).bind fun bt309 => (if (l2.length : Int) > 60 then (standbylaw33_ThrottleKeeps.j0 k l2 bt309.2.2.2.2.2 true bt309.1 bt309.2.1 bt309.2.2.1 bt309.2.2.2.1 bt309.2.2.2.2.1) else (standbylaw33_ThrottleKeeps.j0 k l2 bt309.2.2.2.2.2 (!bt309.2.2.2.2.2) bt309.1 bt309.2.1 bt309.2.2.1 bt309.2.2.2.1 bt309.2.2.2.2.1))
theorem standbylaw33_ThrottleKeeps.mono_l : ∀ k, (∀ y0 y1 y2 y3 y4 y5 y6 y7, LeO (standbylaw33_ThrottleKeeps.j0 k y0 y1 y2 y3 y4 y5 y6 y7) (standbylaw33_ThrottleKeeps.j0 (k + 1) y0 y1 y2 y3 y4 y5 y6 y7)) ∧ (∀ y0 y1 y2 y3 y4 y5 y6 y7 y8 y9 y10 y11, LeO (standbylaw33_ThrottleKeeps.l0 k y0 y1 y2 y3 y4 y5 y6 y7 y8 y9 y10 y11) (standbylaw33_ThrottleKeeps.l0 (k + 1) y0 y1 y2 y3 y4 y5 y6 y7 y8 y9 y10 y11)) ∧ (∀ y0 y1 y2 y3 y4 y5 y6 y7 y8 y9 y10 y11 y12 y13 y14, LeO (standbylaw33_ThrottleKeeps.l1 k y0 y1 y2 y3 y4 y5 y6 y7 y8 y9 y10 y11 y12 y13 y14) (standbylaw33_ThrottleKeeps.l1 (k + 1) y0 y1 y2 y3 y4 y5 y6 y7 y8 y9 y10 y11 y12 y13 y14)) ∧ (∀ y0 y1 y2 y3 y4 y5 y6 y7 y8 y9 y10 y11, LeO (standbylaw33_ThrottleKeeps.j3 k y0 y1 y2 y3 y4 y5 y6 y7 y8 y9 y10 y11) (standbylaw33_ThrottleKeeps.j3 (k + 1) y0 y1 y2 y3 y4 y5 y6 y7 y8 y9 y10 y11))
 | 0 => ⟨fun _ _ _ _ _ _ _ _ r h => by simp [standbylaw33_ThrottleKeeps.j0] at h, fun _ _ _ _ _ _ _ _ _ _ _ _ r h => by simp [standbylaw33_ThrottleKeeps.l0] at h, fun _ _ _ _ _ _ _ _ _ _ _ _ _ _ _ r h => by simp [standbylaw33_ThrottleKeeps.l1] at h, fun _ _ _ _ _ _ _ _ _ _ _ _ r h => by simp [standbylaw33_ThrottleKeeps.j3] at h⟩
 | k + 1 => by
  obtain ⟨ih0, ih1, ih2, ih3⟩ := standbylaw33_ThrottleKeeps.mono_l k
  refine ⟨?_, ?_, ?_, ?_⟩
  ·intro y0 y1 y2 y3 y4 y5 y6 y7
   unfold standbylaw33_ThrottleKeeps.j0
   repeat' first
   | (with_reducible exact ih0 _ _ _ _ _ _ _ _)
   | (with_reducible exact ih1 _ _ _ _ _ _ _ _ _ _ _ _)
   | (with_reducible exact ih2 _ _ _ _ _ _ _ _ _ _ _ _ _ _ _)
   | (with_reducible exact ih3 _ _ _ _ _ _ _ _ _ _ _ _)
   | (with_reducible exact standbylaw33_awake.mono _)
   | (with_reducible exact standbylaw33_oldest.mono _ _ _ _)
   | (with_reducible exact throttle_Age.mono _ _ _ _ _ _ _)
   | (with_reducible exact throttle_Backlog.mono _ _ _ _ _ _)
   | (with_reducible exact throttle_Progress.mono _ _ _ _ _ _ _ _)
   | (with_reducible exact throttle_Write.mono _ _ _ _ _ _ _ _)
   | (with_reducible exact LeO.refl _)
   | (with_reducible exact LeO.none _)
   | (with_reducible refine LeO.ite ?_ ?_)
   | (with_reducible refine LeO.bind ?_ (fun _ => ?_))
   | exact ih0 _ _ _ _ _ _ _ _
   | exact ih1 _ _ _ _ _ _ _ _ _ _ _ _
   | exact ih2 _ _ _ _ _ _ _ _ _ _ _ _ _ _ _
   | exact ih3 _ _ _ _ _ _ _ _ _ _ _ _
   | exact standbylaw33_awake.mono _
   | exact standbylaw33_oldest.mono _ _ _ _
   | exact throttle_Age.mono _ _ _ _ _ _ _
   | exact throttle_Backlog.mono _ _ _ _ _ _
   | exact throttle_Progress.mono _ _ _ _ _ _ _ _
   | exact throttle_Write.mono _ _ _ _ _ _ _ _
   | exact LeO.none _
   | refine LeO.ite ?_ ?_
   | refine LeO.bind ?_ (fun _ => ?_)
  ·intro y0 y1 y2 y3 y4 y5 y6 y7 y8 y9 y10 y11
   unfold standbylaw33_ThrottleKeeps.l0
   repeat' first
   | (with_reducible exact ih0 _ _ _ _ _ _ _ _)
   | (with_reducible exact ih1 _ _ _ _ _ _ _ _ _ _ _ _)
   | (with_reducible exact ih2 _ _ _ _ _ _ _ _ _ _ _ _ _ _ _)
   | (with_reducible exact ih3 _ _ _ _ _ _ _ _ _ _ _ _)
   | (with_reducible exact standbylaw33_awake.mono _)
   | (with_reducible exact standbylaw33_oldest.mono _ _ _ _)
   | (with_reducible exact throttle_Age.mono _ _ _ _ _ _ _)
   | (with_reducible exact throttle_Backlog.mono _ _ _ _ _ _)
   | (with_reducible exact throttle_Progress.mono _ _ _ _ _ _ _ _)
   | (with_reducible exact throttle_Write.mono _ _ _ _ _ _ _ _)
   | (with_reducible exact LeO.refl _)
   | (with_reducible exact LeO.none _)
   | (with_reducible refine LeO.ite ?_ ?_)
   | (with_reducible refine LeO.bind ?_ (fun _ => ?_))
   | exact ih0 _ _ _ _ _ _ _ _
   | exact ih1 _ _ _ _ _ _ _ _ _ _ _ _
   | exact ih2 _ _ _ _ _ _ _ _ _ _ _ _ _ _ _
   | exact ih3 _ _ _ _ _ _ _ _ _ _ _ _
   | exact standbylaw33_awake.mono _
   | exact standbylaw33_oldest.mono _ _ _ _
   | exact throttle_Age.mono _ _ _ _ _ _ _
   | exact throttle_Backlog.mono _ _ _ _ _ _
   | exact throttle_Progress.mono _ _ _ _ _ _ _ _
   | exact throttle_Write.mono _ _ _ _ _ _ _ _
   | exact LeO.none _
   | refine LeO.ite ?_ ?_
   | refine LeO.bind ?_ (fun _ => ?_)
  ·intro y0 y1 y2 y3 y4 y5 y6 y7 y8 y9 y10 y11 y12 y13 y14
   unfold standbylaw33_ThrottleKeeps.l1
   repeat' first
   | (with_reducible exact ih0 _ _ _ _ _ _ _ _)
   | (with_reducible exact ih1 _ _ _ _ _ _ _ _ _ _ _ _)
   | (with_reducible exact ih2 _ _ _ _ _ _ _ _ _ _ _ _ _ _ _)
   | (with_reducible exact ih3 _ _ _ _ _ _ _ _ _ _ _ _)
   | (with_reducible exact standbylaw33_awake.mono _)
   | (with_reducible exact standbylaw33_oldest.mono _ _ _ _)
   | (with_reducible exact throttle_Age.mono _ _ _ _ _ _ _)
   | (with_reducible exact throttle_Backlog.mono _ _ _ _ _ _)
   | (with_reducible exact throttle_Progress.mono _ _ _ _ _ _ _ _)
   | (with_reducible exact throttle_Write.mono _ _ _ _ _ _ _ _)
   | (with_reducible exact LeO.refl _)
   | (with_reducible exact LeO.none _)
   | (with_reducible refine LeO.ite ?_ ?_)
   | (with_reducible refine LeO.bind ?_ (fun _ => ?_))
   | exact ih0 _ _ _ _ _ _ _ _
   | exact ih1 _ _ _ _ _ _ _ _ _ _ _ _
   | exact ih2 _ _ _ _ _ _ _ _ _ _ _ _ _ _ _
   | exact ih3 _ _ _ _ _ _ _ _ _ _ _ _
   | exact standbylaw33_awake.mono _
   | exact standbylaw33_oldest.mono _ _ _ _
   | exact throttle_Age.mono _ _ _ _ _ _ _
   | exact throttle_Backlog.mono _ _ _ _ _ _
   | exact throttle_Progress.mono _ _ _ _ _ _ _ _
   | exact throttle_Write.mono _ _ _ _ _ _ _ _
   | exact LeO.none _
   | refine LeO.ite ?_ ?_
   | refine LeO.bind ?_ (fun _ => ?_)
  ·intro y0 y1 y2 y3 y4 y5 y6 y7 y8 y9 y10 y11
   unfold standbylaw33_ThrottleKeeps.j3
   repeat' first
   | (with_reducible exact ih0 _ _ _ _ _ _ _ _)
   | (with_reducible exact ih1 _ _ _ _ _ _ _ _ _ _ _ _)
   | (with_reducible exact ih2 _ _ _ _ _ _ _ _ _ _ _ _ _ _ _)
   | (with_reducible exact ih3 _ _ _ _ _ _ _ _ _ _ _ _)
   | (with_reducible exact standbylaw33_awake.mono _)
   | (with_reducible exact standbylaw33_oldest.mono _ _ _ _)
   | (with_reducible exact throttle_Age.mono _ _ _ _ _ _ _)
   | (with_reducible exact throttle_Backlog.mono _ _ _ _ _ _)
   | (with_reducible exact throttle_Progress.mono _ _ _ _ _ _ _ _)
   | (with_reducible exact throttle_Write.mono _ _ _ _ _ _ _ _)
   | (with_reducible exact LeO.refl _)
   | (with_reducible exact LeO.none _)
   | (with_reducible refine LeO.ite ?_ ?_)
   | (with_reducible refine LeO.bind ?_ (fun _ => ?_))
   | exact ih0 _ _ _ _ _ _ _ _
   | exact ih1 _ _ _ _ _ _ _ _ _ _ _ _
   | exact ih2 _ _ _ _ _ _ _ _ _ _ _ _ _ _ _
   | exact ih3 _ _ _ _ _ _ _ _ _ _ _ _
   | exact standbylaw33_awake.mono _
   | exact standbylaw33_oldest.mono _ _ _ _
   | exact throttle_Age.mono _ _ _ _ _ _ _
   | exact throttle_Backlog.mono _ _ _ _ _ _
   | exact throttle_Progress.mono _ _ _ _ _ _ _ _
   | exact throttle_Write.mono _ _ _ _ _ _ _ _
   | exact LeO.none _
   | refine LeO.ite ?_ ?_
   | refine LeO.bind ?_ (fun _ => ?_)
theorem standbylaw33_ThrottleKeeps.mono : ∀ a0 a1 a2 k, LeO (standbylaw33_ThrottleKeeps.f k a0 a1 a2) (standbylaw33_ThrottleKeeps.f (k + 1) a0 a1 a2) := by
 intro a0 a1 a2 k
 obtain ⟨ih0, ih1, ih2, ih3⟩ := standbylaw33_ThrottleKeeps.mono_l k
 unfold standbylaw33_ThrottleKeeps.f
 repeat' first
   | (with_reducible exact ih0 _ _ _ _ _ _ _ _)
   | (with_reducible exact ih1 _ _ _ _ _ _ _ _ _ _ _ _)
   | (with_reducible exact ih2 _ _ _ _ _ _ _ _ _ _ _ _ _ _ _)
   | (with_reducible exact ih3 _ _ _ _ _ _ _ _ _ _ _ _)
   | (with_reducible exact standbylaw33_awake.mono _)
   | (with_reducible exact standbylaw33_oldest.mono _ _ _ _)
   | (with_reducible exact throttle_Age.mono _ _ _ _ _ _ _)
   | (with_reducible exact throttle_Backlog.mono _ _ _ _ _ _)
   | (with_reducible exact throttle_Progress.mono _ _ _ _ _ _ _ _)
   | (with_reducible exact throttle_Write.mono _ _ _ _ _ _ _ _)
   | (with_reducible exact LeO.refl _)
   | (with_reducible exact LeO.none _)
   | (with_reducible refine LeO.ite ?_ ?_)
   | (with_reducible refine LeO.bind ?_ (fun _ => ?_))
   | exact ih0 _ _ _ _ _ _ _ _
   | exact ih1 _ _ _ _ _ _ _ _ _ _ _ _
   | exact ih2 _ _ _ _ _ _ _ _ _ _ _ _ _ _ _
   | exact ih3 _ _ _ _ _ _ _ _ _ _ _ _
   | exact standbylaw33_awake.mono _
   | exact standbylaw33_oldest.mono _ _ _ _
   | exact throttle_Age.mono _ _ _ _ _ _ _
   | exact throttle_Backlog.mono _ _ _ _ _ _
   | exact throttle_Progress.mono _ _ _ _ _ _ _ _
   | exact throttle_Write.mono _ _ _ _ _ _ _ _
   | exact LeO.none _
   | refine LeO.ite ?_ ?_
   | refine LeO.bind ?_ (fun _ => ?_)
def standbylaw33_ThrottleKeeps.T17 : Bool × List (List Nat × List Nat) := (true, [([], []), ([], []), ([0, 1], [0, 1]), ([], []), ([3], [3]), ([2, 4], [2, 4]), ([5, 2], [5]), ([6], [6]), ([6], [6]), ([7, 8, 6, 6], [6, 7, 8]), ([6], [6]), ([6], [6]), ([6], [6]), ([10, 11, 12, 9, 6], [6, 10, 11, 12]), ([9, 13, 6], [6, 9, 13]), ([6, 14], [6, 14])])
def standbylaw33_ThrottleKeeps.B17 : List Nat := [0, 0, 3, 0, 8, 31, 63, 127, 127, 511, 127, 127, 127, 8191, 16383, 32767]
theorem standbylaw33_ThrottleKeeps.tab17 : rtab .any (opsOf Try.f5 17) = standbylaw33_ThrottleKeeps.T17 := by kernel_rfl
theorem standbylaw33_ThrottleKeeps.bits17 : waitsOk standbylaw33_ThrottleKeeps.T17.2 standbylaw33_ThrottleKeeps.B17 = true := by kernel_rfl
def standbylaw33_ThrottleKeeps.T29 : Bool × List (List Nat × List Nat) := (true, [([], []), ([0], [0]), ([], []), ([2], [2]), ([], []), ([4], [4]), ([3, 5], [3, 5]), ([1, 6], [1, 6]), ([7, 1], [7]), ([8], [8]), ([9, 8, 8], [8, 9]), ([8], [8]), ([8], [8]), ([11, 12, 8], [8, 11, 12]), ([10, 13, 8], [8, 10, 13]), ([8, 14], [8, 14])])
def standbylaw33_ThrottleKeeps.B29 : List Nat := [0, 1, 0, 4, 0, 16, 60, 127, 255, 511, 1023, 511, 511, 6655, 16383, 32767]
theorem standbylaw33_ThrottleKeeps.tab29 : rtab .any (opsOf Try.f5 29) = standbylaw33_ThrottleKeeps.T29 := by kernel_rfl
theorem standbylaw33_ThrottleKeeps.bits29 : waitsOk standbylaw33_ThrottleKeeps.T29.2 standbylaw33_ThrottleKeeps.B29 = true := by kernel_rfl
set_option maxHeartbeats 8000000 in
set_option maxRecDepth 100000 in
theorem standbylaw33_ThrottleKeeps.calls (k : Nat) (a0 : Int) (a1 : Int) (A2 : Option Addr) (c2 : Nat) (l2 : List Int) (r : Bool) (w : World) (hr2 : Kd.C (Kd.int .u16) w A2 l2.length l2) (hc2 : l2.length ≤ c2) (h : standbylaw33_ThrottleKeeps.f k a0 a1 l2 = some r) :
  Calls Try.prog 5 #[.int .u8 a0, .int .u8 a1, .slice A2 l2.length c2] w fun e w' => e = .returned (.bool r) ∧ Below w.heap.size w w' := by
 have hu24 := Try.underlying24
 have hu49 := Try.underlying49
 have HR2 := Aside0.mk hr2
 have HC2 := Aside0.mk hc2
 clear hr2 hc2
 have HB := Aside0.mk (Below.refl w.heap.size w)
 have H : ((standbylaw33_begin.f a0 a1).bind fun bt309 => (if (l2.length : Int) > 60 then (standbylaw33_ThrottleKeeps.j0 k l2 bt309.2.2.2.2.2 true bt309.1 bt309.2.1 bt309.2.2.1 bt309.2.2.2.1 bt309.2.2.2.2.1) else (standbylaw33_ThrottleKeeps.j0 k l2 bt309.2.2.2.2.2 (!bt309.2.2.2.2.2) bt309.1 bt309.2.1 bt309.2.2.1 bt309.2.2.2.1 bt309.2.2.2.2.1))) = some r := h
 clear h
 replace H := Option.bind_eq_some_iff.mp H
 obtain ⟨⟨t309, t310, t311, t312, t313, t316⟩, A40, H⟩ := H
 replace H : (if (l2.length : Int) > 60 then (standbylaw33_ThrottleKeeps.j0 k l2 t316 true t309 t310 t311 t312 t313) else (standbylaw33_ThrottleKeeps.j0 k l2 t316 (!t316) t309 t310 t311 t312 t313)) = some r := H
 have A4 := Aside0.mk A40
 clear A40
 have HC5 := Aside0.mk H
 clear H
 go_enter Try.func5, Try.ntmps5
 go_upto_region 2 with (first | ((with_reducible refine gate_callee (f := 18) rfl ?_); refine goesL_ (some 24) rfl rfl Try.func18 (by kernel_rfl) rfl #[.int .u8 a0, .int .u8 a1] rfl (by (try simp only [List.map_toArray, List.map_cons, List.map_nil]); first | done | rfl | (simp only [List.length_drop, List.length_take]; rfl)) ?_; (with_reducible refine (standbylaw33_begin.calls a0 a1 t309 t310 t311 t312 t313 t316 _ A4.out).mono ?_); rintro e w6 ⟨v314, rfl, ho0, hb⟩; refine ⟨_, rfl, ?_⟩; have n0_ := Aside0.mk (Kd.R_lower ho0 (below_size (by repeat (first | (with_reducible first | exact HB.out | apply below_alloc | apply pw_below_drewN | apply below_drew1) | exact HB.out)))); have n1_ := Aside0.mk (below_step (by repeat (first | (with_reducible first | exact HB.out | apply below_alloc | apply pw_below_drewN | apply below_drew1) | exact HB.out)) hb); clear HB; have HO315 := n0_; have HB := n1_; clear n0_ n1_; (try clear hb); (try clear hb2); (try clear hk); (try clear hi); (try clear ho0)) | ((with_reducible refine gate_dst (N := 7) rfl ?_); refine box_event ?hg (N := 7) ?hd (cs := #[.int .i64 0, .int .i64 0, .int .i64 0, .int .i64 0, .slice none 0 0]) (t := 24) ?hr ?_; (case hd => rfl); (case hg => rfl); (case hr => first | (go_simp; done) | (go_simp; rfl)); intro gb317 hg w7 hbox hb; have n0_ := Aside0.mk (Kd.R_below (by (with_reducible repeat (first | apply Kd.R_alloc | apply Kd.R_drewN | apply Kd.R_drew)); exact HO315.out) hb); have n1_ := Aside0.mk (below_step (by repeat (first | (with_reducible first | exact HB.out | apply below_alloc | apply pw_below_drewN | apply below_drew1) | exact HB.out)) hb); have n2_ := Aside0.mk (hbox); have n3_ := Aside0.mk ((by rw [hg]; exact (below_size (by repeat (first | (with_reducible first | exact HB.out | apply below_alloc | apply pw_below_drewN | apply below_drew1) | exact HB.out))) : w.heap.size ≤ gb317)); have n4_ := Aside0.mk ((by rw [hg]; exact (below_size (by repeat (first | (with_reducible first | exact HB.out | apply below_alloc | apply pw_below_drewN | apply below_drew1) | exact HB.out))) : w.heap.size ≤ gb317)); clear HO315; clear HB; have HO315 := n0_; have HB := n1_; have BK317 := n2_; have GW317 := n3_; have GE317 := n4_; clear n0_ n1_ n2_ n3_ n4_; clear hb hbox hg; have hcz8_0 : w7.cell? ⟨gb317, 0, none⟩ = some (.int .i64 0) := (blk_cell BK317.out 0).trans rfl; have hcz8_1 : w7.cell? ⟨gb317, 1, none⟩ = some (.int .i64 0) := (blk_cell BK317.out 1).trans rfl; have hcz8_2 : w7.cell? ⟨gb317, 2, none⟩ = some (.int .i64 0) := (blk_cell BK317.out 2).trans rfl; have hcz8_3 : w7.cell? ⟨gb317, 3, none⟩ = some (.int .i64 0) := (blk_cell BK317.out 3).trans rfl; have hcz8_4 : w7.cell? ⟨gb317, 4, none⟩ = some (.slice none 0 0) := (blk_cell BK317.out 4).trans rfl; have hfz8_0 := blk_frozen BK317.out 0; have hfz8_1 := blk_frozen BK317.out 1; have hfz8_2 := blk_frozen BK317.out 2; have hfz8_3 := blk_frozen BK317.out 3; have hfz8_4 := blk_frozen BK317.out 4; obtain ⟨Ao9, co9, eo9⟩ := Kd.R_slice HO315.out; subst eo9))
 (try simp only [Act.put, List.setIfInBounds_toArray, List.set_cons_zero, List.set_cons_succ])
 go_cut [33] (fun v33 wc => ∃ (kq : Nat) (x33_4 : Bool), v33 = .bool x33_4 ∧ Aside0 (standbylaw33_ThrottleKeeps.j0 kq l2 t316 x33_4 t309 t310 t311 t312 t313 = some r) ∧ Aside0 (kq ≤ k) ∧ Aside0 (Kd.Q k71 71 wc w.heap.size (fun _ => True) (.slice Ao9 t313.length co9) t313) ∧ Aside0 (wc.heap[gb317]? = some (.cells #[.int .i64 t309, .int .i64 t310, .int .i64 t311, .int .i64 t312, (.slice Ao9 t313.length co9)] 24 (0, 0))) ∧ Aside0 (Below w.heap.size w wc))
 case first =>
  have H := HC5.out
  clear HC5
  by_cases c10 : (l2.length : Int) > 60
  ·rw [if_pos c10] at H
   have c10b0 : decide (60 < (l2.length : Int)) = true := decide_eq_true c10
   have c10b1 : decide (60 < l2.length) = true := decide_eq_true (by omega)
   clear c10
   (first | rw [c10b0] | (simp only [i64_w, i32_w]; rw [c10b0]) | skip)
   have H' := Aside0.mk H
   clear H
   go_wp2
   go_meet
   case rel => exact ⟨_, (true), (by first | rfl | (simp; done) | (simp [*]; done)), H', ⟨by first | omega | exact Nat.le_refl _⟩, ⟨Kd.Q_of_R (by (with_reducible repeat (first | apply Kd.R_alloc | apply Kd.R_drewN | apply Kd.R_drew)); exact Kd.R_mono (Kd.R_far (p := ⟨gb317, 4, none⟩) (Kd.R_far (p := ⟨gb317, 3, none⟩) (Kd.R_far (p := ⟨gb317, 2, none⟩) (Kd.R_far (p := ⟨gb317, 1, none⟩) (Kd.R_far (p := ⟨gb317, 0, none⟩) (Kd.R_types HO315.out BK317.out (by decide)) (fun _ hk => hk.2) (.int .i64 t309)) (fun _ hk => hk.2) (.int .i64 t310)) (fun _ hk => hk.2) (.int .i64 t311)) (fun _ hk => hk.2) (.int .i64 t312)) (fun _ hk => hk.2) (.slice Ao9 t313.length co9)) (fun _ hk => trivial))⟩, ⟨by (with_reducible repeat (first | refine blk_drewN ?_ _ | refine blk_drew ?_ | refine blk_alloc ?_ _)); refine blk_put (cs := #[.int .i64 t309, .int .i64 t310, .int .i64 t311, .int .i64 t312, .slice none 0 0]) ?_ 4 _ rfl; (with_reducible repeat (first | refine blk_drewN ?_ _ | refine blk_drew ?_ | refine blk_alloc ?_ _)); refine blk_put (cs := #[.int .i64 t309, .int .i64 t310, .int .i64 t311, .int .i64 0, .slice none 0 0]) ?_ 3 _ rfl; (with_reducible repeat (first | refine blk_drewN ?_ _ | refine blk_drew ?_ | refine blk_alloc ?_ _)); refine blk_put (cs := #[.int .i64 t309, .int .i64 t310, .int .i64 0, .int .i64 0, .slice none 0 0]) ?_ 2 _ rfl; (with_reducible repeat (first | refine blk_drewN ?_ _ | refine blk_drew ?_ | refine blk_alloc ?_ _)); refine blk_put (cs := #[.int .i64 t309, .int .i64 0, .int .i64 0, .int .i64 0, .slice none 0 0]) ?_ 1 _ rfl; (with_reducible repeat (first | refine blk_drewN ?_ _ | refine blk_drew ?_ | refine blk_alloc ?_ _)); refine blk_put (cs := #[.int .i64 0, .int .i64 0, .int .i64 0, .int .i64 0, .slice none 0 0]) ?_ 0 _ rfl; (with_reducible repeat (first | refine blk_drewN ?_ _ | refine blk_drew ?_ | refine blk_alloc ?_ _)); exact BK317.out⟩, ⟨by repeat (first | (with_reducible first | exact HB.out | apply below_alloc | apply pw_below_drewN | apply below_drew1 | refine below_set ?_ GE317.out) | exact HB.out)⟩⟩
  ·rw [if_neg c10] at H
   have c10b0 : decide (60 < (l2.length : Int)) = false := decide_eq_false c10
   have c10b1 : decide (60 < l2.length) = false := decide_eq_false (by omega)
   clear c10
   (first | rw [c10b0] | (simp only [i64_w, i32_w]; rw [c10b0]) | skip)
   have H' := Aside0.mk H
   clear H
   go_wp2
   go_meet
   case rel => exact ⟨_, (!t316), (by first | rfl | (simp; done) | (simp [*]; done)), H', ⟨by first | omega | exact Nat.le_refl _⟩, ⟨Kd.Q_of_R (by (with_reducible repeat (first | apply Kd.R_alloc | apply Kd.R_drewN | apply Kd.R_drew)); exact Kd.R_mono (Kd.R_far (p := ⟨gb317, 4, none⟩) (Kd.R_far (p := ⟨gb317, 3, none⟩) (Kd.R_far (p := ⟨gb317, 2, none⟩) (Kd.R_far (p := ⟨gb317, 1, none⟩) (Kd.R_far (p := ⟨gb317, 0, none⟩) (Kd.R_types HO315.out BK317.out (by decide)) (fun _ hk => hk.2) (.int .i64 t309)) (fun _ hk => hk.2) (.int .i64 t310)) (fun _ hk => hk.2) (.int .i64 t311)) (fun _ hk => hk.2) (.int .i64 t312)) (fun _ hk => hk.2) (.slice Ao9 t313.length co9)) (fun _ hk => trivial))⟩, ⟨by (with_reducible repeat (first | refine blk_drewN ?_ _ | refine blk_drew ?_ | refine blk_alloc ?_ _)); refine blk_put (cs := #[.int .i64 t309, .int .i64 t310, .int .i64 t311, .int .i64 t312, .slice none 0 0]) ?_ 4 _ rfl; (with_reducible repeat (first | refine blk_drewN ?_ _ | refine blk_drew ?_ | refine blk_alloc ?_ _)); refine blk_put (cs := #[.int .i64 t309, .int .i64 t310, .int .i64 t311, .int .i64 0, .slice none 0 0]) ?_ 3 _ rfl; (with_reducible repeat (first | refine blk_drewN ?_ _ | refine blk_drew ?_ | refine blk_alloc ?_ _)); refine blk_put (cs := #[.int .i64 t309, .int .i64 t310, .int .i64 0, .int .i64 0, .slice none 0 0]) ?_ 2 _ rfl; (with_reducible repeat (first | refine blk_drewN ?_ _ | refine blk_drew ?_ | refine blk_alloc ?_ _)); refine blk_put (cs := #[.int .i64 t309, .int .i64 0, .int .i64 0, .int .i64 0, .slice none 0 0]) ?_ 1 _ rfl; (with_reducible repeat (first | refine blk_drewN ?_ _ | refine blk_drew ?_ | refine blk_alloc ?_ _)); refine blk_put (cs := #[.int .i64 0, .int .i64 0, .int .i64 0, .int .i64 0, .slice none 0 0]) ?_ 0 _ rfl; (with_reducible repeat (first | refine blk_drewN ?_ _ | refine blk_drew ?_ | refine blk_alloc ?_ _)); exact BK317.out⟩, ⟨by repeat (first | (with_reducible first | exact HB.out | apply below_alloc | apply pw_below_drewN | apply below_drew1 | refine below_set ?_ GE317.out) | exact HB.out)⟩⟩
 case rest =>
  clear HC5
  try clear c1
  try clear c2
  try clear p2
  try clear c5
  try clear c10
  try clear c10b0
  try clear c10b1
  try clear hcz8_0
  try clear hcz8_1
  try clear hcz8_2
  try clear hcz8_3
  try clear hcz8_4
  try clear hfz8_0
  try clear hfz8_1
  try clear hfz8_2
  try clear hfz8_3
  try clear hfz8_4
  obtain ⟨kq, x33_4, rfl, HA, HJ4, HO_318004, BK317, HB⟩ := hcut
  cases kq with
  | zero => exact absurd HA.out (by simp [standbylaw33_ThrottleKeeps.j0])
  | succ kj4 =>
   have H := HA.out
   clear HA
   simp only [standbylaw33_ThrottleKeeps.j0] at H
   by_cases c11 : x33_4 = true
   ·subst c11
    have H1 : (if t316 = true then ((standbylaw33_awake.f kj4).bind fun t318 => (some t318)) else (some false)) = some r := by rw [if_pos rfl] at H; exact H
    clear H
    have H := H1
    clear H1
    by_cases c12 : t316 = true
    ·subst c12
     have H1 : ((standbylaw33_awake.f kj4).bind fun t318 => (some t318)) = some r := by rw [if_pos rfl] at H; exact H
     clear H
     have H := H1
     clear H1
     replace H := Option.bind_eq_some_iff.mp H
     obtain ⟨t318, A130, H⟩ := H
     replace H : (some t318) = some r := H
     have A13 := Aside0.mk A130
     clear A130
     obtain rfl := Option.some.inj H
     go_wp2_with (first | (go_at_call 10; (with_reducible refine (standbylaw33_awake.calls kj4  t318 _ A13.out).mono ?_); rintro e w14 ⟨rfl, hb⟩; have n0_ := Aside0.mk (Kd.Q_below (by (with_reducible repeat (first | apply Kd.Q_alloc | apply Kd.Q_drewN | apply Kd.Q_drew)); exact HO_318004.out) hb); have n1_ := Aside0.mk (blk_below (g := gb317) (o := .cells #[.int .i64 t309, .int .i64 t310, .int .i64 t311, .int .i64 t312, .slice Ao9 t313.length co9] 24 (0, 0)) (by (with_reducible repeat (first | refine blk_drewN ?_ _ | refine blk_drew ?_ | refine blk_alloc ?_ _)); exact BK317.out) hb); have n2_ := Aside0.mk (below_step (by repeat (first | (with_reducible first | exact HB.out | apply below_alloc | apply pw_below_drewN | apply below_drew1 | refine below_set ?_ GE317.out) | exact HB.out)) hb); clear HO_318004; clear BK317; clear HB; have HO_318004 := n0_; have BK317 := n1_; have HB := n2_; clear n0_ n1_ n2_; (try clear hb); (try clear hb2); (try clear hk); (try clear hi)))
     go_ret
     exact ⟨by first | rfl | (simp [errW_none, errW_some] <;> rfl) | (simp [*, errW_none, errW_some] <;> rfl), by repeat (first | (with_reducible first | exact HB.out | apply below_alloc | apply pw_below_drewN | apply below_drew1 | refine below_set ?_ GE317.out) | exact HB.out)⟩
    ·replace c12 := Bool.eq_false_iff.mpr c12
     subst c12
     have H1 : (some false) = some r := by rw [if_neg (show ¬ (false = true) by decide)] at H; exact H
     clear H
     have H := H1
     clear H1
     obtain rfl := Option.some.inj H
     go_wp2
     go_ret
     exact ⟨by first | rfl | (simp [errW_none, errW_some] <;> rfl) | (simp [*, errW_none, errW_some] <;> rfl), by repeat (first | (with_reducible first | exact HB.out | apply below_alloc | apply pw_below_drewN | apply below_drew1 | refine below_set ?_ GE317.out) | exact HB.out)⟩
   ·replace c11 := Bool.eq_false_iff.mpr c11
    subst c11
    have H1 : (standbylaw33_ThrottleKeeps.l0 kj4 0 0 0 ([] : List (S49)) l2 (l2.length : Int) 0 t309 t310 t311 t312 t313) = some r := by rw [if_neg (show ¬ (false = true) by decide)] at H; exact H
    clear H
    have H := H1
    clear H1
    have H' := Aside0.mk H
    clear H
    go_wp2
    go_loopg [9, 10, 11, 12, 40] kj4 (fun kq v9 v10 v11 v12 v40 w' => ∃ (x9_2 : Int) (x10_2 : Int) (x11_2 : Int) (x12_2 : List (S49)) (x40_2 : Int) (x318000_2 : Int) (x318001_2 : Int) (x318002_2 : Int) (x318003_2 : Int) (x318004_2 : List (S71)) (u318004 : Value), v9 = .int .i64 x9_2 ∧ v10 = .int .i64 x10_2 ∧ v11 = .int .i64 x11_2 ∧ v40 = .int .i64 x40_2 ∧ Aside0 (standbylaw33_ThrottleKeeps.l0 kq x9_2 x10_2 x11_2 x12_2 l2 (l2.length : Int) x40_2 x318000_2 x318001_2 x318002_2 x318003_2 x318004_2 = some r) ∧ Aside0 (kq ≤ kj4) ∧ Aside0 (Kd.R k49 49 w' w.heap.size (fun _ => True) v12 x12_2) ∧ Aside0 (Kd.Q k71 71 w' w.heap.size (fun _ => True) u318004 x318004_2) ∧ Aside0 (w'.heap[gb317]? = some (.cells #[.int .i64 x318000_2, .int .i64 x318001_2, .int .i64 x318002_2, .int .i64 x318003_2, u318004] 24 (0, 0))) ∧ Aside0 (Below w.heap.size w w'))
    case atStart => exact ⟨(0), (0), (0), (([] : List (S49))), (0), (t309), (t310), (t311), (t312), (t313), (.slice Ao9 t313.length co9), (by first | rfl | (simp; done) | (simp [*]; done)), (by first | rfl | (simp; done) | (simp [*]; done)), (by first | rfl | (simp; done) | (simp [*]; done)), (by first | rfl | (simp; done) | (simp [*]; done)), H', ⟨Nat.le_refl _⟩, ⟨by first | exact Kd.R_nil _ _ _ _ _ | exact Kd.N_nil _ _ _ _ _ | exact Kd.V_nil _ _ _ _ _ | exact Kd.Q_nil _ _ _ _ _ | exact Kd.S_nil _ _ _ _ _⟩, ⟨by (with_reducible repeat (first | apply Kd.Q_alloc | apply Kd.Q_drewN | apply Kd.Q_drew)); exact HO_318004.out⟩, ⟨by (with_reducible repeat (first | refine blk_drewN ?_ _ | refine blk_drew ?_ | refine blk_alloc ?_ _)); exact BK317.out⟩, ⟨by repeat (first | (with_reducible first | exact HB.out | apply below_alloc | apply pw_below_drewN | apply below_drew1 | refine below_set ?_ GE317.out) | exact HB.out)⟩⟩
    case round =>
     clear H'
     try clear c1
     try clear c2
     try clear p2
     try clear c5
     try clear c10
     try clear c10b0
     try clear c10b1
     try clear c11
     try clear c12
     try clear hcz8_0
     try clear hcz8_1
     try clear hcz8_2
     try clear hcz8_3
     try clear hcz8_4
     try clear hfz8_0
     try clear hfz8_1
     try clear hfz8_2
     try clear hfz8_3
     try clear hfz8_4
     try clear p2
     obtain ⟨x9_2, x10_2, x11_2, x12_2, x40_2, x318000_2, x318001_2, x318002_2, x318003_2, x318004_2, u318004, rfl, rfl, rfl, rfl, HA, HK2, HO_12, HO_318004, BK317, HB⟩ := hrel
     cases gk with
     | zero => exact absurd HA.out (by simp [standbylaw33_ThrottleKeeps.l0])
     | succ k2 =>
      have H := HA.out
      clear HA
      simp only [standbylaw33_ThrottleKeeps.l0] at H
      by_cases c15 : x40_2 < (l2.length : Int)
      ·rw [if_pos c15] at H
       have c15b0 : decide (x40_2 < (l2.length : Int)) = true := decide_eq_true c15
       clear c15
       by_cases c16 : 0 ≤ x40_2
       ·rw [if_pos c16] at H
        have c16b0 : decide (0 ≤ x40_2) = true := decide_eq_true c16
        clear c16
        by_cases c17 : x40_2 < (l2.length : Int)
        ·rw [if_pos c17] at H
         have c17b0 : decide (x40_2 < (l2.length : Int)) = true := decide_eq_true c17
         clear c17
         have H' := Aside0.mk H
         clear H
         have p320 : 0 ≤ (x40_2 : Int) := of_decide_eq_true (by first | (with_reducible assumption) | assumption)
         have q320 : x40_2 < (l2.length : Int) := of_decide_eq_true (by first | (with_reducible assumption) | assumption)
         obtain ⟨ad320, e320, hx320_0⟩ := Kd.at_int HR2.out x40_2 p320 q320
         cases e320
         replace hx320_0 := (HB.out.cell (World.block_lt_of_cell? w _ hx320_0)).trans hx320_0
         replace p320 := eq_true p320
         replace q320 := eq_true q320
         go_wp2
         go_loopg [9, 11, 47] k2 (fun kq v9 v11 v47 w' => ∃ (x9_3 : Int) (x11_3 : Int) (x47_3 : Int) (x318000_3 : Int) (x318001_3 : Int) (x318002_3 : Int) (x318003_3 : Int) (x318004_3 : List (S71)) (u318004 : Value), v9 = .int .i64 x9_3 ∧ v11 = .int .i64 x11_3 ∧ v47 = .int .i64 x47_3 ∧ Aside0 (standbylaw33_ThrottleKeeps.l1 kq x9_3 x10_2 x11_3 x12_2 (rd l2 x40_2) l2 (l2.length : Int) x40_2 (Int.tmod (wrap64 (rd l2 x40_2)) 4) x47_3 x318000_3 x318001_3 x318002_3 x318003_3 x318004_3 = some r) ∧ Aside0 (kq ≤ k2) ∧ Aside0 (Kd.R k49 49 w' w.heap.size (fun _ => True) u12 x12_2) ∧ Aside0 (Kd.Q k71 71 w' w.heap.size (fun _ => True) u318004 x318004_3) ∧ Aside0 (w'.heap[gb317]? = some (.cells #[.int .i64 x318000_3, .int .i64 x318001_3, .int .i64 x318002_3, .int .i64 x318003_3, u318004] 24 (0, 0))) ∧ Aside0 (Below w.heap.size w w'))
         case atStart => exact ⟨(x9_2), (x11_2), (0), (x318000_2), (x318001_2), (x318002_2), (x318003_2), (x318004_2), (u318004), (by first | rfl | (simp; done) | (simp [*]; done)), (by first | rfl | (simp; done) | (simp [*]; done)), (by first | rfl | (simp; done) | (simp [*]; done)), H', ⟨Nat.le_refl _⟩, ⟨by (with_reducible repeat (first | apply Kd.R_alloc | apply Kd.R_drewN | apply Kd.R_drew)); exact HO_12.out⟩, ⟨by (with_reducible repeat (first | apply Kd.Q_alloc | apply Kd.Q_drewN | apply Kd.Q_drew)); exact HO_318004.out⟩, ⟨by (with_reducible repeat (first | refine blk_drewN ?_ _ | refine blk_drew ?_ | refine blk_alloc ?_ _)); exact BK317.out⟩, ⟨by repeat (first | (with_reducible first | exact HB.out | apply below_alloc | apply pw_below_drewN | apply below_drew1 | refine below_set ?_ GE317.out) | exact HB.out)⟩⟩
         case round =>
          clear H'
          try clear c1
          try clear c2
          try clear p2
          try clear p3
          try clear q3
          try clear hx3
          try clear c5
          try clear p6
          try clear c10
          try clear c10b0
          try clear c10b1
          try clear c11
          try clear c12
          try clear c15
          try clear c15b0
          try clear c16
          try clear c16b0
          try clear c17
          try clear c17b0
          try clear hcz8_0
          try clear hcz8_1
          try clear hcz8_2
          try clear hcz8_3
          try clear hcz8_4
          try clear hfz8_0
          try clear hfz8_1
          try clear hfz8_2
          try clear hfz8_3
          try clear hfz8_4
          try clear hx320_0
          try clear p2
          try clear p320
          try clear q320
          obtain ⟨x9_3, x11_3, x47_3, x318000_3, x318001_3, x318002_3, x318003_3, x318004_3, u318004, rfl, rfl, rfl, HA, HK3, HO_12, HO_318004, BK317, HB⟩ := hrel
          cases gk with
          | zero => exact absurd HA.out (by simp [standbylaw33_ThrottleKeeps.l1])
          | succ k3 =>
           have H := HA.out
           clear HA
           simp only [standbylaw33_ThrottleKeeps.l1] at H
           by_cases c18 : x47_3 < (Int.tmod (wrap64 (rd l2 x40_2)) 4)
           ·rw [if_pos c18] at H
            have c18b0 : decide (x47_3 < (Int.tmod (wrap64 (rd l2 x40_2)) 4)) = true := decide_eq_true c18
            clear c18
            obtain ⟨ji19, hji19⟩ : ∃ j_ : Int, (mn x10_2 (wrap64 ((wrap64 (x11_3 + x318001_3)) + (Int.tmod (wrap64 (Int.tdiv (wrap64 ((rd l2 x40_2))) 4)) 3)))) = j_ := ⟨_, rfl⟩
            replace H : ((throttle_Progress.f k3 x318000_3 x318001_3 x318002_3 x318003_3 x318004_3 (wrap64 (x9_3 + 1)) (ji19)).bind fun bt321 => (if bt321.2.2.2.2.2 = 0 then ((throttle_Age.f k3 bt321.1 bt321.2.1 bt321.2.2.1 bt321.2.2.2.1 bt321.2.2.2.2.1 (wrap64 (x9_3 + 1))).bind fun t330 => (if t330 > bt321.1 then (some false) else ((throttle_Age.f k3 bt321.1 bt321.2.1 bt321.2.2.1 bt321.2.2.2.1 bt321.2.2.2.2.1 (wrap64 (x9_3 + 1))).bind fun t331 => ((standbylaw33_oldest.f k3 x12_2 (ji19) (wrap64 (x9_3 + 1))).bind fun t332 => (if t331 = t332 then (standbylaw33_ThrottleKeeps.l1 k3 (wrap64 (x9_3 + 1)) x10_2 ji19 x12_2 (rd l2 x40_2) l2 (l2.length : Int) x40_2 (Int.tmod (wrap64 (rd l2 x40_2)) 4) (wrap64 (x47_3 + 1)) bt321.1 bt321.2.1 bt321.2.2.1 bt321.2.2.2.1 bt321.2.2.2.2.1) else (some false)))))) else (some false))) = some r := by first | (rw [hji19] at H; exact H) | (simp only [hji19] at H ⊢; exact H)
            have hji19_ : (if (wrap64 ((wrap64 (x11_3 + x318001_3)) + (Int.tmod (wrap64 (Int.tdiv (wrap64 ((rd l2 x40_2))) 4)) 3))) < x10_2 then (wrap64 ((wrap64 (x11_3 + x318001_3)) + (Int.tmod (wrap64 (Int.tdiv (wrap64 ((rd l2 x40_2))) 4)) 3))) else x10_2) = ji19 := hji19
            replace H := Option.bind_eq_some_iff.mp H
            obtain ⟨⟨t321, t322, t323, t324, t325, t328⟩, A200, H⟩ := H
            replace H : (if t328 = 0 then ((throttle_Age.f k3 t321 t322 t323 t324 t325 (wrap64 (x9_3 + 1))).bind fun t330 => (if t330 > t321 then (some false) else ((throttle_Age.f k3 t321 t322 t323 t324 t325 (wrap64 (x9_3 + 1))).bind fun t331 => ((standbylaw33_oldest.f k3 x12_2 (ji19) (wrap64 (x9_3 + 1))).bind fun t332 => (if t331 = t332 then (standbylaw33_ThrottleKeeps.l1 k3 (wrap64 (x9_3 + 1)) x10_2 ji19 x12_2 (rd l2 x40_2) l2 (l2.length : Int) x40_2 (Int.tmod (wrap64 (rd l2 x40_2)) 4) (wrap64 (x47_3 + 1)) t321 t322 t323 t324 t325) else (some false)))))) else (some false)) = some r := H
            have A20 := Aside0.mk A200
            clear A200
            by_cases c21 : t328 = 0
            ·rw [if_pos c21] at H
             have c21b0 : (t328 == 0) = true := beq_iff_eq.mpr c21
             have c21b1 : (t328 != 0) = false := bne_eq_false_iff_eq.mpr c21
             clear c21
             replace H := Option.bind_eq_some_iff.mp H
             obtain ⟨t330, A220, H⟩ := H
             replace H : (if t330 > t321 then (some false) else ((throttle_Age.f k3 t321 t322 t323 t324 t325 (wrap64 (x9_3 + 1))).bind fun t331 => ((standbylaw33_oldest.f k3 x12_2 (ji19) (wrap64 (x9_3 + 1))).bind fun t332 => (if t331 = t332 then (standbylaw33_ThrottleKeeps.l1 k3 (wrap64 (x9_3 + 1)) x10_2 ji19 x12_2 (rd l2 x40_2) l2 (l2.length : Int) x40_2 (Int.tmod (wrap64 (rd l2 x40_2)) 4) (wrap64 (x47_3 + 1)) t321 t322 t323 t324 t325) else (some false))))) = some r := H
             have A22 := Aside0.mk A220
             clear A220
             by_cases c23 : t330 > t321
             ·rw [if_pos c23] at H
              have c23b0 : decide (t321 < t330) = true := decide_eq_true c23
              clear c23
              obtain rfl := Option.some.inj H
              have hcz24_0 : wr.cell? ⟨gb317, 0, none⟩ = some (.int .i64 x318000_3) := (blk_cell BK317.out 0).trans rfl
              have hcz24_1 : wr.cell? ⟨gb317, 1, none⟩ = some (.int .i64 x318001_3) := (blk_cell BK317.out 1).trans rfl
              have hcz24_2 : wr.cell? ⟨gb317, 2, none⟩ = some (.int .i64 x318002_3) := (blk_cell BK317.out 2).trans rfl
              have hcz24_3 : wr.cell? ⟨gb317, 3, none⟩ = some (.int .i64 x318003_3) := (blk_cell BK317.out 3).trans rfl
              have hcz24_4 : wr.cell? ⟨gb317, 4, none⟩ = some (u318004) := (blk_cell BK317.out 4).trans rfl
              have hfz24_0 := blk_frozen BK317.out 0
              have hfz24_1 := blk_frozen BK317.out 1
              have hfz24_2 := blk_frozen BK317.out 2
              have hfz24_3 := blk_frozen BK317.out 3
              have hfz24_4 := blk_frozen BK317.out 4
              obtain ⟨Ao25, co25, eo25, _⟩ := Kd.Q_slice HO_318004.out
              subst eo25
              try go_wp2_with (first | ((with_reducible refine gate_callee (f := 19) rfl ?_); refine goesL_ (some 66) rfl rfl Try.func19 (by kernel_rfl) rfl #[.agg #[.int .i64 x318000_3, .int .i64 x318001_3, .int .i64 x318002_3, .int .i64 x318003_3, .slice Ao25 x318004_3.length co25], .int .i64 (wrap64 (x9_3 + 1)), .int .i64 ji19] rfl (by (try simp only [List.map_toArray, List.map_cons, List.map_nil]); first | done | (simp only [hji19]; rfl) | rfl | (simp only [List.length_drop, List.length_take]; rfl)) ?_; (with_reducible refine (throttle_Progress.calls k3 x318000_3 x318001_3 x318002_3 x318003_3 _ _ x318004_3 (wrap64 (x9_3 + 1)) ji19 t321 t322 t323 t324 t325 t328 _ ?side1 ?side2 A20.out).mono ?_); (case side1 => repeat (first | exact (Kd.Q_reads' HO_318004.out).2.2 | (with_reducible refine Kd.C_alloc ?_ _) | (with_reducible refine Kd.C_drewN ?_ _) | (with_reducible refine Kd.C_drew ?_))); (case side2 => exact (Kd.Q_reads' HO_318004.out).2.1); rintro e w26 ⟨v326, rfl, ho0, hb⟩; refine ⟨_, rfl, ?_⟩; have n0_ := Aside0.mk (Kd.R_below (by (with_reducible repeat (first | apply Kd.R_alloc | apply Kd.R_drewN | apply Kd.R_drew)); exact HO_12.out) hb); have n1_ := Aside0.mk (Kd.Q_elder' (by (with_reducible repeat (first | apply Kd.Q_alloc | apply Kd.Q_drewN | apply Kd.Q_drew)); exact HO_318004.out) (Kd.Q_base ho0) hb); have n2_ := Aside0.mk (Kd.Q_lower (Kd.Q_new' ho0 (Kd.Q_lt (by (with_reducible repeat (first | apply Kd.Q_alloc | apply Kd.Q_drewN | apply Kd.Q_drew)); exact HO_318004.out))) (below_size (by repeat (first | (with_reducible first | exact HB.out | apply below_alloc | apply pw_below_drewN | apply below_drew1 | refine below_set ?_ GE317.out) | exact HB.out)))); have n3_ := Aside0.mk (blk_below (g := gb317) (o := .cells #[.int .i64 x318000_3, .int .i64 x318001_3, .int .i64 x318002_3, .int .i64 x318003_3, .slice Ao25 x318004_3.length co25] 24 (0, 0)) (by (with_reducible repeat (first | refine blk_drewN ?_ _ | refine blk_drew ?_ | refine blk_alloc ?_ _)); exact BK317.out) hb); have n4_ := Aside0.mk (below_step (by repeat (first | (with_reducible first | exact HB.out | apply below_alloc | apply pw_below_drewN | apply below_drew1 | refine below_set ?_ GE317.out) | exact HB.out)) hb); clear HO_12; clear HO_318004; clear BK317; clear HB; have HO_12 := n0_; have HO_318004 := n1_; have HO327 := n2_; have BK317 := n3_; have HB := n4_; clear n0_ n1_ n2_ n3_ n4_; (try clear hb); (try clear hb2); (try clear hk); (try clear hi); (try clear ho0)) | ((with_reducible refine gate_dst (N := 15) rfl ?_); refine box_event ?hg (N := 15) ?hd (cs := #[.int .i64 0, .int .i64 0, .int .i64 0, .int .i64 0, .slice none 0 0]) (t := 24) ?hr ?_; (case hd => rfl); (case hg => rfl); (case hr => first | (go_simp; done) | (go_simp; rfl)); intro gb329 hg w27 hbox hb; have n0_ := Aside0.mk (Kd.R_below (by (with_reducible repeat (first | apply Kd.R_alloc | apply Kd.R_drewN | apply Kd.R_drew)); exact HO_12.out) hb); have n1_ := Aside0.mk (Kd.Q_below (by (with_reducible repeat (first | apply Kd.Q_alloc | apply Kd.Q_drewN | apply Kd.Q_drew)); exact HO_318004.out) hb); have n2_ := Aside0.mk (Kd.Q_below (by (with_reducible repeat (first | apply Kd.Q_alloc | apply Kd.Q_drewN | apply Kd.Q_drew)); exact HO327.out) hb); have n3_ := Aside0.mk (blk_below (g := gb317) (o := .cells #[.int .i64 x318000_3, .int .i64 x318001_3, .int .i64 x318002_3, .int .i64 x318003_3, .slice Ao25 x318004_3.length co25] 24 (0, 0)) (by (with_reducible repeat (first | refine blk_drewN ?_ _ | refine blk_drew ?_ | refine blk_alloc ?_ _)); exact BK317.out) hb); have n4_ := Aside0.mk (below_step (by repeat (first | (with_reducible first | exact HB.out | apply below_alloc | apply pw_below_drewN | apply below_drew1 | refine below_set ?_ GE317.out) | exact HB.out)) hb); have n5_ := Aside0.mk (hbox); have n6_ := Aside0.mk ((by rw [hg]; exact (below_size (by repeat (first | (with_reducible first | exact HB.out | apply below_alloc | apply pw_below_drewN | apply below_drew1 | refine below_set ?_ GE317.out) | exact HB.out))) : w.heap.size ≤ gb329)); have n7_ := Aside0.mk ((by rw [hg]; exact (below_size (by repeat (first | (with_reducible first | exact HB.out | apply below_alloc | apply pw_below_drewN | apply below_drew1 | refine below_set ?_ GE317.out) | exact HB.out))) : w.heap.size ≤ gb329)); have n8_ := Aside0.mk ((by rw [hg]; exact Nat.ne_of_lt (blk_lt (g := gb317) (o := .cells #[.int .i64 x318000_3, .int .i64 x318001_3, .int .i64 x318002_3, .int .i64 x318003_3, .slice Ao25 x318004_3.length co25] 24 (0, 0)) (by (with_reducible repeat (first | refine blk_drewN ?_ _ | refine blk_drew ?_ | refine blk_alloc ?_ _)); exact BK317.out)) : gb317 ≠ gb329)); have n9_ := Aside0.mk ((by rw [hg]; exact Nat.ne_of_gt (blk_lt (g := gb317) (o := .cells #[.int .i64 x318000_3, .int .i64 x318001_3, .int .i64 x318002_3, .int .i64 x318003_3, .slice Ao25 x318004_3.length co25] 24 (0, 0)) (by (with_reducible repeat (first | refine blk_drewN ?_ _ | refine blk_drew ?_ | refine blk_alloc ?_ _)); exact BK317.out)) : gb329 ≠ gb317)); clear HO_12; clear HO_318004; clear HO327; clear BK317; clear HB; have HO_12 := n0_; have HO_318004 := n1_; have HO327 := n2_; have BK317 := n3_; have HB := n4_; have BK329 := n5_; have GW329 := n6_; have GE329 := n7_; have NB317_329 := n8_; have NB329_317 := n9_; clear n0_ n1_ n2_ n3_ n4_ n5_ n6_ n7_ n8_ n9_; clear hb hbox hg; have hnb28 := NB329_317.out; have hnc28 := NB317_329.out; have hcz29_0 : w27.cell? ⟨gb329, 0, none⟩ = some (.int .i64 0) := (blk_cell BK329.out 0).trans rfl; have hcz29_1 : w27.cell? ⟨gb329, 1, none⟩ = some (.int .i64 0) := (blk_cell BK329.out 1).trans rfl; have hcz29_2 : w27.cell? ⟨gb329, 2, none⟩ = some (.int .i64 0) := (blk_cell BK329.out 2).trans rfl; have hcz29_3 : w27.cell? ⟨gb329, 3, none⟩ = some (.int .i64 0) := (blk_cell BK329.out 3).trans rfl; have hcz29_4 : w27.cell? ⟨gb329, 4, none⟩ = some (.slice none 0 0) := (blk_cell BK329.out 4).trans rfl; have hfz29_0 := blk_frozen BK329.out 0; have hfz29_1 := blk_frozen BK329.out 1; have hfz29_2 := blk_frozen BK329.out 2; have hfz29_3 := blk_frozen BK329.out 3; have hfz29_4 := blk_frozen BK329.out 4; obtain ⟨Ao30, co30, eo30, _⟩ := Kd.Q_slice HO327.out; subst eo30; have hcz31_0 : w27.cell? ⟨gb317, 0, none⟩ = some (.int .i64 x318000_3) := (blk_cell BK317.out 0).trans rfl; have hcz31_1 : w27.cell? ⟨gb317, 1, none⟩ = some (.int .i64 x318001_3) := (blk_cell BK317.out 1).trans rfl; have hcz31_2 : w27.cell? ⟨gb317, 2, none⟩ = some (.int .i64 x318002_3) := (blk_cell BK317.out 2).trans rfl; have hcz31_3 : w27.cell? ⟨gb317, 3, none⟩ = some (.int .i64 x318003_3) := (blk_cell BK317.out 3).trans rfl; have hcz31_4 : w27.cell? ⟨gb317, 4, none⟩ = some (.slice Ao25 x318004_3.length co25) := (blk_cell BK317.out 4).trans rfl; have hfz31_0 := blk_frozen BK317.out 0; have hfz31_1 := blk_frozen BK317.out 1; have hfz31_2 := blk_frozen BK317.out 2; have hfz31_3 := blk_frozen BK317.out 3; have hfz31_4 := blk_frozen BK317.out 4))
              have n0_ : Aside0 (Kd.R k49 49 ((((((((((w27.setCell ⟨gb329, 0, none⟩ (.int .i64 t321)).setCell ⟨gb329, 1, none⟩ (.int .i64 t322)).setCell ⟨gb329, 2, none⟩ (.int .i64 t323)).setCell ⟨gb329, 3, none⟩ (.int .i64 t324)).setCell ⟨gb329, 4, none⟩ (.slice Ao30 t325.length co30)).setCell ⟨gb317, 0, none⟩ (.int .i64 t321)).setCell ⟨gb317, 1, none⟩ (.int .i64 t322)).setCell ⟨gb317, 2, none⟩ (.int .i64 t323)).setCell ⟨gb317, 3, none⟩ (.int .i64 t324)).setCell ⟨gb317, 4, none⟩ (.slice Ao30 t325.length co30)) w.heap.size (fun _ => True) u12 x12_2) := ⟨by (with_reducible repeat (first | apply Kd.R_alloc | apply Kd.R_drewN | apply Kd.R_drew)); exact Kd.R_mono (Kd.R_far (p := ⟨gb317, 4, none⟩) (Kd.R_far (p := ⟨gb317, 3, none⟩) (Kd.R_far (p := ⟨gb317, 2, none⟩) (Kd.R_far (p := ⟨gb317, 1, none⟩) (Kd.R_far (p := ⟨gb317, 0, none⟩) (Kd.R_far (p := ⟨gb329, 4, none⟩) (Kd.R_far (p := ⟨gb329, 3, none⟩) (Kd.R_far (p := ⟨gb329, 2, none⟩) (Kd.R_far (p := ⟨gb329, 1, none⟩) (Kd.R_far (p := ⟨gb329, 0, none⟩) (Kd.R_types (Kd.R_types HO_12.out BK329.out (by decide)) BK317.out (by decide)) (fun _ hk => hk.1.2) (.int .i64 t321)) (fun _ hk => hk.1.2) (.int .i64 t322)) (fun _ hk => hk.1.2) (.int .i64 t323)) (fun _ hk => hk.1.2) (.int .i64 t324)) (fun _ hk => hk.1.2) (.slice Ao30 t325.length co30)) (fun _ hk => hk.2) (.int .i64 t321)) (fun _ hk => hk.2) (.int .i64 t322)) (fun _ hk => hk.2) (.int .i64 t323)) (fun _ hk => hk.2) (.int .i64 t324)) (fun _ hk => hk.2) (.slice Ao30 t325.length co30)) (fun _ hk => trivial)⟩
              have n1_ : Aside0 (Kd.Q k71 71 ((((((((((w27.setCell ⟨gb329, 0, none⟩ (.int .i64 t321)).setCell ⟨gb329, 1, none⟩ (.int .i64 t322)).setCell ⟨gb329, 2, none⟩ (.int .i64 t323)).setCell ⟨gb329, 3, none⟩ (.int .i64 t324)).setCell ⟨gb329, 4, none⟩ (.slice Ao30 t325.length co30)).setCell ⟨gb317, 0, none⟩ (.int .i64 t321)).setCell ⟨gb317, 1, none⟩ (.int .i64 t322)).setCell ⟨gb317, 2, none⟩ (.int .i64 t323)).setCell ⟨gb317, 3, none⟩ (.int .i64 t324)).setCell ⟨gb317, 4, none⟩ (.slice Ao30 t325.length co30)) w.heap.size (fun k_ => some k_ ≠ (.slice Ao30 t325.length co30 : Value).ownBlock) (.slice Ao25 x318004_3.length co25) x318004_3) := ⟨by (with_reducible repeat (first | apply Kd.Q_alloc | apply Kd.Q_drewN | apply Kd.Q_drew)); exact Kd.Q_mono (Kd.Q_far (p := ⟨gb317, 4, none⟩) (Kd.Q_far (p := ⟨gb317, 3, none⟩) (Kd.Q_far (p := ⟨gb317, 2, none⟩) (Kd.Q_far (p := ⟨gb317, 1, none⟩) (Kd.Q_far (p := ⟨gb317, 0, none⟩) (Kd.Q_far (p := ⟨gb329, 4, none⟩) (Kd.Q_far (p := ⟨gb329, 3, none⟩) (Kd.Q_far (p := ⟨gb329, 2, none⟩) (Kd.Q_far (p := ⟨gb329, 1, none⟩) (Kd.Q_far (p := ⟨gb329, 0, none⟩) (Kd.Q_types (Kd.Q_types HO_318004.out BK329.out (by decide)) BK317.out (by decide)) (fun _ hk => hk.1.2) (.int .i64 t321)) (fun _ hk => hk.1.2) (.int .i64 t322)) (fun _ hk => hk.1.2) (.int .i64 t323)) (fun _ hk => hk.1.2) (.int .i64 t324)) (fun _ hk => hk.1.2) (.slice Ao30 t325.length co30)) (fun _ hk => hk.2) (.int .i64 t321)) (fun _ hk => hk.2) (.int .i64 t322)) (fun _ hk => hk.2) (.int .i64 t323)) (fun _ hk => hk.2) (.int .i64 t324)) (fun _ hk => hk.2) (.slice Ao30 t325.length co30)) (fun _ hk => hk.1.1.2)⟩
              have n2_ : Aside0 (Kd.Q k71 71 ((((((((((w27.setCell ⟨gb329, 0, none⟩ (.int .i64 t321)).setCell ⟨gb329, 1, none⟩ (.int .i64 t322)).setCell ⟨gb329, 2, none⟩ (.int .i64 t323)).setCell ⟨gb329, 3, none⟩ (.int .i64 t324)).setCell ⟨gb329, 4, none⟩ (.slice Ao30 t325.length co30)).setCell ⟨gb317, 0, none⟩ (.int .i64 t321)).setCell ⟨gb317, 1, none⟩ (.int .i64 t322)).setCell ⟨gb317, 2, none⟩ (.int .i64 t323)).setCell ⟨gb317, 3, none⟩ (.int .i64 t324)).setCell ⟨gb317, 4, none⟩ (.slice Ao30 t325.length co30)) w.heap.size (fun k_ => some k_ ≠ (.slice Ao25 x318004_3.length co25 : Value).ownBlock) (.slice Ao30 t325.length co30) t325) := ⟨by (with_reducible repeat (first | apply Kd.Q_alloc | apply Kd.Q_drewN | apply Kd.Q_drew)); exact Kd.Q_mono (Kd.Q_far (p := ⟨gb317, 4, none⟩) (Kd.Q_far (p := ⟨gb317, 3, none⟩) (Kd.Q_far (p := ⟨gb317, 2, none⟩) (Kd.Q_far (p := ⟨gb317, 1, none⟩) (Kd.Q_far (p := ⟨gb317, 0, none⟩) (Kd.Q_far (p := ⟨gb329, 4, none⟩) (Kd.Q_far (p := ⟨gb329, 3, none⟩) (Kd.Q_far (p := ⟨gb329, 2, none⟩) (Kd.Q_far (p := ⟨gb329, 1, none⟩) (Kd.Q_far (p := ⟨gb329, 0, none⟩) (Kd.Q_types (Kd.Q_types HO327.out BK329.out (by decide)) BK317.out (by decide)) (fun _ hk => hk.1.2) (.int .i64 t321)) (fun _ hk => hk.1.2) (.int .i64 t322)) (fun _ hk => hk.1.2) (.int .i64 t323)) (fun _ hk => hk.1.2) (.int .i64 t324)) (fun _ hk => hk.1.2) (.slice Ao30 t325.length co30)) (fun _ hk => hk.2) (.int .i64 t321)) (fun _ hk => hk.2) (.int .i64 t322)) (fun _ hk => hk.2) (.int .i64 t323)) (fun _ hk => hk.2) (.int .i64 t324)) (fun _ hk => hk.2) (.slice Ao30 t325.length co30)) (fun _ hk => hk.1.1.2)⟩
              have n3_ : Aside0 (((((((((((w27.setCell ⟨gb329, 0, none⟩ (.int .i64 t321)).setCell ⟨gb329, 1, none⟩ (.int .i64 t322)).setCell ⟨gb329, 2, none⟩ (.int .i64 t323)).setCell ⟨gb329, 3, none⟩ (.int .i64 t324)).setCell ⟨gb329, 4, none⟩ (.slice Ao30 t325.length co30)).setCell ⟨gb317, 0, none⟩ (.int .i64 t321)).setCell ⟨gb317, 1, none⟩ (.int .i64 t322)).setCell ⟨gb317, 2, none⟩ (.int .i64 t323)).setCell ⟨gb317, 3, none⟩ (.int .i64 t324)).setCell ⟨gb317, 4, none⟩ (.slice Ao30 t325.length co30)).heap[gb317]? = some (.cells #[.int .i64 t321, .int .i64 t322, .int .i64 t323, .int .i64 t324, .slice Ao30 t325.length co30] 24 (0, 0))) := ⟨by (with_reducible repeat (first | refine blk_drewN ?_ _ | refine blk_drew ?_ | refine blk_alloc ?_ _)); refine blk_put (cs := #[.int .i64 t321, .int .i64 t322, .int .i64 t323, .int .i64 t324, .slice Ao25 x318004_3.length co25]) ?_ 4 _ rfl; (with_reducible repeat (first | refine blk_drewN ?_ _ | refine blk_drew ?_ | refine blk_alloc ?_ _)); refine blk_put (cs := #[.int .i64 t321, .int .i64 t322, .int .i64 t323, .int .i64 x318003_3, .slice Ao25 x318004_3.length co25]) ?_ 3 _ rfl; (with_reducible repeat (first | refine blk_drewN ?_ _ | refine blk_drew ?_ | refine blk_alloc ?_ _)); refine blk_put (cs := #[.int .i64 t321, .int .i64 t322, .int .i64 x318002_3, .int .i64 x318003_3, .slice Ao25 x318004_3.length co25]) ?_ 2 _ rfl; (with_reducible repeat (first | refine blk_drewN ?_ _ | refine blk_drew ?_ | refine blk_alloc ?_ _)); refine blk_put (cs := #[.int .i64 t321, .int .i64 x318001_3, .int .i64 x318002_3, .int .i64 x318003_3, .slice Ao25 x318004_3.length co25]) ?_ 1 _ rfl; (with_reducible repeat (first | refine blk_drewN ?_ _ | refine blk_drew ?_ | refine blk_alloc ?_ _)); refine blk_put (cs := #[.int .i64 x318000_3, .int .i64 x318001_3, .int .i64 x318002_3, .int .i64 x318003_3, .slice Ao25 x318004_3.length co25]) ?_ 0 _ rfl; (with_reducible repeat (first | refine blk_drewN ?_ _ | refine blk_drew ?_ | refine blk_alloc ?_ _)); refine blk_far ?_ NB317_329.out _; (with_reducible repeat (first | refine blk_drewN ?_ _ | refine blk_drew ?_ | refine blk_alloc ?_ _)); refine blk_far ?_ NB317_329.out _; (with_reducible repeat (first | refine blk_drewN ?_ _ | refine blk_drew ?_ | refine blk_alloc ?_ _)); refine blk_far ?_ NB317_329.out _; (with_reducible repeat (first | refine blk_drewN ?_ _ | refine blk_drew ?_ | refine blk_alloc ?_ _)); refine blk_far ?_ NB317_329.out _; (with_reducible repeat (first | refine blk_drewN ?_ _ | refine blk_drew ?_ | refine blk_alloc ?_ _)); refine blk_far ?_ NB317_329.out _; (with_reducible repeat (first | refine blk_drewN ?_ _ | refine blk_drew ?_ | refine blk_alloc ?_ _)); exact BK317.out⟩
              have n4_ : Aside0 (((((((((((w27.setCell ⟨gb329, 0, none⟩ (.int .i64 t321)).setCell ⟨gb329, 1, none⟩ (.int .i64 t322)).setCell ⟨gb329, 2, none⟩ (.int .i64 t323)).setCell ⟨gb329, 3, none⟩ (.int .i64 t324)).setCell ⟨gb329, 4, none⟩ (.slice Ao30 t325.length co30)).setCell ⟨gb317, 0, none⟩ (.int .i64 t321)).setCell ⟨gb317, 1, none⟩ (.int .i64 t322)).setCell ⟨gb317, 2, none⟩ (.int .i64 t323)).setCell ⟨gb317, 3, none⟩ (.int .i64 t324)).setCell ⟨gb317, 4, none⟩ (.slice Ao30 t325.length co30)).heap[gb329]? = some (.cells #[.int .i64 t321, .int .i64 t322, .int .i64 t323, .int .i64 t324, .slice Ao30 t325.length co30] 24 (0, 0))) := ⟨by (with_reducible repeat (first | refine blk_drewN ?_ _ | refine blk_drew ?_ | refine blk_alloc ?_ _)); refine blk_far ?_ NB329_317.out _; (with_reducible repeat (first | refine blk_drewN ?_ _ | refine blk_drew ?_ | refine blk_alloc ?_ _)); refine blk_far ?_ NB329_317.out _; (with_reducible repeat (first | refine blk_drewN ?_ _ | refine blk_drew ?_ | refine blk_alloc ?_ _)); refine blk_far ?_ NB329_317.out _; (with_reducible repeat (first | refine blk_drewN ?_ _ | refine blk_drew ?_ | refine blk_alloc ?_ _)); refine blk_far ?_ NB329_317.out _; (with_reducible repeat (first | refine blk_drewN ?_ _ | refine blk_drew ?_ | refine blk_alloc ?_ _)); refine blk_far ?_ NB329_317.out _; (with_reducible repeat (first | refine blk_drewN ?_ _ | refine blk_drew ?_ | refine blk_alloc ?_ _)); refine blk_put (cs := #[.int .i64 t321, .int .i64 t322, .int .i64 t323, .int .i64 t324, .slice none 0 0]) ?_ 4 _ rfl; (with_reducible repeat (first | refine blk_drewN ?_ _ | refine blk_drew ?_ | refine blk_alloc ?_ _)); refine blk_put (cs := #[.int .i64 t321, .int .i64 t322, .int .i64 t323, .int .i64 0, .slice none 0 0]) ?_ 3 _ rfl; (with_reducible repeat (first | refine blk_drewN ?_ _ | refine blk_drew ?_ | refine blk_alloc ?_ _)); refine blk_put (cs := #[.int .i64 t321, .int .i64 t322, .int .i64 0, .int .i64 0, .slice none 0 0]) ?_ 2 _ rfl; (with_reducible repeat (first | refine blk_drewN ?_ _ | refine blk_drew ?_ | refine blk_alloc ?_ _)); refine blk_put (cs := #[.int .i64 t321, .int .i64 0, .int .i64 0, .int .i64 0, .slice none 0 0]) ?_ 1 _ rfl; (with_reducible repeat (first | refine blk_drewN ?_ _ | refine blk_drew ?_ | refine blk_alloc ?_ _)); refine blk_put (cs := #[.int .i64 0, .int .i64 0, .int .i64 0, .int .i64 0, .slice none 0 0]) ?_ 0 _ rfl; (with_reducible repeat (first | refine blk_drewN ?_ _ | refine blk_drew ?_ | refine blk_alloc ?_ _)); exact BK329.out⟩
              have n5_ : Aside0 (Below w.heap.size w ((((((((((w27.setCell ⟨gb329, 0, none⟩ (.int .i64 t321)).setCell ⟨gb329, 1, none⟩ (.int .i64 t322)).setCell ⟨gb329, 2, none⟩ (.int .i64 t323)).setCell ⟨gb329, 3, none⟩ (.int .i64 t324)).setCell ⟨gb329, 4, none⟩ (.slice Ao30 t325.length co30)).setCell ⟨gb317, 0, none⟩ (.int .i64 t321)).setCell ⟨gb317, 1, none⟩ (.int .i64 t322)).setCell ⟨gb317, 2, none⟩ (.int .i64 t323)).setCell ⟨gb317, 3, none⟩ (.int .i64 t324)).setCell ⟨gb317, 4, none⟩ (.slice Ao30 t325.length co30))) := ⟨by repeat (first | (with_reducible first | exact HB.out | apply below_alloc | apply pw_below_drewN | apply below_drew1 | refine below_set ?_ GE317.out | refine below_set ?_ GE329.out) | exact HB.out)⟩
              (try clear HO_12)
              (try clear HO_318004)
              (try clear HO327)
              (try clear BK317)
              (try clear BK329)
              (try clear HB)
              generalize ((((((((((w27.setCell ⟨gb329, 0, none⟩ (.int .i64 t321)).setCell ⟨gb329, 1, none⟩ (.int .i64 t322)).setCell ⟨gb329, 2, none⟩ (.int .i64 t323)).setCell ⟨gb329, 3, none⟩ (.int .i64 t324)).setCell ⟨gb329, 4, none⟩ (.slice Ao30 t325.length co30)).setCell ⟨gb317, 0, none⟩ (.int .i64 t321)).setCell ⟨gb317, 1, none⟩ (.int .i64 t322)).setCell ⟨gb317, 2, none⟩ (.int .i64 t323)).setCell ⟨gb317, 3, none⟩ (.int .i64 t324)).setCell ⟨gb317, 4, none⟩ (.slice Ao30 t325.length co30)) = w32 at n0_ n1_ n2_ n3_ n4_ n5_ ⊢
              have HO_12 := n0_
              have HO_318004 := n1_
              have HO327 := n2_
              have BK317 := n3_
              have BK329 := n4_
              have HB := n5_
              clear n0_ n1_ n2_ n3_ n4_ n5_
              have n0_ := Aside0.mk (Kd.R_drew HO_12.out)
              have n1_ := Aside0.mk (Kd.Q_drew HO_318004.out)
              have n2_ := Aside0.mk (Kd.Q_drew HO327.out)
              have n3_ := Aside0.mk (blk_drew BK317.out)
              have n4_ := Aside0.mk (blk_drew BK329.out)
              have n5_ := Aside0.mk (below_drew1 HB.out)
              clear HO_12
              clear HO_318004
              clear HO327
              clear BK317
              clear BK329
              clear HB
              have HO_12 := n0_
              have HO_318004 := n1_
              have HO327 := n2_
              have BK317 := n3_
              have BK329 := n4_
              have HB := n5_
              clear n0_ n1_ n2_ n3_ n4_ n5_
              refine start_ (n := 16) (S := fun w' => w'.cell? ⟨gb317, 0, none⟩ = some (.int .i64 t321) ∧ w'.cell? ⟨gb317, 1, none⟩ = some (.int .i64 t322) ∧ w'.cell? ⟨gb317, 2, none⟩ = some (.int .i64 t323) ∧ w'.cell? ⟨gb317, 3, none⟩ = some (.int .i64 t324) ∧ w'.cell? ⟨gb317, 4, none⟩ = some (.slice Ao30 t325.length co30)) (ds := []) #[false, false, false, false, false, false, false, false, false, false, false, false, false, false, false, false] (by kernel_rfl) rfl rfl ⟨(blk_cell BK317.out 0).trans rfl, (blk_cell BK317.out 1).trans rfl, (blk_cell BK317.out 2).trans rfl, (blk_cell BK317.out 3).trans rfl, (blk_cell BK317.out 4).trans rfl⟩ (fun hHeld => ?_); refine with_tabW standbylaw33_ThrottleKeeps.tab17 standbylaw33_ThrottleKeeps.bits17 (fun HT_ HW_ => ?_)
              generalize w32.drew = w33 at HO_12 HO_318004 HO327 BK317 BK329 HB hHeld ⊢
              refine pure_ (i := 1) (N := some 73) (v := ?_) (a' := ?_) #[false, true, false, false, false, false, false, false, false, false, false, false, false, false, false, false] rfl rfl (any_of HT_.out (by kernel_rfl)) (fun _ _ _ h => h) (Or.inl ⟨by rfl, ?_⟩) ?_ ?_
              rotate_left
              ·intro w'
               go_simp
               with_reducible rfl
              rotate_left
              ·simp only [Act.put, List.setIfInBounds_toArray, List.set_cons_zero, List.set_cons_succ, i64_w, i32_w]
               rfl
              refine pure_ (i := 3) (N := some 75) (v := ?_) (a' := ?_) #[false, true, false, true, false, false, false, false, false, false, false, false, false, false, false, false] rfl rfl (any_of HT_.out (by kernel_rfl)) (fun _ _ _ h => h) (Or.inl ⟨by rfl, ?_⟩) ?_ ?_
              rotate_left
              ·intro w'
               go_simp
               with_reducible rfl
              rotate_left
              ·simp only [Act.put, List.setIfInBounds_toArray, List.set_cons_zero, List.set_cons_succ, i64_w, i32_w]
               rfl
              refine take_ (i := 0) (N := some 72) (v := ?_) (a' := ?_) #[true, true, false, true, false, false, false, false, false, false, false, false, false, false, false, false] rfl rfl (take_ofW HT_.out HW_.out (by kernel_rfl)) (fun _ _ _ h => h) (Or.inl ⟨by rfl, ?_⟩) hHeld ?_ ?_
              rotate_left
              ·rintro w' ⟨s0, s1, s2, s3, s4⟩
               go_simp
               with_reducible rfl
              rotate_left
              ·simp only [Act.put, List.setIfInBounds_toArray, List.set_cons_zero, List.set_cons_succ, i64_w, i32_w]
               rfl
              refine take_ (i := 4) (N := some 76) (v := ?_) (a' := ?_) #[true, true, false, true, true, false, false, false, false, false, false, false, false, false, false, false] rfl rfl (take_ofW HT_.out HW_.out (by kernel_rfl)) (fun _ _ _ h => h) (Or.inl ⟨by rfl, ?_⟩) hHeld ?_ ?_
              rotate_left
              ·rintro w' ⟨s0, s1, s2, s3, s4⟩
               go_simp
               with_reducible rfl
              rotate_left
              ·simp only [Act.put, List.setIfInBounds_toArray, List.set_cons_zero, List.set_cons_succ, i64_w, i32_w]
               rfl
              refine one_ (i := 2) (N := some 74) #[true, true, true, true, true, false, false, false, false, false, false, false, false, false, false, false] rfl rfl (one_of HT_.out (by kernel_rfl)) (by decide) (fun K hK => ?_)
              refine goes_ Try.func20 (by kernel_rfl) rfl #[.agg #[.int .i64 t321, .int .i64 t322, .int .i64 t323, .int .i64 t324, .slice Ao30 t325.length co30], .int .i64 (wrap64 (x9_3 + 1))] (by rfl) rfl rfl (by (try simp only [List.map_toArray, List.map_cons, List.map_nil]); first | done | rfl | (simp only [List.length_drop, List.length_take]; rfl)) ?_
              with_reducible refine (throttle_Age.calls k3 t321 t322 t323 t324 _ _ t325 (wrap64 (x9_3 + 1)) t330 _ ?side1 ?side2 A22.out).mono ?_
              (case side1 => repeat (first | exact (Kd.Q_reads' HO327.out).2.2 | (with_reducible refine Kd.C_alloc ?_ _) | (with_reducible refine Kd.C_drewN ?_ _) | (with_reducible refine Kd.C_drew ?_)))
              (case side2 => exact (Kd.Q_reads' HO327.out).2.1)
              rintro e w34 ⟨rfl, hb⟩
              refine ⟨_, rfl, ?_⟩
              have n0_ := Aside0.mk (Kd.R_below (by (with_reducible repeat (first | apply Kd.R_alloc | apply Kd.R_drewN | apply Kd.R_drew)); exact HO_12.out) hb)
              have n1_ := Aside0.mk (Kd.Q_below (by (with_reducible repeat (first | apply Kd.Q_alloc | apply Kd.Q_drewN | apply Kd.Q_drew)); exact HO_318004.out) hb)
              have n2_ := Aside0.mk (Kd.Q_below (by (with_reducible repeat (first | apply Kd.Q_alloc | apply Kd.Q_drewN | apply Kd.Q_drew)); exact HO327.out) hb)
              have n3_ := Aside0.mk (blk_below (g := gb317) (o := .cells #[.int .i64 t321, .int .i64 t322, .int .i64 t323, .int .i64 t324, .slice Ao30 t325.length co30] 24 (0, 0)) (by (with_reducible repeat (first | refine blk_drewN ?_ _ | refine blk_drew ?_ | refine blk_alloc ?_ _)); exact BK317.out) hb)
              have n4_ := Aside0.mk (blk_below (g := gb329) (o := .cells #[.int .i64 t321, .int .i64 t322, .int .i64 t323, .int .i64 t324, .slice Ao30 t325.length co30] 24 (0, 0)) (by (with_reducible repeat (first | refine blk_drewN ?_ _ | refine blk_drew ?_ | refine blk_alloc ?_ _)); exact BK329.out) hb)
              have n5_ := Aside0.mk (below_step (by repeat (first | (with_reducible first | exact HB.out | apply below_alloc | apply pw_below_drewN | apply below_drew1 | refine below_set ?_ GE317.out | refine below_set ?_ GE329.out) | exact HB.out)) hb)
              clear HO_12
              clear HO_318004
              clear HO327
              clear BK317
              clear BK329
              clear HB
              have HO_12 := n0_
              have HO_318004 := n1_
              have HO327 := n2_
              have BK317 := n3_
              have BK329 := n4_
              have HB := n5_
              clear n0_ n1_ n2_ n3_ n4_ n5_
              (try clear hb)
              (try clear hb2)
              (try clear hk)
              (try clear hi)
              refine hK.out _ _ ⟨(blk_cell BK317.out 0).trans rfl, (blk_cell BK317.out 1).trans rfl, (blk_cell BK317.out 2).trans rfl, (blk_cell BK317.out 3).trans rfl, (blk_cell BK317.out 4).trans rfl⟩ (fun hHeld => ?_)
              clear hK K
              refine norm_ (a' := ?_) ?_ ?_
              rotate_left
              ·show Act.put _ (some 74) _ = _
               simp only [Act.put, List.setIfInBounds_toArray, List.set_cons_zero, List.set_cons_succ, i64_w, i32_w]
               rfl
              refine pure_ (i := 5) (N := some 77) (v := ?_) (a' := ?_) #[true, true, true, true, true, true, false, false, false, false, false, false, false, false, false, false] rfl rfl (any_of HT_.out (by kernel_rfl)) (fun _ _ _ h => h) (Or.inl ⟨by rfl, ?_⟩) ?_ ?_
              rotate_left
              ·intro w'
               go_simp
               with_reducible rfl
              rotate_left
              ·simp only [Act.put, List.setIfInBounds_toArray, List.set_cons_zero, List.set_cons_succ, i64_w, i32_w]
               rfl
              refine pure_ (i := 6) (N := some 78) (v := ?_) (a' := ?_) #[true, true, true, true, true, true, true, false, false, false, false, false, false, false, false, false] rfl rfl (any_of HT_.out (by kernel_rfl)) (fun _ _ _ h => h) (Or.inl ⟨by rfl, ?_⟩) ?_ ?_
              rotate_left
              ·intro w'
               go_simp
               with_reducible rfl
              rotate_left
              ·simp only [Act.put, List.setIfInBounds_toArray, List.set_cons_zero, List.set_cons_succ, i64_w, i32_w]
               rfl
              refine pure_ (i := 7) (N := some 79) (v := undef) (a' := ?_) #[true, true, true, true, true, true, true, true, false, false, false, false, false, false, false, false] rfl rfl (any_of HT_.out (by kernel_rfl)) (fun _ _ _ h => h) (Or.inr ⟨by rfl, rfl⟩) ?_ ?_
              rotate_left
              ·simp only [Act.put, List.setIfInBounds_toArray, List.set_cons_zero, List.set_cons_succ, i64_w, i32_w]
               rfl
              refine pure_ (i := 8) (N := some 80) (v := undef) (a' := ?_) #[true, true, true, true, true, true, true, true, true, false, false, false, false, false, false, false] rfl rfl (any_of HT_.out (by kernel_rfl)) (fun _ _ _ h => h) (Or.inr ⟨by rfl, rfl⟩) ?_ ?_
              rotate_left
              ·simp only [Act.put, List.setIfInBounds_toArray, List.set_cons_zero, List.set_cons_succ, i64_w, i32_w]
               rfl
              refine pure_ (i := 9) (N := some 81) (v := undef) (a' := ?_) #[true, true, true, true, true, true, true, true, true, true, false, false, false, false, false, false] rfl rfl (any_of HT_.out (by kernel_rfl)) (fun _ _ _ h => h) (Or.inr ⟨by rfl, rfl⟩) ?_ ?_
              rotate_left
              ·simp only [Act.put, List.setIfInBounds_toArray, List.set_cons_zero, List.set_cons_succ, i64_w, i32_w]
               rfl
              refine pure_ (i := 10) (N := some 82) (v := undef) (a' := ?_) #[true, true, true, true, true, true, true, true, true, true, true, false, false, false, false, false] rfl rfl (any_of HT_.out (by kernel_rfl)) (fun _ _ _ h => h) (Or.inr ⟨by rfl, rfl⟩) ?_ ?_
              rotate_left
              ·simp only [Act.put, List.setIfInBounds_toArray, List.set_cons_zero, List.set_cons_succ, i64_w, i32_w]
               rfl
              refine pure_ (i := 11) (N := some 83) (v := undef) (a' := ?_) #[true, true, true, true, true, true, true, true, true, true, true, true, false, false, false, false] rfl rfl (any_of HT_.out (by kernel_rfl)) (fun _ _ _ h => h) (Or.inr ⟨by rfl, rfl⟩) ?_ ?_
              rotate_left
              ·simp only [Act.put, List.setIfInBounds_toArray, List.set_cons_zero, List.set_cons_succ, i64_w, i32_w]
               rfl
              refine pure_ (i := 12) (N := some 84) (v := undef) (a' := ?_) #[true, true, true, true, true, true, true, true, true, true, true, true, true, false, false, false] rfl rfl (any_of HT_.out (by kernel_rfl)) (fun _ _ _ h => h) (Or.inr ⟨by rfl, rfl⟩) ?_ ?_
              rotate_left
              ·simp only [Act.put, List.setIfInBounds_toArray, List.set_cons_zero, List.set_cons_succ, i64_w, i32_w]
               rfl
              refine pure_ (i := 13) (N := some 85) (v := undef) (a' := ?_) #[true, true, true, true, true, true, true, true, true, true, true, true, true, true, false, false] rfl rfl (any_of HT_.out (by kernel_rfl)) (fun _ _ _ h => h) (Or.inr ⟨by rfl, rfl⟩) ?_ ?_
              rotate_left
              ·simp only [Act.put, List.setIfInBounds_toArray, List.set_cons_zero, List.set_cons_succ, i64_w, i32_w]
               rfl
              refine pure_ (i := 14) (N := some 86) (v := undef) (a' := ?_) #[true, true, true, true, true, true, true, true, true, true, true, true, true, true, true, false] rfl rfl (any_of HT_.out (by kernel_rfl)) (fun _ _ _ h => h) (Or.inr ⟨by rfl, rfl⟩) ?_ ?_
              rotate_left
              ·simp only [Act.put, List.setIfInBounds_toArray, List.set_cons_zero, List.set_cons_succ, i64_w, i32_w]
               rfl
              refine pure_ (i := 15) (N := some 87) (v := ?_) (a' := ?_) #[true, true, true, true, true, true, true, true, true, true, true, true, true, true, true, true] rfl rfl (any_of HT_.out (by kernel_rfl)) (fun _ _ _ h => h) (Or.inl ⟨by rfl, ?_⟩) ?_ ?_
              rotate_left
              ·intro w'
               go_simp
               with_reducible rfl
              rotate_left
              ·simp only [Act.put, List.setIfInBounds_toArray, List.set_cons_zero, List.set_cons_succ, i64_w, i32_w]
               rfl
              refine done_ (done_of HT_.out (by kernel_rfl)) ?_
              try go_wp2
              go_ret
              exact ⟨by first | rfl | (simp [errW_none, errW_some] <;> rfl) | (simp only [← hji19]; first | rfl | (simp [errW_none, errW_some] <;> rfl)) | (simp [*, errW_none, errW_some] <;> rfl), by repeat (first | (with_reducible first | exact HB.out | apply below_alloc | apply pw_below_drewN | apply below_drew1 | refine below_set ?_ GE317.out | refine below_set ?_ GE329.out) | exact HB.out)⟩
             ·rw [if_neg c23] at H
              have c23b0 : decide (t321 < t330) = false := decide_eq_false c23
              clear c23
              replace H := Option.bind_eq_some_iff.mp H
              obtain ⟨t331, A350, H⟩ := H
              replace H : ((standbylaw33_oldest.f k3 x12_2 (ji19) (wrap64 (x9_3 + 1))).bind fun t332 => (if t331 = t332 then (standbylaw33_ThrottleKeeps.l1 k3 (wrap64 (x9_3 + 1)) x10_2 ji19 x12_2 (rd l2 x40_2) l2 (l2.length : Int) x40_2 (Int.tmod (wrap64 (rd l2 x40_2)) 4) (wrap64 (x47_3 + 1)) t321 t322 t323 t324 t325) else (some false))) = some r := H
              have A35 := Aside0.mk A350
              clear A350
              replace H := Option.bind_eq_some_iff.mp H
              obtain ⟨t332, A360, H⟩ := H
              replace H : (if t331 = t332 then (standbylaw33_ThrottleKeeps.l1 k3 (wrap64 (x9_3 + 1)) x10_2 ji19 x12_2 (rd l2 x40_2) l2 (l2.length : Int) x40_2 (Int.tmod (wrap64 (rd l2 x40_2)) 4) (wrap64 (x47_3 + 1)) t321 t322 t323 t324 t325) else (some false)) = some r := H
              have A36 := Aside0.mk A360
              clear A360
              by_cases c37 : t331 = t332
              ·rw [if_pos c37] at H
               have c37b0 : (t331 == t332) = true := beq_iff_eq.mpr c37
               have c37b1 : (t331 != t332) = false := bne_eq_false_iff_eq.mpr c37
               clear c37
               have H' := Aside0.mk H
               clear H
               have hcz38_0 : wr.cell? ⟨gb317, 0, none⟩ = some (.int .i64 x318000_3) := (blk_cell BK317.out 0).trans rfl
               have hcz38_1 : wr.cell? ⟨gb317, 1, none⟩ = some (.int .i64 x318001_3) := (blk_cell BK317.out 1).trans rfl
               have hcz38_2 : wr.cell? ⟨gb317, 2, none⟩ = some (.int .i64 x318002_3) := (blk_cell BK317.out 2).trans rfl
               have hcz38_3 : wr.cell? ⟨gb317, 3, none⟩ = some (.int .i64 x318003_3) := (blk_cell BK317.out 3).trans rfl
               have hcz38_4 : wr.cell? ⟨gb317, 4, none⟩ = some (u318004) := (blk_cell BK317.out 4).trans rfl
               have hfz38_0 := blk_frozen BK317.out 0
               have hfz38_1 := blk_frozen BK317.out 1
               have hfz38_2 := blk_frozen BK317.out 2
               have hfz38_3 := blk_frozen BK317.out 3
               have hfz38_4 := blk_frozen BK317.out 4
               obtain ⟨Ao39, co39, eo39, _⟩ := Kd.Q_slice HO_318004.out
               subst eo39
               try go_wp2_with (first | ((with_reducible refine gate_callee (f := 19) rfl ?_); refine goesL_ (some 66) rfl rfl Try.func19 (by kernel_rfl) rfl #[.agg #[.int .i64 x318000_3, .int .i64 x318001_3, .int .i64 x318002_3, .int .i64 x318003_3, .slice Ao39 x318004_3.length co39], .int .i64 (wrap64 (x9_3 + 1)), .int .i64 ji19] rfl (by (try simp only [List.map_toArray, List.map_cons, List.map_nil]); first | done | (simp only [hji19]; rfl) | rfl | (simp only [List.length_drop, List.length_take]; rfl)) ?_; (with_reducible refine (throttle_Progress.calls k3 x318000_3 x318001_3 x318002_3 x318003_3 _ _ x318004_3 (wrap64 (x9_3 + 1)) ji19 t321 t322 t323 t324 t325 t328 _ ?side1 ?side2 A20.out).mono ?_); (case side1 => repeat (first | exact (Kd.Q_reads' HO_318004.out).2.2 | (with_reducible refine Kd.C_alloc ?_ _) | (with_reducible refine Kd.C_drewN ?_ _) | (with_reducible refine Kd.C_drew ?_))); (case side2 => exact (Kd.Q_reads' HO_318004.out).2.1); rintro e w40 ⟨v326, rfl, ho0, hb⟩; refine ⟨_, rfl, ?_⟩; have n0_ := Aside0.mk (Kd.R_below (by (with_reducible repeat (first | apply Kd.R_alloc | apply Kd.R_drewN | apply Kd.R_drew)); exact HO_12.out) hb); have n1_ := Aside0.mk (Kd.Q_elder' (by (with_reducible repeat (first | apply Kd.Q_alloc | apply Kd.Q_drewN | apply Kd.Q_drew)); exact HO_318004.out) (Kd.Q_base ho0) hb); have n2_ := Aside0.mk (Kd.Q_lower (Kd.Q_new' ho0 (Kd.Q_lt (by (with_reducible repeat (first | apply Kd.Q_alloc | apply Kd.Q_drewN | apply Kd.Q_drew)); exact HO_318004.out))) (below_size (by repeat (first | (with_reducible first | exact HB.out | apply below_alloc | apply pw_below_drewN | apply below_drew1 | refine below_set ?_ GE317.out) | exact HB.out)))); have n3_ := Aside0.mk (blk_below (g := gb317) (o := .cells #[.int .i64 x318000_3, .int .i64 x318001_3, .int .i64 x318002_3, .int .i64 x318003_3, .slice Ao39 x318004_3.length co39] 24 (0, 0)) (by (with_reducible repeat (first | refine blk_drewN ?_ _ | refine blk_drew ?_ | refine blk_alloc ?_ _)); exact BK317.out) hb); have n4_ := Aside0.mk (below_step (by repeat (first | (with_reducible first | exact HB.out | apply below_alloc | apply pw_below_drewN | apply below_drew1 | refine below_set ?_ GE317.out) | exact HB.out)) hb); clear HO_12; clear HO_318004; clear BK317; clear HB; have HO_12 := n0_; have HO_318004 := n1_; have HO327 := n2_; have BK317 := n3_; have HB := n4_; clear n0_ n1_ n2_ n3_ n4_; (try clear hb); (try clear hb2); (try clear hk); (try clear hi); (try clear ho0)) | ((with_reducible refine gate_dst (N := 15) rfl ?_); refine box_event ?hg (N := 15) ?hd (cs := #[.int .i64 0, .int .i64 0, .int .i64 0, .int .i64 0, .slice none 0 0]) (t := 24) ?hr ?_; (case hd => rfl); (case hg => rfl); (case hr => first | (go_simp; done) | (go_simp; rfl)); intro gb329 hg w41 hbox hb; have n0_ := Aside0.mk (Kd.R_below (by (with_reducible repeat (first | apply Kd.R_alloc | apply Kd.R_drewN | apply Kd.R_drew)); exact HO_12.out) hb); have n1_ := Aside0.mk (Kd.Q_below (by (with_reducible repeat (first | apply Kd.Q_alloc | apply Kd.Q_drewN | apply Kd.Q_drew)); exact HO_318004.out) hb); have n2_ := Aside0.mk (Kd.Q_below (by (with_reducible repeat (first | apply Kd.Q_alloc | apply Kd.Q_drewN | apply Kd.Q_drew)); exact HO327.out) hb); have n3_ := Aside0.mk (blk_below (g := gb317) (o := .cells #[.int .i64 x318000_3, .int .i64 x318001_3, .int .i64 x318002_3, .int .i64 x318003_3, .slice Ao39 x318004_3.length co39] 24 (0, 0)) (by (with_reducible repeat (first | refine blk_drewN ?_ _ | refine blk_drew ?_ | refine blk_alloc ?_ _)); exact BK317.out) hb); have n4_ := Aside0.mk (below_step (by repeat (first | (with_reducible first | exact HB.out | apply below_alloc | apply pw_below_drewN | apply below_drew1 | refine below_set ?_ GE317.out) | exact HB.out)) hb); have n5_ := Aside0.mk (hbox); have n6_ := Aside0.mk ((by rw [hg]; exact (below_size (by repeat (first | (with_reducible first | exact HB.out | apply below_alloc | apply pw_below_drewN | apply below_drew1 | refine below_set ?_ GE317.out) | exact HB.out))) : w.heap.size ≤ gb329)); have n7_ := Aside0.mk ((by rw [hg]; exact (below_size (by repeat (first | (with_reducible first | exact HB.out | apply below_alloc | apply pw_below_drewN | apply below_drew1 | refine below_set ?_ GE317.out) | exact HB.out))) : w.heap.size ≤ gb329)); have n8_ := Aside0.mk ((by rw [hg]; exact Nat.ne_of_lt (blk_lt (g := gb317) (o := .cells #[.int .i64 x318000_3, .int .i64 x318001_3, .int .i64 x318002_3, .int .i64 x318003_3, .slice Ao39 x318004_3.length co39] 24 (0, 0)) (by (with_reducible repeat (first | refine blk_drewN ?_ _ | refine blk_drew ?_ | refine blk_alloc ?_ _)); exact BK317.out)) : gb317 ≠ gb329)); have n9_ := Aside0.mk ((by rw [hg]; exact Nat.ne_of_gt (blk_lt (g := gb317) (o := .cells #[.int .i64 x318000_3, .int .i64 x318001_3, .int .i64 x318002_3, .int .i64 x318003_3, .slice Ao39 x318004_3.length co39] 24 (0, 0)) (by (with_reducible repeat (first | refine blk_drewN ?_ _ | refine blk_drew ?_ | refine blk_alloc ?_ _)); exact BK317.out)) : gb329 ≠ gb317)); clear HO_12; clear HO_318004; clear HO327; clear BK317; clear HB; have HO_12 := n0_; have HO_318004 := n1_; have HO327 := n2_; have BK317 := n3_; have HB := n4_; have BK329 := n5_; have GW329 := n6_; have GE329 := n7_; have NB317_329 := n8_; have NB329_317 := n9_; clear n0_ n1_ n2_ n3_ n4_ n5_ n6_ n7_ n8_ n9_; clear hb hbox hg; have hnb42 := NB329_317.out; have hnc42 := NB317_329.out; have hcz43_0 : w41.cell? ⟨gb329, 0, none⟩ = some (.int .i64 0) := (blk_cell BK329.out 0).trans rfl; have hcz43_1 : w41.cell? ⟨gb329, 1, none⟩ = some (.int .i64 0) := (blk_cell BK329.out 1).trans rfl; have hcz43_2 : w41.cell? ⟨gb329, 2, none⟩ = some (.int .i64 0) := (blk_cell BK329.out 2).trans rfl; have hcz43_3 : w41.cell? ⟨gb329, 3, none⟩ = some (.int .i64 0) := (blk_cell BK329.out 3).trans rfl; have hcz43_4 : w41.cell? ⟨gb329, 4, none⟩ = some (.slice none 0 0) := (blk_cell BK329.out 4).trans rfl; have hfz43_0 := blk_frozen BK329.out 0; have hfz43_1 := blk_frozen BK329.out 1; have hfz43_2 := blk_frozen BK329.out 2; have hfz43_3 := blk_frozen BK329.out 3; have hfz43_4 := blk_frozen BK329.out 4; obtain ⟨Ao44, co44, eo44, _⟩ := Kd.Q_slice HO327.out; subst eo44; have hcz45_0 : w41.cell? ⟨gb317, 0, none⟩ = some (.int .i64 x318000_3) := (blk_cell BK317.out 0).trans rfl; have hcz45_1 : w41.cell? ⟨gb317, 1, none⟩ = some (.int .i64 x318001_3) := (blk_cell BK317.out 1).trans rfl; have hcz45_2 : w41.cell? ⟨gb317, 2, none⟩ = some (.int .i64 x318002_3) := (blk_cell BK317.out 2).trans rfl; have hcz45_3 : w41.cell? ⟨gb317, 3, none⟩ = some (.int .i64 x318003_3) := (blk_cell BK317.out 3).trans rfl; have hcz45_4 : w41.cell? ⟨gb317, 4, none⟩ = some (.slice Ao39 x318004_3.length co39) := (blk_cell BK317.out 4).trans rfl; have hfz45_0 := blk_frozen BK317.out 0; have hfz45_1 := blk_frozen BK317.out 1; have hfz45_2 := blk_frozen BK317.out 2; have hfz45_3 := blk_frozen BK317.out 3; have hfz45_4 := blk_frozen BK317.out 4))
               have n0_ : Aside0 (Kd.R k49 49 ((((((((((w41.setCell ⟨gb329, 0, none⟩ (.int .i64 t321)).setCell ⟨gb329, 1, none⟩ (.int .i64 t322)).setCell ⟨gb329, 2, none⟩ (.int .i64 t323)).setCell ⟨gb329, 3, none⟩ (.int .i64 t324)).setCell ⟨gb329, 4, none⟩ (.slice Ao44 t325.length co44)).setCell ⟨gb317, 0, none⟩ (.int .i64 t321)).setCell ⟨gb317, 1, none⟩ (.int .i64 t322)).setCell ⟨gb317, 2, none⟩ (.int .i64 t323)).setCell ⟨gb317, 3, none⟩ (.int .i64 t324)).setCell ⟨gb317, 4, none⟩ (.slice Ao44 t325.length co44)) w.heap.size (fun _ => True) u12 x12_2) := ⟨by (with_reducible repeat (first | apply Kd.R_alloc | apply Kd.R_drewN | apply Kd.R_drew)); exact Kd.R_mono (Kd.R_far (p := ⟨gb317, 4, none⟩) (Kd.R_far (p := ⟨gb317, 3, none⟩) (Kd.R_far (p := ⟨gb317, 2, none⟩) (Kd.R_far (p := ⟨gb317, 1, none⟩) (Kd.R_far (p := ⟨gb317, 0, none⟩) (Kd.R_far (p := ⟨gb329, 4, none⟩) (Kd.R_far (p := ⟨gb329, 3, none⟩) (Kd.R_far (p := ⟨gb329, 2, none⟩) (Kd.R_far (p := ⟨gb329, 1, none⟩) (Kd.R_far (p := ⟨gb329, 0, none⟩) (Kd.R_types (Kd.R_types HO_12.out BK329.out (by decide)) BK317.out (by decide)) (fun _ hk => hk.1.2) (.int .i64 t321)) (fun _ hk => hk.1.2) (.int .i64 t322)) (fun _ hk => hk.1.2) (.int .i64 t323)) (fun _ hk => hk.1.2) (.int .i64 t324)) (fun _ hk => hk.1.2) (.slice Ao44 t325.length co44)) (fun _ hk => hk.2) (.int .i64 t321)) (fun _ hk => hk.2) (.int .i64 t322)) (fun _ hk => hk.2) (.int .i64 t323)) (fun _ hk => hk.2) (.int .i64 t324)) (fun _ hk => hk.2) (.slice Ao44 t325.length co44)) (fun _ hk => trivial)⟩
               have n1_ : Aside0 (Kd.Q k71 71 ((((((((((w41.setCell ⟨gb329, 0, none⟩ (.int .i64 t321)).setCell ⟨gb329, 1, none⟩ (.int .i64 t322)).setCell ⟨gb329, 2, none⟩ (.int .i64 t323)).setCell ⟨gb329, 3, none⟩ (.int .i64 t324)).setCell ⟨gb329, 4, none⟩ (.slice Ao44 t325.length co44)).setCell ⟨gb317, 0, none⟩ (.int .i64 t321)).setCell ⟨gb317, 1, none⟩ (.int .i64 t322)).setCell ⟨gb317, 2, none⟩ (.int .i64 t323)).setCell ⟨gb317, 3, none⟩ (.int .i64 t324)).setCell ⟨gb317, 4, none⟩ (.slice Ao44 t325.length co44)) w.heap.size (fun k_ => some k_ ≠ (.slice Ao44 t325.length co44 : Value).ownBlock) (.slice Ao39 x318004_3.length co39) x318004_3) := ⟨by (with_reducible repeat (first | apply Kd.Q_alloc | apply Kd.Q_drewN | apply Kd.Q_drew)); exact Kd.Q_mono (Kd.Q_far (p := ⟨gb317, 4, none⟩) (Kd.Q_far (p := ⟨gb317, 3, none⟩) (Kd.Q_far (p := ⟨gb317, 2, none⟩) (Kd.Q_far (p := ⟨gb317, 1, none⟩) (Kd.Q_far (p := ⟨gb317, 0, none⟩) (Kd.Q_far (p := ⟨gb329, 4, none⟩) (Kd.Q_far (p := ⟨gb329, 3, none⟩) (Kd.Q_far (p := ⟨gb329, 2, none⟩) (Kd.Q_far (p := ⟨gb329, 1, none⟩) (Kd.Q_far (p := ⟨gb329, 0, none⟩) (Kd.Q_types (Kd.Q_types HO_318004.out BK329.out (by decide)) BK317.out (by decide)) (fun _ hk => hk.1.2) (.int .i64 t321)) (fun _ hk => hk.1.2) (.int .i64 t322)) (fun _ hk => hk.1.2) (.int .i64 t323)) (fun _ hk => hk.1.2) (.int .i64 t324)) (fun _ hk => hk.1.2) (.slice Ao44 t325.length co44)) (fun _ hk => hk.2) (.int .i64 t321)) (fun _ hk => hk.2) (.int .i64 t322)) (fun _ hk => hk.2) (.int .i64 t323)) (fun _ hk => hk.2) (.int .i64 t324)) (fun _ hk => hk.2) (.slice Ao44 t325.length co44)) (fun _ hk => hk.1.1.2)⟩
               have n2_ : Aside0 (Kd.Q k71 71 ((((((((((w41.setCell ⟨gb329, 0, none⟩ (.int .i64 t321)).setCell ⟨gb329, 1, none⟩ (.int .i64 t322)).setCell ⟨gb329, 2, none⟩ (.int .i64 t323)).setCell ⟨gb329, 3, none⟩ (.int .i64 t324)).setCell ⟨gb329, 4, none⟩ (.slice Ao44 t325.length co44)).setCell ⟨gb317, 0, none⟩ (.int .i64 t321)).setCell ⟨gb317, 1, none⟩ (.int .i64 t322)).setCell ⟨gb317, 2, none⟩ (.int .i64 t323)).setCell ⟨gb317, 3, none⟩ (.int .i64 t324)).setCell ⟨gb317, 4, none⟩ (.slice Ao44 t325.length co44)) w.heap.size (fun k_ => some k_ ≠ (.slice Ao39 x318004_3.length co39 : Value).ownBlock) (.slice Ao44 t325.length co44) t325) := ⟨by (with_reducible repeat (first | apply Kd.Q_alloc | apply Kd.Q_drewN | apply Kd.Q_drew)); exact Kd.Q_mono (Kd.Q_far (p := ⟨gb317, 4, none⟩) (Kd.Q_far (p := ⟨gb317, 3, none⟩) (Kd.Q_far (p := ⟨gb317, 2, none⟩) (Kd.Q_far (p := ⟨gb317, 1, none⟩) (Kd.Q_far (p := ⟨gb317, 0, none⟩) (Kd.Q_far (p := ⟨gb329, 4, none⟩) (Kd.Q_far (p := ⟨gb329, 3, none⟩) (Kd.Q_far (p := ⟨gb329, 2, none⟩) (Kd.Q_far (p := ⟨gb329, 1, none⟩) (Kd.Q_far (p := ⟨gb329, 0, none⟩) (Kd.Q_types (Kd.Q_types HO327.out BK329.out (by decide)) BK317.out (by decide)) (fun _ hk => hk.1.2) (.int .i64 t321)) (fun _ hk => hk.1.2) (.int .i64 t322)) (fun _ hk => hk.1.2) (.int .i64 t323)) (fun _ hk => hk.1.2) (.int .i64 t324)) (fun _ hk => hk.1.2) (.slice Ao44 t325.length co44)) (fun _ hk => hk.2) (.int .i64 t321)) (fun _ hk => hk.2) (.int .i64 t322)) (fun _ hk => hk.2) (.int .i64 t323)) (fun _ hk => hk.2) (.int .i64 t324)) (fun _ hk => hk.2) (.slice Ao44 t325.length co44)) (fun _ hk => hk.1.1.2)⟩
               have n3_ : Aside0 (((((((((((w41.setCell ⟨gb329, 0, none⟩ (.int .i64 t321)).setCell ⟨gb329, 1, none⟩ (.int .i64 t322)).setCell ⟨gb329, 2, none⟩ (.int .i64 t323)).setCell ⟨gb329, 3, none⟩ (.int .i64 t324)).setCell ⟨gb329, 4, none⟩ (.slice Ao44 t325.length co44)).setCell ⟨gb317, 0, none⟩ (.int .i64 t321)).setCell ⟨gb317, 1, none⟩ (.int .i64 t322)).setCell ⟨gb317, 2, none⟩ (.int .i64 t323)).setCell ⟨gb317, 3, none⟩ (.int .i64 t324)).setCell ⟨gb317, 4, none⟩ (.slice Ao44 t325.length co44)).heap[gb317]? = some (.cells #[.int .i64 t321, .int .i64 t322, .int .i64 t323, .int .i64 t324, .slice Ao44 t325.length co44] 24 (0, 0))) := ⟨by (with_reducible repeat (first | refine blk_drewN ?_ _ | refine blk_drew ?_ | refine blk_alloc ?_ _)); refine blk_put (cs := #[.int .i64 t321, .int .i64 t322, .int .i64 t323, .int .i64 t324, .slice Ao39 x318004_3.length co39]) ?_ 4 _ rfl; (with_reducible repeat (first | refine blk_drewN ?_ _ | refine blk_drew ?_ | refine blk_alloc ?_ _)); refine blk_put (cs := #[.int .i64 t321, .int .i64 t322, .int .i64 t323, .int .i64 x318003_3, .slice Ao39 x318004_3.length co39]) ?_ 3 _ rfl; (with_reducible repeat (first | refine blk_drewN ?_ _ | refine blk_drew ?_ | refine blk_alloc ?_ _)); refine blk_put (cs := #[.int .i64 t321, .int .i64 t322, .int .i64 x318002_3, .int .i64 x318003_3, .slice Ao39 x318004_3.length co39]) ?_ 2 _ rfl; (with_reducible repeat (first | refine blk_drewN ?_ _ | refine blk_drew ?_ | refine blk_alloc ?_ _)); refine blk_put (cs := #[.int .i64 t321, .int .i64 x318001_3, .int .i64 x318002_3, .int .i64 x318003_3, .slice Ao39 x318004_3.length co39]) ?_ 1 _ rfl; (with_reducible repeat (first | refine blk_drewN ?_ _ | refine blk_drew ?_ | refine blk_alloc ?_ _)); refine blk_put (cs := #[.int .i64 x318000_3, .int .i64 x318001_3, .int .i64 x318002_3, .int .i64 x318003_3, .slice Ao39 x318004_3.length co39]) ?_ 0 _ rfl; (with_reducible repeat (first | refine blk_drewN ?_ _ | refine blk_drew ?_ | refine blk_alloc ?_ _)); refine blk_far ?_ NB317_329.out _; (with_reducible repeat (first | refine blk_drewN ?_ _ | refine blk_drew ?_ | refine blk_alloc ?_ _)); refine blk_far ?_ NB317_329.out _; (with_reducible repeat (first | refine blk_drewN ?_ _ | refine blk_drew ?_ | refine blk_alloc ?_ _)); refine blk_far ?_ NB317_329.out _; (with_reducible repeat (first | refine blk_drewN ?_ _ | refine blk_drew ?_ | refine blk_alloc ?_ _)); refine blk_far ?_ NB317_329.out _; (with_reducible repeat (first | refine blk_drewN ?_ _ | refine blk_drew ?_ | refine blk_alloc ?_ _)); refine blk_far ?_ NB317_329.out _; (with_reducible repeat (first | refine blk_drewN ?_ _ | refine blk_drew ?_ | refine blk_alloc ?_ _)); exact BK317.out⟩
               have n4_ : Aside0 (((((((((((w41.setCell ⟨gb329, 0, none⟩ (.int .i64 t321)).setCell ⟨gb329, 1, none⟩ (.int .i64 t322)).setCell ⟨gb329, 2, none⟩ (.int .i64 t323)).setCell ⟨gb329, 3, none⟩ (.int .i64 t324)).setCell ⟨gb329, 4, none⟩ (.slice Ao44 t325.length co44)).setCell ⟨gb317, 0, none⟩ (.int .i64 t321)).setCell ⟨gb317, 1, none⟩ (.int .i64 t322)).setCell ⟨gb317, 2, none⟩ (.int .i64 t323)).setCell ⟨gb317, 3, none⟩ (.int .i64 t324)).setCell ⟨gb317, 4, none⟩ (.slice Ao44 t325.length co44)).heap[gb329]? = some (.cells #[.int .i64 t321, .int .i64 t322, .int .i64 t323, .int .i64 t324, .slice Ao44 t325.length co44] 24 (0, 0))) := ⟨by (with_reducible repeat (first | refine blk_drewN ?_ _ | refine blk_drew ?_ | refine blk_alloc ?_ _)); refine blk_far ?_ NB329_317.out _; (with_reducible repeat (first | refine blk_drewN ?_ _ | refine blk_drew ?_ | refine blk_alloc ?_ _)); refine blk_far ?_ NB329_317.out _; (with_reducible repeat (first | refine blk_drewN ?_ _ | refine blk_drew ?_ | refine blk_alloc ?_ _)); refine blk_far ?_ NB329_317.out _; (with_reducible repeat (first | refine blk_drewN ?_ _ | refine blk_drew ?_ | refine blk_alloc ?_ _)); refine blk_far ?_ NB329_317.out _; (with_reducible repeat (first | refine blk_drewN ?_ _ | refine blk_drew ?_ | refine blk_alloc ?_ _)); refine blk_far ?_ NB329_317.out _; (with_reducible repeat (first | refine blk_drewN ?_ _ | refine blk_drew ?_ | refine blk_alloc ?_ _)); refine blk_put (cs := #[.int .i64 t321, .int .i64 t322, .int .i64 t323, .int .i64 t324, .slice none 0 0]) ?_ 4 _ rfl; (with_reducible repeat (first | refine blk_drewN ?_ _ | refine blk_drew ?_ | refine blk_alloc ?_ _)); refine blk_put (cs := #[.int .i64 t321, .int .i64 t322, .int .i64 t323, .int .i64 0, .slice none 0 0]) ?_ 3 _ rfl; (with_reducible repeat (first | refine blk_drewN ?_ _ | refine blk_drew ?_ | refine blk_alloc ?_ _)); refine blk_put (cs := #[.int .i64 t321, .int .i64 t322, .int .i64 0, .int .i64 0, .slice none 0 0]) ?_ 2 _ rfl; (with_reducible repeat (first | refine blk_drewN ?_ _ | refine blk_drew ?_ | refine blk_alloc ?_ _)); refine blk_put (cs := #[.int .i64 t321, .int .i64 0, .int .i64 0, .int .i64 0, .slice none 0 0]) ?_ 1 _ rfl; (with_reducible repeat (first | refine blk_drewN ?_ _ | refine blk_drew ?_ | refine blk_alloc ?_ _)); refine blk_put (cs := #[.int .i64 0, .int .i64 0, .int .i64 0, .int .i64 0, .slice none 0 0]) ?_ 0 _ rfl; (with_reducible repeat (first | refine blk_drewN ?_ _ | refine blk_drew ?_ | refine blk_alloc ?_ _)); exact BK329.out⟩
               have n5_ : Aside0 (Below w.heap.size w ((((((((((w41.setCell ⟨gb329, 0, none⟩ (.int .i64 t321)).setCell ⟨gb329, 1, none⟩ (.int .i64 t322)).setCell ⟨gb329, 2, none⟩ (.int .i64 t323)).setCell ⟨gb329, 3, none⟩ (.int .i64 t324)).setCell ⟨gb329, 4, none⟩ (.slice Ao44 t325.length co44)).setCell ⟨gb317, 0, none⟩ (.int .i64 t321)).setCell ⟨gb317, 1, none⟩ (.int .i64 t322)).setCell ⟨gb317, 2, none⟩ (.int .i64 t323)).setCell ⟨gb317, 3, none⟩ (.int .i64 t324)).setCell ⟨gb317, 4, none⟩ (.slice Ao44 t325.length co44))) := ⟨by repeat (first | (with_reducible first | exact HB.out | apply below_alloc | apply pw_below_drewN | apply below_drew1 | refine below_set ?_ GE317.out | refine below_set ?_ GE329.out) | exact HB.out)⟩
               (try clear HO_12)
               (try clear HO_318004)
               (try clear HO327)
               (try clear BK317)
               (try clear BK329)
               (try clear HB)
               generalize ((((((((((w41.setCell ⟨gb329, 0, none⟩ (.int .i64 t321)).setCell ⟨gb329, 1, none⟩ (.int .i64 t322)).setCell ⟨gb329, 2, none⟩ (.int .i64 t323)).setCell ⟨gb329, 3, none⟩ (.int .i64 t324)).setCell ⟨gb329, 4, none⟩ (.slice Ao44 t325.length co44)).setCell ⟨gb317, 0, none⟩ (.int .i64 t321)).setCell ⟨gb317, 1, none⟩ (.int .i64 t322)).setCell ⟨gb317, 2, none⟩ (.int .i64 t323)).setCell ⟨gb317, 3, none⟩ (.int .i64 t324)).setCell ⟨gb317, 4, none⟩ (.slice Ao44 t325.length co44)) = w46 at n0_ n1_ n2_ n3_ n4_ n5_ ⊢
               have HO_12 := n0_
               have HO_318004 := n1_
               have HO327 := n2_
               have BK317 := n3_
               have BK329 := n4_
               have HB := n5_
               clear n0_ n1_ n2_ n3_ n4_ n5_
               have n0_ := Aside0.mk (Kd.R_drew HO_12.out)
               have n1_ := Aside0.mk (Kd.Q_drew HO_318004.out)
               have n2_ := Aside0.mk (Kd.Q_drew HO327.out)
               have n3_ := Aside0.mk (blk_drew BK317.out)
               have n4_ := Aside0.mk (blk_drew BK329.out)
               have n5_ := Aside0.mk (below_drew1 HB.out)
               clear HO_12
               clear HO_318004
               clear HO327
               clear BK317
               clear BK329
               clear HB
               have HO_12 := n0_
               have HO_318004 := n1_
               have HO327 := n2_
               have BK317 := n3_
               have BK329 := n4_
               have HB := n5_
               clear n0_ n1_ n2_ n3_ n4_ n5_
               refine start_ (n := 16) (S := fun w' => w'.cell? ⟨gb317, 0, none⟩ = some (.int .i64 t321) ∧ w'.cell? ⟨gb317, 1, none⟩ = some (.int .i64 t322) ∧ w'.cell? ⟨gb317, 2, none⟩ = some (.int .i64 t323) ∧ w'.cell? ⟨gb317, 3, none⟩ = some (.int .i64 t324) ∧ w'.cell? ⟨gb317, 4, none⟩ = some (.slice Ao44 t325.length co44)) (ds := []) #[false, false, false, false, false, false, false, false, false, false, false, false, false, false, false, false] (by kernel_rfl) rfl rfl ⟨(blk_cell BK317.out 0).trans rfl, (blk_cell BK317.out 1).trans rfl, (blk_cell BK317.out 2).trans rfl, (blk_cell BK317.out 3).trans rfl, (blk_cell BK317.out 4).trans rfl⟩ (fun hHeld => ?_); refine with_tabW standbylaw33_ThrottleKeeps.tab17 standbylaw33_ThrottleKeeps.bits17 (fun HT_ HW_ => ?_)
               generalize w46.drew = w47 at HO_12 HO_318004 HO327 BK317 BK329 HB hHeld ⊢
               refine pure_ (i := 1) (N := some 73) (v := ?_) (a' := ?_) #[false, true, false, false, false, false, false, false, false, false, false, false, false, false, false, false] rfl rfl (any_of HT_.out (by kernel_rfl)) (fun _ _ _ h => h) (Or.inl ⟨by rfl, ?_⟩) ?_ ?_
               rotate_left
               ·intro w'
                go_simp
                with_reducible rfl
               rotate_left
               ·simp only [Act.put, List.setIfInBounds_toArray, List.set_cons_zero, List.set_cons_succ, i64_w, i32_w]
                rfl
               refine pure_ (i := 3) (N := some 75) (v := ?_) (a' := ?_) #[false, true, false, true, false, false, false, false, false, false, false, false, false, false, false, false] rfl rfl (any_of HT_.out (by kernel_rfl)) (fun _ _ _ h => h) (Or.inl ⟨by rfl, ?_⟩) ?_ ?_
               rotate_left
               ·intro w'
                go_simp
                with_reducible rfl
               rotate_left
               ·simp only [Act.put, List.setIfInBounds_toArray, List.set_cons_zero, List.set_cons_succ, i64_w, i32_w]
                rfl
               refine take_ (i := 0) (N := some 72) (v := ?_) (a' := ?_) #[true, true, false, true, false, false, false, false, false, false, false, false, false, false, false, false] rfl rfl (take_ofW HT_.out HW_.out (by kernel_rfl)) (fun _ _ _ h => h) (Or.inl ⟨by rfl, ?_⟩) hHeld ?_ ?_
               rotate_left
               ·rintro w' ⟨s0, s1, s2, s3, s4⟩
                go_simp
                with_reducible rfl
               rotate_left
               ·simp only [Act.put, List.setIfInBounds_toArray, List.set_cons_zero, List.set_cons_succ, i64_w, i32_w]
                rfl
               refine take_ (i := 4) (N := some 76) (v := ?_) (a' := ?_) #[true, true, false, true, true, false, false, false, false, false, false, false, false, false, false, false] rfl rfl (take_ofW HT_.out HW_.out (by kernel_rfl)) (fun _ _ _ h => h) (Or.inl ⟨by rfl, ?_⟩) hHeld ?_ ?_
               rotate_left
               ·rintro w' ⟨s0, s1, s2, s3, s4⟩
                go_simp
                with_reducible rfl
               rotate_left
               ·simp only [Act.put, List.setIfInBounds_toArray, List.set_cons_zero, List.set_cons_succ, i64_w, i32_w]
                rfl
               refine one_ (i := 2) (N := some 74) #[true, true, true, true, true, false, false, false, false, false, false, false, false, false, false, false] rfl rfl (one_of HT_.out (by kernel_rfl)) (by decide) (fun K hK => ?_)
               refine goes_ Try.func20 (by kernel_rfl) rfl #[.agg #[.int .i64 t321, .int .i64 t322, .int .i64 t323, .int .i64 t324, .slice Ao44 t325.length co44], .int .i64 (wrap64 (x9_3 + 1))] (by rfl) rfl rfl (by (try simp only [List.map_toArray, List.map_cons, List.map_nil]); first | done | rfl | (simp only [List.length_drop, List.length_take]; rfl)) ?_
               with_reducible refine (throttle_Age.calls k3 t321 t322 t323 t324 _ _ t325 (wrap64 (x9_3 + 1)) t330 _ ?side1 ?side2 A22.out).mono ?_
               (case side1 => repeat (first | exact (Kd.Q_reads' HO327.out).2.2 | (with_reducible refine Kd.C_alloc ?_ _) | (with_reducible refine Kd.C_drewN ?_ _) | (with_reducible refine Kd.C_drew ?_)))
               (case side2 => exact (Kd.Q_reads' HO327.out).2.1)
               rintro e w48 ⟨rfl, hb⟩
               refine ⟨_, rfl, ?_⟩
               have n0_ := Aside0.mk (Kd.R_below (by (with_reducible repeat (first | apply Kd.R_alloc | apply Kd.R_drewN | apply Kd.R_drew)); exact HO_12.out) hb)
               have n1_ := Aside0.mk (Kd.Q_below (by (with_reducible repeat (first | apply Kd.Q_alloc | apply Kd.Q_drewN | apply Kd.Q_drew)); exact HO_318004.out) hb)
               have n2_ := Aside0.mk (Kd.Q_below (by (with_reducible repeat (first | apply Kd.Q_alloc | apply Kd.Q_drewN | apply Kd.Q_drew)); exact HO327.out) hb)
               have n3_ := Aside0.mk (blk_below (g := gb317) (o := .cells #[.int .i64 t321, .int .i64 t322, .int .i64 t323, .int .i64 t324, .slice Ao44 t325.length co44] 24 (0, 0)) (by (with_reducible repeat (first | refine blk_drewN ?_ _ | refine blk_drew ?_ | refine blk_alloc ?_ _)); exact BK317.out) hb)
               have n4_ := Aside0.mk (blk_below (g := gb329) (o := .cells #[.int .i64 t321, .int .i64 t322, .int .i64 t323, .int .i64 t324, .slice Ao44 t325.length co44] 24 (0, 0)) (by (with_reducible repeat (first | refine blk_drewN ?_ _ | refine blk_drew ?_ | refine blk_alloc ?_ _)); exact BK329.out) hb)
               have n5_ := Aside0.mk (below_step (by repeat (first | (with_reducible first | exact HB.out | apply below_alloc | apply pw_below_drewN | apply below_drew1 | refine below_set ?_ GE317.out | refine below_set ?_ GE329.out) | exact HB.out)) hb)
               clear HO_12
               clear HO_318004
               clear HO327
               clear BK317
               clear BK329
               clear HB
               have HO_12 := n0_
               have HO_318004 := n1_
               have HO327 := n2_
               have BK317 := n3_
               have BK329 := n4_
               have HB := n5_
               clear n0_ n1_ n2_ n3_ n4_ n5_
               (try clear hb)
               (try clear hb2)
               (try clear hk)
               (try clear hi)
               refine hK.out _ _ ⟨(blk_cell BK317.out 0).trans rfl, (blk_cell BK317.out 1).trans rfl, (blk_cell BK317.out 2).trans rfl, (blk_cell BK317.out 3).trans rfl, (blk_cell BK317.out 4).trans rfl⟩ (fun hHeld => ?_)
               clear hK K
               refine norm_ (a' := ?_) ?_ ?_
               rotate_left
               ·show Act.put _ (some 74) _ = _
                simp only [Act.put, List.setIfInBounds_toArray, List.set_cons_zero, List.set_cons_succ, i64_w, i32_w]
                rfl
               refine pure_ (i := 5) (N := some 77) (v := ?_) (a' := ?_) #[true, true, true, true, true, true, false, false, false, false, false, false, false, false, false, false] rfl rfl (any_of HT_.out (by kernel_rfl)) (fun _ _ _ h => h) (Or.inl ⟨by rfl, ?_⟩) ?_ ?_
               rotate_left
               ·intro w'
                go_simp
                with_reducible rfl
               rotate_left
               ·simp only [Act.put, List.setIfInBounds_toArray, List.set_cons_zero, List.set_cons_succ, i64_w, i32_w]
                rfl
               refine pure_ (i := 6) (N := some 78) (v := ?_) (a' := ?_) #[true, true, true, true, true, true, true, false, false, false, false, false, false, false, false, false] rfl rfl (any_of HT_.out (by kernel_rfl)) (fun _ _ _ h => h) (Or.inl ⟨by rfl, ?_⟩) ?_ ?_
               rotate_left
               ·intro w'
                go_simp
                with_reducible rfl
               rotate_left
               ·simp only [Act.put, List.setIfInBounds_toArray, List.set_cons_zero, List.set_cons_succ, i64_w, i32_w]
                rfl
               refine pure_ (i := 8) (N := some 80) (v := ?_) (a' := ?_) #[true, true, true, true, true, true, true, false, true, false, false, false, false, false, false, false] rfl rfl (any_of HT_.out (by kernel_rfl)) (fun _ _ _ h => h) (Or.inl ⟨by rfl, ?_⟩) ?_ ?_
               rotate_left
               ·intro w'
                go_simp
                with_reducible rfl
               rotate_left
               ·simp only [Act.put, List.setIfInBounds_toArray, List.set_cons_zero, List.set_cons_succ, i64_w, i32_w]
                rfl
               refine pure_ (i := 10) (N := some 82) (v := ?_) (a' := ?_) #[true, true, true, true, true, true, true, false, true, false, true, false, false, false, false, false] rfl rfl (any_of HT_.out (by kernel_rfl)) (fun _ _ _ h => h) (Or.inl ⟨by rfl, ?_⟩) ?_ ?_
               rotate_left
               ·intro w'
                go_simp
                with_reducible rfl
               rotate_left
               ·simp only [Act.put, List.setIfInBounds_toArray, List.set_cons_zero, List.set_cons_succ, i64_w, i32_w]
                rfl
               refine pure_ (i := 11) (N := some 83) (v := ?_) (a' := ?_) #[true, true, true, true, true, true, true, false, true, false, true, true, false, false, false, false] rfl rfl (any_of HT_.out (by kernel_rfl)) (fun _ _ _ h => h) (Or.inl ⟨by rfl, ?_⟩) ?_ ?_
               rotate_left
               ·intro w'
                go_simp
                with_reducible rfl
               rotate_left
               ·simp only [Act.put, List.setIfInBounds_toArray, List.set_cons_zero, List.set_cons_succ, i64_w, i32_w]
                rfl
               refine pure_ (i := 12) (N := some 84) (v := ?_) (a' := ?_) #[true, true, true, true, true, true, true, false, true, false, true, true, true, false, false, false] rfl rfl (any_of HT_.out (by kernel_rfl)) (fun _ _ _ h => h) (Or.inl ⟨by rfl, ?_⟩) ?_ ?_
               rotate_left
               ·intro w'
                go_simp
                with_reducible rfl
               rotate_left
               ·simp only [Act.put, List.setIfInBounds_toArray, List.set_cons_zero, List.set_cons_succ, i64_w, i32_w]
                rfl
               refine take_ (i := 7) (N := some 79) (v := ?_) (a' := ?_) #[true, true, true, true, true, true, true, true, true, false, true, true, true, false, false, false] rfl rfl (take_ofW HT_.out HW_.out (by kernel_rfl)) (fun _ _ _ h => h) (Or.inl ⟨by rfl, ?_⟩) hHeld ?_ ?_
               rotate_left
               ·rintro w' ⟨s0, s1, s2, s3, s4⟩
                go_simp
                with_reducible rfl
               rotate_left
               ·simp only [Act.put, List.setIfInBounds_toArray, List.set_cons_zero, List.set_cons_succ, i64_w, i32_w]
                rfl
               refine one_ (i := 9) (N := some 81) #[true, true, true, true, true, true, true, true, true, true, true, true, true, false, false, false] rfl rfl (one_of HT_.out (by kernel_rfl)) (by decide) (fun K hK => ?_)
               refine goes_ Try.func20 (by kernel_rfl) rfl #[.agg #[.int .i64 t321, .int .i64 t322, .int .i64 t323, .int .i64 t324, .slice Ao44 t325.length co44], .int .i64 (wrap64 (x9_3 + 1))] (by rfl) rfl rfl (by (try simp only [List.map_toArray, List.map_cons, List.map_nil]); first | done | rfl | (simp only [List.length_drop, List.length_take]; rfl)) ?_
               with_reducible refine (throttle_Age.calls k3 t321 t322 t323 t324 _ _ t325 (wrap64 (x9_3 + 1)) t331 _ ?side1 ?side2 A35.out).mono ?_
               (case side1 => repeat (first | exact (Kd.Q_reads' HO327.out).2.2 | (with_reducible refine Kd.C_alloc ?_ _) | (with_reducible refine Kd.C_drewN ?_ _) | (with_reducible refine Kd.C_drew ?_)))
               (case side2 => exact (Kd.Q_reads' HO327.out).2.1)
               rintro e w49 ⟨rfl, hb⟩
               refine ⟨_, rfl, ?_⟩
               have n0_ := Aside0.mk (Kd.R_below (by (with_reducible repeat (first | apply Kd.R_alloc | apply Kd.R_drewN | apply Kd.R_drew)); exact HO_12.out) hb)
               have n1_ := Aside0.mk (Kd.Q_below (by (with_reducible repeat (first | apply Kd.Q_alloc | apply Kd.Q_drewN | apply Kd.Q_drew)); exact HO_318004.out) hb)
               have n2_ := Aside0.mk (Kd.Q_below (by (with_reducible repeat (first | apply Kd.Q_alloc | apply Kd.Q_drewN | apply Kd.Q_drew)); exact HO327.out) hb)
               have n3_ := Aside0.mk (blk_below (g := gb317) (o := .cells #[.int .i64 t321, .int .i64 t322, .int .i64 t323, .int .i64 t324, .slice Ao44 t325.length co44] 24 (0, 0)) (by (with_reducible repeat (first | refine blk_drewN ?_ _ | refine blk_drew ?_ | refine blk_alloc ?_ _)); exact BK317.out) hb)
               have n4_ := Aside0.mk (blk_below (g := gb329) (o := .cells #[.int .i64 t321, .int .i64 t322, .int .i64 t323, .int .i64 t324, .slice Ao44 t325.length co44] 24 (0, 0)) (by (with_reducible repeat (first | refine blk_drewN ?_ _ | refine blk_drew ?_ | refine blk_alloc ?_ _)); exact BK329.out) hb)
               have n5_ := Aside0.mk (below_step (by repeat (first | (with_reducible first | exact HB.out | apply below_alloc | apply pw_below_drewN | apply below_drew1 | refine below_set ?_ GE317.out | refine below_set ?_ GE329.out) | exact HB.out)) hb)
               clear HO_12
               clear HO_318004
               clear HO327
               clear BK317
               clear BK329
               clear HB
               have HO_12 := n0_
               have HO_318004 := n1_
               have HO327 := n2_
               have BK317 := n3_
               have BK329 := n4_
               have HB := n5_
               clear n0_ n1_ n2_ n3_ n4_ n5_
               (try clear hb)
               (try clear hb2)
               (try clear hk)
               (try clear hi)
               obtain ⟨Ao50, co50, eo50⟩ := Kd.R_slice HO_12.out
               (first | subst eo50 | (injection eo50 with f1_ f2_ f3_; have f4_ := f1_.symm; have f5_ := f3_.symm; clear f1_ f2_ f3_; subst f4_; subst f5_))
               refine hK.out _ _ ⟨(blk_cell BK317.out 0).trans rfl, (blk_cell BK317.out 1).trans rfl, (blk_cell BK317.out 2).trans rfl, (blk_cell BK317.out 3).trans rfl, (blk_cell BK317.out 4).trans rfl⟩ (fun hHeld => ?_)
               clear hK K
               refine norm_ (a' := ?_) ?_ ?_
               rotate_left
               ·show Act.put _ (some 81) _ = _
                simp only [Act.put, List.setIfInBounds_toArray, List.set_cons_zero, List.set_cons_succ, i64_w, i32_w]
                rfl
               refine one_ (i := 13) (N := some 85) #[true, true, true, true, true, true, true, true, true, true, true, true, true, true, false, false] rfl rfl (one_of HT_.out (by kernel_rfl)) (by decide) (fun K hK => ?_)
               refine goes_ Try.func21 (by kernel_rfl) rfl #[.slice Ao50 x12_2.length co50, .int .i64 ji19, .int .i64 (wrap64 (x9_3 + 1))] (by rfl) rfl rfl (by (try simp only [List.map_toArray, List.map_cons, List.map_nil]); first | done | (simp only [hji19]; rfl) | rfl | (simp only [List.length_drop, List.length_take]; rfl)) ?_
               with_reducible refine (standbylaw33_oldest.calls k3 _ _ x12_2 ji19 (wrap64 (x9_3 + 1)) t332 _ ?side1 ?side2 A36.out).mono ?_
               (case side1 => repeat (first | exact (Kd.R_reads' HO_12.out).2.2 | (with_reducible refine Kd.C_alloc ?_ _) | (with_reducible refine Kd.C_drewN ?_ _) | (with_reducible refine Kd.C_drew ?_)))
               (case side2 => exact (Kd.R_reads' HO_12.out).2.1)
               rintro e w51 ⟨rfl, hb⟩
               refine ⟨_, rfl, ?_⟩
               have n0_ := Aside0.mk (Kd.R_below (by (with_reducible repeat (first | apply Kd.R_alloc | apply Kd.R_drewN | apply Kd.R_drew)); exact HO_12.out) hb)
               have n1_ := Aside0.mk (Kd.Q_below (by (with_reducible repeat (first | apply Kd.Q_alloc | apply Kd.Q_drewN | apply Kd.Q_drew)); exact HO_318004.out) hb)
               have n2_ := Aside0.mk (Kd.Q_below (by (with_reducible repeat (first | apply Kd.Q_alloc | apply Kd.Q_drewN | apply Kd.Q_drew)); exact HO327.out) hb)
               have n3_ := Aside0.mk (blk_below (g := gb317) (o := .cells #[.int .i64 t321, .int .i64 t322, .int .i64 t323, .int .i64 t324, .slice Ao44 t325.length co44] 24 (0, 0)) (by (with_reducible repeat (first | refine blk_drewN ?_ _ | refine blk_drew ?_ | refine blk_alloc ?_ _)); exact BK317.out) hb)
               have n4_ := Aside0.mk (blk_below (g := gb329) (o := .cells #[.int .i64 t321, .int .i64 t322, .int .i64 t323, .int .i64 t324, .slice Ao44 t325.length co44] 24 (0, 0)) (by (with_reducible repeat (first | refine blk_drewN ?_ _ | refine blk_drew ?_ | refine blk_alloc ?_ _)); exact BK329.out) hb)
               have n5_ := Aside0.mk (below_step (by repeat (first | (with_reducible first | exact HB.out | apply below_alloc | apply pw_below_drewN | apply below_drew1 | refine below_set ?_ GE317.out | refine below_set ?_ GE329.out) | exact HB.out)) hb)
               clear HO_12
               clear HO_318004
               clear HO327
               clear BK317
               clear BK329
               clear HB
               have HO_12 := n0_
               have HO_318004 := n1_
               have HO327 := n2_
               have BK317 := n3_
               have BK329 := n4_
               have HB := n5_
               clear n0_ n1_ n2_ n3_ n4_ n5_
               (try clear hb)
               (try clear hb2)
               (try clear hk)
               (try clear hi)
               refine hK.out _ _ ⟨(blk_cell BK317.out 0).trans rfl, (blk_cell BK317.out 1).trans rfl, (blk_cell BK317.out 2).trans rfl, (blk_cell BK317.out 3).trans rfl, (blk_cell BK317.out 4).trans rfl⟩ (fun hHeld => ?_)
               clear hK K
               refine norm_ (a' := ?_) ?_ ?_
               rotate_left
               ·show Act.put _ (some 85) _ = _
                simp only [Act.put, List.setIfInBounds_toArray, List.set_cons_zero, List.set_cons_succ, i64_w, i32_w]
                rfl
               refine pure_ (i := 14) (N := some 86) (v := ?_) (a' := ?_) #[true, true, true, true, true, true, true, true, true, true, true, true, true, true, true, false] rfl rfl (any_of HT_.out (by kernel_rfl)) (fun _ _ _ h => h) (Or.inl ⟨by rfl, ?_⟩) ?_ ?_
               rotate_left
               ·intro w'
                go_simp
                with_reducible rfl
               rotate_left
               ·simp only [Act.put, List.setIfInBounds_toArray, List.set_cons_zero, List.set_cons_succ, i64_w, i32_w]
                rfl
               refine pure_ (i := 15) (N := some 87) (v := ?_) (a' := ?_) #[true, true, true, true, true, true, true, true, true, true, true, true, true, true, true, true] rfl rfl (any_of HT_.out (by kernel_rfl)) (fun _ _ _ h => h) (Or.inl ⟨by rfl, ?_⟩) ?_ ?_
               rotate_left
               ·intro w'
                go_simp
                with_reducible rfl
               rotate_left
               ·simp only [Act.put, List.setIfInBounds_toArray, List.set_cons_zero, List.set_cons_succ, i64_w, i32_w]
                rfl
               refine done_ (done_of HT_.out (by kernel_rfl)) ?_
               try go_wp2
               go_roundg k3
               case measure => have := HJ4.out; have := HK2.out; have := HK3.out; omega
               case rel => exact ⟨(wrap64 (x9_3 + 1)), (ji19), (wrap64 (x47_3 + 1)), (t321), (t322), (t323), (t324), (t325), (.slice Ao44 t325.length co44), (by first | rfl | (simp; done) | (simp [*]; done)), (by first | rfl | (simp; done) | (simp only [← hji19] <;> (first | rfl | simp)) | (simp [*]; done)), (by first | rfl | (simp; done) | (simp [*]; done)), H', ⟨by have := HJ4.out; have := HK2.out; have := HK3.out; omega⟩, ⟨by (with_reducible repeat (first | apply Kd.R_alloc | apply Kd.R_drewN | apply Kd.R_drew)); exact HO_12.out⟩, ⟨by (with_reducible repeat (first | apply Kd.Q_alloc | apply Kd.Q_drewN | apply Kd.Q_drew)); exact Kd.Q_mono HO327.out (fun _ hk => trivial)⟩, ⟨by (with_reducible repeat (first | refine blk_drewN ?_ _ | refine blk_drew ?_ | refine blk_alloc ?_ _)); exact BK317.out⟩, ⟨by repeat (first | (with_reducible first | exact HB.out | apply below_alloc | apply pw_below_drewN | apply below_drew1 | refine below_set ?_ GE317.out | refine below_set ?_ GE329.out) | exact HB.out)⟩⟩
              ·rw [if_neg c37] at H
               have c37b0 : (t331 == t332) = false := beq_eq_false_iff_ne.mpr c37
               have c37b1 : (t331 != t332) = true := bne_iff_ne.mpr c37
               obtain rfl := Option.some.inj H
               have hcz52_0 : wr.cell? ⟨gb317, 0, none⟩ = some (.int .i64 x318000_3) := (blk_cell BK317.out 0).trans rfl
               have hcz52_1 : wr.cell? ⟨gb317, 1, none⟩ = some (.int .i64 x318001_3) := (blk_cell BK317.out 1).trans rfl
               have hcz52_2 : wr.cell? ⟨gb317, 2, none⟩ = some (.int .i64 x318002_3) := (blk_cell BK317.out 2).trans rfl
               have hcz52_3 : wr.cell? ⟨gb317, 3, none⟩ = some (.int .i64 x318003_3) := (blk_cell BK317.out 3).trans rfl
               have hcz52_4 : wr.cell? ⟨gb317, 4, none⟩ = some (u318004) := (blk_cell BK317.out 4).trans rfl
               have hfz52_0 := blk_frozen BK317.out 0
               have hfz52_1 := blk_frozen BK317.out 1
               have hfz52_2 := blk_frozen BK317.out 2
               have hfz52_3 := blk_frozen BK317.out 3
               have hfz52_4 := blk_frozen BK317.out 4
               obtain ⟨Ao53, co53, eo53, _⟩ := Kd.Q_slice HO_318004.out
               subst eo53
               try go_wp2_with (first | ((with_reducible refine gate_callee (f := 19) rfl ?_); refine goesL_ (some 66) rfl rfl Try.func19 (by kernel_rfl) rfl #[.agg #[.int .i64 x318000_3, .int .i64 x318001_3, .int .i64 x318002_3, .int .i64 x318003_3, .slice Ao53 x318004_3.length co53], .int .i64 (wrap64 (x9_3 + 1)), .int .i64 ji19] rfl (by (try simp only [List.map_toArray, List.map_cons, List.map_nil]); first | done | (simp only [hji19]; rfl) | rfl | (simp only [List.length_drop, List.length_take]; rfl)) ?_; (with_reducible refine (throttle_Progress.calls k3 x318000_3 x318001_3 x318002_3 x318003_3 _ _ x318004_3 (wrap64 (x9_3 + 1)) ji19 t321 t322 t323 t324 t325 t328 _ ?side1 ?side2 A20.out).mono ?_); (case side1 => repeat (first | exact (Kd.Q_reads' HO_318004.out).2.2 | (with_reducible refine Kd.C_alloc ?_ _) | (with_reducible refine Kd.C_drewN ?_ _) | (with_reducible refine Kd.C_drew ?_))); (case side2 => exact (Kd.Q_reads' HO_318004.out).2.1); rintro e w54 ⟨v326, rfl, ho0, hb⟩; refine ⟨_, rfl, ?_⟩; have n0_ := Aside0.mk (Kd.R_below (by (with_reducible repeat (first | apply Kd.R_alloc | apply Kd.R_drewN | apply Kd.R_drew)); exact HO_12.out) hb); have n1_ := Aside0.mk (Kd.Q_elder' (by (with_reducible repeat (first | apply Kd.Q_alloc | apply Kd.Q_drewN | apply Kd.Q_drew)); exact HO_318004.out) (Kd.Q_base ho0) hb); have n2_ := Aside0.mk (Kd.Q_lower (Kd.Q_new' ho0 (Kd.Q_lt (by (with_reducible repeat (first | apply Kd.Q_alloc | apply Kd.Q_drewN | apply Kd.Q_drew)); exact HO_318004.out))) (below_size (by repeat (first | (with_reducible first | exact HB.out | apply below_alloc | apply pw_below_drewN | apply below_drew1 | refine below_set ?_ GE317.out) | exact HB.out)))); have n3_ := Aside0.mk (blk_below (g := gb317) (o := .cells #[.int .i64 x318000_3, .int .i64 x318001_3, .int .i64 x318002_3, .int .i64 x318003_3, .slice Ao53 x318004_3.length co53] 24 (0, 0)) (by (with_reducible repeat (first | refine blk_drewN ?_ _ | refine blk_drew ?_ | refine blk_alloc ?_ _)); exact BK317.out) hb); have n4_ := Aside0.mk (below_step (by repeat (first | (with_reducible first | exact HB.out | apply below_alloc | apply pw_below_drewN | apply below_drew1 | refine below_set ?_ GE317.out) | exact HB.out)) hb); clear HO_12; clear HO_318004; clear BK317; clear HB; have HO_12 := n0_; have HO_318004 := n1_; have HO327 := n2_; have BK317 := n3_; have HB := n4_; clear n0_ n1_ n2_ n3_ n4_; (try clear hb); (try clear hb2); (try clear hk); (try clear hi); (try clear ho0)) | ((with_reducible refine gate_dst (N := 15) rfl ?_); refine box_event ?hg (N := 15) ?hd (cs := #[.int .i64 0, .int .i64 0, .int .i64 0, .int .i64 0, .slice none 0 0]) (t := 24) ?hr ?_; (case hd => rfl); (case hg => rfl); (case hr => first | (go_simp; done) | (go_simp; rfl)); intro gb329 hg w55 hbox hb; have n0_ := Aside0.mk (Kd.R_below (by (with_reducible repeat (first | apply Kd.R_alloc | apply Kd.R_drewN | apply Kd.R_drew)); exact HO_12.out) hb); have n1_ := Aside0.mk (Kd.Q_below (by (with_reducible repeat (first | apply Kd.Q_alloc | apply Kd.Q_drewN | apply Kd.Q_drew)); exact HO_318004.out) hb); have n2_ := Aside0.mk (Kd.Q_below (by (with_reducible repeat (first | apply Kd.Q_alloc | apply Kd.Q_drewN | apply Kd.Q_drew)); exact HO327.out) hb); have n3_ := Aside0.mk (blk_below (g := gb317) (o := .cells #[.int .i64 x318000_3, .int .i64 x318001_3, .int .i64 x318002_3, .int .i64 x318003_3, .slice Ao53 x318004_3.length co53] 24 (0, 0)) (by (with_reducible repeat (first | refine blk_drewN ?_ _ | refine blk_drew ?_ | refine blk_alloc ?_ _)); exact BK317.out) hb); have n4_ := Aside0.mk (below_step (by repeat (first | (with_reducible first | exact HB.out | apply below_alloc | apply pw_below_drewN | apply below_drew1 | refine below_set ?_ GE317.out) | exact HB.out)) hb); have n5_ := Aside0.mk (hbox); have n6_ := Aside0.mk ((by rw [hg]; exact (below_size (by repeat (first | (with_reducible first | exact HB.out | apply below_alloc | apply pw_below_drewN | apply below_drew1 | refine below_set ?_ GE317.out) | exact HB.out))) : w.heap.size ≤ gb329)); have n7_ := Aside0.mk ((by rw [hg]; exact (below_size (by repeat (first | (with_reducible first | exact HB.out | apply below_alloc | apply pw_below_drewN | apply below_drew1 | refine below_set ?_ GE317.out) | exact HB.out))) : w.heap.size ≤ gb329)); have n8_ := Aside0.mk ((by rw [hg]; exact Nat.ne_of_lt (blk_lt (g := gb317) (o := .cells #[.int .i64 x318000_3, .int .i64 x318001_3, .int .i64 x318002_3, .int .i64 x318003_3, .slice Ao53 x318004_3.length co53] 24 (0, 0)) (by (with_reducible repeat (first | refine blk_drewN ?_ _ | refine blk_drew ?_ | refine blk_alloc ?_ _)); exact BK317.out)) : gb317 ≠ gb329)); have n9_ := Aside0.mk ((by rw [hg]; exact Nat.ne_of_gt (blk_lt (g := gb317) (o := .cells #[.int .i64 x318000_3, .int .i64 x318001_3, .int .i64 x318002_3, .int .i64 x318003_3, .slice Ao53 x318004_3.length co53] 24 (0, 0)) (by (with_reducible repeat (first | refine blk_drewN ?_ _ | refine blk_drew ?_ | refine blk_alloc ?_ _)); exact BK317.out)) : gb329 ≠ gb317)); clear HO_12; clear HO_318004; clear HO327; clear BK317; clear HB; have HO_12 := n0_; have HO_318004 := n1_; have HO327 := n2_; have BK317 := n3_; have HB := n4_; have BK329 := n5_; have GW329 := n6_; have GE329 := n7_; have NB317_329 := n8_; have NB329_317 := n9_; clear n0_ n1_ n2_ n3_ n4_ n5_ n6_ n7_ n8_ n9_; clear hb hbox hg; have hnb56 := NB329_317.out; have hnc56 := NB317_329.out; have hcz57_0 : w55.cell? ⟨gb329, 0, none⟩ = some (.int .i64 0) := (blk_cell BK329.out 0).trans rfl; have hcz57_1 : w55.cell? ⟨gb329, 1, none⟩ = some (.int .i64 0) := (blk_cell BK329.out 1).trans rfl; have hcz57_2 : w55.cell? ⟨gb329, 2, none⟩ = some (.int .i64 0) := (blk_cell BK329.out 2).trans rfl; have hcz57_3 : w55.cell? ⟨gb329, 3, none⟩ = some (.int .i64 0) := (blk_cell BK329.out 3).trans rfl; have hcz57_4 : w55.cell? ⟨gb329, 4, none⟩ = some (.slice none 0 0) := (blk_cell BK329.out 4).trans rfl; have hfz57_0 := blk_frozen BK329.out 0; have hfz57_1 := blk_frozen BK329.out 1; have hfz57_2 := blk_frozen BK329.out 2; have hfz57_3 := blk_frozen BK329.out 3; have hfz57_4 := blk_frozen BK329.out 4; obtain ⟨Ao58, co58, eo58, _⟩ := Kd.Q_slice HO327.out; subst eo58; have hcz59_0 : w55.cell? ⟨gb317, 0, none⟩ = some (.int .i64 x318000_3) := (blk_cell BK317.out 0).trans rfl; have hcz59_1 : w55.cell? ⟨gb317, 1, none⟩ = some (.int .i64 x318001_3) := (blk_cell BK317.out 1).trans rfl; have hcz59_2 : w55.cell? ⟨gb317, 2, none⟩ = some (.int .i64 x318002_3) := (blk_cell BK317.out 2).trans rfl; have hcz59_3 : w55.cell? ⟨gb317, 3, none⟩ = some (.int .i64 x318003_3) := (blk_cell BK317.out 3).trans rfl; have hcz59_4 : w55.cell? ⟨gb317, 4, none⟩ = some (.slice Ao53 x318004_3.length co53) := (blk_cell BK317.out 4).trans rfl; have hfz59_0 := blk_frozen BK317.out 0; have hfz59_1 := blk_frozen BK317.out 1; have hfz59_2 := blk_frozen BK317.out 2; have hfz59_3 := blk_frozen BK317.out 3; have hfz59_4 := blk_frozen BK317.out 4))
               have n0_ : Aside0 (Kd.R k49 49 ((((((((((w55.setCell ⟨gb329, 0, none⟩ (.int .i64 t321)).setCell ⟨gb329, 1, none⟩ (.int .i64 t322)).setCell ⟨gb329, 2, none⟩ (.int .i64 t323)).setCell ⟨gb329, 3, none⟩ (.int .i64 t324)).setCell ⟨gb329, 4, none⟩ (.slice Ao58 t325.length co58)).setCell ⟨gb317, 0, none⟩ (.int .i64 t321)).setCell ⟨gb317, 1, none⟩ (.int .i64 t322)).setCell ⟨gb317, 2, none⟩ (.int .i64 t323)).setCell ⟨gb317, 3, none⟩ (.int .i64 t324)).setCell ⟨gb317, 4, none⟩ (.slice Ao58 t325.length co58)) w.heap.size (fun _ => True) u12 x12_2) := ⟨by (with_reducible repeat (first | apply Kd.R_alloc | apply Kd.R_drewN | apply Kd.R_drew)); exact Kd.R_mono (Kd.R_far (p := ⟨gb317, 4, none⟩) (Kd.R_far (p := ⟨gb317, 3, none⟩) (Kd.R_far (p := ⟨gb317, 2, none⟩) (Kd.R_far (p := ⟨gb317, 1, none⟩) (Kd.R_far (p := ⟨gb317, 0, none⟩) (Kd.R_far (p := ⟨gb329, 4, none⟩) (Kd.R_far (p := ⟨gb329, 3, none⟩) (Kd.R_far (p := ⟨gb329, 2, none⟩) (Kd.R_far (p := ⟨gb329, 1, none⟩) (Kd.R_far (p := ⟨gb329, 0, none⟩) (Kd.R_types (Kd.R_types HO_12.out BK329.out (by decide)) BK317.out (by decide)) (fun _ hk => hk.1.2) (.int .i64 t321)) (fun _ hk => hk.1.2) (.int .i64 t322)) (fun _ hk => hk.1.2) (.int .i64 t323)) (fun _ hk => hk.1.2) (.int .i64 t324)) (fun _ hk => hk.1.2) (.slice Ao58 t325.length co58)) (fun _ hk => hk.2) (.int .i64 t321)) (fun _ hk => hk.2) (.int .i64 t322)) (fun _ hk => hk.2) (.int .i64 t323)) (fun _ hk => hk.2) (.int .i64 t324)) (fun _ hk => hk.2) (.slice Ao58 t325.length co58)) (fun _ hk => trivial)⟩
               have n1_ : Aside0 (Kd.Q k71 71 ((((((((((w55.setCell ⟨gb329, 0, none⟩ (.int .i64 t321)).setCell ⟨gb329, 1, none⟩ (.int .i64 t322)).setCell ⟨gb329, 2, none⟩ (.int .i64 t323)).setCell ⟨gb329, 3, none⟩ (.int .i64 t324)).setCell ⟨gb329, 4, none⟩ (.slice Ao58 t325.length co58)).setCell ⟨gb317, 0, none⟩ (.int .i64 t321)).setCell ⟨gb317, 1, none⟩ (.int .i64 t322)).setCell ⟨gb317, 2, none⟩ (.int .i64 t323)).setCell ⟨gb317, 3, none⟩ (.int .i64 t324)).setCell ⟨gb317, 4, none⟩ (.slice Ao58 t325.length co58)) w.heap.size (fun k_ => some k_ ≠ (.slice Ao58 t325.length co58 : Value).ownBlock) (.slice Ao53 x318004_3.length co53) x318004_3) := ⟨by (with_reducible repeat (first | apply Kd.Q_alloc | apply Kd.Q_drewN | apply Kd.Q_drew)); exact Kd.Q_mono (Kd.Q_far (p := ⟨gb317, 4, none⟩) (Kd.Q_far (p := ⟨gb317, 3, none⟩) (Kd.Q_far (p := ⟨gb317, 2, none⟩) (Kd.Q_far (p := ⟨gb317, 1, none⟩) (Kd.Q_far (p := ⟨gb317, 0, none⟩) (Kd.Q_far (p := ⟨gb329, 4, none⟩) (Kd.Q_far (p := ⟨gb329, 3, none⟩) (Kd.Q_far (p := ⟨gb329, 2, none⟩) (Kd.Q_far (p := ⟨gb329, 1, none⟩) (Kd.Q_far (p := ⟨gb329, 0, none⟩) (Kd.Q_types (Kd.Q_types HO_318004.out BK329.out (by decide)) BK317.out (by decide)) (fun _ hk => hk.1.2) (.int .i64 t321)) (fun _ hk => hk.1.2) (.int .i64 t322)) (fun _ hk => hk.1.2) (.int .i64 t323)) (fun _ hk => hk.1.2) (.int .i64 t324)) (fun _ hk => hk.1.2) (.slice Ao58 t325.length co58)) (fun _ hk => hk.2) (.int .i64 t321)) (fun _ hk => hk.2) (.int .i64 t322)) (fun _ hk => hk.2) (.int .i64 t323)) (fun _ hk => hk.2) (.int .i64 t324)) (fun _ hk => hk.2) (.slice Ao58 t325.length co58)) (fun _ hk => hk.1.1.2)⟩
               have n2_ : Aside0 (Kd.Q k71 71 ((((((((((w55.setCell ⟨gb329, 0, none⟩ (.int .i64 t321)).setCell ⟨gb329, 1, none⟩ (.int .i64 t322)).setCell ⟨gb329, 2, none⟩ (.int .i64 t323)).setCell ⟨gb329, 3, none⟩ (.int .i64 t324)).setCell ⟨gb329, 4, none⟩ (.slice Ao58 t325.length co58)).setCell ⟨gb317, 0, none⟩ (.int .i64 t321)).setCell ⟨gb317, 1, none⟩ (.int .i64 t322)).setCell ⟨gb317, 2, none⟩ (.int .i64 t323)).setCell ⟨gb317, 3, none⟩ (.int .i64 t324)).setCell ⟨gb317, 4, none⟩ (.slice Ao58 t325.length co58)) w.heap.size (fun k_ => some k_ ≠ (.slice Ao53 x318004_3.length co53 : Value).ownBlock) (.slice Ao58 t325.length co58) t325) := ⟨by (with_reducible repeat (first | apply Kd.Q_alloc | apply Kd.Q_drewN | apply Kd.Q_drew)); exact Kd.Q_mono (Kd.Q_far (p := ⟨gb317, 4, none⟩) (Kd.Q_far (p := ⟨gb317, 3, none⟩) (Kd.Q_far (p := ⟨gb317, 2, none⟩) (Kd.Q_far (p := ⟨gb317, 1, none⟩) (Kd.Q_far (p := ⟨gb317, 0, none⟩) (Kd.Q_far (p := ⟨gb329, 4, none⟩) (Kd.Q_far (p := ⟨gb329, 3, none⟩) (Kd.Q_far (p := ⟨gb329, 2, none⟩) (Kd.Q_far (p := ⟨gb329, 1, none⟩) (Kd.Q_far (p := ⟨gb329, 0, none⟩) (Kd.Q_types (Kd.Q_types HO327.out BK329.out (by decide)) BK317.out (by decide)) (fun _ hk => hk.1.2) (.int .i64 t321)) (fun _ hk => hk.1.2) (.int .i64 t322)) (fun _ hk => hk.1.2) (.int .i64 t323)) (fun _ hk => hk.1.2) (.int .i64 t324)) (fun _ hk => hk.1.2) (.slice Ao58 t325.length co58)) (fun _ hk => hk.2) (.int .i64 t321)) (fun _ hk => hk.2) (.int .i64 t322)) (fun _ hk => hk.2) (.int .i64 t323)) (fun _ hk => hk.2) (.int .i64 t324)) (fun _ hk => hk.2) (.slice Ao58 t325.length co58)) (fun _ hk => hk.1.1.2)⟩
               have n3_ : Aside0 (((((((((((w55.setCell ⟨gb329, 0, none⟩ (.int .i64 t321)).setCell ⟨gb329, 1, none⟩ (.int .i64 t322)).setCell ⟨gb329, 2, none⟩ (.int .i64 t323)).setCell ⟨gb329, 3, none⟩ (.int .i64 t324)).setCell ⟨gb329, 4, none⟩ (.slice Ao58 t325.length co58)).setCell ⟨gb317, 0, none⟩ (.int .i64 t321)).setCell ⟨gb317, 1, none⟩ (.int .i64 t322)).setCell ⟨gb317, 2, none⟩ (.int .i64 t323)).setCell ⟨gb317, 3, none⟩ (.int .i64 t324)).setCell ⟨gb317, 4, none⟩ (.slice Ao58 t325.length co58)).heap[gb317]? = some (.cells #[.int .i64 t321, .int .i64 t322, .int .i64 t323, .int .i64 t324, .slice Ao58 t325.length co58] 24 (0, 0))) := ⟨by (with_reducible repeat (first | refine blk_drewN ?_ _ | refine blk_drew ?_ | refine blk_alloc ?_ _)); refine blk_put (cs := #[.int .i64 t321, .int .i64 t322, .int .i64 t323, .int .i64 t324, .slice Ao53 x318004_3.length co53]) ?_ 4 _ rfl; (with_reducible repeat (first | refine blk_drewN ?_ _ | refine blk_drew ?_ | refine blk_alloc ?_ _)); refine blk_put (cs := #[.int .i64 t321, .int .i64 t322, .int .i64 t323, .int .i64 x318003_3, .slice Ao53 x318004_3.length co53]) ?_ 3 _ rfl; (with_reducible repeat (first | refine blk_drewN ?_ _ | refine blk_drew ?_ | refine blk_alloc ?_ _)); refine blk_put (cs := #[.int .i64 t321, .int .i64 t322, .int .i64 x318002_3, .int .i64 x318003_3, .slice Ao53 x318004_3.length co53]) ?_ 2 _ rfl; (with_reducible repeat (first | refine blk_drewN ?_ _ | refine blk_drew ?_ | refine blk_alloc ?_ _)); refine blk_put (cs := #[.int .i64 t321, .int .i64 x318001_3, .int .i64 x318002_3, .int .i64 x318003_3, .slice Ao53 x318004_3.length co53]) ?_ 1 _ rfl; (with_reducible repeat (first | refine blk_drewN ?_ _ | refine blk_drew ?_ | refine blk_alloc ?_ _)); refine blk_put (cs := #[.int .i64 x318000_3, .int .i64 x318001_3, .int .i64 x318002_3, .int .i64 x318003_3, .slice Ao53 x318004_3.length co53]) ?_ 0 _ rfl; (with_reducible repeat (first | refine blk_drewN ?_ _ | refine blk_drew ?_ | refine blk_alloc ?_ _)); refine blk_far ?_ NB317_329.out _; (with_reducible repeat (first | refine blk_drewN ?_ _ | refine blk_drew ?_ | refine blk_alloc ?_ _)); refine blk_far ?_ NB317_329.out _; (with_reducible repeat (first | refine blk_drewN ?_ _ | refine blk_drew ?_ | refine blk_alloc ?_ _)); refine blk_far ?_ NB317_329.out _; (with_reducible repeat (first | refine blk_drewN ?_ _ | refine blk_drew ?_ | refine blk_alloc ?_ _)); refine blk_far ?_ NB317_329.out _; (with_reducible repeat (first | refine blk_drewN ?_ _ | refine blk_drew ?_ | refine blk_alloc ?_ _)); refine blk_far ?_ NB317_329.out _; (with_reducible repeat (first | refine blk_drewN ?_ _ | refine blk_drew ?_ | refine blk_alloc ?_ _)); exact BK317.out⟩
               have n4_ : Aside0 (((((((((((w55.setCell ⟨gb329, 0, none⟩ (.int .i64 t321)).setCell ⟨gb329, 1, none⟩ (.int .i64 t322)).setCell ⟨gb329, 2, none⟩ (.int .i64 t323)).setCell ⟨gb329, 3, none⟩ (.int .i64 t324)).setCell ⟨gb329, 4, none⟩ (.slice Ao58 t325.length co58)).setCell ⟨gb317, 0, none⟩ (.int .i64 t321)).setCell ⟨gb317, 1, none⟩ (.int .i64 t322)).setCell ⟨gb317, 2, none⟩ (.int .i64 t323)).setCell ⟨gb317, 3, none⟩ (.int .i64 t324)).setCell ⟨gb317, 4, none⟩ (.slice Ao58 t325.length co58)).heap[gb329]? = some (.cells #[.int .i64 t321, .int .i64 t322, .int .i64 t323, .int .i64 t324, .slice Ao58 t325.length co58] 24 (0, 0))) := ⟨by (with_reducible repeat (first | refine blk_drewN ?_ _ | refine blk_drew ?_ | refine blk_alloc ?_ _)); refine blk_far ?_ NB329_317.out _; (with_reducible repeat (first | refine blk_drewN ?_ _ | refine blk_drew ?_ | refine blk_alloc ?_ _)); refine blk_far ?_ NB329_317.out _; (with_reducible repeat (first | refine blk_drewN ?_ _ | refine blk_drew ?_ | refine blk_alloc ?_ _)); refine blk_far ?_ NB329_317.out _; (with_reducible repeat (first | refine blk_drewN ?_ _ | refine blk_drew ?_ | refine blk_alloc ?_ _)); refine blk_far ?_ NB329_317.out _; (with_reducible repeat (first | refine blk_drewN ?_ _ | refine blk_drew ?_ | refine blk_alloc ?_ _)); refine blk_far ?_ NB329_317.out _; (with_reducible repeat (first | refine blk_drewN ?_ _ | refine blk_drew ?_ | refine blk_alloc ?_ _)); refine blk_put (cs := #[.int .i64 t321, .int .i64 t322, .int .i64 t323, .int .i64 t324, .slice none 0 0]) ?_ 4 _ rfl; (with_reducible repeat (first | refine blk_drewN ?_ _ | refine blk_drew ?_ | refine blk_alloc ?_ _)); refine blk_put (cs := #[.int .i64 t321, .int .i64 t322, .int .i64 t323, .int .i64 0, .slice none 0 0]) ?_ 3 _ rfl; (with_reducible repeat (first | refine blk_drewN ?_ _ | refine blk_drew ?_ | refine blk_alloc ?_ _)); refine blk_put (cs := #[.int .i64 t321, .int .i64 t322, .int .i64 0, .int .i64 0, .slice none 0 0]) ?_ 2 _ rfl; (with_reducible repeat (first | refine blk_drewN ?_ _ | refine blk_drew ?_ | refine blk_alloc ?_ _)); refine blk_put (cs := #[.int .i64 t321, .int .i64 0, .int .i64 0, .int .i64 0, .slice none 0 0]) ?_ 1 _ rfl; (with_reducible repeat (first | refine blk_drewN ?_ _ | refine blk_drew ?_ | refine blk_alloc ?_ _)); refine blk_put (cs := #[.int .i64 0, .int .i64 0, .int .i64 0, .int .i64 0, .slice none 0 0]) ?_ 0 _ rfl; (with_reducible repeat (first | refine blk_drewN ?_ _ | refine blk_drew ?_ | refine blk_alloc ?_ _)); exact BK329.out⟩
               have n5_ : Aside0 (Below w.heap.size w ((((((((((w55.setCell ⟨gb329, 0, none⟩ (.int .i64 t321)).setCell ⟨gb329, 1, none⟩ (.int .i64 t322)).setCell ⟨gb329, 2, none⟩ (.int .i64 t323)).setCell ⟨gb329, 3, none⟩ (.int .i64 t324)).setCell ⟨gb329, 4, none⟩ (.slice Ao58 t325.length co58)).setCell ⟨gb317, 0, none⟩ (.int .i64 t321)).setCell ⟨gb317, 1, none⟩ (.int .i64 t322)).setCell ⟨gb317, 2, none⟩ (.int .i64 t323)).setCell ⟨gb317, 3, none⟩ (.int .i64 t324)).setCell ⟨gb317, 4, none⟩ (.slice Ao58 t325.length co58))) := ⟨by repeat (first | (with_reducible first | exact HB.out | apply below_alloc | apply pw_below_drewN | apply below_drew1 | refine below_set ?_ GE317.out | refine below_set ?_ GE329.out) | exact HB.out)⟩
               (try clear HO_12)
               (try clear HO_318004)
               (try clear HO327)
               (try clear BK317)
               (try clear BK329)
               (try clear HB)
               generalize ((((((((((w55.setCell ⟨gb329, 0, none⟩ (.int .i64 t321)).setCell ⟨gb329, 1, none⟩ (.int .i64 t322)).setCell ⟨gb329, 2, none⟩ (.int .i64 t323)).setCell ⟨gb329, 3, none⟩ (.int .i64 t324)).setCell ⟨gb329, 4, none⟩ (.slice Ao58 t325.length co58)).setCell ⟨gb317, 0, none⟩ (.int .i64 t321)).setCell ⟨gb317, 1, none⟩ (.int .i64 t322)).setCell ⟨gb317, 2, none⟩ (.int .i64 t323)).setCell ⟨gb317, 3, none⟩ (.int .i64 t324)).setCell ⟨gb317, 4, none⟩ (.slice Ao58 t325.length co58)) = w60 at n0_ n1_ n2_ n3_ n4_ n5_ ⊢
               have HO_12 := n0_
               have HO_318004 := n1_
               have HO327 := n2_
               have BK317 := n3_
               have BK329 := n4_
               have HB := n5_
               clear n0_ n1_ n2_ n3_ n4_ n5_
               have n0_ := Aside0.mk (Kd.R_drew HO_12.out)
               have n1_ := Aside0.mk (Kd.Q_drew HO_318004.out)
               have n2_ := Aside0.mk (Kd.Q_drew HO327.out)
               have n3_ := Aside0.mk (blk_drew BK317.out)
               have n4_ := Aside0.mk (blk_drew BK329.out)
               have n5_ := Aside0.mk (below_drew1 HB.out)
               clear HO_12
               clear HO_318004
               clear HO327
               clear BK317
               clear BK329
               clear HB
               have HO_12 := n0_
               have HO_318004 := n1_
               have HO327 := n2_
               have BK317 := n3_
               have BK329 := n4_
               have HB := n5_
               clear n0_ n1_ n2_ n3_ n4_ n5_
               refine start_ (n := 16) (S := fun w' => w'.cell? ⟨gb317, 0, none⟩ = some (.int .i64 t321) ∧ w'.cell? ⟨gb317, 1, none⟩ = some (.int .i64 t322) ∧ w'.cell? ⟨gb317, 2, none⟩ = some (.int .i64 t323) ∧ w'.cell? ⟨gb317, 3, none⟩ = some (.int .i64 t324) ∧ w'.cell? ⟨gb317, 4, none⟩ = some (.slice Ao58 t325.length co58)) (ds := []) #[false, false, false, false, false, false, false, false, false, false, false, false, false, false, false, false] (by kernel_rfl) rfl rfl ⟨(blk_cell BK317.out 0).trans rfl, (blk_cell BK317.out 1).trans rfl, (blk_cell BK317.out 2).trans rfl, (blk_cell BK317.out 3).trans rfl, (blk_cell BK317.out 4).trans rfl⟩ (fun hHeld => ?_); refine with_tabW standbylaw33_ThrottleKeeps.tab17 standbylaw33_ThrottleKeeps.bits17 (fun HT_ HW_ => ?_)
               generalize w60.drew = w61 at HO_12 HO_318004 HO327 BK317 BK329 HB hHeld ⊢
               refine pure_ (i := 1) (N := some 73) (v := ?_) (a' := ?_) #[false, true, false, false, false, false, false, false, false, false, false, false, false, false, false, false] rfl rfl (any_of HT_.out (by kernel_rfl)) (fun _ _ _ h => h) (Or.inl ⟨by rfl, ?_⟩) ?_ ?_
               rotate_left
               ·intro w'
                go_simp
                with_reducible rfl
               rotate_left
               ·simp only [Act.put, List.setIfInBounds_toArray, List.set_cons_zero, List.set_cons_succ, i64_w, i32_w]
                rfl
               refine pure_ (i := 3) (N := some 75) (v := ?_) (a' := ?_) #[false, true, false, true, false, false, false, false, false, false, false, false, false, false, false, false] rfl rfl (any_of HT_.out (by kernel_rfl)) (fun _ _ _ h => h) (Or.inl ⟨by rfl, ?_⟩) ?_ ?_
               rotate_left
               ·intro w'
                go_simp
                with_reducible rfl
               rotate_left
               ·simp only [Act.put, List.setIfInBounds_toArray, List.set_cons_zero, List.set_cons_succ, i64_w, i32_w]
                rfl
               refine take_ (i := 0) (N := some 72) (v := ?_) (a' := ?_) #[true, true, false, true, false, false, false, false, false, false, false, false, false, false, false, false] rfl rfl (take_ofW HT_.out HW_.out (by kernel_rfl)) (fun _ _ _ h => h) (Or.inl ⟨by rfl, ?_⟩) hHeld ?_ ?_
               rotate_left
               ·rintro w' ⟨s0, s1, s2, s3, s4⟩
                go_simp
                with_reducible rfl
               rotate_left
               ·simp only [Act.put, List.setIfInBounds_toArray, List.set_cons_zero, List.set_cons_succ, i64_w, i32_w]
                rfl
               refine take_ (i := 4) (N := some 76) (v := ?_) (a' := ?_) #[true, true, false, true, true, false, false, false, false, false, false, false, false, false, false, false] rfl rfl (take_ofW HT_.out HW_.out (by kernel_rfl)) (fun _ _ _ h => h) (Or.inl ⟨by rfl, ?_⟩) hHeld ?_ ?_
               rotate_left
               ·rintro w' ⟨s0, s1, s2, s3, s4⟩
                go_simp
                with_reducible rfl
               rotate_left
               ·simp only [Act.put, List.setIfInBounds_toArray, List.set_cons_zero, List.set_cons_succ, i64_w, i32_w]
                rfl
               refine one_ (i := 2) (N := some 74) #[true, true, true, true, true, false, false, false, false, false, false, false, false, false, false, false] rfl rfl (one_of HT_.out (by kernel_rfl)) (by decide) (fun K hK => ?_)
               refine goes_ Try.func20 (by kernel_rfl) rfl #[.agg #[.int .i64 t321, .int .i64 t322, .int .i64 t323, .int .i64 t324, .slice Ao58 t325.length co58], .int .i64 (wrap64 (x9_3 + 1))] (by rfl) rfl rfl (by (try simp only [List.map_toArray, List.map_cons, List.map_nil]); first | done | rfl | (simp only [List.length_drop, List.length_take]; rfl)) ?_
               with_reducible refine (throttle_Age.calls k3 t321 t322 t323 t324 _ _ t325 (wrap64 (x9_3 + 1)) t330 _ ?side1 ?side2 A22.out).mono ?_
               (case side1 => repeat (first | exact (Kd.Q_reads' HO327.out).2.2 | (with_reducible refine Kd.C_alloc ?_ _) | (with_reducible refine Kd.C_drewN ?_ _) | (with_reducible refine Kd.C_drew ?_)))
               (case side2 => exact (Kd.Q_reads' HO327.out).2.1)
               rintro e w62 ⟨rfl, hb⟩
               refine ⟨_, rfl, ?_⟩
               have n0_ := Aside0.mk (Kd.R_below (by (with_reducible repeat (first | apply Kd.R_alloc | apply Kd.R_drewN | apply Kd.R_drew)); exact HO_12.out) hb)
               have n1_ := Aside0.mk (Kd.Q_below (by (with_reducible repeat (first | apply Kd.Q_alloc | apply Kd.Q_drewN | apply Kd.Q_drew)); exact HO_318004.out) hb)
               have n2_ := Aside0.mk (Kd.Q_below (by (with_reducible repeat (first | apply Kd.Q_alloc | apply Kd.Q_drewN | apply Kd.Q_drew)); exact HO327.out) hb)
               have n3_ := Aside0.mk (blk_below (g := gb317) (o := .cells #[.int .i64 t321, .int .i64 t322, .int .i64 t323, .int .i64 t324, .slice Ao58 t325.length co58] 24 (0, 0)) (by (with_reducible repeat (first | refine blk_drewN ?_ _ | refine blk_drew ?_ | refine blk_alloc ?_ _)); exact BK317.out) hb)
               have n4_ := Aside0.mk (blk_below (g := gb329) (o := .cells #[.int .i64 t321, .int .i64 t322, .int .i64 t323, .int .i64 t324, .slice Ao58 t325.length co58] 24 (0, 0)) (by (with_reducible repeat (first | refine blk_drewN ?_ _ | refine blk_drew ?_ | refine blk_alloc ?_ _)); exact BK329.out) hb)
               have n5_ := Aside0.mk (below_step (by repeat (first | (with_reducible first | exact HB.out | apply below_alloc | apply pw_below_drewN | apply below_drew1 | refine below_set ?_ GE317.out | refine below_set ?_ GE329.out) | exact HB.out)) hb)
               clear HO_12
               clear HO_318004
               clear HO327
               clear BK317
               clear BK329
               clear HB
               have HO_12 := n0_
               have HO_318004 := n1_
               have HO327 := n2_
               have BK317 := n3_
               have BK329 := n4_
               have HB := n5_
               clear n0_ n1_ n2_ n3_ n4_ n5_
               (try clear hb)
               (try clear hb2)
               (try clear hk)
               (try clear hi)
               refine hK.out _ _ ⟨(blk_cell BK317.out 0).trans rfl, (blk_cell BK317.out 1).trans rfl, (blk_cell BK317.out 2).trans rfl, (blk_cell BK317.out 3).trans rfl, (blk_cell BK317.out 4).trans rfl⟩ (fun hHeld => ?_)
               clear hK K
               refine norm_ (a' := ?_) ?_ ?_
               rotate_left
               ·show Act.put _ (some 74) _ = _
                simp only [Act.put, List.setIfInBounds_toArray, List.set_cons_zero, List.set_cons_succ, i64_w, i32_w]
                rfl
               refine pure_ (i := 5) (N := some 77) (v := ?_) (a' := ?_) #[true, true, true, true, true, true, false, false, false, false, false, false, false, false, false, false] rfl rfl (any_of HT_.out (by kernel_rfl)) (fun _ _ _ h => h) (Or.inl ⟨by rfl, ?_⟩) ?_ ?_
               rotate_left
               ·intro w'
                go_simp
                with_reducible rfl
               rotate_left
               ·simp only [Act.put, List.setIfInBounds_toArray, List.set_cons_zero, List.set_cons_succ, i64_w, i32_w]
                rfl
               refine pure_ (i := 6) (N := some 78) (v := ?_) (a' := ?_) #[true, true, true, true, true, true, true, false, false, false, false, false, false, false, false, false] rfl rfl (any_of HT_.out (by kernel_rfl)) (fun _ _ _ h => h) (Or.inl ⟨by rfl, ?_⟩) ?_ ?_
               rotate_left
               ·intro w'
                go_simp
                with_reducible rfl
               rotate_left
               ·simp only [Act.put, List.setIfInBounds_toArray, List.set_cons_zero, List.set_cons_succ, i64_w, i32_w]
                rfl
               refine pure_ (i := 8) (N := some 80) (v := ?_) (a' := ?_) #[true, true, true, true, true, true, true, false, true, false, false, false, false, false, false, false] rfl rfl (any_of HT_.out (by kernel_rfl)) (fun _ _ _ h => h) (Or.inl ⟨by rfl, ?_⟩) ?_ ?_
               rotate_left
               ·intro w'
                go_simp
                with_reducible rfl
               rotate_left
               ·simp only [Act.put, List.setIfInBounds_toArray, List.set_cons_zero, List.set_cons_succ, i64_w, i32_w]
                rfl
               refine pure_ (i := 10) (N := some 82) (v := ?_) (a' := ?_) #[true, true, true, true, true, true, true, false, true, false, true, false, false, false, false, false] rfl rfl (any_of HT_.out (by kernel_rfl)) (fun _ _ _ h => h) (Or.inl ⟨by rfl, ?_⟩) ?_ ?_
               rotate_left
               ·intro w'
                go_simp
                with_reducible rfl
               rotate_left
               ·simp only [Act.put, List.setIfInBounds_toArray, List.set_cons_zero, List.set_cons_succ, i64_w, i32_w]
                rfl
               refine pure_ (i := 11) (N := some 83) (v := ?_) (a' := ?_) #[true, true, true, true, true, true, true, false, true, false, true, true, false, false, false, false] rfl rfl (any_of HT_.out (by kernel_rfl)) (fun _ _ _ h => h) (Or.inl ⟨by rfl, ?_⟩) ?_ ?_
               rotate_left
               ·intro w'
                go_simp
                with_reducible rfl
               rotate_left
               ·simp only [Act.put, List.setIfInBounds_toArray, List.set_cons_zero, List.set_cons_succ, i64_w, i32_w]
                rfl
               refine pure_ (i := 12) (N := some 84) (v := ?_) (a' := ?_) #[true, true, true, true, true, true, true, false, true, false, true, true, true, false, false, false] rfl rfl (any_of HT_.out (by kernel_rfl)) (fun _ _ _ h => h) (Or.inl ⟨by rfl, ?_⟩) ?_ ?_
               rotate_left
               ·intro w'
                go_simp
                with_reducible rfl
               rotate_left
               ·simp only [Act.put, List.setIfInBounds_toArray, List.set_cons_zero, List.set_cons_succ, i64_w, i32_w]
                rfl
               refine take_ (i := 7) (N := some 79) (v := ?_) (a' := ?_) #[true, true, true, true, true, true, true, true, true, false, true, true, true, false, false, false] rfl rfl (take_ofW HT_.out HW_.out (by kernel_rfl)) (fun _ _ _ h => h) (Or.inl ⟨by rfl, ?_⟩) hHeld ?_ ?_
               rotate_left
               ·rintro w' ⟨s0, s1, s2, s3, s4⟩
                go_simp
                with_reducible rfl
               rotate_left
               ·simp only [Act.put, List.setIfInBounds_toArray, List.set_cons_zero, List.set_cons_succ, i64_w, i32_w]
                rfl
               refine one_ (i := 9) (N := some 81) #[true, true, true, true, true, true, true, true, true, true, true, true, true, false, false, false] rfl rfl (one_of HT_.out (by kernel_rfl)) (by decide) (fun K hK => ?_)
               refine goes_ Try.func20 (by kernel_rfl) rfl #[.agg #[.int .i64 t321, .int .i64 t322, .int .i64 t323, .int .i64 t324, .slice Ao58 t325.length co58], .int .i64 (wrap64 (x9_3 + 1))] (by rfl) rfl rfl (by (try simp only [List.map_toArray, List.map_cons, List.map_nil]); first | done | rfl | (simp only [List.length_drop, List.length_take]; rfl)) ?_
               with_reducible refine (throttle_Age.calls k3 t321 t322 t323 t324 _ _ t325 (wrap64 (x9_3 + 1)) t331 _ ?side1 ?side2 A35.out).mono ?_
               (case side1 => repeat (first | exact (Kd.Q_reads' HO327.out).2.2 | (with_reducible refine Kd.C_alloc ?_ _) | (with_reducible refine Kd.C_drewN ?_ _) | (with_reducible refine Kd.C_drew ?_)))
               (case side2 => exact (Kd.Q_reads' HO327.out).2.1)
               rintro e w63 ⟨rfl, hb⟩
               refine ⟨_, rfl, ?_⟩
               have n0_ := Aside0.mk (Kd.R_below (by (with_reducible repeat (first | apply Kd.R_alloc | apply Kd.R_drewN | apply Kd.R_drew)); exact HO_12.out) hb)
               have n1_ := Aside0.mk (Kd.Q_below (by (with_reducible repeat (first | apply Kd.Q_alloc | apply Kd.Q_drewN | apply Kd.Q_drew)); exact HO_318004.out) hb)
               have n2_ := Aside0.mk (Kd.Q_below (by (with_reducible repeat (first | apply Kd.Q_alloc | apply Kd.Q_drewN | apply Kd.Q_drew)); exact HO327.out) hb)
               have n3_ := Aside0.mk (blk_below (g := gb317) (o := .cells #[.int .i64 t321, .int .i64 t322, .int .i64 t323, .int .i64 t324, .slice Ao58 t325.length co58] 24 (0, 0)) (by (with_reducible repeat (first | refine blk_drewN ?_ _ | refine blk_drew ?_ | refine blk_alloc ?_ _)); exact BK317.out) hb)
               have n4_ := Aside0.mk (blk_below (g := gb329) (o := .cells #[.int .i64 t321, .int .i64 t322, .int .i64 t323, .int .i64 t324, .slice Ao58 t325.length co58] 24 (0, 0)) (by (with_reducible repeat (first | refine blk_drewN ?_ _ | refine blk_drew ?_ | refine blk_alloc ?_ _)); exact BK329.out) hb)
               have n5_ := Aside0.mk (below_step (by repeat (first | (with_reducible first | exact HB.out | apply below_alloc | apply pw_below_drewN | apply below_drew1 | refine below_set ?_ GE317.out | refine below_set ?_ GE329.out) | exact HB.out)) hb)
               clear HO_12
               clear HO_318004
               clear HO327
               clear BK317
               clear BK329
               clear HB
               have HO_12 := n0_
               have HO_318004 := n1_
               have HO327 := n2_
               have BK317 := n3_
               have BK329 := n4_
               have HB := n5_
               clear n0_ n1_ n2_ n3_ n4_ n5_
               (try clear hb)
               (try clear hb2)
               (try clear hk)
               (try clear hi)
               obtain ⟨Ao64, co64, eo64⟩ := Kd.R_slice HO_12.out
               (first | subst eo64 | (injection eo64 with f1_ f2_ f3_; have f4_ := f1_.symm; have f5_ := f3_.symm; clear f1_ f2_ f3_; subst f4_; subst f5_))
               refine hK.out _ _ ⟨(blk_cell BK317.out 0).trans rfl, (blk_cell BK317.out 1).trans rfl, (blk_cell BK317.out 2).trans rfl, (blk_cell BK317.out 3).trans rfl, (blk_cell BK317.out 4).trans rfl⟩ (fun hHeld => ?_)
               clear hK K
               refine norm_ (a' := ?_) ?_ ?_
               rotate_left
               ·show Act.put _ (some 81) _ = _
                simp only [Act.put, List.setIfInBounds_toArray, List.set_cons_zero, List.set_cons_succ, i64_w, i32_w]
                rfl
               refine one_ (i := 13) (N := some 85) #[true, true, true, true, true, true, true, true, true, true, true, true, true, true, false, false] rfl rfl (one_of HT_.out (by kernel_rfl)) (by decide) (fun K hK => ?_)
               refine goes_ Try.func21 (by kernel_rfl) rfl #[.slice Ao64 x12_2.length co64, .int .i64 ji19, .int .i64 (wrap64 (x9_3 + 1))] (by rfl) rfl rfl (by (try simp only [List.map_toArray, List.map_cons, List.map_nil]); first | done | (simp only [hji19]; rfl) | rfl | (simp only [List.length_drop, List.length_take]; rfl)) ?_
               with_reducible refine (standbylaw33_oldest.calls k3 _ _ x12_2 ji19 (wrap64 (x9_3 + 1)) t332 _ ?side1 ?side2 A36.out).mono ?_
               (case side1 => repeat (first | exact (Kd.R_reads' HO_12.out).2.2 | (with_reducible refine Kd.C_alloc ?_ _) | (with_reducible refine Kd.C_drewN ?_ _) | (with_reducible refine Kd.C_drew ?_)))
               (case side2 => exact (Kd.R_reads' HO_12.out).2.1)
               rintro e w65 ⟨rfl, hb⟩
               refine ⟨_, rfl, ?_⟩
               have n0_ := Aside0.mk (Kd.R_below (by (with_reducible repeat (first | apply Kd.R_alloc | apply Kd.R_drewN | apply Kd.R_drew)); exact HO_12.out) hb)
               have n1_ := Aside0.mk (Kd.Q_below (by (with_reducible repeat (first | apply Kd.Q_alloc | apply Kd.Q_drewN | apply Kd.Q_drew)); exact HO_318004.out) hb)
               have n2_ := Aside0.mk (Kd.Q_below (by (with_reducible repeat (first | apply Kd.Q_alloc | apply Kd.Q_drewN | apply Kd.Q_drew)); exact HO327.out) hb)
               have n3_ := Aside0.mk (blk_below (g := gb317) (o := .cells #[.int .i64 t321, .int .i64 t322, .int .i64 t323, .int .i64 t324, .slice Ao58 t325.length co58] 24 (0, 0)) (by (with_reducible repeat (first | refine blk_drewN ?_ _ | refine blk_drew ?_ | refine blk_alloc ?_ _)); exact BK317.out) hb)
               have n4_ := Aside0.mk (blk_below (g := gb329) (o := .cells #[.int .i64 t321, .int .i64 t322, .int .i64 t323, .int .i64 t324, .slice Ao58 t325.length co58] 24 (0, 0)) (by (with_reducible repeat (first | refine blk_drewN ?_ _ | refine blk_drew ?_ | refine blk_alloc ?_ _)); exact BK329.out) hb)
               have n5_ := Aside0.mk (below_step (by repeat (first | (with_reducible first | exact HB.out | apply below_alloc | apply pw_below_drewN | apply below_drew1 | refine below_set ?_ GE317.out | refine below_set ?_ GE329.out) | exact HB.out)) hb)
               clear HO_12
               clear HO_318004
               clear HO327
               clear BK317
               clear BK329
               clear HB
               have HO_12 := n0_
               have HO_318004 := n1_
               have HO327 := n2_
               have BK317 := n3_
               have BK329 := n4_
               have HB := n5_
               clear n0_ n1_ n2_ n3_ n4_ n5_
               (try clear hb)
               (try clear hb2)
               (try clear hk)
               (try clear hi)
               refine hK.out _ _ ⟨(blk_cell BK317.out 0).trans rfl, (blk_cell BK317.out 1).trans rfl, (blk_cell BK317.out 2).trans rfl, (blk_cell BK317.out 3).trans rfl, (blk_cell BK317.out 4).trans rfl⟩ (fun hHeld => ?_)
               clear hK K
               refine norm_ (a' := ?_) ?_ ?_
               rotate_left
               ·show Act.put _ (some 85) _ = _
                simp only [Act.put, List.setIfInBounds_toArray, List.set_cons_zero, List.set_cons_succ, i64_w, i32_w]
                rfl
               refine pure_ (i := 14) (N := some 86) (v := ?_) (a' := ?_) #[true, true, true, true, true, true, true, true, true, true, true, true, true, true, true, false] rfl rfl (any_of HT_.out (by kernel_rfl)) (fun _ _ _ h => h) (Or.inl ⟨by rfl, ?_⟩) ?_ ?_
               rotate_left
               ·intro w'
                go_simp
                with_reducible rfl
               rotate_left
               ·simp only [Act.put, List.setIfInBounds_toArray, List.set_cons_zero, List.set_cons_succ, i64_w, i32_w]
                rfl
               refine pure_ (i := 15) (N := some 87) (v := ?_) (a' := ?_) #[true, true, true, true, true, true, true, true, true, true, true, true, true, true, true, true] rfl rfl (any_of HT_.out (by kernel_rfl)) (fun _ _ _ h => h) (Or.inl ⟨by rfl, ?_⟩) ?_ ?_
               rotate_left
               ·intro w'
                go_simp
                with_reducible rfl
               rotate_left
               ·simp only [Act.put, List.setIfInBounds_toArray, List.set_cons_zero, List.set_cons_succ, i64_w, i32_w]
                rfl
               refine done_ (done_of HT_.out (by kernel_rfl)) ?_
               try go_wp2
               go_ret
               exact ⟨by first | rfl | (simp [errW_none, errW_some] <;> rfl) | (simp only [← hji19]; first | rfl | (simp [errW_none, errW_some] <;> rfl)) | (simp [*, errW_none, errW_some] <;> rfl), by repeat (first | (with_reducible first | exact HB.out | apply below_alloc | apply pw_below_drewN | apply below_drew1 | refine below_set ?_ GE317.out | refine below_set ?_ GE329.out) | exact HB.out)⟩
            ·rw [if_neg c21] at H
             have c21b0 : (t328 == 0) = false := beq_eq_false_iff_ne.mpr c21
             have c21b1 : (t328 != 0) = true := bne_iff_ne.mpr c21
             obtain rfl := Option.some.inj H
             have hcz66_0 : wr.cell? ⟨gb317, 0, none⟩ = some (.int .i64 x318000_3) := (blk_cell BK317.out 0).trans rfl
             have hcz66_1 : wr.cell? ⟨gb317, 1, none⟩ = some (.int .i64 x318001_3) := (blk_cell BK317.out 1).trans rfl
             have hcz66_2 : wr.cell? ⟨gb317, 2, none⟩ = some (.int .i64 x318002_3) := (blk_cell BK317.out 2).trans rfl
             have hcz66_3 : wr.cell? ⟨gb317, 3, none⟩ = some (.int .i64 x318003_3) := (blk_cell BK317.out 3).trans rfl
             have hcz66_4 : wr.cell? ⟨gb317, 4, none⟩ = some (u318004) := (blk_cell BK317.out 4).trans rfl
             have hfz66_0 := blk_frozen BK317.out 0
             have hfz66_1 := blk_frozen BK317.out 1
             have hfz66_2 := blk_frozen BK317.out 2
             have hfz66_3 := blk_frozen BK317.out 3
             have hfz66_4 := blk_frozen BK317.out 4
             obtain ⟨Ao67, co67, eo67, _⟩ := Kd.Q_slice HO_318004.out
             subst eo67
             go_wp2_with (first | ((with_reducible refine gate_callee (f := 19) rfl ?_); refine goesL_ (some 66) rfl rfl Try.func19 (by kernel_rfl) rfl #[.agg #[.int .i64 x318000_3, .int .i64 x318001_3, .int .i64 x318002_3, .int .i64 x318003_3, .slice Ao67 x318004_3.length co67], .int .i64 (wrap64 (x9_3 + 1)), .int .i64 ji19] rfl (by (try simp only [List.map_toArray, List.map_cons, List.map_nil]); first | done | (simp only [hji19]; rfl) | rfl | (simp only [List.length_drop, List.length_take]; rfl)) ?_; (with_reducible refine (throttle_Progress.calls k3 x318000_3 x318001_3 x318002_3 x318003_3 _ _ x318004_3 (wrap64 (x9_3 + 1)) ji19 t321 t322 t323 t324 t325 t328 _ ?side1 ?side2 A20.out).mono ?_); (case side1 => repeat (first | exact (Kd.Q_reads' HO_318004.out).2.2 | (with_reducible refine Kd.C_alloc ?_ _) | (with_reducible refine Kd.C_drewN ?_ _) | (with_reducible refine Kd.C_drew ?_))); (case side2 => exact (Kd.Q_reads' HO_318004.out).2.1); rintro e w68 ⟨v326, rfl, ho0, hb⟩; refine ⟨_, rfl, ?_⟩; have n0_ := Aside0.mk (Kd.R_below (by (with_reducible repeat (first | apply Kd.R_alloc | apply Kd.R_drewN | apply Kd.R_drew)); exact HO_12.out) hb); have n1_ := Aside0.mk (Kd.Q_elder' (by (with_reducible repeat (first | apply Kd.Q_alloc | apply Kd.Q_drewN | apply Kd.Q_drew)); exact HO_318004.out) (Kd.Q_base ho0) hb); have n2_ := Aside0.mk (Kd.Q_lower (Kd.Q_new' ho0 (Kd.Q_lt (by (with_reducible repeat (first | apply Kd.Q_alloc | apply Kd.Q_drewN | apply Kd.Q_drew)); exact HO_318004.out))) (below_size (by repeat (first | (with_reducible first | exact HB.out | apply below_alloc | apply pw_below_drewN | apply below_drew1 | refine below_set ?_ GE317.out) | exact HB.out)))); have n3_ := Aside0.mk (blk_below (g := gb317) (o := .cells #[.int .i64 x318000_3, .int .i64 x318001_3, .int .i64 x318002_3, .int .i64 x318003_3, .slice Ao67 x318004_3.length co67] 24 (0, 0)) (by (with_reducible repeat (first | refine blk_drewN ?_ _ | refine blk_drew ?_ | refine blk_alloc ?_ _)); exact BK317.out) hb); have n4_ := Aside0.mk (below_step (by repeat (first | (with_reducible first | exact HB.out | apply below_alloc | apply pw_below_drewN | apply below_drew1 | refine below_set ?_ GE317.out) | exact HB.out)) hb); clear HO_12; clear HO_318004; clear BK317; clear HB; have HO_12 := n0_; have HO_318004 := n1_; have HO327 := n2_; have BK317 := n3_; have HB := n4_; clear n0_ n1_ n2_ n3_ n4_; (try clear hb); (try clear hb2); (try clear hk); (try clear hi); (try clear ho0)) | ((with_reducible refine gate_dst (N := 15) rfl ?_); refine box_event ?hg (N := 15) ?hd (cs := #[.int .i64 0, .int .i64 0, .int .i64 0, .int .i64 0, .slice none 0 0]) (t := 24) ?hr ?_; (case hd => rfl); (case hg => rfl); (case hr => first | (go_simp; done) | (go_simp; rfl)); intro gb329 hg w69 hbox hb; have n0_ := Aside0.mk (Kd.R_below (by (with_reducible repeat (first | apply Kd.R_alloc | apply Kd.R_drewN | apply Kd.R_drew)); exact HO_12.out) hb); have n1_ := Aside0.mk (Kd.Q_below (by (with_reducible repeat (first | apply Kd.Q_alloc | apply Kd.Q_drewN | apply Kd.Q_drew)); exact HO_318004.out) hb); have n2_ := Aside0.mk (Kd.Q_below (by (with_reducible repeat (first | apply Kd.Q_alloc | apply Kd.Q_drewN | apply Kd.Q_drew)); exact HO327.out) hb); have n3_ := Aside0.mk (blk_below (g := gb317) (o := .cells #[.int .i64 x318000_3, .int .i64 x318001_3, .int .i64 x318002_3, .int .i64 x318003_3, .slice Ao67 x318004_3.length co67] 24 (0, 0)) (by (with_reducible repeat (first | refine blk_drewN ?_ _ | refine blk_drew ?_ | refine blk_alloc ?_ _)); exact BK317.out) hb); have n4_ := Aside0.mk (below_step (by repeat (first | (with_reducible first | exact HB.out | apply below_alloc | apply pw_below_drewN | apply below_drew1 | refine below_set ?_ GE317.out) | exact HB.out)) hb); have n5_ := Aside0.mk (hbox); have n6_ := Aside0.mk ((by rw [hg]; exact (below_size (by repeat (first | (with_reducible first | exact HB.out | apply below_alloc | apply pw_below_drewN | apply below_drew1 | refine below_set ?_ GE317.out) | exact HB.out))) : w.heap.size ≤ gb329)); have n7_ := Aside0.mk ((by rw [hg]; exact (below_size (by repeat (first | (with_reducible first | exact HB.out | apply below_alloc | apply pw_below_drewN | apply below_drew1 | refine below_set ?_ GE317.out) | exact HB.out))) : w.heap.size ≤ gb329)); have n8_ := Aside0.mk ((by rw [hg]; exact Nat.ne_of_lt (blk_lt (g := gb317) (o := .cells #[.int .i64 x318000_3, .int .i64 x318001_3, .int .i64 x318002_3, .int .i64 x318003_3, .slice Ao67 x318004_3.length co67] 24 (0, 0)) (by (with_reducible repeat (first | refine blk_drewN ?_ _ | refine blk_drew ?_ | refine blk_alloc ?_ _)); exact BK317.out)) : gb317 ≠ gb329)); have n9_ := Aside0.mk ((by rw [hg]; exact Nat.ne_of_gt (blk_lt (g := gb317) (o := .cells #[.int .i64 x318000_3, .int .i64 x318001_3, .int .i64 x318002_3, .int .i64 x318003_3, .slice Ao67 x318004_3.length co67] 24 (0, 0)) (by (with_reducible repeat (first | refine blk_drewN ?_ _ | refine blk_drew ?_ | refine blk_alloc ?_ _)); exact BK317.out)) : gb329 ≠ gb317)); clear HO_12; clear HO_318004; clear HO327; clear BK317; clear HB; have HO_12 := n0_; have HO_318004 := n1_; have HO327 := n2_; have BK317 := n3_; have HB := n4_; have BK329 := n5_; have GW329 := n6_; have GE329 := n7_; have NB317_329 := n8_; have NB329_317 := n9_; clear n0_ n1_ n2_ n3_ n4_ n5_ n6_ n7_ n8_ n9_; clear hb hbox hg; have hnb70 := NB329_317.out; have hnc70 := NB317_329.out; have hcz71_0 : w69.cell? ⟨gb329, 0, none⟩ = some (.int .i64 0) := (blk_cell BK329.out 0).trans rfl; have hcz71_1 : w69.cell? ⟨gb329, 1, none⟩ = some (.int .i64 0) := (blk_cell BK329.out 1).trans rfl; have hcz71_2 : w69.cell? ⟨gb329, 2, none⟩ = some (.int .i64 0) := (blk_cell BK329.out 2).trans rfl; have hcz71_3 : w69.cell? ⟨gb329, 3, none⟩ = some (.int .i64 0) := (blk_cell BK329.out 3).trans rfl; have hcz71_4 : w69.cell? ⟨gb329, 4, none⟩ = some (.slice none 0 0) := (blk_cell BK329.out 4).trans rfl; have hfz71_0 := blk_frozen BK329.out 0; have hfz71_1 := blk_frozen BK329.out 1; have hfz71_2 := blk_frozen BK329.out 2; have hfz71_3 := blk_frozen BK329.out 3; have hfz71_4 := blk_frozen BK329.out 4; obtain ⟨Ao72, co72, eo72, _⟩ := Kd.Q_slice HO327.out; subst eo72))
             go_ret
             exact ⟨by first | rfl | (simp [errW_none, errW_some] <;> rfl) | (simp only [← hji19]; first | rfl | (simp [errW_none, errW_some] <;> rfl)) | (simp [*, errW_none, errW_some] <;> rfl), by repeat (first | (with_reducible first | exact HB.out | apply below_alloc | apply pw_below_drewN | apply below_drew1 | refine below_set ?_ GE317.out | refine below_set ?_ GE329.out) | exact HB.out)⟩
           ·rw [if_neg c18] at H
            have c18b0 : decide (x47_3 < (Int.tmod (wrap64 (rd l2 x40_2)) 4)) = false := decide_eq_false c18
            clear c18
            replace H := Option.bind_eq_some_iff.mp H
            obtain ⟨⟨t333, t334, t335, t336, t337, t340, t341⟩, A730, H⟩ := H
            replace H : (if t341 = 0 then (if t340 = 0 then (if x12_2.length < 8796093022208 then (standbylaw33_ThrottleKeeps.j3 k3 x9_3 (wrap64 (x10_2 + (wrap64 ((Int.tmod (wrap64 (Int.tdiv (wrap64 ((rd l2 x40_2))) 12)) 20) + 1)))) x11_3 (x12_2 ++ [(⟨x9_3, wrap64 (x10_2 + (wrap64 ((Int.tmod (wrap64 (Int.tdiv (wrap64 ((rd l2 x40_2))) 12)) 20) + 1)))⟩ : S49)]) l2 (l2.length : Int) x40_2 t333 t334 t335 t336 t337) else (none)) else (standbylaw33_ThrottleKeeps.j3 k3 x9_3 x10_2 x11_3 x12_2 l2 (l2.length : Int) x40_2 t333 t334 t335 t336 t337)) else (if t341 = 21 then (if (wrap64 ((Int.tmod (wrap64 (Int.tdiv (wrap64 ((rd l2 x40_2))) 12)) 20) + 1)) ≤ (wrap64 (x318001_3 * x318000_3)) then (some false) else (standbylaw33_ThrottleKeeps.l0 k3 x9_3 x10_2 x11_3 x12_2 l2 (l2.length : Int) (wrap64 (x40_2 + 1)) x318000_3 x318001_3 x318002_3 x318003_3 x318004_3)) else (some false))) = some r := H
            have A73 := Aside0.mk A730
            clear A730
            by_cases c74 : t341 = 0
            ·rw [if_pos c74] at H
             have c74b0 : (t341 == 0) = true := beq_iff_eq.mpr c74
             have c74b1 : (t341 != 0) = false := bne_eq_false_iff_eq.mpr c74
             clear c74
             have HC75 := Aside0.mk H
             clear H
             have hcz76_0 : wr.cell? ⟨gb317, 0, none⟩ = some (.int .i64 x318000_3) := (blk_cell BK317.out 0).trans rfl
             have hcz76_1 : wr.cell? ⟨gb317, 1, none⟩ = some (.int .i64 x318001_3) := (blk_cell BK317.out 1).trans rfl
             have hcz76_2 : wr.cell? ⟨gb317, 2, none⟩ = some (.int .i64 x318002_3) := (blk_cell BK317.out 2).trans rfl
             have hcz76_3 : wr.cell? ⟨gb317, 3, none⟩ = some (.int .i64 x318003_3) := (blk_cell BK317.out 3).trans rfl
             have hcz76_4 : wr.cell? ⟨gb317, 4, none⟩ = some (u318004) := (blk_cell BK317.out 4).trans rfl
             have hfz76_0 := blk_frozen BK317.out 0
             have hfz76_1 := blk_frozen BK317.out 1
             have hfz76_2 := blk_frozen BK317.out 2
             have hfz76_3 := blk_frozen BK317.out 3
             have hfz76_4 := blk_frozen BK317.out 4
             obtain ⟨Ao77, co77, eo77, _⟩ := Kd.Q_slice HO_318004.out
             subst eo77
             go_upto_if 117 with (first | ((with_reducible refine gate_callee (f := 16) rfl ?_); refine goesL_ (some 98) rfl rfl Try.func16 (by kernel_rfl) rfl #[.agg #[.int .i64 x318000_3, .int .i64 x318001_3, .int .i64 x318002_3, .int .i64 x318003_3, .slice Ao77 x318004_3.length co77], .int .i64 x9_3, .int .i64 (wrap64 ((Int.tmod (wrap64 (Int.tdiv (wrap64 ((rd l2 x40_2))) 12)) 20) + 1))] rfl (by (try simp only [List.map_toArray, List.map_cons, List.map_nil]); first | done | rfl | (simp only [List.length_drop, List.length_take]; rfl)) ?_; (with_reducible refine (throttle_Write.calls k3 x318000_3 x318001_3 x318002_3 x318003_3 _ _ x318004_3 x9_3 (wrap64 ((Int.tmod (wrap64 (Int.tdiv (wrap64 ((rd l2 x40_2))) 12)) 20) + 1)) t333 t334 t335 t336 t337 t340 t341 _ ?side1 ?side2 A73.out).mono ?_); (case side1 => repeat (first | exact (Kd.Q_reads' HO_318004.out).2.2 | (with_reducible refine Kd.C_alloc ?_ _) | (with_reducible refine Kd.C_drewN ?_ _) | (with_reducible refine Kd.C_drew ?_))); (case side2 => exact (Kd.Q_reads' HO_318004.out).2.1); rintro e w78 ⟨v338, rfl, ho0, hb⟩; refine ⟨_, rfl, ?_⟩; have n0_ := Aside0.mk (Kd.R_below (by (with_reducible repeat (first | apply Kd.R_alloc | apply Kd.R_drewN | apply Kd.R_drew)); exact HO_12.out) hb); have n1_ := Aside0.mk (Kd.Q_elder' (by (with_reducible repeat (first | apply Kd.Q_alloc | apply Kd.Q_drewN | apply Kd.Q_drew)); exact HO_318004.out) (Kd.Q_base ho0) hb); have n2_ := Aside0.mk (Kd.Q_lower (Kd.Q_new' ho0 (Kd.Q_lt (by (with_reducible repeat (first | apply Kd.Q_alloc | apply Kd.Q_drewN | apply Kd.Q_drew)); exact HO_318004.out))) (below_size (by repeat (first | (with_reducible first | exact HB.out | apply below_alloc | apply pw_below_drewN | apply below_drew1 | refine below_set ?_ GE317.out) | exact HB.out)))); have n3_ := Aside0.mk (blk_below (g := gb317) (o := .cells #[.int .i64 x318000_3, .int .i64 x318001_3, .int .i64 x318002_3, .int .i64 x318003_3, .slice Ao77 x318004_3.length co77] 24 (0, 0)) (by (with_reducible repeat (first | refine blk_drewN ?_ _ | refine blk_drew ?_ | refine blk_alloc ?_ _)); exact BK317.out) hb); have n4_ := Aside0.mk (below_step (by repeat (first | (with_reducible first | exact HB.out | apply below_alloc | apply pw_below_drewN | apply below_drew1 | refine below_set ?_ GE317.out) | exact HB.out)) hb); clear HO_12; clear HO_318004; clear BK317; clear HB; have HO_12 := n0_; have HO_318004 := n1_; have HO339 := n2_; have BK317 := n3_; have HB := n4_; clear n0_ n1_ n2_ n3_ n4_; (try clear hb); (try clear hb2); (try clear hk); (try clear hi); (try clear ho0)) | ((with_reducible refine gate_dst (N := 18) rfl ?_); refine box_event ?hg (N := 18) ?hd (cs := #[.int .i64 0, .int .i64 0, .int .i64 0, .int .i64 0, .slice none 0 0]) (t := 24) ?hr ?_; (case hd => rfl); (case hg => rfl); (case hr => first | (go_simp; done) | (go_simp; rfl)); intro gb342 hg w79 hbox hb; have n0_ := Aside0.mk (Kd.R_below (by (with_reducible repeat (first | apply Kd.R_alloc | apply Kd.R_drewN | apply Kd.R_drew)); exact HO_12.out) hb); have n1_ := Aside0.mk (Kd.Q_below (by (with_reducible repeat (first | apply Kd.Q_alloc | apply Kd.Q_drewN | apply Kd.Q_drew)); exact HO_318004.out) hb); have n2_ := Aside0.mk (Kd.Q_below (by (with_reducible repeat (first | apply Kd.Q_alloc | apply Kd.Q_drewN | apply Kd.Q_drew)); exact HO339.out) hb); have n3_ := Aside0.mk (blk_below (g := gb317) (o := .cells #[.int .i64 x318000_3, .int .i64 x318001_3, .int .i64 x318002_3, .int .i64 x318003_3, .slice Ao77 x318004_3.length co77] 24 (0, 0)) (by (with_reducible repeat (first | refine blk_drewN ?_ _ | refine blk_drew ?_ | refine blk_alloc ?_ _)); exact BK317.out) hb); have n4_ := Aside0.mk (below_step (by repeat (first | (with_reducible first | exact HB.out | apply below_alloc | apply pw_below_drewN | apply below_drew1 | refine below_set ?_ GE317.out) | exact HB.out)) hb); have n5_ := Aside0.mk (hbox); have n6_ := Aside0.mk ((by rw [hg]; exact (below_size (by repeat (first | (with_reducible first | exact HB.out | apply below_alloc | apply pw_below_drewN | apply below_drew1 | refine below_set ?_ GE317.out) | exact HB.out))) : w.heap.size ≤ gb342)); have n7_ := Aside0.mk ((by rw [hg]; exact (below_size (by repeat (first | (with_reducible first | exact HB.out | apply below_alloc | apply pw_below_drewN | apply below_drew1 | refine below_set ?_ GE317.out) | exact HB.out))) : w.heap.size ≤ gb342)); have n8_ := Aside0.mk ((by rw [hg]; exact Nat.ne_of_lt (blk_lt (g := gb317) (o := .cells #[.int .i64 x318000_3, .int .i64 x318001_3, .int .i64 x318002_3, .int .i64 x318003_3, .slice Ao77 x318004_3.length co77] 24 (0, 0)) (by (with_reducible repeat (first | refine blk_drewN ?_ _ | refine blk_drew ?_ | refine blk_alloc ?_ _)); exact BK317.out)) : gb317 ≠ gb342)); have n9_ := Aside0.mk ((by rw [hg]; exact Nat.ne_of_gt (blk_lt (g := gb317) (o := .cells #[.int .i64 x318000_3, .int .i64 x318001_3, .int .i64 x318002_3, .int .i64 x318003_3, .slice Ao77 x318004_3.length co77] 24 (0, 0)) (by (with_reducible repeat (first | refine blk_drewN ?_ _ | refine blk_drew ?_ | refine blk_alloc ?_ _)); exact BK317.out)) : gb342 ≠ gb317)); clear HO_12; clear HO_318004; clear HO339; clear BK317; clear HB; have HO_12 := n0_; have HO_318004 := n1_; have HO339 := n2_; have BK317 := n3_; have HB := n4_; have BK342 := n5_; have GW342 := n6_; have GE342 := n7_; have NB317_342 := n8_; have NB342_317 := n9_; clear n0_ n1_ n2_ n3_ n4_ n5_ n6_ n7_ n8_ n9_; clear hb hbox hg; have hnb80 := NB342_317.out; have hnc80 := NB317_342.out; have hcz81_0 : w79.cell? ⟨gb342, 0, none⟩ = some (.int .i64 0) := (blk_cell BK342.out 0).trans rfl; have hcz81_1 : w79.cell? ⟨gb342, 1, none⟩ = some (.int .i64 0) := (blk_cell BK342.out 1).trans rfl; have hcz81_2 : w79.cell? ⟨gb342, 2, none⟩ = some (.int .i64 0) := (blk_cell BK342.out 2).trans rfl; have hcz81_3 : w79.cell? ⟨gb342, 3, none⟩ = some (.int .i64 0) := (blk_cell BK342.out 3).trans rfl; have hcz81_4 : w79.cell? ⟨gb342, 4, none⟩ = some (.slice none 0 0) := (blk_cell BK342.out 4).trans rfl; have hfz81_0 := blk_frozen BK342.out 0; have hfz81_1 := blk_frozen BK342.out 1; have hfz81_2 := blk_frozen BK342.out 2; have hfz81_3 := blk_frozen BK342.out 3; have hfz81_4 := blk_frozen BK342.out 4; obtain ⟨Ao82, co82, eo82, _⟩ := Kd.Q_slice HO339.out; subst eo82; have hcz83_0 : w79.cell? ⟨gb317, 0, none⟩ = some (.int .i64 x318000_3) := (blk_cell BK317.out 0).trans rfl; have hcz83_1 : w79.cell? ⟨gb317, 1, none⟩ = some (.int .i64 x318001_3) := (blk_cell BK317.out 1).trans rfl; have hcz83_2 : w79.cell? ⟨gb317, 2, none⟩ = some (.int .i64 x318002_3) := (blk_cell BK317.out 2).trans rfl; have hcz83_3 : w79.cell? ⟨gb317, 3, none⟩ = some (.int .i64 x318003_3) := (blk_cell BK317.out 3).trans rfl; have hcz83_4 : w79.cell? ⟨gb317, 4, none⟩ = some (.slice Ao77 x318004_3.length co77) := (blk_cell BK317.out 4).trans rfl; have hfz83_0 := blk_frozen BK317.out 0; have hfz83_1 := blk_frozen BK317.out 1; have hfz83_2 := blk_frozen BK317.out 2; have hfz83_3 := blk_frozen BK317.out 3; have hfz83_4 := blk_frozen BK317.out 4))
             (try simp only [Act.put, List.setIfInBounds_toArray, List.set_cons_zero, List.set_cons_succ])
             go_cut [10, 12] (fun v10 v12 wc => ∃ (kq : Nat) (x10_74 : Int) (x12_74 : List (S49)), v10 = .int .i64 x10_74 ∧ Aside0 (standbylaw33_ThrottleKeeps.j3 kq x9_3 x10_74 x11_3 x12_74 l2 (l2.length : Int) x40_2 t333 t334 t335 t336 t337 = some r) ∧ Aside0 (kq ≤ k3) ∧ Aside0 (Kd.R k49 49 wc w.heap.size (fun _ => True) v12 x12_74) ∧ Aside0 (Kd.Q k71 71 wc w.heap.size (fun _ => True) (.slice Ao82 t337.length co82) t337) ∧ Aside0 (Kd.Q k71 71 wc w.heap.size (fun _ => True) (.slice Ao82 t337.length co82) t337) ∧ Aside0 (wc.heap[gb317]? = some (.cells #[.int .i64 t333, .int .i64 t334, .int .i64 t335, .int .i64 t336, (.slice Ao82 t337.length co82)] 24 (0, 0))) ∧ Aside0 (wc.heap[gb342]? = some (.cells #[.int .i64 t333, .int .i64 t334, .int .i64 t335, .int .i64 t336, (.slice Ao82 t337.length co82)] 24 (0, 0))) ∧ Aside0 (Below w.heap.size w wc))
             case first =>
              have H := HC75.out
              clear HC75
              by_cases c84 : t340 = 0
              ·rw [if_pos c84] at H
               have c84b0 : (t340 == 0) = true := beq_iff_eq.mpr c84
               have c84b1 : (t340 != 0) = false := bne_eq_false_iff_eq.mpr c84
               clear c84
               (first | rw [c84b0] | (simp only [i64_w, i32_w]; rw [c84b0]) | skip)
               by_cases c85 : x12_2.length < 8796093022208
               ·rw [if_pos c85] at H
                have LMc85 := Aside0.mk c85
                clear c85
                obtain ⟨y343, hy343⟩ : ∃ y_ : List (S49), y_ = (x12_2 ++ [(⟨x9_3, wrap64 (x10_2 + (wrap64 ((Int.tmod (wrap64 (Int.tdiv (wrap64 ((rd l2 x40_2))) 12)) 20) + 1)))⟩ : S49)]) := ⟨_, rfl⟩
                replace H : (standbylaw33_ThrottleKeeps.j3 k3 x9_3 (wrap64 (x10_2 + (wrap64 ((Int.tmod (wrap64 (Int.tdiv (wrap64 ((rd l2 x40_2))) 12)) 20) + 1)))) x11_3 y343 l2 (l2.length : Int) x40_2 t333 t334 t335 t336 t337) = some r := by first | (rw [hy343]; with_reducible exact H) | (have H2_ := (Option.bind_some _ _).symm.trans H; rw [hy343]; with_reducible exact H2_) | (have H2_ := (Option.bind_some _ _).symm.trans H; with_reducible exact H2_) | with_reducible exact H | (rw [hy343]; exact H) | exact H
                have Ny343 := Aside0.mk hy343
                clear hy343
                have H' := Aside0.mk H
                clear H
                go_wp2_with (first | ((with_reducible refine gate_builtin (b := .append) (xs := #[.tmp 121, .tmp 125]) rfl ?_); at_builtin; refine Kd.R_append k49 (w0 := w) w.heap.size rfl (.tmp 121) (.tmp 125) 43 49 (.agg #[(.int .i64 0), (.int .i64 0)]) 16 rfl Try.underlying43 info49 rfl (by decide) (by omega) u12 x12_2 (⟨x9_3, wrap64 (x10_2 + (wrap64 ((Int.tmod (wrap64 (Int.tdiv (wrap64 ((rd l2 x40_2))) 12)) 20) + 1)))⟩ : S49) [.int .i64 x9_3, .int .i64 (wrap64 (x10_2 + (wrap64 ((Int.tmod (wrap64 (Int.tdiv (wrap64 ((rd l2 x40_2))) 12)) 20) + 1))))] (fun _ => True) (fun _ => False) rfl (by first | (go_simp; done) | (go_simp; rfl)) ?aP (fun _ hk => hk.elim) ?aF ?aO ?aB ?aS ?aL ?_; (case aP => exact k49_mkM _ _ _ (⟨x9_3, wrap64 (x10_2 + (wrap64 ((Int.tmod (wrap64 (Int.tdiv (wrap64 ((rd l2 x40_2))) 12)) 20) + 1)))⟩ : S49)); (case aB => exact (by repeat (first | (with_reducible first | exact HB.out | apply below_alloc | apply pw_below_drewN | apply below_drew1 | refine below_set ?_ GE317.out | refine below_set ?_ GE342.out) | exact HB.out))); (case aF => exact (fun _ _ => trivial)); (case aO => exact (by (with_reducible repeat (first | apply Kd.R_alloc | apply Kd.R_drewN | apply Kd.R_drew)); exact Kd.R_mono (Kd.R_far (p := ⟨gb317, 4, none⟩) (Kd.R_far (p := ⟨gb317, 3, none⟩) (Kd.R_far (p := ⟨gb317, 2, none⟩) (Kd.R_far (p := ⟨gb317, 1, none⟩) (Kd.R_far (p := ⟨gb317, 0, none⟩) (Kd.R_far (p := ⟨gb342, 4, none⟩) (Kd.R_far (p := ⟨gb342, 3, none⟩) (Kd.R_far (p := ⟨gb342, 2, none⟩) (Kd.R_far (p := ⟨gb342, 1, none⟩) (Kd.R_far (p := ⟨gb342, 0, none⟩) (Kd.R_types (Kd.R_types HO_12.out BK342.out (by decide)) BK317.out (by decide)) (fun _ hk => hk.1.2) (.int .i64 t333)) (fun _ hk => hk.1.2) (.int .i64 t334)) (fun _ hk => hk.1.2) (.int .i64 t335)) (fun _ hk => hk.1.2) (.int .i64 t336)) (fun _ hk => hk.1.2) (.slice Ao82 t337.length co82)) (fun _ hk => hk.2) (.int .i64 t333)) (fun _ hk => hk.2) (.int .i64 t334)) (fun _ hk => hk.2) (.int .i64 t335)) (fun _ hk => hk.2) (.int .i64 t336)) (fun _ hk => hk.2) (.slice Ao82 t337.length co82)) (fun _ hk => trivial))); (case aS => exact (below_size (by repeat (first | (with_reducible first | exact HB.out | apply below_alloc | apply pw_below_drewN | apply below_drew1 | refine below_set ?_ GE317.out | refine below_set ?_ GE342.out) | exact HB.out)))); (case aL => have := LMc85.out; omega); intro v344 w86 ho hb hg hat; rw [← Ny343.out] at ho; have n0_ := Aside0.mk (Kd.Q_over' (by (with_reducible repeat (first | apply Kd.Q_alloc | apply Kd.Q_drewN | apply Kd.Q_drew)); exact (Kd.Q_mono (Kd.Q_mono (Kd.Q_far (p := ⟨gb317, 4, none⟩) (Kd.Q_far (p := ⟨gb317, 3, none⟩) (Kd.Q_far (p := ⟨gb317, 2, none⟩) (Kd.Q_far (p := ⟨gb317, 1, none⟩) (Kd.Q_far (p := ⟨gb317, 0, none⟩) (Kd.Q_far (p := ⟨gb342, 4, none⟩) (Kd.Q_far (p := ⟨gb342, 3, none⟩) (Kd.Q_far (p := ⟨gb342, 2, none⟩) (Kd.Q_far (p := ⟨gb342, 1, none⟩) (Kd.Q_far (p := ⟨gb342, 0, none⟩) (Kd.Q_types (Kd.Q_types HO_318004.out BK342.out (by decide)) BK317.out (by decide)) (fun _ hk => hk.1.2) (.int .i64 t333)) (fun _ hk => hk.1.2) (.int .i64 t334)) (fun _ hk => hk.1.2) (.int .i64 t335)) (fun _ hk => hk.1.2) (.int .i64 t336)) (fun _ hk => hk.1.2) (.slice Ao82 t337.length co82)) (fun _ hk => hk.2) (.int .i64 t333)) (fun _ hk => hk.2) (.int .i64 t334)) (fun _ hk => hk.2) (.int .i64 t335)) (fun _ hk => hk.2) (.int .i64 t336)) (fun _ hk => hk.2) (.slice Ao82 t337.length co82)) (fun _ h_ => h_.1)) (fun _ h_ => h_.1))) (Kd.R_typed (by (with_reducible repeat (first | apply Kd.R_alloc | apply Kd.R_drewN | apply Kd.R_drew)); exact (Kd.R_mono (Kd.R_mono (Kd.R_far (p := ⟨gb317, 4, none⟩) (Kd.R_far (p := ⟨gb317, 3, none⟩) (Kd.R_far (p := ⟨gb317, 2, none⟩) (Kd.R_far (p := ⟨gb317, 1, none⟩) (Kd.R_far (p := ⟨gb317, 0, none⟩) (Kd.R_far (p := ⟨gb342, 4, none⟩) (Kd.R_far (p := ⟨gb342, 3, none⟩) (Kd.R_far (p := ⟨gb342, 2, none⟩) (Kd.R_far (p := ⟨gb342, 1, none⟩) (Kd.R_far (p := ⟨gb342, 0, none⟩) (Kd.R_types (Kd.R_types HO_12.out BK342.out (by decide)) BK317.out (by decide)) (fun _ hk => hk.1.2) (.int .i64 t333)) (fun _ hk => hk.1.2) (.int .i64 t334)) (fun _ hk => hk.1.2) (.int .i64 t335)) (fun _ hk => hk.1.2) (.int .i64 t336)) (fun _ hk => hk.1.2) (.slice Ao82 t337.length co82)) (fun _ hk => hk.2) (.int .i64 t333)) (fun _ hk => hk.2) (.int .i64 t334)) (fun _ hk => hk.2) (.int .i64 t335)) (fun _ hk => hk.2) (.int .i64 t336)) (fun _ hk => hk.2) (.slice Ao82 t337.length co82)) (fun _ h_ => h_.1)) (fun _ h_ => h_.1)))) (by decide) hg); have n1_ := Aside0.mk (blk_grown (g := gb317) (o := .cells #[.int .i64 t333, .int .i64 t334, .int .i64 t335, .int .i64 t336, .slice Ao82 t337.length co82] 24 (0, 0)) (by (with_reducible repeat (first | refine blk_drewN ?_ _ | refine blk_drew ?_ | refine blk_alloc ?_ _)); refine blk_put (cs := #[.int .i64 t333, .int .i64 t334, .int .i64 t335, .int .i64 t336, .slice Ao77 x318004_3.length co77]) ?_ 4 _ rfl; (with_reducible repeat (first | refine blk_drewN ?_ _ | refine blk_drew ?_ | refine blk_alloc ?_ _)); refine blk_put (cs := #[.int .i64 t333, .int .i64 t334, .int .i64 t335, .int .i64 x318003_3, .slice Ao77 x318004_3.length co77]) ?_ 3 _ rfl; (with_reducible repeat (first | refine blk_drewN ?_ _ | refine blk_drew ?_ | refine blk_alloc ?_ _)); refine blk_put (cs := #[.int .i64 t333, .int .i64 t334, .int .i64 x318002_3, .int .i64 x318003_3, .slice Ao77 x318004_3.length co77]) ?_ 2 _ rfl; (with_reducible repeat (first | refine blk_drewN ?_ _ | refine blk_drew ?_ | refine blk_alloc ?_ _)); refine blk_put (cs := #[.int .i64 t333, .int .i64 x318001_3, .int .i64 x318002_3, .int .i64 x318003_3, .slice Ao77 x318004_3.length co77]) ?_ 1 _ rfl; (with_reducible repeat (first | refine blk_drewN ?_ _ | refine blk_drew ?_ | refine blk_alloc ?_ _)); refine blk_put (cs := #[.int .i64 x318000_3, .int .i64 x318001_3, .int .i64 x318002_3, .int .i64 x318003_3, .slice Ao77 x318004_3.length co77]) ?_ 0 _ rfl; (with_reducible repeat (first | refine blk_drewN ?_ _ | refine blk_drew ?_ | refine blk_alloc ?_ _)); refine blk_far ?_ NB317_342.out _; (with_reducible repeat (first | refine blk_drewN ?_ _ | refine blk_drew ?_ | refine blk_alloc ?_ _)); refine blk_far ?_ NB317_342.out _; (with_reducible repeat (first | refine blk_drewN ?_ _ | refine blk_drew ?_ | refine blk_alloc ?_ _)); refine blk_far ?_ NB317_342.out _; (with_reducible repeat (first | refine blk_drewN ?_ _ | refine blk_drew ?_ | refine blk_alloc ?_ _)); refine blk_far ?_ NB317_342.out _; (with_reducible repeat (first | refine blk_drewN ?_ _ | refine blk_drew ?_ | refine blk_alloc ?_ _)); refine blk_far ?_ NB317_342.out _; (with_reducible repeat (first | refine blk_drewN ?_ _ | refine blk_drew ?_ | refine blk_alloc ?_ _)); exact BK317.out) hg (Kd.R_ne HO_12.out BK317.out (by decide))); have n2_ := Aside0.mk (Kd.Q_over' (by (with_reducible repeat (first | apply Kd.Q_alloc | apply Kd.Q_drewN | apply Kd.Q_drew)); exact (Kd.Q_mono (Kd.Q_mono (Kd.Q_far (p := ⟨gb317, 4, none⟩) (Kd.Q_far (p := ⟨gb317, 3, none⟩) (Kd.Q_far (p := ⟨gb317, 2, none⟩) (Kd.Q_far (p := ⟨gb317, 1, none⟩) (Kd.Q_far (p := ⟨gb317, 0, none⟩) (Kd.Q_far (p := ⟨gb342, 4, none⟩) (Kd.Q_far (p := ⟨gb342, 3, none⟩) (Kd.Q_far (p := ⟨gb342, 2, none⟩) (Kd.Q_far (p := ⟨gb342, 1, none⟩) (Kd.Q_far (p := ⟨gb342, 0, none⟩) (Kd.Q_types (Kd.Q_types HO339.out BK342.out (by decide)) BK317.out (by decide)) (fun _ hk => hk.1.2) (.int .i64 t333)) (fun _ hk => hk.1.2) (.int .i64 t334)) (fun _ hk => hk.1.2) (.int .i64 t335)) (fun _ hk => hk.1.2) (.int .i64 t336)) (fun _ hk => hk.1.2) (.slice Ao82 t337.length co82)) (fun _ hk => hk.2) (.int .i64 t333)) (fun _ hk => hk.2) (.int .i64 t334)) (fun _ hk => hk.2) (.int .i64 t335)) (fun _ hk => hk.2) (.int .i64 t336)) (fun _ hk => hk.2) (.slice Ao82 t337.length co82)) (fun _ h_ => h_.1)) (fun _ h_ => h_.1))) (Kd.R_typed (by (with_reducible repeat (first | apply Kd.R_alloc | apply Kd.R_drewN | apply Kd.R_drew)); exact (Kd.R_mono (Kd.R_mono (Kd.R_far (p := ⟨gb317, 4, none⟩) (Kd.R_far (p := ⟨gb317, 3, none⟩) (Kd.R_far (p := ⟨gb317, 2, none⟩) (Kd.R_far (p := ⟨gb317, 1, none⟩) (Kd.R_far (p := ⟨gb317, 0, none⟩) (Kd.R_far (p := ⟨gb342, 4, none⟩) (Kd.R_far (p := ⟨gb342, 3, none⟩) (Kd.R_far (p := ⟨gb342, 2, none⟩) (Kd.R_far (p := ⟨gb342, 1, none⟩) (Kd.R_far (p := ⟨gb342, 0, none⟩) (Kd.R_types (Kd.R_types HO_12.out BK342.out (by decide)) BK317.out (by decide)) (fun _ hk => hk.1.2) (.int .i64 t333)) (fun _ hk => hk.1.2) (.int .i64 t334)) (fun _ hk => hk.1.2) (.int .i64 t335)) (fun _ hk => hk.1.2) (.int .i64 t336)) (fun _ hk => hk.1.2) (.slice Ao82 t337.length co82)) (fun _ hk => hk.2) (.int .i64 t333)) (fun _ hk => hk.2) (.int .i64 t334)) (fun _ hk => hk.2) (.int .i64 t335)) (fun _ hk => hk.2) (.int .i64 t336)) (fun _ hk => hk.2) (.slice Ao82 t337.length co82)) (fun _ h_ => h_.1)) (fun _ h_ => h_.1)))) (by decide) hg); have n3_ := Aside0.mk (blk_grown (g := gb342) (o := .cells #[.int .i64 t333, .int .i64 t334, .int .i64 t335, .int .i64 t336, .slice Ao82 t337.length co82] 24 (0, 0)) (by (with_reducible repeat (first | refine blk_drewN ?_ _ | refine blk_drew ?_ | refine blk_alloc ?_ _)); refine blk_far ?_ NB342_317.out _; (with_reducible repeat (first | refine blk_drewN ?_ _ | refine blk_drew ?_ | refine blk_alloc ?_ _)); refine blk_far ?_ NB342_317.out _; (with_reducible repeat (first | refine blk_drewN ?_ _ | refine blk_drew ?_ | refine blk_alloc ?_ _)); refine blk_far ?_ NB342_317.out _; (with_reducible repeat (first | refine blk_drewN ?_ _ | refine blk_drew ?_ | refine blk_alloc ?_ _)); refine blk_far ?_ NB342_317.out _; (with_reducible repeat (first | refine blk_drewN ?_ _ | refine blk_drew ?_ | refine blk_alloc ?_ _)); refine blk_far ?_ NB342_317.out _; (with_reducible repeat (first | refine blk_drewN ?_ _ | refine blk_drew ?_ | refine blk_alloc ?_ _)); refine blk_put (cs := #[.int .i64 t333, .int .i64 t334, .int .i64 t335, .int .i64 t336, .slice none 0 0]) ?_ 4 _ rfl; (with_reducible repeat (first | refine blk_drewN ?_ _ | refine blk_drew ?_ | refine blk_alloc ?_ _)); refine blk_put (cs := #[.int .i64 t333, .int .i64 t334, .int .i64 t335, .int .i64 0, .slice none 0 0]) ?_ 3 _ rfl; (with_reducible repeat (first | refine blk_drewN ?_ _ | refine blk_drew ?_ | refine blk_alloc ?_ _)); refine blk_put (cs := #[.int .i64 t333, .int .i64 t334, .int .i64 0, .int .i64 0, .slice none 0 0]) ?_ 2 _ rfl; (with_reducible repeat (first | refine blk_drewN ?_ _ | refine blk_drew ?_ | refine blk_alloc ?_ _)); refine blk_put (cs := #[.int .i64 t333, .int .i64 0, .int .i64 0, .int .i64 0, .slice none 0 0]) ?_ 1 _ rfl; (with_reducible repeat (first | refine blk_drewN ?_ _ | refine blk_drew ?_ | refine blk_alloc ?_ _)); refine blk_put (cs := #[.int .i64 0, .int .i64 0, .int .i64 0, .int .i64 0, .slice none 0 0]) ?_ 0 _ rfl; (with_reducible repeat (first | refine blk_drewN ?_ _ | refine blk_drew ?_ | refine blk_alloc ?_ _)); exact BK342.out) hg (Kd.R_ne HO_12.out BK342.out (by decide))); have n4_ := Aside0.mk (hb); have n5_ := Aside0.mk (ho); clear HO_318004; clear BK317; clear HO339; clear BK342; clear HB; clear HO_12; have HO_318004 := n0_; have BK317 := n1_; have HO339 := n2_; have BK342 := n3_; have HB := n4_; have HO345 := n5_; clear n0_ n1_ n2_ n3_ n4_ n5_; clear ho hb hg hat))
                go_meet
                case rel => exact ⟨_, (wrap64 (x10_2 + (wrap64 ((Int.tmod (wrap64 (Int.tdiv (wrap64 ((rd l2 x40_2))) 12)) 20) + 1)))), (y343), (by first | rfl | (simp; done) | (simp [*]; done)), H', ⟨by have := HJ4.out; have := HK2.out; have := HK3.out; first | omega | exact Nat.le_refl _⟩, ⟨by (with_reducible repeat (first | apply Kd.R_alloc | apply Kd.R_drewN | apply Kd.R_drew)); exact HO345.out⟩, ⟨by (with_reducible repeat (first | apply Kd.Q_alloc | apply Kd.Q_drewN | apply Kd.Q_drew)); exact Kd.Q_mono HO339.out (fun _ hk => trivial)⟩, ⟨by (with_reducible repeat (first | apply Kd.Q_alloc | apply Kd.Q_drewN | apply Kd.Q_drew)); exact Kd.Q_mono HO339.out (fun _ hk => trivial)⟩, ⟨by (with_reducible repeat (first | refine blk_drewN ?_ _ | refine blk_drew ?_ | refine blk_alloc ?_ _)); exact BK317.out⟩, ⟨by (with_reducible repeat (first | refine blk_drewN ?_ _ | refine blk_drew ?_ | refine blk_alloc ?_ _)); exact BK342.out⟩, ⟨by repeat (first | (with_reducible first | exact HB.out | apply below_alloc | apply pw_below_drewN | apply below_drew1 | refine below_set ?_ GE317.out | refine below_set ?_ GE342.out) | exact HB.out)⟩⟩
               ·rw [if_neg c85] at H
                exact absurd H (by simp)
              ·rw [if_neg c84] at H
               have c84b0 : (t340 == 0) = false := beq_eq_false_iff_ne.mpr c84
               have c84b1 : (t340 != 0) = true := bne_iff_ne.mpr c84
               (first | rw [c84b0] | (simp only [i64_w, i32_w]; rw [c84b0]) | skip)
               have H' := Aside0.mk H
               clear H
               go_wp2
               go_meet
               case rel => exact ⟨_, (x10_2), (x12_2), (by first | rfl | (simp; done) | (simp [*]; done)), H', ⟨by have := HJ4.out; have := HK2.out; have := HK3.out; first | omega | exact Nat.le_refl _⟩, ⟨by (with_reducible repeat (first | apply Kd.R_alloc | apply Kd.R_drewN | apply Kd.R_drew)); exact Kd.R_mono (Kd.R_far (p := ⟨gb317, 4, none⟩) (Kd.R_far (p := ⟨gb317, 3, none⟩) (Kd.R_far (p := ⟨gb317, 2, none⟩) (Kd.R_far (p := ⟨gb317, 1, none⟩) (Kd.R_far (p := ⟨gb317, 0, none⟩) (Kd.R_far (p := ⟨gb342, 4, none⟩) (Kd.R_far (p := ⟨gb342, 3, none⟩) (Kd.R_far (p := ⟨gb342, 2, none⟩) (Kd.R_far (p := ⟨gb342, 1, none⟩) (Kd.R_far (p := ⟨gb342, 0, none⟩) (Kd.R_types (Kd.R_types HO_12.out BK342.out (by decide)) BK317.out (by decide)) (fun _ hk => hk.1.2) (.int .i64 t333)) (fun _ hk => hk.1.2) (.int .i64 t334)) (fun _ hk => hk.1.2) (.int .i64 t335)) (fun _ hk => hk.1.2) (.int .i64 t336)) (fun _ hk => hk.1.2) (.slice Ao82 t337.length co82)) (fun _ hk => hk.2) (.int .i64 t333)) (fun _ hk => hk.2) (.int .i64 t334)) (fun _ hk => hk.2) (.int .i64 t335)) (fun _ hk => hk.2) (.int .i64 t336)) (fun _ hk => hk.2) (.slice Ao82 t337.length co82)) (fun _ hk => trivial)⟩, ⟨by (with_reducible repeat (first | apply Kd.Q_alloc | apply Kd.Q_drewN | apply Kd.Q_drew)); exact Kd.Q_mono (Kd.Q_far (p := ⟨gb317, 4, none⟩) (Kd.Q_far (p := ⟨gb317, 3, none⟩) (Kd.Q_far (p := ⟨gb317, 2, none⟩) (Kd.Q_far (p := ⟨gb317, 1, none⟩) (Kd.Q_far (p := ⟨gb317, 0, none⟩) (Kd.Q_far (p := ⟨gb342, 4, none⟩) (Kd.Q_far (p := ⟨gb342, 3, none⟩) (Kd.Q_far (p := ⟨gb342, 2, none⟩) (Kd.Q_far (p := ⟨gb342, 1, none⟩) (Kd.Q_far (p := ⟨gb342, 0, none⟩) (Kd.Q_types (Kd.Q_types HO339.out BK342.out (by decide)) BK317.out (by decide)) (fun _ hk => hk.1.2) (.int .i64 t333)) (fun _ hk => hk.1.2) (.int .i64 t334)) (fun _ hk => hk.1.2) (.int .i64 t335)) (fun _ hk => hk.1.2) (.int .i64 t336)) (fun _ hk => hk.1.2) (.slice Ao82 t337.length co82)) (fun _ hk => hk.2) (.int .i64 t333)) (fun _ hk => hk.2) (.int .i64 t334)) (fun _ hk => hk.2) (.int .i64 t335)) (fun _ hk => hk.2) (.int .i64 t336)) (fun _ hk => hk.2) (.slice Ao82 t337.length co82)) (fun _ hk => trivial)⟩, ⟨by (with_reducible repeat (first | apply Kd.Q_alloc | apply Kd.Q_drewN | apply Kd.Q_drew)); exact Kd.Q_mono (Kd.Q_far (p := ⟨gb317, 4, none⟩) (Kd.Q_far (p := ⟨gb317, 3, none⟩) (Kd.Q_far (p := ⟨gb317, 2, none⟩) (Kd.Q_far (p := ⟨gb317, 1, none⟩) (Kd.Q_far (p := ⟨gb317, 0, none⟩) (Kd.Q_far (p := ⟨gb342, 4, none⟩) (Kd.Q_far (p := ⟨gb342, 3, none⟩) (Kd.Q_far (p := ⟨gb342, 2, none⟩) (Kd.Q_far (p := ⟨gb342, 1, none⟩) (Kd.Q_far (p := ⟨gb342, 0, none⟩) (Kd.Q_types (Kd.Q_types HO339.out BK342.out (by decide)) BK317.out (by decide)) (fun _ hk => hk.1.2) (.int .i64 t333)) (fun _ hk => hk.1.2) (.int .i64 t334)) (fun _ hk => hk.1.2) (.int .i64 t335)) (fun _ hk => hk.1.2) (.int .i64 t336)) (fun _ hk => hk.1.2) (.slice Ao82 t337.length co82)) (fun _ hk => hk.2) (.int .i64 t333)) (fun _ hk => hk.2) (.int .i64 t334)) (fun _ hk => hk.2) (.int .i64 t335)) (fun _ hk => hk.2) (.int .i64 t336)) (fun _ hk => hk.2) (.slice Ao82 t337.length co82)) (fun _ hk => trivial)⟩, ⟨by (with_reducible repeat (first | refine blk_drewN ?_ _ | refine blk_drew ?_ | refine blk_alloc ?_ _)); refine blk_put (cs := #[.int .i64 t333, .int .i64 t334, .int .i64 t335, .int .i64 t336, .slice Ao77 x318004_3.length co77]) ?_ 4 _ rfl; (with_reducible repeat (first | refine blk_drewN ?_ _ | refine blk_drew ?_ | refine blk_alloc ?_ _)); refine blk_put (cs := #[.int .i64 t333, .int .i64 t334, .int .i64 t335, .int .i64 x318003_3, .slice Ao77 x318004_3.length co77]) ?_ 3 _ rfl; (with_reducible repeat (first | refine blk_drewN ?_ _ | refine blk_drew ?_ | refine blk_alloc ?_ _)); refine blk_put (cs := #[.int .i64 t333, .int .i64 t334, .int .i64 x318002_3, .int .i64 x318003_3, .slice Ao77 x318004_3.length co77]) ?_ 2 _ rfl; (with_reducible repeat (first | refine blk_drewN ?_ _ | refine blk_drew ?_ | refine blk_alloc ?_ _)); refine blk_put (cs := #[.int .i64 t333, .int .i64 x318001_3, .int .i64 x318002_3, .int .i64 x318003_3, .slice Ao77 x318004_3.length co77]) ?_ 1 _ rfl; (with_reducible repeat (first | refine blk_drewN ?_ _ | refine blk_drew ?_ | refine blk_alloc ?_ _)); refine blk_put (cs := #[.int .i64 x318000_3, .int .i64 x318001_3, .int .i64 x318002_3, .int .i64 x318003_3, .slice Ao77 x318004_3.length co77]) ?_ 0 _ rfl; (with_reducible repeat (first | refine blk_drewN ?_ _ | refine blk_drew ?_ | refine blk_alloc ?_ _)); refine blk_far ?_ NB317_342.out _; (with_reducible repeat (first | refine blk_drewN ?_ _ | refine blk_drew ?_ | refine blk_alloc ?_ _)); refine blk_far ?_ NB317_342.out _; (with_reducible repeat (first | refine blk_drewN ?_ _ | refine blk_drew ?_ | refine blk_alloc ?_ _)); refine blk_far ?_ NB317_342.out _; (with_reducible repeat (first | refine blk_drewN ?_ _ | refine blk_drew ?_ | refine blk_alloc ?_ _)); refine blk_far ?_ NB317_342.out _; (with_reducible repeat (first | refine blk_drewN ?_ _ | refine blk_drew ?_ | refine blk_alloc ?_ _)); refine blk_far ?_ NB317_342.out _; (with_reducible repeat (first | refine blk_drewN ?_ _ | refine blk_drew ?_ | refine blk_alloc ?_ _)); exact BK317.out⟩, ⟨by (with_reducible repeat (first | refine blk_drewN ?_ _ | refine blk_drew ?_ | refine blk_alloc ?_ _)); refine blk_far ?_ NB342_317.out _; (with_reducible repeat (first | refine blk_drewN ?_ _ | refine blk_drew ?_ | refine blk_alloc ?_ _)); refine blk_far ?_ NB342_317.out _; (with_reducible repeat (first | refine blk_drewN ?_ _ | refine blk_drew ?_ | refine blk_alloc ?_ _)); refine blk_far ?_ NB342_317.out _; (with_reducible repeat (first | refine blk_drewN ?_ _ | refine blk_drew ?_ | refine blk_alloc ?_ _)); refine blk_far ?_ NB342_317.out _; (with_reducible repeat (first | refine blk_drewN ?_ _ | refine blk_drew ?_ | refine blk_alloc ?_ _)); refine blk_far ?_ NB342_317.out _; (with_reducible repeat (first | refine blk_drewN ?_ _ | refine blk_drew ?_ | refine blk_alloc ?_ _)); refine blk_put (cs := #[.int .i64 t333, .int .i64 t334, .int .i64 t335, .int .i64 t336, .slice none 0 0]) ?_ 4 _ rfl; (with_reducible repeat (first | refine blk_drewN ?_ _ | refine blk_drew ?_ | refine blk_alloc ?_ _)); refine blk_put (cs := #[.int .i64 t333, .int .i64 t334, .int .i64 t335, .int .i64 0, .slice none 0 0]) ?_ 3 _ rfl; (with_reducible repeat (first | refine blk_drewN ?_ _ | refine blk_drew ?_ | refine blk_alloc ?_ _)); refine blk_put (cs := #[.int .i64 t333, .int .i64 t334, .int .i64 0, .int .i64 0, .slice none 0 0]) ?_ 2 _ rfl; (with_reducible repeat (first | refine blk_drewN ?_ _ | refine blk_drew ?_ | refine blk_alloc ?_ _)); refine blk_put (cs := #[.int .i64 t333, .int .i64 0, .int .i64 0, .int .i64 0, .slice none 0 0]) ?_ 1 _ rfl; (with_reducible repeat (first | refine blk_drewN ?_ _ | refine blk_drew ?_ | refine blk_alloc ?_ _)); refine blk_put (cs := #[.int .i64 0, .int .i64 0, .int .i64 0, .int .i64 0, .slice none 0 0]) ?_ 0 _ rfl; (with_reducible repeat (first | refine blk_drewN ?_ _ | refine blk_drew ?_ | refine blk_alloc ?_ _)); exact BK342.out⟩, ⟨by repeat (first | (with_reducible first | exact HB.out | apply below_alloc | apply pw_below_drewN | apply below_drew1 | refine below_set ?_ GE317.out | refine below_set ?_ GE342.out) | exact HB.out)⟩⟩
             case rest =>
              clear HC75
              try clear c1
              try clear c2
              try clear p2
              try clear c3
              try clear c5
              try clear p6
              try clear c7
              try clear c8
              try clear c16
              try clear c18
              try clear c18b0
              try clear c19
              try clear c20
              try clear c21
              try clear c21b0
              try clear c21b1
              try clear c37
              try clear c37b0
              try clear c37b1
              try clear c56
              try clear p64
              try clear c70
              try clear c74
              try clear c74b0
              try clear c74b1
              try clear c80
              try clear c84
              try clear c84b0
              try clear c84b1
              try clear c85
              try clear hcz52_0
              try clear hcz52_1
              try clear hcz52_2
              try clear hcz52_3
              try clear hcz52_4
              try clear hcz57_0
              try clear hcz57_1
              try clear hcz57_2
              try clear hcz57_3
              try clear hcz57_4
              try clear hcz59_0
              try clear hcz59_1
              try clear hcz59_2
              try clear hcz59_3
              try clear hcz59_4
              try clear hcz66_0
              try clear hcz66_1
              try clear hcz66_2
              try clear hcz66_3
              try clear hcz66_4
              try clear hcz71_0
              try clear hcz71_1
              try clear hcz71_2
              try clear hcz71_3
              try clear hcz71_4
              try clear hcz76_0
              try clear hcz76_1
              try clear hcz76_2
              try clear hcz76_3
              try clear hcz76_4
              try clear hcz81_0
              try clear hcz81_1
              try clear hcz81_2
              try clear hcz81_3
              try clear hcz81_4
              try clear hcz83_0
              try clear hcz83_1
              try clear hcz83_2
              try clear hcz83_3
              try clear hcz83_4
              try clear hfz52_0
              try clear hfz52_1
              try clear hfz52_2
              try clear hfz52_3
              try clear hfz52_4
              try clear hfz57_0
              try clear hfz57_1
              try clear hfz57_2
              try clear hfz57_3
              try clear hfz57_4
              try clear hfz59_0
              try clear hfz59_1
              try clear hfz59_2
              try clear hfz59_3
              try clear hfz59_4
              try clear hfz66_0
              try clear hfz66_1
              try clear hfz66_2
              try clear hfz66_3
              try clear hfz66_4
              try clear hfz71_0
              try clear hfz71_1
              try clear hfz71_2
              try clear hfz71_3
              try clear hfz71_4
              try clear hfz76_0
              try clear hfz76_1
              try clear hfz76_2
              try clear hfz76_3
              try clear hfz76_4
              try clear hfz81_0
              try clear hfz81_1
              try clear hfz81_2
              try clear hfz81_3
              try clear hfz81_4
              try clear hfz83_0
              try clear hfz83_1
              try clear hfz83_2
              try clear hfz83_3
              try clear hfz83_4
              obtain ⟨kq, x10_74, x12_74, rfl, HA, HJ74, HO_12, HO_318004, HO_343004, BK317, BK342, HB⟩ := hcut
              cases kq with
              | zero => exact absurd HA.out (by simp [standbylaw33_ThrottleKeeps.j3])
              | succ kj74 =>
               have H := HA.out
               clear HA
               simp only [standbylaw33_ThrottleKeeps.j3] at H
               replace H := Option.bind_eq_some_iff.mp H
               obtain ⟨t346, A870, H⟩ := H
               replace H : (if t346 > (wrap64 (t334 * t333)) then (some false) else ((throttle_Backlog.f kj74 t333 t334 t335 t336 t337).bind fun t347 => (if t347 = (wrap64 (x10_74 - x11_3)) then (standbylaw33_ThrottleKeeps.l0 kj74 x9_3 x10_74 x11_3 x12_74 l2 (l2.length : Int) (wrap64 (x40_2 + 1)) t333 t334 t335 t336 t337) else (some false)))) = some r := H
               have A87 := Aside0.mk A870
               clear A870
               by_cases c88 : t346 > (wrap64 (t334 * t333))
               ·rw [if_pos c88] at H
                have c88b0 : decide ((wrap64 (t334 * t333)) < t346) = true := decide_eq_true c88
                clear c88
                obtain rfl := Option.some.inj H
                try go_wp2
                have n0_ := Aside0.mk (Kd.R_drew HO_12.out)
                have n1_ := Aside0.mk (Kd.Q_drew HO_318004.out)
                have n2_ := Aside0.mk (Kd.Q_drew HO_343004.out)
                have n3_ := Aside0.mk (blk_drew BK317.out)
                have n4_ := Aside0.mk (blk_drew BK342.out)
                have n5_ := Aside0.mk (below_drew1 HB.out)
                clear HO_12
                clear HO_318004
                clear HO_343004
                clear BK317
                clear BK342
                clear HB
                have HO_12 := n0_
                have HO_318004 := n1_
                have HO_343004 := n2_
                have BK317 := n3_
                have BK342 := n4_
                have HB := n5_
                clear n0_ n1_ n2_ n3_ n4_ n5_
                refine start_ (n := 16) (S := fun w' => w'.cell? ⟨gb317, 0, none⟩ = some (.int .i64 t333) ∧ w'.cell? ⟨gb317, 1, none⟩ = some (.int .i64 t334) ∧ w'.cell? ⟨gb317, 2, none⟩ = some (.int .i64 t335) ∧ w'.cell? ⟨gb317, 3, none⟩ = some (.int .i64 t336) ∧ w'.cell? ⟨gb317, 4, none⟩ = some (.slice Ao82 t337.length co82)) (ds := []) #[false, false, false, false, false, false, false, false, false, false, false, false, false, false, false, false] (by kernel_rfl) rfl rfl ⟨(blk_cell BK317.out 0).trans rfl, (blk_cell BK317.out 1).trans rfl, (blk_cell BK317.out 2).trans rfl, (blk_cell BK317.out 3).trans rfl, (blk_cell BK317.out 4).trans rfl⟩ (fun hHeld => ?_); refine with_tabW standbylaw33_ThrottleKeeps.tab29 standbylaw33_ThrottleKeeps.bits29 (fun HT_ HW_ => ?_)
                generalize wc.drew = w89 at HO_12 HO_318004 HO_343004 BK317 BK342 HB hHeld ⊢
                refine pure_ (i := 2) (N := some 129) (v := ?_) (a' := ?_) #[false, false, true, false, false, false, false, false, false, false, false, false, false, false, false, false] rfl rfl (any_of HT_.out (by kernel_rfl)) (fun _ _ _ h => h) (Or.inl ⟨by rfl, ?_⟩) ?_ ?_
                rotate_left
                ·intro w'
                 go_simp
                 with_reducible rfl
                rotate_left
                ·simp only [Act.put, List.setIfInBounds_toArray, List.set_cons_zero, List.set_cons_succ, i64_w, i32_w]
                 rfl
                refine pure_ (i := 4) (N := some 131) (v := ?_) (a' := ?_) #[false, false, true, false, true, false, false, false, false, false, false, false, false, false, false, false] rfl rfl (any_of HT_.out (by kernel_rfl)) (fun _ _ _ h => h) (Or.inl ⟨by rfl, ?_⟩) ?_ ?_
                rotate_left
                ·intro w'
                 go_simp
                 with_reducible rfl
                rotate_left
                ·simp only [Act.put, List.setIfInBounds_toArray, List.set_cons_zero, List.set_cons_succ, i64_w, i32_w]
                 rfl
                refine take_ (i := 0) (N := some 127) (v := ?_) (a' := ?_) #[true, false, true, false, true, false, false, false, false, false, false, false, false, false, false, false] rfl rfl (take_ofW HT_.out HW_.out (by kernel_rfl)) (fun _ _ _ h => h) (Or.inl ⟨by rfl, ?_⟩) hHeld ?_ ?_
                rotate_left
                ·rintro w' ⟨s0, s1, s2, s3, s4⟩
                 go_simp
                 with_reducible rfl
                rotate_left
                ·simp only [Act.put, List.setIfInBounds_toArray, List.set_cons_zero, List.set_cons_succ, i64_w, i32_w]
                 rfl
                refine take_ (i := 3) (N := some 130) (v := ?_) (a' := ?_) #[true, false, true, true, true, false, false, false, false, false, false, false, false, false, false, false] rfl rfl (take_ofW HT_.out HW_.out (by kernel_rfl)) (fun _ _ _ h => h) (Or.inl ⟨by rfl, ?_⟩) hHeld ?_ ?_
                rotate_left
                ·rintro w' ⟨s0, s1, s2, s3, s4⟩
                 go_simp
                 with_reducible rfl
                rotate_left
                ·simp only [Act.put, List.setIfInBounds_toArray, List.set_cons_zero, List.set_cons_succ, i64_w, i32_w]
                 rfl
                refine take_ (i := 5) (N := some 132) (v := ?_) (a' := ?_) #[true, false, true, true, true, true, false, false, false, false, false, false, false, false, false, false] rfl rfl (take_ofW HT_.out HW_.out (by kernel_rfl)) (fun _ _ _ h => h) (Or.inl ⟨by rfl, ?_⟩) hHeld ?_ ?_
                rotate_left
                ·rintro w' ⟨s0, s1, s2, s3, s4⟩
                 go_simp
                 with_reducible rfl
                rotate_left
                ·simp only [Act.put, List.setIfInBounds_toArray, List.set_cons_zero, List.set_cons_succ, i64_w, i32_w]
                 rfl
                refine pure_ (i := 6) (N := some 133) (v := ?_) (a' := ?_) #[true, false, true, true, true, true, true, false, false, false, false, false, false, false, false, false] rfl rfl (any_of HT_.out (by kernel_rfl)) (fun _ _ _ h => h) (Or.inl ⟨by rfl, ?_⟩) ?_ ?_
                rotate_left
                ·intro w'
                 go_simp
                 with_reducible rfl
                rotate_left
                ·simp only [Act.put, List.setIfInBounds_toArray, List.set_cons_zero, List.set_cons_succ, i64_w, i32_w]
                 rfl
                refine one_ (i := 1) (N := some 128) #[true, true, true, true, true, true, true, false, false, false, false, false, false, false, false, false] rfl rfl (one_of HT_.out (by kernel_rfl)) (by decide) (fun K hK => ?_)
                refine goes_ Try.func22 (by kernel_rfl) rfl #[.agg #[.int .i64 t333, .int .i64 t334, .int .i64 t335, .int .i64 t336, .slice Ao82 t337.length co82]] (by rfl) rfl rfl (by (try simp only [List.map_toArray, List.map_cons, List.map_nil]); first | done | rfl | (simp only [List.length_drop, List.length_take]; rfl)) ?_
                with_reducible refine (throttle_Backlog.calls kj74 t333 t334 t335 t336 _ _ t337 t346 _ ?side1 ?side2 A87.out).mono ?_
                (case side1 => repeat (first | exact (Kd.Q_reads' HO_318004.out).2.2 | (with_reducible refine Kd.C_alloc ?_ _) | (with_reducible refine Kd.C_drewN ?_ _) | (with_reducible refine Kd.C_drew ?_)))
                (case side2 => exact (Kd.Q_reads' HO_318004.out).2.1)
                rintro e w90 ⟨rfl, hb⟩
                refine ⟨_, rfl, ?_⟩
                have n0_ := Aside0.mk (Kd.R_below (by (with_reducible repeat (first | apply Kd.R_alloc | apply Kd.R_drewN | apply Kd.R_drew)); exact HO_12.out) hb)
                have n1_ := Aside0.mk (Kd.Q_below (by (with_reducible repeat (first | apply Kd.Q_alloc | apply Kd.Q_drewN | apply Kd.Q_drew)); exact HO_318004.out) hb)
                have n2_ := Aside0.mk (Kd.Q_below (by (with_reducible repeat (first | apply Kd.Q_alloc | apply Kd.Q_drewN | apply Kd.Q_drew)); exact HO_343004.out) hb)
                have n3_ := Aside0.mk (blk_below (g := gb317) (o := .cells #[.int .i64 t333, .int .i64 t334, .int .i64 t335, .int .i64 t336, .slice Ao82 t337.length co82] 24 (0, 0)) (by (with_reducible repeat (first | refine blk_drewN ?_ _ | refine blk_drew ?_ | refine blk_alloc ?_ _)); exact BK317.out) hb)
                have n4_ := Aside0.mk (blk_below (g := gb342) (o := .cells #[.int .i64 t333, .int .i64 t334, .int .i64 t335, .int .i64 t336, .slice Ao82 t337.length co82] 24 (0, 0)) (by (with_reducible repeat (first | refine blk_drewN ?_ _ | refine blk_drew ?_ | refine blk_alloc ?_ _)); exact BK342.out) hb)
                have n5_ := Aside0.mk (below_step (by repeat (first | (with_reducible first | exact HB.out | apply below_alloc | apply pw_below_drewN | apply below_drew1 | refine below_set ?_ GE317.out | refine below_set ?_ GE342.out) | exact HB.out)) hb)
                clear HO_12
                clear HO_318004
                clear HO_343004
                clear BK317
                clear BK342
                clear HB
                have HO_12 := n0_
                have HO_318004 := n1_
                have HO_343004 := n2_
                have BK317 := n3_
                have BK342 := n4_
                have HB := n5_
                clear n0_ n1_ n2_ n3_ n4_ n5_
                (try clear hb)
                (try clear hb2)
                (try clear hk)
                (try clear hi)
                refine hK.out _ _ ⟨(blk_cell BK317.out 0).trans rfl, (blk_cell BK317.out 1).trans rfl, (blk_cell BK317.out 2).trans rfl, (blk_cell BK317.out 3).trans rfl, (blk_cell BK317.out 4).trans rfl⟩ (fun hHeld => ?_)
                clear hK K
                refine norm_ (a' := ?_) ?_ ?_
                rotate_left
                ·show Act.put _ (some 128) _ = _
                 simp only [Act.put, List.setIfInBounds_toArray, List.set_cons_zero, List.set_cons_succ, i64_w, i32_w]
                 rfl
                refine pure_ (i := 7) (N := some 134) (v := ?_) (a' := ?_) #[true, true, true, true, true, true, true, true, false, false, false, false, false, false, false, false] rfl rfl (any_of HT_.out (by kernel_rfl)) (fun _ _ _ h => h) (Or.inl ⟨by rfl, ?_⟩) ?_ ?_
                rotate_left
                ·intro w'
                 go_simp
                 with_reducible rfl
                rotate_left
                ·simp only [Act.put, List.setIfInBounds_toArray, List.set_cons_zero, List.set_cons_succ, i64_w, i32_w]
                 rfl
                refine pure_ (i := 8) (N := some 135) (v := ?_) (a' := ?_) #[true, true, true, true, true, true, true, true, true, false, false, false, false, false, false, false] rfl rfl (any_of HT_.out (by kernel_rfl)) (fun _ _ _ h => h) (Or.inl ⟨by rfl, ?_⟩) ?_ ?_
                rotate_left
                ·intro w'
                 go_simp
                 with_reducible rfl
                rotate_left
                ·simp only [Act.put, List.setIfInBounds_toArray, List.set_cons_zero, List.set_cons_succ, i64_w, i32_w]
                 rfl
                refine pure_ (i := 9) (N := some 136) (v := undef) (a' := ?_) #[true, true, true, true, true, true, true, true, true, true, false, false, false, false, false, false] rfl rfl (any_of HT_.out (by kernel_rfl)) (fun _ _ _ h => h) (Or.inr ⟨by rfl, rfl⟩) ?_ ?_
                rotate_left
                ·simp only [Act.put, List.setIfInBounds_toArray, List.set_cons_zero, List.set_cons_succ, i64_w, i32_w]
                 rfl
                refine pure_ (i := 10) (N := some 137) (v := undef) (a' := ?_) #[true, true, true, true, true, true, true, true, true, true, true, false, false, false, false, false] rfl rfl (any_of HT_.out (by kernel_rfl)) (fun _ _ _ h => h) (Or.inr ⟨by rfl, rfl⟩) ?_ ?_
                rotate_left
                ·simp only [Act.put, List.setIfInBounds_toArray, List.set_cons_zero, List.set_cons_succ, i64_w, i32_w]
                 rfl
                refine pure_ (i := 11) (N := some 138) (v := undef) (a' := ?_) #[true, true, true, true, true, true, true, true, true, true, true, true, false, false, false, false] rfl rfl (any_of HT_.out (by kernel_rfl)) (fun _ _ _ h => h) (Or.inr ⟨by rfl, rfl⟩) ?_ ?_
                rotate_left
                ·simp only [Act.put, List.setIfInBounds_toArray, List.set_cons_zero, List.set_cons_succ, i64_w, i32_w]
                 rfl
                refine pure_ (i := 12) (N := some 139) (v := undef) (a' := ?_) #[true, true, true, true, true, true, true, true, true, true, true, true, true, false, false, false] rfl rfl (any_of HT_.out (by kernel_rfl)) (fun _ _ _ h => h) (Or.inr ⟨by rfl, rfl⟩) ?_ ?_
                rotate_left
                ·simp only [Act.put, List.setIfInBounds_toArray, List.set_cons_zero, List.set_cons_succ, i64_w, i32_w]
                 rfl
                refine pure_ (i := 13) (N := some 140) (v := undef) (a' := ?_) #[true, true, true, true, true, true, true, true, true, true, true, true, true, true, false, false] rfl rfl (any_of HT_.out (by kernel_rfl)) (fun _ _ _ h => h) (Or.inr ⟨by rfl, rfl⟩) ?_ ?_
                rotate_left
                ·simp only [Act.put, List.setIfInBounds_toArray, List.set_cons_zero, List.set_cons_succ, i64_w, i32_w]
                 rfl
                refine pure_ (i := 14) (N := some 141) (v := undef) (a' := ?_) #[true, true, true, true, true, true, true, true, true, true, true, true, true, true, true, false] rfl rfl (any_of HT_.out (by kernel_rfl)) (fun _ _ _ h => h) (Or.inr ⟨by rfl, rfl⟩) ?_ ?_
                rotate_left
                ·simp only [Act.put, List.setIfInBounds_toArray, List.set_cons_zero, List.set_cons_succ, i64_w, i32_w]
                 rfl
                refine pure_ (i := 15) (N := some 142) (v := ?_) (a' := ?_) #[true, true, true, true, true, true, true, true, true, true, true, true, true, true, true, true] rfl rfl (any_of HT_.out (by kernel_rfl)) (fun _ _ _ h => h) (Or.inl ⟨by rfl, ?_⟩) ?_ ?_
                rotate_left
                ·intro w'
                 go_simp
                 with_reducible rfl
                rotate_left
                ·simp only [Act.put, List.setIfInBounds_toArray, List.set_cons_zero, List.set_cons_succ, i64_w, i32_w]
                 rfl
                refine done_ (done_of HT_.out (by kernel_rfl)) ?_
                try go_wp2
                go_ret
                exact ⟨by first | rfl | (simp [errW_none, errW_some] <;> rfl) | (simp [*, errW_none, errW_some] <;> rfl), by repeat (first | (with_reducible first | exact HB.out | apply below_alloc | apply pw_below_drewN | apply below_drew1 | refine below_set ?_ GE317.out | refine below_set ?_ GE342.out) | exact HB.out)⟩
               ·rw [if_neg c88] at H
                have c88b0 : decide ((wrap64 (t334 * t333)) < t346) = false := decide_eq_false c88
                clear c88
                replace H := Option.bind_eq_some_iff.mp H
                obtain ⟨t347, A910, H⟩ := H
                replace H : (if t347 = (wrap64 (x10_74 - x11_3)) then (standbylaw33_ThrottleKeeps.l0 kj74 x9_3 x10_74 x11_3 x12_74 l2 (l2.length : Int) (wrap64 (x40_2 + 1)) t333 t334 t335 t336 t337) else (some false)) = some r := H
                have A91 := Aside0.mk A910
                clear A910
                by_cases c92 : t347 = (wrap64 (x10_74 - x11_3))
                ·rw [if_pos c92] at H
                 have c92b0 : (t347 == (wrap64 (x10_74 - x11_3))) = true := beq_iff_eq.mpr c92
                 have c92b1 : (t347 != (wrap64 (x10_74 - x11_3))) = false := bne_eq_false_iff_eq.mpr c92
                 clear c92
                 have H' := Aside0.mk H
                 clear H
                 try go_wp2
                 have n0_ := Aside0.mk (Kd.R_drew HO_12.out)
                 have n1_ := Aside0.mk (Kd.Q_drew HO_318004.out)
                 have n2_ := Aside0.mk (Kd.Q_drew HO_343004.out)
                 have n3_ := Aside0.mk (blk_drew BK317.out)
                 have n4_ := Aside0.mk (blk_drew BK342.out)
                 have n5_ := Aside0.mk (below_drew1 HB.out)
                 clear HO_12
                 clear HO_318004
                 clear HO_343004
                 clear BK317
                 clear BK342
                 clear HB
                 have HO_12 := n0_
                 have HO_318004 := n1_
                 have HO_343004 := n2_
                 have BK317 := n3_
                 have BK342 := n4_
                 have HB := n5_
                 clear n0_ n1_ n2_ n3_ n4_ n5_
                 refine start_ (n := 16) (S := fun w' => w'.cell? ⟨gb317, 0, none⟩ = some (.int .i64 t333) ∧ w'.cell? ⟨gb317, 1, none⟩ = some (.int .i64 t334) ∧ w'.cell? ⟨gb317, 2, none⟩ = some (.int .i64 t335) ∧ w'.cell? ⟨gb317, 3, none⟩ = some (.int .i64 t336) ∧ w'.cell? ⟨gb317, 4, none⟩ = some (.slice Ao82 t337.length co82)) (ds := []) #[false, false, false, false, false, false, false, false, false, false, false, false, false, false, false, false] (by kernel_rfl) rfl rfl ⟨(blk_cell BK317.out 0).trans rfl, (blk_cell BK317.out 1).trans rfl, (blk_cell BK317.out 2).trans rfl, (blk_cell BK317.out 3).trans rfl, (blk_cell BK317.out 4).trans rfl⟩ (fun hHeld => ?_); refine with_tabW standbylaw33_ThrottleKeeps.tab29 standbylaw33_ThrottleKeeps.bits29 (fun HT_ HW_ => ?_)
                 generalize wc.drew = w93 at HO_12 HO_318004 HO_343004 BK317 BK342 HB hHeld ⊢
                 refine pure_ (i := 2) (N := some 129) (v := ?_) (a' := ?_) #[false, false, true, false, false, false, false, false, false, false, false, false, false, false, false, false] rfl rfl (any_of HT_.out (by kernel_rfl)) (fun _ _ _ h => h) (Or.inl ⟨by rfl, ?_⟩) ?_ ?_
                 rotate_left
                 ·intro w'
                  go_simp
                  with_reducible rfl
                 rotate_left
                 ·simp only [Act.put, List.setIfInBounds_toArray, List.set_cons_zero, List.set_cons_succ, i64_w, i32_w]
                  rfl
                 refine pure_ (i := 4) (N := some 131) (v := ?_) (a' := ?_) #[false, false, true, false, true, false, false, false, false, false, false, false, false, false, false, false] rfl rfl (any_of HT_.out (by kernel_rfl)) (fun _ _ _ h => h) (Or.inl ⟨by rfl, ?_⟩) ?_ ?_
                 rotate_left
                 ·intro w'
                  go_simp
                  with_reducible rfl
                 rotate_left
                 ·simp only [Act.put, List.setIfInBounds_toArray, List.set_cons_zero, List.set_cons_succ, i64_w, i32_w]
                  rfl
                 refine take_ (i := 0) (N := some 127) (v := ?_) (a' := ?_) #[true, false, true, false, true, false, false, false, false, false, false, false, false, false, false, false] rfl rfl (take_ofW HT_.out HW_.out (by kernel_rfl)) (fun _ _ _ h => h) (Or.inl ⟨by rfl, ?_⟩) hHeld ?_ ?_
                 rotate_left
                 ·rintro w' ⟨s0, s1, s2, s3, s4⟩
                  go_simp
                  with_reducible rfl
                 rotate_left
                 ·simp only [Act.put, List.setIfInBounds_toArray, List.set_cons_zero, List.set_cons_succ, i64_w, i32_w]
                  rfl
                 refine take_ (i := 3) (N := some 130) (v := ?_) (a' := ?_) #[true, false, true, true, true, false, false, false, false, false, false, false, false, false, false, false] rfl rfl (take_ofW HT_.out HW_.out (by kernel_rfl)) (fun _ _ _ h => h) (Or.inl ⟨by rfl, ?_⟩) hHeld ?_ ?_
                 rotate_left
                 ·rintro w' ⟨s0, s1, s2, s3, s4⟩
                  go_simp
                  with_reducible rfl
                 rotate_left
                 ·simp only [Act.put, List.setIfInBounds_toArray, List.set_cons_zero, List.set_cons_succ, i64_w, i32_w]
                  rfl
                 refine take_ (i := 5) (N := some 132) (v := ?_) (a' := ?_) #[true, false, true, true, true, true, false, false, false, false, false, false, false, false, false, false] rfl rfl (take_ofW HT_.out HW_.out (by kernel_rfl)) (fun _ _ _ h => h) (Or.inl ⟨by rfl, ?_⟩) hHeld ?_ ?_
                 rotate_left
                 ·rintro w' ⟨s0, s1, s2, s3, s4⟩
                  go_simp
                  with_reducible rfl
                 rotate_left
                 ·simp only [Act.put, List.setIfInBounds_toArray, List.set_cons_zero, List.set_cons_succ, i64_w, i32_w]
                  rfl
                 refine pure_ (i := 6) (N := some 133) (v := ?_) (a' := ?_) #[true, false, true, true, true, true, true, false, false, false, false, false, false, false, false, false] rfl rfl (any_of HT_.out (by kernel_rfl)) (fun _ _ _ h => h) (Or.inl ⟨by rfl, ?_⟩) ?_ ?_
                 rotate_left
                 ·intro w'
                  go_simp
                  with_reducible rfl
                 rotate_left
                 ·simp only [Act.put, List.setIfInBounds_toArray, List.set_cons_zero, List.set_cons_succ, i64_w, i32_w]
                  rfl
                 refine one_ (i := 1) (N := some 128) #[true, true, true, true, true, true, true, false, false, false, false, false, false, false, false, false] rfl rfl (one_of HT_.out (by kernel_rfl)) (by decide) (fun K hK => ?_)
                 refine goes_ Try.func22 (by kernel_rfl) rfl #[.agg #[.int .i64 t333, .int .i64 t334, .int .i64 t335, .int .i64 t336, .slice Ao82 t337.length co82]] (by rfl) rfl rfl (by (try simp only [List.map_toArray, List.map_cons, List.map_nil]); first | done | rfl | (simp only [List.length_drop, List.length_take]; rfl)) ?_
                 with_reducible refine (throttle_Backlog.calls kj74 t333 t334 t335 t336 _ _ t337 t346 _ ?side1 ?side2 A87.out).mono ?_
                 (case side1 => repeat (first | exact (Kd.Q_reads' HO_318004.out).2.2 | (with_reducible refine Kd.C_alloc ?_ _) | (with_reducible refine Kd.C_drewN ?_ _) | (with_reducible refine Kd.C_drew ?_)))
                 (case side2 => exact (Kd.Q_reads' HO_318004.out).2.1)
                 rintro e w94 ⟨rfl, hb⟩
                 refine ⟨_, rfl, ?_⟩
                 have n0_ := Aside0.mk (Kd.R_below (by (with_reducible repeat (first | apply Kd.R_alloc | apply Kd.R_drewN | apply Kd.R_drew)); exact HO_12.out) hb)
                 have n1_ := Aside0.mk (Kd.Q_below (by (with_reducible repeat (first | apply Kd.Q_alloc | apply Kd.Q_drewN | apply Kd.Q_drew)); exact HO_318004.out) hb)
                 have n2_ := Aside0.mk (Kd.Q_below (by (with_reducible repeat (first | apply Kd.Q_alloc | apply Kd.Q_drewN | apply Kd.Q_drew)); exact HO_343004.out) hb)
                 have n3_ := Aside0.mk (blk_below (g := gb317) (o := .cells #[.int .i64 t333, .int .i64 t334, .int .i64 t335, .int .i64 t336, .slice Ao82 t337.length co82] 24 (0, 0)) (by (with_reducible repeat (first | refine blk_drewN ?_ _ | refine blk_drew ?_ | refine blk_alloc ?_ _)); exact BK317.out) hb)
                 have n4_ := Aside0.mk (blk_below (g := gb342) (o := .cells #[.int .i64 t333, .int .i64 t334, .int .i64 t335, .int .i64 t336, .slice Ao82 t337.length co82] 24 (0, 0)) (by (with_reducible repeat (first | refine blk_drewN ?_ _ | refine blk_drew ?_ | refine blk_alloc ?_ _)); exact BK342.out) hb)
                 have n5_ := Aside0.mk (below_step (by repeat (first | (with_reducible first | exact HB.out | apply below_alloc | apply pw_below_drewN | apply below_drew1 | refine below_set ?_ GE317.out | refine below_set ?_ GE342.out) | exact HB.out)) hb)
                 clear HO_12
                 clear HO_318004
                 clear HO_343004
                 clear BK317
                 clear BK342
                 clear HB
                 have HO_12 := n0_
                 have HO_318004 := n1_
                 have HO_343004 := n2_
                 have BK317 := n3_
                 have BK342 := n4_
                 have HB := n5_
                 clear n0_ n1_ n2_ n3_ n4_ n5_
                 (try clear hb)
                 (try clear hb2)
                 (try clear hk)
                 (try clear hi)
                 refine hK.out _ _ ⟨(blk_cell BK317.out 0).trans rfl, (blk_cell BK317.out 1).trans rfl, (blk_cell BK317.out 2).trans rfl, (blk_cell BK317.out 3).trans rfl, (blk_cell BK317.out 4).trans rfl⟩ (fun hHeld => ?_)
                 clear hK K
                 refine norm_ (a' := ?_) ?_ ?_
                 rotate_left
                 ·show Act.put _ (some 128) _ = _
                  simp only [Act.put, List.setIfInBounds_toArray, List.set_cons_zero, List.set_cons_succ, i64_w, i32_w]
                  rfl
                 refine pure_ (i := 7) (N := some 134) (v := ?_) (a' := ?_) #[true, true, true, true, true, true, true, true, false, false, false, false, false, false, false, false] rfl rfl (any_of HT_.out (by kernel_rfl)) (fun _ _ _ h => h) (Or.inl ⟨by rfl, ?_⟩) ?_ ?_
                 rotate_left
                 ·intro w'
                  go_simp
                  with_reducible rfl
                 rotate_left
                 ·simp only [Act.put, List.setIfInBounds_toArray, List.set_cons_zero, List.set_cons_succ, i64_w, i32_w]
                  rfl
                 refine pure_ (i := 8) (N := some 135) (v := ?_) (a' := ?_) #[true, true, true, true, true, true, true, true, true, false, false, false, false, false, false, false] rfl rfl (any_of HT_.out (by kernel_rfl)) (fun _ _ _ h => h) (Or.inl ⟨by rfl, ?_⟩) ?_ ?_
                 rotate_left
                 ·intro w'
                  go_simp
                  with_reducible rfl
                 rotate_left
                 ·simp only [Act.put, List.setIfInBounds_toArray, List.set_cons_zero, List.set_cons_succ, i64_w, i32_w]
                  rfl
                 refine pure_ (i := 11) (N := some 138) (v := ?_) (a' := ?_) #[true, true, true, true, true, true, true, true, true, false, false, true, false, false, false, false] rfl rfl (any_of HT_.out (by kernel_rfl)) (fun _ _ _ h => h) (Or.inl ⟨by rfl, ?_⟩) ?_ ?_
                 rotate_left
                 ·intro w'
                  go_simp
                  with_reducible rfl
                 rotate_left
                 ·simp only [Act.put, List.setIfInBounds_toArray, List.set_cons_zero, List.set_cons_succ, i64_w, i32_w]
                  rfl
                 refine pure_ (i := 12) (N := some 139) (v := ?_) (a' := ?_) #[true, true, true, true, true, true, true, true, true, false, false, true, true, false, false, false] rfl rfl (any_of HT_.out (by kernel_rfl)) (fun _ _ _ h => h) (Or.inl ⟨by rfl, ?_⟩) ?_ ?_
                 rotate_left
                 ·intro w'
                  go_simp
                  with_reducible rfl
                 rotate_left
                 ·simp only [Act.put, List.setIfInBounds_toArray, List.set_cons_zero, List.set_cons_succ, i64_w, i32_w]
                  rfl
                 refine pure_ (i := 13) (N := some 140) (v := ?_) (a' := ?_) #[true, true, true, true, true, true, true, true, true, false, false, true, true, true, false, false] rfl rfl (any_of HT_.out (by kernel_rfl)) (fun _ _ _ h => h) (Or.inl ⟨by rfl, ?_⟩) ?_ ?_
                 rotate_left
                 ·intro w'
                  go_simp
                  with_reducible rfl
                 rotate_left
                 ·simp only [Act.put, List.setIfInBounds_toArray, List.set_cons_zero, List.set_cons_succ, i64_w, i32_w]
                  rfl
                 refine take_ (i := 9) (N := some 136) (v := ?_) (a' := ?_) #[true, true, true, true, true, true, true, true, true, true, false, true, true, true, false, false] rfl rfl (take_ofW HT_.out HW_.out (by kernel_rfl)) (fun _ _ _ h => h) (Or.inl ⟨by rfl, ?_⟩) hHeld ?_ ?_
                 rotate_left
                 ·rintro w' ⟨s0, s1, s2, s3, s4⟩
                  go_simp
                  with_reducible rfl
                 rotate_left
                 ·simp only [Act.put, List.setIfInBounds_toArray, List.set_cons_zero, List.set_cons_succ, i64_w, i32_w]
                  rfl
                 refine one_ (i := 10) (N := some 137) #[true, true, true, true, true, true, true, true, true, true, true, true, true, true, false, false] rfl rfl (one_of HT_.out (by kernel_rfl)) (by decide) (fun K hK => ?_)
                 refine goes_ Try.func22 (by kernel_rfl) rfl #[.agg #[.int .i64 t333, .int .i64 t334, .int .i64 t335, .int .i64 t336, .slice Ao82 t337.length co82]] (by rfl) rfl rfl (by (try simp only [List.map_toArray, List.map_cons, List.map_nil]); first | done | rfl | (simp only [List.length_drop, List.length_take]; rfl)) ?_
                 with_reducible refine (throttle_Backlog.calls kj74 t333 t334 t335 t336 _ _ t337 t347 _ ?side1 ?side2 A91.out).mono ?_
                 (case side1 => repeat (first | exact (Kd.Q_reads' HO_318004.out).2.2 | (with_reducible refine Kd.C_alloc ?_ _) | (with_reducible refine Kd.C_drewN ?_ _) | (with_reducible refine Kd.C_drew ?_)))
                 (case side2 => exact (Kd.Q_reads' HO_318004.out).2.1)
                 rintro e w95 ⟨rfl, hb⟩
                 refine ⟨_, rfl, ?_⟩
                 have n0_ := Aside0.mk (Kd.R_below (by (with_reducible repeat (first | apply Kd.R_alloc | apply Kd.R_drewN | apply Kd.R_drew)); exact HO_12.out) hb)
                 have n1_ := Aside0.mk (Kd.Q_below (by (with_reducible repeat (first | apply Kd.Q_alloc | apply Kd.Q_drewN | apply Kd.Q_drew)); exact HO_318004.out) hb)
                 have n2_ := Aside0.mk (Kd.Q_below (by (with_reducible repeat (first | apply Kd.Q_alloc | apply Kd.Q_drewN | apply Kd.Q_drew)); exact HO_343004.out) hb)
                 have n3_ := Aside0.mk (blk_below (g := gb317) (o := .cells #[.int .i64 t333, .int .i64 t334, .int .i64 t335, .int .i64 t336, .slice Ao82 t337.length co82] 24 (0, 0)) (by (with_reducible repeat (first | refine blk_drewN ?_ _ | refine blk_drew ?_ | refine blk_alloc ?_ _)); exact BK317.out) hb)
                 have n4_ := Aside0.mk (blk_below (g := gb342) (o := .cells #[.int .i64 t333, .int .i64 t334, .int .i64 t335, .int .i64 t336, .slice Ao82 t337.length co82] 24 (0, 0)) (by (with_reducible repeat (first | refine blk_drewN ?_ _ | refine blk_drew ?_ | refine blk_alloc ?_ _)); exact BK342.out) hb)
                 have n5_ := Aside0.mk (below_step (by repeat (first | (with_reducible first | exact HB.out | apply below_alloc | apply pw_below_drewN | apply below_drew1 | refine below_set ?_ GE317.out | refine below_set ?_ GE342.out) | exact HB.out)) hb)
                 clear HO_12
                 clear HO_318004
                 clear HO_343004
                 clear BK317
                 clear BK342
                 clear HB
                 have HO_12 := n0_
                 have HO_318004 := n1_
                 have HO_343004 := n2_
                 have BK317 := n3_
                 have BK342 := n4_
                 have HB := n5_
                 clear n0_ n1_ n2_ n3_ n4_ n5_
                 (try clear hb)
                 (try clear hb2)
                 (try clear hk)
                 (try clear hi)
                 refine hK.out _ _ ⟨(blk_cell BK317.out 0).trans rfl, (blk_cell BK317.out 1).trans rfl, (blk_cell BK317.out 2).trans rfl, (blk_cell BK317.out 3).trans rfl, (blk_cell BK317.out 4).trans rfl⟩ (fun hHeld => ?_)
                 clear hK K
                 refine norm_ (a' := ?_) ?_ ?_
                 rotate_left
                 ·show Act.put _ (some 137) _ = _
                  simp only [Act.put, List.setIfInBounds_toArray, List.set_cons_zero, List.set_cons_succ, i64_w, i32_w]
                  rfl
                 refine pure_ (i := 14) (N := some 141) (v := ?_) (a' := ?_) #[true, true, true, true, true, true, true, true, true, true, true, true, true, true, true, false] rfl rfl (any_of HT_.out (by kernel_rfl)) (fun _ _ _ h => h) (Or.inl ⟨by rfl, ?_⟩) ?_ ?_
                 rotate_left
                 ·intro w'
                  go_simp
                  with_reducible rfl
                 rotate_left
                 ·simp only [Act.put, List.setIfInBounds_toArray, List.set_cons_zero, List.set_cons_succ, i64_w, i32_w]
                  rfl
                 refine pure_ (i := 15) (N := some 142) (v := ?_) (a' := ?_) #[true, true, true, true, true, true, true, true, true, true, true, true, true, true, true, true] rfl rfl (any_of HT_.out (by kernel_rfl)) (fun _ _ _ h => h) (Or.inl ⟨by rfl, ?_⟩) ?_ ?_
                 rotate_left
                 ·intro w'
                  go_simp
                  with_reducible rfl
                 rotate_left
                 ·simp only [Act.put, List.setIfInBounds_toArray, List.set_cons_zero, List.set_cons_succ, i64_w, i32_w]
                  rfl
                 refine done_ (done_of HT_.out (by kernel_rfl)) ?_
                 try go_wp2
                 go_roundg kj74
                 case measure => have := HJ4.out; have := HK2.out; have := HK3.out; have := HJ74.out; omega
                 case rel => exact ⟨(x9_3), (x10_74), (x11_3), (x12_74), (wrap64 (x40_2 + 1)), (t333), (t334), (t335), (t336), (t337), (.slice Ao82 t337.length co82), (by first | rfl | (simp; done) | (simp [*]; done)), (by first | rfl | (simp; done) | (simp [*]; done)), (by first | rfl | (simp; done) | (simp [*]; done)), (by first | rfl | (simp; done) | (simp [*]; done)), H', ⟨by have := HJ4.out; have := HK2.out; have := HK3.out; have := HJ74.out; omega⟩, ⟨by (with_reducible repeat (first | apply Kd.R_alloc | apply Kd.R_drewN | apply Kd.R_drew)); exact HO_12.out⟩, ⟨by (with_reducible repeat (first | apply Kd.Q_alloc | apply Kd.Q_drewN | apply Kd.Q_drew)); exact HO_318004.out⟩, ⟨by (with_reducible repeat (first | refine blk_drewN ?_ _ | refine blk_drew ?_ | refine blk_alloc ?_ _)); exact BK317.out⟩, ⟨by repeat (first | (with_reducible first | exact HB.out | apply below_alloc | apply pw_below_drewN | apply below_drew1 | refine below_set ?_ GE317.out | refine below_set ?_ GE342.out) | exact HB.out)⟩⟩
                ·rw [if_neg c92] at H
                 have c92b0 : (t347 == (wrap64 (x10_74 - x11_3))) = false := beq_eq_false_iff_ne.mpr c92
                 have c92b1 : (t347 != (wrap64 (x10_74 - x11_3))) = true := bne_iff_ne.mpr c92
                 obtain rfl := Option.some.inj H
                 try go_wp2
                 have n0_ := Aside0.mk (Kd.R_drew HO_12.out)
                 have n1_ := Aside0.mk (Kd.Q_drew HO_318004.out)
                 have n2_ := Aside0.mk (Kd.Q_drew HO_343004.out)
                 have n3_ := Aside0.mk (blk_drew BK317.out)
                 have n4_ := Aside0.mk (blk_drew BK342.out)
                 have n5_ := Aside0.mk (below_drew1 HB.out)
                 clear HO_12
                 clear HO_318004
                 clear HO_343004
                 clear BK317
                 clear BK342
                 clear HB
                 have HO_12 := n0_
                 have HO_318004 := n1_
                 have HO_343004 := n2_
                 have BK317 := n3_
                 have BK342 := n4_
                 have HB := n5_
                 clear n0_ n1_ n2_ n3_ n4_ n5_
                 refine start_ (n := 16) (S := fun w' => w'.cell? ⟨gb317, 0, none⟩ = some (.int .i64 t333) ∧ w'.cell? ⟨gb317, 1, none⟩ = some (.int .i64 t334) ∧ w'.cell? ⟨gb317, 2, none⟩ = some (.int .i64 t335) ∧ w'.cell? ⟨gb317, 3, none⟩ = some (.int .i64 t336) ∧ w'.cell? ⟨gb317, 4, none⟩ = some (.slice Ao82 t337.length co82)) (ds := []) #[false, false, false, false, false, false, false, false, false, false, false, false, false, false, false, false] (by kernel_rfl) rfl rfl ⟨(blk_cell BK317.out 0).trans rfl, (blk_cell BK317.out 1).trans rfl, (blk_cell BK317.out 2).trans rfl, (blk_cell BK317.out 3).trans rfl, (blk_cell BK317.out 4).trans rfl⟩ (fun hHeld => ?_); refine with_tabW standbylaw33_ThrottleKeeps.tab29 standbylaw33_ThrottleKeeps.bits29 (fun HT_ HW_ => ?_)
                 generalize wc.drew = w96 at HO_12 HO_318004 HO_343004 BK317 BK342 HB hHeld ⊢
                 refine pure_ (i := 2) (N := some 129) (v := ?_) (a' := ?_) #[false, false, true, false, false, false, false, false, false, false, false, false, false, false, false, false] rfl rfl (any_of HT_.out (by kernel_rfl)) (fun _ _ _ h => h) (Or.inl ⟨by rfl, ?_⟩) ?_ ?_
                 rotate_left
                 ·intro w'
                  go_simp
                  with_reducible rfl
                 rotate_left
                 ·simp only [Act.put, List.setIfInBounds_toArray, List.set_cons_zero, List.set_cons_succ, i64_w, i32_w]
                  rfl
                 refine pure_ (i := 4) (N := some 131) (v := ?_) (a' := ?_) #[false, false, true, false, true, false, false, false, false, false, false, false, false, false, false, false] rfl rfl (any_of HT_.out (by kernel_rfl)) (fun _ _ _ h => h) (Or.inl ⟨by rfl, ?_⟩) ?_ ?_
                 rotate_left
                 ·intro w'
                  go_simp
                  with_reducible rfl
                 rotate_left
                 ·simp only [Act.put, List.setIfInBounds_toArray, List.set_cons_zero, List.set_cons_succ, i64_w, i32_w]
                  rfl
                 refine take_ (i := 0) (N := some 127) (v := ?_) (a' := ?_) #[true, false, true, false, true, false, false, false, false, false, false, false, false, false, false, false] rfl rfl (take_ofW HT_.out HW_.out (by kernel_rfl)) (fun _ _ _ h => h) (Or.inl ⟨by rfl, ?_⟩) hHeld ?_ ?_
                 rotate_left
                 ·rintro w' ⟨s0, s1, s2, s3, s4⟩
                  go_simp
                  with_reducible rfl
                 rotate_left
                 ·simp only [Act.put, List.setIfInBounds_toArray, List.set_cons_zero, List.set_cons_succ, i64_w, i32_w]
                  rfl
                 refine take_ (i := 3) (N := some 130) (v := ?_) (a' := ?_) #[true, false, true, true, true, false, false, false, false, false, false, false, false, false, false, false] rfl rfl (take_ofW HT_.out HW_.out (by kernel_rfl)) (fun _ _ _ h => h) (Or.inl ⟨by rfl, ?_⟩) hHeld ?_ ?_
                 rotate_left
                 ·rintro w' ⟨s0, s1, s2, s3, s4⟩
                  go_simp
                  with_reducible rfl
                 rotate_left
                 ·simp only [Act.put, List.setIfInBounds_toArray, List.set_cons_zero, List.set_cons_succ, i64_w, i32_w]
                  rfl
                 refine take_ (i := 5) (N := some 132) (v := ?_) (a' := ?_) #[true, false, true, true, true, true, false, false, false, false, false, false, false, false, false, false] rfl rfl (take_ofW HT_.out HW_.out (by kernel_rfl)) (fun _ _ _ h => h) (Or.inl ⟨by rfl, ?_⟩) hHeld ?_ ?_
                 rotate_left
                 ·rintro w' ⟨s0, s1, s2, s3, s4⟩
                  go_simp
                  with_reducible rfl
                 rotate_left
                 ·simp only [Act.put, List.setIfInBounds_toArray, List.set_cons_zero, List.set_cons_succ, i64_w, i32_w]
                  rfl
                 refine pure_ (i := 6) (N := some 133) (v := ?_) (a' := ?_) #[true, false, true, true, true, true, true, false, false, false, false, false, false, false, false, false] rfl rfl (any_of HT_.out (by kernel_rfl)) (fun _ _ _ h => h) (Or.inl ⟨by rfl, ?_⟩) ?_ ?_
                 rotate_left
                 ·intro w'
                  go_simp
                  with_reducible rfl
                 rotate_left
                 ·simp only [Act.put, List.setIfInBounds_toArray, List.set_cons_zero, List.set_cons_succ, i64_w, i32_w]
                  rfl
                 refine one_ (i := 1) (N := some 128) #[true, true, true, true, true, true, true, false, false, false, false, false, false, false, false, false] rfl rfl (one_of HT_.out (by kernel_rfl)) (by decide) (fun K hK => ?_)
                 refine goes_ Try.func22 (by kernel_rfl) rfl #[.agg #[.int .i64 t333, .int .i64 t334, .int .i64 t335, .int .i64 t336, .slice Ao82 t337.length co82]] (by rfl) rfl rfl (by (try simp only [List.map_toArray, List.map_cons, List.map_nil]); first | done | rfl | (simp only [List.length_drop, List.length_take]; rfl)) ?_
                 with_reducible refine (throttle_Backlog.calls kj74 t333 t334 t335 t336 _ _ t337 t346 _ ?side1 ?side2 A87.out).mono ?_
                 (case side1 => repeat (first | exact (Kd.Q_reads' HO_318004.out).2.2 | (with_reducible refine Kd.C_alloc ?_ _) | (with_reducible refine Kd.C_drewN ?_ _) | (with_reducible refine Kd.C_drew ?_)))
                 (case side2 => exact (Kd.Q_reads' HO_318004.out).2.1)
                 rintro e w97 ⟨rfl, hb⟩
                 refine ⟨_, rfl, ?_⟩
                 have n0_ := Aside0.mk (Kd.R_below (by (with_reducible repeat (first | apply Kd.R_alloc | apply Kd.R_drewN | apply Kd.R_drew)); exact HO_12.out) hb)
                 have n1_ := Aside0.mk (Kd.Q_below (by (with_reducible repeat (first | apply Kd.Q_alloc | apply Kd.Q_drewN | apply Kd.Q_drew)); exact HO_318004.out) hb)
                 have n2_ := Aside0.mk (Kd.Q_below (by (with_reducible repeat (first | apply Kd.Q_alloc | apply Kd.Q_drewN | apply Kd.Q_drew)); exact HO_343004.out) hb)
                 have n3_ := Aside0.mk (blk_below (g := gb317) (o := .cells #[.int .i64 t333, .int .i64 t334, .int .i64 t335, .int .i64 t336, .slice Ao82 t337.length co82] 24 (0, 0)) (by (with_reducible repeat (first | refine blk_drewN ?_ _ | refine blk_drew ?_ | refine blk_alloc ?_ _)); exact BK317.out) hb)
                 have n4_ := Aside0.mk (blk_below (g := gb342) (o := .cells #[.int .i64 t333, .int .i64 t334, .int .i64 t335, .int .i64 t336, .slice Ao82 t337.length co82] 24 (0, 0)) (by (with_reducible repeat (first | refine blk_drewN ?_ _ | refine blk_drew ?_ | refine blk_alloc ?_ _)); exact BK342.out) hb)
                 have n5_ := Aside0.mk (below_step (by repeat (first | (with_reducible first | exact HB.out | apply below_alloc | apply pw_below_drewN | apply below_drew1 | refine below_set ?_ GE317.out | refine below_set ?_ GE342.out) | exact HB.out)) hb)
                 clear HO_12
                 clear HO_318004
                 clear HO_343004
                 clear BK317
                 clear BK342
                 clear HB
                 have HO_12 := n0_
                 have HO_318004 := n1_
                 have HO_343004 := n2_
                 have BK317 := n3_
                 have BK342 := n4_
                 have HB := n5_
                 clear n0_ n1_ n2_ n3_ n4_ n5_
                 (try clear hb)
                 (try clear hb2)
                 (try clear hk)
                 (try clear hi)
                 refine hK.out _ _ ⟨(blk_cell BK317.out 0).trans rfl, (blk_cell BK317.out 1).trans rfl, (blk_cell BK317.out 2).trans rfl, (blk_cell BK317.out 3).trans rfl, (blk_cell BK317.out 4).trans rfl⟩ (fun hHeld => ?_)
                 clear hK K
                 refine norm_ (a' := ?_) ?_ ?_
                 rotate_left
                 ·show Act.put _ (some 128) _ = _
                  simp only [Act.put, List.setIfInBounds_toArray, List.set_cons_zero, List.set_cons_succ, i64_w, i32_w]
                  rfl
                 refine pure_ (i := 7) (N := some 134) (v := ?_) (a' := ?_) #[true, true, true, true, true, true, true, true, false, false, false, false, false, false, false, false] rfl rfl (any_of HT_.out (by kernel_rfl)) (fun _ _ _ h => h) (Or.inl ⟨by rfl, ?_⟩) ?_ ?_
                 rotate_left
                 ·intro w'
                  go_simp
                  with_reducible rfl
                 rotate_left
                 ·simp only [Act.put, List.setIfInBounds_toArray, List.set_cons_zero, List.set_cons_succ, i64_w, i32_w]
                  rfl
                 refine pure_ (i := 8) (N := some 135) (v := ?_) (a' := ?_) #[true, true, true, true, true, true, true, true, true, false, false, false, false, false, false, false] rfl rfl (any_of HT_.out (by kernel_rfl)) (fun _ _ _ h => h) (Or.inl ⟨by rfl, ?_⟩) ?_ ?_
                 rotate_left
                 ·intro w'
                  go_simp
                  with_reducible rfl
                 rotate_left
                 ·simp only [Act.put, List.setIfInBounds_toArray, List.set_cons_zero, List.set_cons_succ, i64_w, i32_w]
                  rfl
                 refine pure_ (i := 11) (N := some 138) (v := ?_) (a' := ?_) #[true, true, true, true, true, true, true, true, true, false, false, true, false, false, false, false] rfl rfl (any_of HT_.out (by kernel_rfl)) (fun _ _ _ h => h) (Or.inl ⟨by rfl, ?_⟩) ?_ ?_
                 rotate_left
                 ·intro w'
                  go_simp
                  with_reducible rfl
                 rotate_left
                 ·simp only [Act.put, List.setIfInBounds_toArray, List.set_cons_zero, List.set_cons_succ, i64_w, i32_w]
                  rfl
                 refine pure_ (i := 12) (N := some 139) (v := ?_) (a' := ?_) #[true, true, true, true, true, true, true, true, true, false, false, true, true, false, false, false] rfl rfl (any_of HT_.out (by kernel_rfl)) (fun _ _ _ h => h) (Or.inl ⟨by rfl, ?_⟩) ?_ ?_
                 rotate_left
                 ·intro w'
                  go_simp
                  with_reducible rfl
                 rotate_left
                 ·simp only [Act.put, List.setIfInBounds_toArray, List.set_cons_zero, List.set_cons_succ, i64_w, i32_w]
                  rfl
                 refine pure_ (i := 13) (N := some 140) (v := ?_) (a' := ?_) #[true, true, true, true, true, true, true, true, true, false, false, true, true, true, false, false] rfl rfl (any_of HT_.out (by kernel_rfl)) (fun _ _ _ h => h) (Or.inl ⟨by rfl, ?_⟩) ?_ ?_
                 rotate_left
                 ·intro w'
                  go_simp
                  with_reducible rfl
                 rotate_left
                 ·simp only [Act.put, List.setIfInBounds_toArray, List.set_cons_zero, List.set_cons_succ, i64_w, i32_w]
                  rfl
                 refine take_ (i := 9) (N := some 136) (v := ?_) (a' := ?_) #[true, true, true, true, true, true, true, true, true, true, false, true, true, true, false, false] rfl rfl (take_ofW HT_.out HW_.out (by kernel_rfl)) (fun _ _ _ h => h) (Or.inl ⟨by rfl, ?_⟩) hHeld ?_ ?_
                 rotate_left
                 ·rintro w' ⟨s0, s1, s2, s3, s4⟩
                  go_simp
                  with_reducible rfl
                 rotate_left
                 ·simp only [Act.put, List.setIfInBounds_toArray, List.set_cons_zero, List.set_cons_succ, i64_w, i32_w]
                  rfl
                 refine one_ (i := 10) (N := some 137) #[true, true, true, true, true, true, true, true, true, true, true, true, true, true, false, false] rfl rfl (one_of HT_.out (by kernel_rfl)) (by decide) (fun K hK => ?_)
                 refine goes_ Try.func22 (by kernel_rfl) rfl #[.agg #[.int .i64 t333, .int .i64 t334, .int .i64 t335, .int .i64 t336, .slice Ao82 t337.length co82]] (by rfl) rfl rfl (by (try simp only [List.map_toArray, List.map_cons, List.map_nil]); first | done | rfl | (simp only [List.length_drop, List.length_take]; rfl)) ?_
                 with_reducible refine (throttle_Backlog.calls kj74 t333 t334 t335 t336 _ _ t337 t347 _ ?side1 ?side2 A91.out).mono ?_
                 (case side1 => repeat (first | exact (Kd.Q_reads' HO_318004.out).2.2 | (with_reducible refine Kd.C_alloc ?_ _) | (with_reducible refine Kd.C_drewN ?_ _) | (with_reducible refine Kd.C_drew ?_)))
                 (case side2 => exact (Kd.Q_reads' HO_318004.out).2.1)
                 rintro e w98 ⟨rfl, hb⟩
                 refine ⟨_, rfl, ?_⟩
                 have n0_ := Aside0.mk (Kd.R_below (by (with_reducible repeat (first | apply Kd.R_alloc | apply Kd.R_drewN | apply Kd.R_drew)); exact HO_12.out) hb)
                 have n1_ := Aside0.mk (Kd.Q_below (by (with_reducible repeat (first | apply Kd.Q_alloc | apply Kd.Q_drewN | apply Kd.Q_drew)); exact HO_318004.out) hb)
                 have n2_ := Aside0.mk (Kd.Q_below (by (with_reducible repeat (first | apply Kd.Q_alloc | apply Kd.Q_drewN | apply Kd.Q_drew)); exact HO_343004.out) hb)
                 have n3_ := Aside0.mk (blk_below (g := gb317) (o := .cells #[.int .i64 t333, .int .i64 t334, .int .i64 t335, .int .i64 t336, .slice Ao82 t337.length co82] 24 (0, 0)) (by (with_reducible repeat (first | refine blk_drewN ?_ _ | refine blk_drew ?_ | refine blk_alloc ?_ _)); exact BK317.out) hb)
                 have n4_ := Aside0.mk (blk_below (g := gb342) (o := .cells #[.int .i64 t333, .int .i64 t334, .int .i64 t335, .int .i64 t336, .slice Ao82 t337.length co82] 24 (0, 0)) (by (with_reducible repeat (first | refine blk_drewN ?_ _ | refine blk_drew ?_ | refine blk_alloc ?_ _)); exact BK342.out) hb)
                 have n5_ := Aside0.mk (below_step (by repeat (first | (with_reducible first | exact HB.out | apply below_alloc | apply pw_below_drewN | apply below_drew1 | refine below_set ?_ GE317.out | refine below_set ?_ GE342.out) | exact HB.out)) hb)
                 clear HO_12
                 clear HO_318004
                 clear HO_343004
                 clear BK317
                 clear BK342
                 clear HB
                 have HO_12 := n0_
                 have HO_318004 := n1_
                 have HO_343004 := n2_
                 have BK317 := n3_
                 have BK342 := n4_
                 have HB := n5_
                 clear n0_ n1_ n2_ n3_ n4_ n5_
                 (try clear hb)
                 (try clear hb2)
                 (try clear hk)
                 (try clear hi)
                 refine hK.out _ _ ⟨(blk_cell BK317.out 0).trans rfl, (blk_cell BK317.out 1).trans rfl, (blk_cell BK317.out 2).trans rfl, (blk_cell BK317.out 3).trans rfl, (blk_cell BK317.out 4).trans rfl⟩ (fun hHeld => ?_)
                 clear hK K
                 refine norm_ (a' := ?_) ?_ ?_
                 rotate_left
                 ·show Act.put _ (some 137) _ = _
                  simp only [Act.put, List.setIfInBounds_toArray, List.set_cons_zero, List.set_cons_succ, i64_w, i32_w]
                  rfl
                 refine pure_ (i := 14) (N := some 141) (v := ?_) (a' := ?_) #[true, true, true, true, true, true, true, true, true, true, true, true, true, true, true, false] rfl rfl (any_of HT_.out (by kernel_rfl)) (fun _ _ _ h => h) (Or.inl ⟨by rfl, ?_⟩) ?_ ?_
                 rotate_left
                 ·intro w'
                  go_simp
                  with_reducible rfl
                 rotate_left
                 ·simp only [Act.put, List.setIfInBounds_toArray, List.set_cons_zero, List.set_cons_succ, i64_w, i32_w]
                  rfl
                 refine pure_ (i := 15) (N := some 142) (v := ?_) (a' := ?_) #[true, true, true, true, true, true, true, true, true, true, true, true, true, true, true, true] rfl rfl (any_of HT_.out (by kernel_rfl)) (fun _ _ _ h => h) (Or.inl ⟨by rfl, ?_⟩) ?_ ?_
                 rotate_left
                 ·intro w'
                  go_simp
                  with_reducible rfl
                 rotate_left
                 ·simp only [Act.put, List.setIfInBounds_toArray, List.set_cons_zero, List.set_cons_succ, i64_w, i32_w]
                  rfl
                 refine done_ (done_of HT_.out (by kernel_rfl)) ?_
                 try go_wp2
                 go_ret
                 exact ⟨by first | rfl | (simp [errW_none, errW_some] <;> rfl) | (simp [*, errW_none, errW_some] <;> rfl), by repeat (first | (with_reducible first | exact HB.out | apply below_alloc | apply pw_below_drewN | apply below_drew1 | refine below_set ?_ GE317.out | refine below_set ?_ GE342.out) | exact HB.out)⟩
            ·rw [if_neg c74] at H
             have c74b0 : (t341 == 0) = false := beq_eq_false_iff_ne.mpr c74
             have c74b1 : (t341 != 0) = true := bne_iff_ne.mpr c74
             by_cases c99 : t341 = 21
             ·rw [if_pos c99] at H
              have c99b0 : (t341 == 21) = true := beq_iff_eq.mpr c99
              have c99b1 : (t341 != 21) = false := bne_eq_false_iff_eq.mpr c99
              clear c99
              by_cases c100 : (wrap64 ((Int.tmod (wrap64 (Int.tdiv (wrap64 ((rd l2 x40_2))) 12)) 20) + 1)) ≤ (wrap64 (x318001_3 * x318000_3))
              ·rw [if_pos c100] at H
               have c100b0 : decide ((wrap64 ((Int.tmod (wrap64 (Int.tdiv (wrap64 ((rd l2 x40_2))) 12)) 20) + 1)) ≤ (wrap64 (x318001_3 * x318000_3))) = true := decide_eq_true c100
               clear c100
               obtain rfl := Option.some.inj H
               have hcz101_0 : wr.cell? ⟨gb317, 0, none⟩ = some (.int .i64 x318000_3) := (blk_cell BK317.out 0).trans rfl
               have hcz101_1 : wr.cell? ⟨gb317, 1, none⟩ = some (.int .i64 x318001_3) := (blk_cell BK317.out 1).trans rfl
               have hcz101_2 : wr.cell? ⟨gb317, 2, none⟩ = some (.int .i64 x318002_3) := (blk_cell BK317.out 2).trans rfl
               have hcz101_3 : wr.cell? ⟨gb317, 3, none⟩ = some (.int .i64 x318003_3) := (blk_cell BK317.out 3).trans rfl
               have hcz101_4 : wr.cell? ⟨gb317, 4, none⟩ = some (u318004) := (blk_cell BK317.out 4).trans rfl
               have hfz101_0 := blk_frozen BK317.out 0
               have hfz101_1 := blk_frozen BK317.out 1
               have hfz101_2 := blk_frozen BK317.out 2
               have hfz101_3 := blk_frozen BK317.out 3
               have hfz101_4 := blk_frozen BK317.out 4
               obtain ⟨Ao102, co102, eo102, _⟩ := Kd.Q_slice HO_318004.out
               subst eo102
               go_wp2_with (first | ((with_reducible refine gate_callee (f := 16) rfl ?_); refine goesL_ (some 98) rfl rfl Try.func16 (by kernel_rfl) rfl #[.agg #[.int .i64 x318000_3, .int .i64 x318001_3, .int .i64 x318002_3, .int .i64 x318003_3, .slice Ao102 x318004_3.length co102], .int .i64 x9_3, .int .i64 (wrap64 ((Int.tmod (wrap64 (Int.tdiv (wrap64 ((rd l2 x40_2))) 12)) 20) + 1))] rfl (by (try simp only [List.map_toArray, List.map_cons, List.map_nil]); first | done | rfl | (simp only [List.length_drop, List.length_take]; rfl)) ?_; (with_reducible refine (throttle_Write.calls k3 x318000_3 x318001_3 x318002_3 x318003_3 _ _ x318004_3 x9_3 (wrap64 ((Int.tmod (wrap64 (Int.tdiv (wrap64 ((rd l2 x40_2))) 12)) 20) + 1)) t333 t334 t335 t336 t337 t340 t341 _ ?side1 ?side2 A73.out).mono ?_); (case side1 => repeat (first | exact (Kd.Q_reads' HO_318004.out).2.2 | (with_reducible refine Kd.C_alloc ?_ _) | (with_reducible refine Kd.C_drewN ?_ _) | (with_reducible refine Kd.C_drew ?_))); (case side2 => exact (Kd.Q_reads' HO_318004.out).2.1); rintro e w103 ⟨v338, rfl, ho0, hb⟩; refine ⟨_, rfl, ?_⟩; have n0_ := Aside0.mk (Kd.R_below (by (with_reducible repeat (first | apply Kd.R_alloc | apply Kd.R_drewN | apply Kd.R_drew)); exact HO_12.out) hb); have n1_ := Aside0.mk (Kd.Q_elder' (by (with_reducible repeat (first | apply Kd.Q_alloc | apply Kd.Q_drewN | apply Kd.Q_drew)); exact HO_318004.out) (Kd.Q_base ho0) hb); have n2_ := Aside0.mk (Kd.Q_lower (Kd.Q_new' ho0 (Kd.Q_lt (by (with_reducible repeat (first | apply Kd.Q_alloc | apply Kd.Q_drewN | apply Kd.Q_drew)); exact HO_318004.out))) (below_size (by repeat (first | (with_reducible first | exact HB.out | apply below_alloc | apply pw_below_drewN | apply below_drew1 | refine below_set ?_ GE317.out) | exact HB.out)))); have n3_ := Aside0.mk (blk_below (g := gb317) (o := .cells #[.int .i64 x318000_3, .int .i64 x318001_3, .int .i64 x318002_3, .int .i64 x318003_3, .slice Ao102 x318004_3.length co102] 24 (0, 0)) (by (with_reducible repeat (first | refine blk_drewN ?_ _ | refine blk_drew ?_ | refine blk_alloc ?_ _)); exact BK317.out) hb); have n4_ := Aside0.mk (below_step (by repeat (first | (with_reducible first | exact HB.out | apply below_alloc | apply pw_below_drewN | apply below_drew1 | refine below_set ?_ GE317.out) | exact HB.out)) hb); clear HO_12; clear HO_318004; clear BK317; clear HB; have HO_12 := n0_; have HO_318004 := n1_; have HO339 := n2_; have BK317 := n3_; have HB := n4_; clear n0_ n1_ n2_ n3_ n4_; (try clear hb); (try clear hb2); (try clear hk); (try clear hi); (try clear ho0)) | ((with_reducible refine gate_dst (N := 18) rfl ?_); refine box_event ?hg (N := 18) ?hd (cs := #[.int .i64 0, .int .i64 0, .int .i64 0, .int .i64 0, .slice none 0 0]) (t := 24) ?hr ?_; (case hd => rfl); (case hg => rfl); (case hr => first | (go_simp; done) | (go_simp; rfl)); intro gb342 hg w104 hbox hb; have n0_ := Aside0.mk (Kd.R_below (by (with_reducible repeat (first | apply Kd.R_alloc | apply Kd.R_drewN | apply Kd.R_drew)); exact HO_12.out) hb); have n1_ := Aside0.mk (Kd.Q_below (by (with_reducible repeat (first | apply Kd.Q_alloc | apply Kd.Q_drewN | apply Kd.Q_drew)); exact HO_318004.out) hb); have n2_ := Aside0.mk (Kd.Q_below (by (with_reducible repeat (first | apply Kd.Q_alloc | apply Kd.Q_drewN | apply Kd.Q_drew)); exact HO339.out) hb); have n3_ := Aside0.mk (blk_below (g := gb317) (o := .cells #[.int .i64 x318000_3, .int .i64 x318001_3, .int .i64 x318002_3, .int .i64 x318003_3, .slice Ao102 x318004_3.length co102] 24 (0, 0)) (by (with_reducible repeat (first | refine blk_drewN ?_ _ | refine blk_drew ?_ | refine blk_alloc ?_ _)); exact BK317.out) hb); have n4_ := Aside0.mk (below_step (by repeat (first | (with_reducible first | exact HB.out | apply below_alloc | apply pw_below_drewN | apply below_drew1 | refine below_set ?_ GE317.out) | exact HB.out)) hb); have n5_ := Aside0.mk (hbox); have n6_ := Aside0.mk ((by rw [hg]; exact (below_size (by repeat (first | (with_reducible first | exact HB.out | apply below_alloc | apply pw_below_drewN | apply below_drew1 | refine below_set ?_ GE317.out) | exact HB.out))) : w.heap.size ≤ gb342)); have n7_ := Aside0.mk ((by rw [hg]; exact (below_size (by repeat (first | (with_reducible first | exact HB.out | apply below_alloc | apply pw_below_drewN | apply below_drew1 | refine below_set ?_ GE317.out) | exact HB.out))) : w.heap.size ≤ gb342)); have n8_ := Aside0.mk ((by rw [hg]; exact Nat.ne_of_lt (blk_lt (g := gb317) (o := .cells #[.int .i64 x318000_3, .int .i64 x318001_3, .int .i64 x318002_3, .int .i64 x318003_3, .slice Ao102 x318004_3.length co102] 24 (0, 0)) (by (with_reducible repeat (first | refine blk_drewN ?_ _ | refine blk_drew ?_ | refine blk_alloc ?_ _)); exact BK317.out)) : gb317 ≠ gb342)); have n9_ := Aside0.mk ((by rw [hg]; exact Nat.ne_of_gt (blk_lt (g := gb317) (o := .cells #[.int .i64 x318000_3, .int .i64 x318001_3, .int .i64 x318002_3, .int .i64 x318003_3, .slice Ao102 x318004_3.length co102] 24 (0, 0)) (by (with_reducible repeat (first | refine blk_drewN ?_ _ | refine blk_drew ?_ | refine blk_alloc ?_ _)); exact BK317.out)) : gb342 ≠ gb317)); clear HO_12; clear HO_318004; clear HO339; clear BK317; clear HB; have HO_12 := n0_; have HO_318004 := n1_; have HO339 := n2_; have BK317 := n3_; have HB := n4_; have BK342 := n5_; have GW342 := n6_; have GE342 := n7_; have NB317_342 := n8_; have NB342_317 := n9_; clear n0_ n1_ n2_ n3_ n4_ n5_ n6_ n7_ n8_ n9_; clear hb hbox hg; have hnb105 := NB342_317.out; have hnc105 := NB317_342.out; have hcz106_0 : w104.cell? ⟨gb342, 0, none⟩ = some (.int .i64 0) := (blk_cell BK342.out 0).trans rfl; have hcz106_1 : w104.cell? ⟨gb342, 1, none⟩ = some (.int .i64 0) := (blk_cell BK342.out 1).trans rfl; have hcz106_2 : w104.cell? ⟨gb342, 2, none⟩ = some (.int .i64 0) := (blk_cell BK342.out 2).trans rfl; have hcz106_3 : w104.cell? ⟨gb342, 3, none⟩ = some (.int .i64 0) := (blk_cell BK342.out 3).trans rfl; have hcz106_4 : w104.cell? ⟨gb342, 4, none⟩ = some (.slice none 0 0) := (blk_cell BK342.out 4).trans rfl; have hfz106_0 := blk_frozen BK342.out 0; have hfz106_1 := blk_frozen BK342.out 1; have hfz106_2 := blk_frozen BK342.out 2; have hfz106_3 := blk_frozen BK342.out 3; have hfz106_4 := blk_frozen BK342.out 4; obtain ⟨Ao107, co107, eo107, _⟩ := Kd.Q_slice HO339.out; subst eo107; have hcz108_0 : w104.cell? ⟨gb317, 0, none⟩ = some (.int .i64 x318000_3) := (blk_cell BK317.out 0).trans rfl; have hcz108_1 : w104.cell? ⟨gb317, 1, none⟩ = some (.int .i64 x318001_3) := (blk_cell BK317.out 1).trans rfl; have hcz108_2 : w104.cell? ⟨gb317, 2, none⟩ = some (.int .i64 x318002_3) := (blk_cell BK317.out 2).trans rfl; have hcz108_3 : w104.cell? ⟨gb317, 3, none⟩ = some (.int .i64 x318003_3) := (blk_cell BK317.out 3).trans rfl; have hcz108_4 : w104.cell? ⟨gb317, 4, none⟩ = some (.slice Ao102 x318004_3.length co102) := (blk_cell BK317.out 4).trans rfl; have hfz108_0 := blk_frozen BK317.out 0; have hfz108_1 := blk_frozen BK317.out 1; have hfz108_2 := blk_frozen BK317.out 2; have hfz108_3 := blk_frozen BK317.out 3; have hfz108_4 := blk_frozen BK317.out 4))
               go_ret
               exact ⟨by first | rfl | (simp [errW_none, errW_some] <;> rfl) | (simp [*, errW_none, errW_some] <;> rfl), by repeat (first | (with_reducible first | exact HB.out | apply below_alloc | apply pw_below_drewN | apply below_drew1 | refine below_set ?_ GE317.out | refine below_set ?_ GE342.out) | exact HB.out)⟩
              ·rw [if_neg c100] at H
               have c100b0 : decide ((wrap64 ((Int.tmod (wrap64 (Int.tdiv (wrap64 ((rd l2 x40_2))) 12)) 20) + 1)) ≤ (wrap64 (x318001_3 * x318000_3))) = false := decide_eq_false c100
               clear c100
               have H' := Aside0.mk H
               clear H
               have hcz109_0 : wr.cell? ⟨gb317, 0, none⟩ = some (.int .i64 x318000_3) := (blk_cell BK317.out 0).trans rfl
               have hcz109_1 : wr.cell? ⟨gb317, 1, none⟩ = some (.int .i64 x318001_3) := (blk_cell BK317.out 1).trans rfl
               have hcz109_2 : wr.cell? ⟨gb317, 2, none⟩ = some (.int .i64 x318002_3) := (blk_cell BK317.out 2).trans rfl
               have hcz109_3 : wr.cell? ⟨gb317, 3, none⟩ = some (.int .i64 x318003_3) := (blk_cell BK317.out 3).trans rfl
               have hcz109_4 : wr.cell? ⟨gb317, 4, none⟩ = some (u318004) := (blk_cell BK317.out 4).trans rfl
               have hfz109_0 := blk_frozen BK317.out 0
               have hfz109_1 := blk_frozen BK317.out 1
               have hfz109_2 := blk_frozen BK317.out 2
               have hfz109_3 := blk_frozen BK317.out 3
               have hfz109_4 := blk_frozen BK317.out 4
               obtain ⟨Ao110, co110, eo110, _⟩ := Kd.Q_slice HO_318004.out
               subst eo110
               go_wp2_with (first | ((with_reducible refine gate_callee (f := 16) rfl ?_); refine goesL_ (some 98) rfl rfl Try.func16 (by kernel_rfl) rfl #[.agg #[.int .i64 x318000_3, .int .i64 x318001_3, .int .i64 x318002_3, .int .i64 x318003_3, .slice Ao110 x318004_3.length co110], .int .i64 x9_3, .int .i64 (wrap64 ((Int.tmod (wrap64 (Int.tdiv (wrap64 ((rd l2 x40_2))) 12)) 20) + 1))] rfl (by (try simp only [List.map_toArray, List.map_cons, List.map_nil]); first | done | rfl | (simp only [List.length_drop, List.length_take]; rfl)) ?_; (with_reducible refine (throttle_Write.calls k3 x318000_3 x318001_3 x318002_3 x318003_3 _ _ x318004_3 x9_3 (wrap64 ((Int.tmod (wrap64 (Int.tdiv (wrap64 ((rd l2 x40_2))) 12)) 20) + 1)) t333 t334 t335 t336 t337 t340 t341 _ ?side1 ?side2 A73.out).mono ?_); (case side1 => repeat (first | exact (Kd.Q_reads' HO_318004.out).2.2 | (with_reducible refine Kd.C_alloc ?_ _) | (with_reducible refine Kd.C_drewN ?_ _) | (with_reducible refine Kd.C_drew ?_))); (case side2 => exact (Kd.Q_reads' HO_318004.out).2.1); rintro e w111 ⟨v338, rfl, ho0, hb⟩; refine ⟨_, rfl, ?_⟩; have n0_ := Aside0.mk (Kd.R_below (by (with_reducible repeat (first | apply Kd.R_alloc | apply Kd.R_drewN | apply Kd.R_drew)); exact HO_12.out) hb); have n1_ := Aside0.mk (Kd.Q_elder' (by (with_reducible repeat (first | apply Kd.Q_alloc | apply Kd.Q_drewN | apply Kd.Q_drew)); exact HO_318004.out) (Kd.Q_base ho0) hb); have n2_ := Aside0.mk (Kd.Q_lower (Kd.Q_new' ho0 (Kd.Q_lt (by (with_reducible repeat (first | apply Kd.Q_alloc | apply Kd.Q_drewN | apply Kd.Q_drew)); exact HO_318004.out))) (below_size (by repeat (first | (with_reducible first | exact HB.out | apply below_alloc | apply pw_below_drewN | apply below_drew1 | refine below_set ?_ GE317.out) | exact HB.out)))); have n3_ := Aside0.mk (blk_below (g := gb317) (o := .cells #[.int .i64 x318000_3, .int .i64 x318001_3, .int .i64 x318002_3, .int .i64 x318003_3, .slice Ao110 x318004_3.length co110] 24 (0, 0)) (by (with_reducible repeat (first | refine blk_drewN ?_ _ | refine blk_drew ?_ | refine blk_alloc ?_ _)); exact BK317.out) hb); have n4_ := Aside0.mk (below_step (by repeat (first | (with_reducible first | exact HB.out | apply below_alloc | apply pw_below_drewN | apply below_drew1 | refine below_set ?_ GE317.out) | exact HB.out)) hb); clear HO_12; clear HO_318004; clear BK317; clear HB; have HO_12 := n0_; have HO_318004 := n1_; have HO339 := n2_; have BK317 := n3_; have HB := n4_; clear n0_ n1_ n2_ n3_ n4_; (try clear hb); (try clear hb2); (try clear hk); (try clear hi); (try clear ho0)) | ((with_reducible refine gate_dst (N := 18) rfl ?_); refine box_event ?hg (N := 18) ?hd (cs := #[.int .i64 0, .int .i64 0, .int .i64 0, .int .i64 0, .slice none 0 0]) (t := 24) ?hr ?_; (case hd => rfl); (case hg => rfl); (case hr => first | (go_simp; done) | (go_simp; rfl)); intro gb342 hg w112 hbox hb; have n0_ := Aside0.mk (Kd.R_below (by (with_reducible repeat (first | apply Kd.R_alloc | apply Kd.R_drewN | apply Kd.R_drew)); exact HO_12.out) hb); have n1_ := Aside0.mk (Kd.Q_below (by (with_reducible repeat (first | apply Kd.Q_alloc | apply Kd.Q_drewN | apply Kd.Q_drew)); exact HO_318004.out) hb); have n2_ := Aside0.mk (Kd.Q_below (by (with_reducible repeat (first | apply Kd.Q_alloc | apply Kd.Q_drewN | apply Kd.Q_drew)); exact HO339.out) hb); have n3_ := Aside0.mk (blk_below (g := gb317) (o := .cells #[.int .i64 x318000_3, .int .i64 x318001_3, .int .i64 x318002_3, .int .i64 x318003_3, .slice Ao110 x318004_3.length co110] 24 (0, 0)) (by (with_reducible repeat (first | refine blk_drewN ?_ _ | refine blk_drew ?_ | refine blk_alloc ?_ _)); exact BK317.out) hb); have n4_ := Aside0.mk (below_step (by repeat (first | (with_reducible first | exact HB.out | apply below_alloc | apply pw_below_drewN | apply below_drew1 | refine below_set ?_ GE317.out) | exact HB.out)) hb); have n5_ := Aside0.mk (hbox); have n6_ := Aside0.mk ((by rw [hg]; exact (below_size (by repeat (first | (with_reducible first | exact HB.out | apply below_alloc | apply pw_below_drewN | apply below_drew1 | refine below_set ?_ GE317.out) | exact HB.out))) : w.heap.size ≤ gb342)); have n7_ := Aside0.mk ((by rw [hg]; exact (below_size (by repeat (first | (with_reducible first | exact HB.out | apply below_alloc | apply pw_below_drewN | apply below_drew1 | refine below_set ?_ GE317.out) | exact HB.out))) : w.heap.size ≤ gb342)); have n8_ := Aside0.mk ((by rw [hg]; exact Nat.ne_of_lt (blk_lt (g := gb317) (o := .cells #[.int .i64 x318000_3, .int .i64 x318001_3, .int .i64 x318002_3, .int .i64 x318003_3, .slice Ao110 x318004_3.length co110] 24 (0, 0)) (by (with_reducible repeat (first | refine blk_drewN ?_ _ | refine blk_drew ?_ | refine blk_alloc ?_ _)); exact BK317.out)) : gb317 ≠ gb342)); have n9_ := Aside0.mk ((by rw [hg]; exact Nat.ne_of_gt (blk_lt (g := gb317) (o := .cells #[.int .i64 x318000_3, .int .i64 x318001_3, .int .i64 x318002_3, .int .i64 x318003_3, .slice Ao110 x318004_3.length co110] 24 (0, 0)) (by (with_reducible repeat (first | refine blk_drewN ?_ _ | refine blk_drew ?_ | refine blk_alloc ?_ _)); exact BK317.out)) : gb342 ≠ gb317)); clear HO_12; clear HO_318004; clear HO339; clear BK317; clear HB; have HO_12 := n0_; have HO_318004 := n1_; have HO339 := n2_; have BK317 := n3_; have HB := n4_; have BK342 := n5_; have GW342 := n6_; have GE342 := n7_; have NB317_342 := n8_; have NB342_317 := n9_; clear n0_ n1_ n2_ n3_ n4_ n5_ n6_ n7_ n8_ n9_; clear hb hbox hg; have hnb113 := NB342_317.out; have hnc113 := NB317_342.out; have hcz114_0 : w112.cell? ⟨gb342, 0, none⟩ = some (.int .i64 0) := (blk_cell BK342.out 0).trans rfl; have hcz114_1 : w112.cell? ⟨gb342, 1, none⟩ = some (.int .i64 0) := (blk_cell BK342.out 1).trans rfl; have hcz114_2 : w112.cell? ⟨gb342, 2, none⟩ = some (.int .i64 0) := (blk_cell BK342.out 2).trans rfl; have hcz114_3 : w112.cell? ⟨gb342, 3, none⟩ = some (.int .i64 0) := (blk_cell BK342.out 3).trans rfl; have hcz114_4 : w112.cell? ⟨gb342, 4, none⟩ = some (.slice none 0 0) := (blk_cell BK342.out 4).trans rfl; have hfz114_0 := blk_frozen BK342.out 0; have hfz114_1 := blk_frozen BK342.out 1; have hfz114_2 := blk_frozen BK342.out 2; have hfz114_3 := blk_frozen BK342.out 3; have hfz114_4 := blk_frozen BK342.out 4; obtain ⟨Ao115, co115, eo115, _⟩ := Kd.Q_slice HO339.out; subst eo115; have hcz116_0 : w112.cell? ⟨gb317, 0, none⟩ = some (.int .i64 x318000_3) := (blk_cell BK317.out 0).trans rfl; have hcz116_1 : w112.cell? ⟨gb317, 1, none⟩ = some (.int .i64 x318001_3) := (blk_cell BK317.out 1).trans rfl; have hcz116_2 : w112.cell? ⟨gb317, 2, none⟩ = some (.int .i64 x318002_3) := (blk_cell BK317.out 2).trans rfl; have hcz116_3 : w112.cell? ⟨gb317, 3, none⟩ = some (.int .i64 x318003_3) := (blk_cell BK317.out 3).trans rfl; have hcz116_4 : w112.cell? ⟨gb317, 4, none⟩ = some (.slice Ao110 x318004_3.length co110) := (blk_cell BK317.out 4).trans rfl; have hfz116_0 := blk_frozen BK317.out 0; have hfz116_1 := blk_frozen BK317.out 1; have hfz116_2 := blk_frozen BK317.out 2; have hfz116_3 := blk_frozen BK317.out 3; have hfz116_4 := blk_frozen BK317.out 4))
               go_roundg k3
               case measure => have := HJ4.out; have := HK2.out; have := HK3.out; omega
               case rel => exact ⟨(x9_3), (x10_2), (x11_3), (x12_2), (wrap64 (x40_2 + 1)), (x318000_3), (x318001_3), (x318002_3), (x318003_3), (x318004_3), (.slice Ao110 x318004_3.length co110), (by first | rfl | (simp; done) | (simp [*]; done)), (by first | rfl | (simp; done) | (simp [*]; done)), (by first | rfl | (simp; done) | (simp [*]; done)), (by first | rfl | (simp; done) | (simp [*]; done)), H', ⟨by have := HJ4.out; have := HK2.out; have := HK3.out; omega⟩, ⟨by (with_reducible repeat (first | apply Kd.R_alloc | apply Kd.R_drewN | apply Kd.R_drew)); exact Kd.R_mono (Kd.R_far (p := ⟨gb342, 4, none⟩) (Kd.R_far (p := ⟨gb342, 3, none⟩) (Kd.R_far (p := ⟨gb342, 2, none⟩) (Kd.R_far (p := ⟨gb342, 1, none⟩) (Kd.R_far (p := ⟨gb342, 0, none⟩) (Kd.R_types HO_12.out BK342.out (by decide)) (fun _ hk => hk.2) (.int .i64 t333)) (fun _ hk => hk.2) (.int .i64 t334)) (fun _ hk => hk.2) (.int .i64 t335)) (fun _ hk => hk.2) (.int .i64 t336)) (fun _ hk => hk.2) (.slice Ao115 t337.length co115)) (fun _ hk => trivial)⟩, ⟨by (with_reducible repeat (first | apply Kd.Q_alloc | apply Kd.Q_drewN | apply Kd.Q_drew)); exact Kd.Q_mono (Kd.Q_far (p := ⟨gb342, 4, none⟩) (Kd.Q_far (p := ⟨gb342, 3, none⟩) (Kd.Q_far (p := ⟨gb342, 2, none⟩) (Kd.Q_far (p := ⟨gb342, 1, none⟩) (Kd.Q_far (p := ⟨gb342, 0, none⟩) (Kd.Q_types HO_318004.out BK342.out (by decide)) (fun _ hk => hk.2) (.int .i64 t333)) (fun _ hk => hk.2) (.int .i64 t334)) (fun _ hk => hk.2) (.int .i64 t335)) (fun _ hk => hk.2) (.int .i64 t336)) (fun _ hk => hk.2) (.slice Ao115 t337.length co115)) (fun _ hk => trivial)⟩, ⟨by (with_reducible repeat (first | refine blk_drewN ?_ _ | refine blk_drew ?_ | refine blk_alloc ?_ _)); refine blk_far ?_ NB317_342.out _; (with_reducible repeat (first | refine blk_drewN ?_ _ | refine blk_drew ?_ | refine blk_alloc ?_ _)); refine blk_far ?_ NB317_342.out _; (with_reducible repeat (first | refine blk_drewN ?_ _ | refine blk_drew ?_ | refine blk_alloc ?_ _)); refine blk_far ?_ NB317_342.out _; (with_reducible repeat (first | refine blk_drewN ?_ _ | refine blk_drew ?_ | refine blk_alloc ?_ _)); refine blk_far ?_ NB317_342.out _; (with_reducible repeat (first | refine blk_drewN ?_ _ | refine blk_drew ?_ | refine blk_alloc ?_ _)); refine blk_far ?_ NB317_342.out _; (with_reducible repeat (first | refine blk_drewN ?_ _ | refine blk_drew ?_ | refine blk_alloc ?_ _)); exact BK317.out⟩, ⟨by repeat (first | (with_reducible first | exact HB.out | apply below_alloc | apply pw_below_drewN | apply below_drew1 | refine below_set ?_ GE317.out | refine below_set ?_ GE342.out) | exact HB.out)⟩⟩
             ·rw [if_neg c99] at H
              have c99b0 : (t341 == 21) = false := beq_eq_false_iff_ne.mpr c99
              have c99b1 : (t341 != 21) = true := bne_iff_ne.mpr c99
              obtain rfl := Option.some.inj H
              have hcz117_0 : wr.cell? ⟨gb317, 0, none⟩ = some (.int .i64 x318000_3) := (blk_cell BK317.out 0).trans rfl
              have hcz117_1 : wr.cell? ⟨gb317, 1, none⟩ = some (.int .i64 x318001_3) := (blk_cell BK317.out 1).trans rfl
              have hcz117_2 : wr.cell? ⟨gb317, 2, none⟩ = some (.int .i64 x318002_3) := (blk_cell BK317.out 2).trans rfl
              have hcz117_3 : wr.cell? ⟨gb317, 3, none⟩ = some (.int .i64 x318003_3) := (blk_cell BK317.out 3).trans rfl
              have hcz117_4 : wr.cell? ⟨gb317, 4, none⟩ = some (u318004) := (blk_cell BK317.out 4).trans rfl
              have hfz117_0 := blk_frozen BK317.out 0
              have hfz117_1 := blk_frozen BK317.out 1
              have hfz117_2 := blk_frozen BK317.out 2
              have hfz117_3 := blk_frozen BK317.out 3
              have hfz117_4 := blk_frozen BK317.out 4
              obtain ⟨Ao118, co118, eo118, _⟩ := Kd.Q_slice HO_318004.out
              subst eo118
              go_wp2_with (first | ((with_reducible refine gate_callee (f := 16) rfl ?_); refine goesL_ (some 98) rfl rfl Try.func16 (by kernel_rfl) rfl #[.agg #[.int .i64 x318000_3, .int .i64 x318001_3, .int .i64 x318002_3, .int .i64 x318003_3, .slice Ao118 x318004_3.length co118], .int .i64 x9_3, .int .i64 (wrap64 ((Int.tmod (wrap64 (Int.tdiv (wrap64 ((rd l2 x40_2))) 12)) 20) + 1))] rfl (by (try simp only [List.map_toArray, List.map_cons, List.map_nil]); first | done | rfl | (simp only [List.length_drop, List.length_take]; rfl)) ?_; (with_reducible refine (throttle_Write.calls k3 x318000_3 x318001_3 x318002_3 x318003_3 _ _ x318004_3 x9_3 (wrap64 ((Int.tmod (wrap64 (Int.tdiv (wrap64 ((rd l2 x40_2))) 12)) 20) + 1)) t333 t334 t335 t336 t337 t340 t341 _ ?side1 ?side2 A73.out).mono ?_); (case side1 => repeat (first | exact (Kd.Q_reads' HO_318004.out).2.2 | (with_reducible refine Kd.C_alloc ?_ _) | (with_reducible refine Kd.C_drewN ?_ _) | (with_reducible refine Kd.C_drew ?_))); (case side2 => exact (Kd.Q_reads' HO_318004.out).2.1); rintro e w119 ⟨v338, rfl, ho0, hb⟩; refine ⟨_, rfl, ?_⟩; have n0_ := Aside0.mk (Kd.R_below (by (with_reducible repeat (first | apply Kd.R_alloc | apply Kd.R_drewN | apply Kd.R_drew)); exact HO_12.out) hb); have n1_ := Aside0.mk (Kd.Q_elder' (by (with_reducible repeat (first | apply Kd.Q_alloc | apply Kd.Q_drewN | apply Kd.Q_drew)); exact HO_318004.out) (Kd.Q_base ho0) hb); have n2_ := Aside0.mk (Kd.Q_lower (Kd.Q_new' ho0 (Kd.Q_lt (by (with_reducible repeat (first | apply Kd.Q_alloc | apply Kd.Q_drewN | apply Kd.Q_drew)); exact HO_318004.out))) (below_size (by repeat (first | (with_reducible first | exact HB.out | apply below_alloc | apply pw_below_drewN | apply below_drew1 | refine below_set ?_ GE317.out) | exact HB.out)))); have n3_ := Aside0.mk (blk_below (g := gb317) (o := .cells #[.int .i64 x318000_3, .int .i64 x318001_3, .int .i64 x318002_3, .int .i64 x318003_3, .slice Ao118 x318004_3.length co118] 24 (0, 0)) (by (with_reducible repeat (first | refine blk_drewN ?_ _ | refine blk_drew ?_ | refine blk_alloc ?_ _)); exact BK317.out) hb); have n4_ := Aside0.mk (below_step (by repeat (first | (with_reducible first | exact HB.out | apply below_alloc | apply pw_below_drewN | apply below_drew1 | refine below_set ?_ GE317.out) | exact HB.out)) hb); clear HO_12; clear HO_318004; clear BK317; clear HB; have HO_12 := n0_; have HO_318004 := n1_; have HO339 := n2_; have BK317 := n3_; have HB := n4_; clear n0_ n1_ n2_ n3_ n4_; (try clear hb); (try clear hb2); (try clear hk); (try clear hi); (try clear ho0)) | ((with_reducible refine gate_dst (N := 18) rfl ?_); refine box_event ?hg (N := 18) ?hd (cs := #[.int .i64 0, .int .i64 0, .int .i64 0, .int .i64 0, .slice none 0 0]) (t := 24) ?hr ?_; (case hd => rfl); (case hg => rfl); (case hr => first | (go_simp; done) | (go_simp; rfl)); intro gb342 hg w120 hbox hb; have n0_ := Aside0.mk (Kd.R_below (by (with_reducible repeat (first | apply Kd.R_alloc | apply Kd.R_drewN | apply Kd.R_drew)); exact HO_12.out) hb); have n1_ := Aside0.mk (Kd.Q_below (by (with_reducible repeat (first | apply Kd.Q_alloc | apply Kd.Q_drewN | apply Kd.Q_drew)); exact HO_318004.out) hb); have n2_ := Aside0.mk (Kd.Q_below (by (with_reducible repeat (first | apply Kd.Q_alloc | apply Kd.Q_drewN | apply Kd.Q_drew)); exact HO339.out) hb); have n3_ := Aside0.mk (blk_below (g := gb317) (o := .cells #[.int .i64 x318000_3, .int .i64 x318001_3, .int .i64 x318002_3, .int .i64 x318003_3, .slice Ao118 x318004_3.length co118] 24 (0, 0)) (by (with_reducible repeat (first | refine blk_drewN ?_ _ | refine blk_drew ?_ | refine blk_alloc ?_ _)); exact BK317.out) hb); have n4_ := Aside0.mk (below_step (by repeat (first | (with_reducible first | exact HB.out | apply below_alloc | apply pw_below_drewN | apply below_drew1 | refine below_set ?_ GE317.out) | exact HB.out)) hb); have n5_ := Aside0.mk (hbox); have n6_ := Aside0.mk ((by rw [hg]; exact (below_size (by repeat (first | (with_reducible first | exact HB.out | apply below_alloc | apply pw_below_drewN | apply below_drew1 | refine below_set ?_ GE317.out) | exact HB.out))) : w.heap.size ≤ gb342)); have n7_ := Aside0.mk ((by rw [hg]; exact (below_size (by repeat (first | (with_reducible first | exact HB.out | apply below_alloc | apply pw_below_drewN | apply below_drew1 | refine below_set ?_ GE317.out) | exact HB.out))) : w.heap.size ≤ gb342)); have n8_ := Aside0.mk ((by rw [hg]; exact Nat.ne_of_lt (blk_lt (g := gb317) (o := .cells #[.int .i64 x318000_3, .int .i64 x318001_3, .int .i64 x318002_3, .int .i64 x318003_3, .slice Ao118 x318004_3.length co118] 24 (0, 0)) (by (with_reducible repeat (first | refine blk_drewN ?_ _ | refine blk_drew ?_ | refine blk_alloc ?_ _)); exact BK317.out)) : gb317 ≠ gb342)); have n9_ := Aside0.mk ((by rw [hg]; exact Nat.ne_of_gt (blk_lt (g := gb317) (o := .cells #[.int .i64 x318000_3, .int .i64 x318001_3, .int .i64 x318002_3, .int .i64 x318003_3, .slice Ao118 x318004_3.length co118] 24 (0, 0)) (by (with_reducible repeat (first | refine blk_drewN ?_ _ | refine blk_drew ?_ | refine blk_alloc ?_ _)); exact BK317.out)) : gb342 ≠ gb317)); clear HO_12; clear HO_318004; clear HO339; clear BK317; clear HB; have HO_12 := n0_; have HO_318004 := n1_; have HO339 := n2_; have BK317 := n3_; have HB := n4_; have BK342 := n5_; have GW342 := n6_; have GE342 := n7_; have NB317_342 := n8_; have NB342_317 := n9_; clear n0_ n1_ n2_ n3_ n4_ n5_ n6_ n7_ n8_ n9_; clear hb hbox hg; have hnb121 := NB342_317.out; have hnc121 := NB317_342.out; have hcz122_0 : w120.cell? ⟨gb342, 0, none⟩ = some (.int .i64 0) := (blk_cell BK342.out 0).trans rfl; have hcz122_1 : w120.cell? ⟨gb342, 1, none⟩ = some (.int .i64 0) := (blk_cell BK342.out 1).trans rfl; have hcz122_2 : w120.cell? ⟨gb342, 2, none⟩ = some (.int .i64 0) := (blk_cell BK342.out 2).trans rfl; have hcz122_3 : w120.cell? ⟨gb342, 3, none⟩ = some (.int .i64 0) := (blk_cell BK342.out 3).trans rfl; have hcz122_4 : w120.cell? ⟨gb342, 4, none⟩ = some (.slice none 0 0) := (blk_cell BK342.out 4).trans rfl; have hfz122_0 := blk_frozen BK342.out 0; have hfz122_1 := blk_frozen BK342.out 1; have hfz122_2 := blk_frozen BK342.out 2; have hfz122_3 := blk_frozen BK342.out 3; have hfz122_4 := blk_frozen BK342.out 4; obtain ⟨Ao123, co123, eo123, _⟩ := Kd.Q_slice HO339.out; subst eo123))
              go_ret
              exact ⟨by first | rfl | (simp [errW_none, errW_some] <;> rfl) | (simp [*, errW_none, errW_some] <;> rfl), by repeat (first | (with_reducible first | exact HB.out | apply below_alloc | apply pw_below_drewN | apply below_drew1 | refine below_set ?_ GE317.out | refine below_set ?_ GE342.out) | exact HB.out)⟩
        ·rw [if_neg c17] at H
         exact absurd H (by simp)
       ·rw [if_neg c16] at H
        exact absurd H (by simp)
      ·rw [if_neg c15] at H
       have c15b0 : decide (x40_2 < (l2.length : Int)) = false := decide_eq_false c15
       clear c15
       replace H := Option.bind_eq_some_iff.mp H
       obtain ⟨t319, A1240, H⟩ := H
       replace H : (some t319) = some r := H
       have A124 := Aside0.mk A1240
       clear A1240
       obtain rfl := Option.some.inj H
       go_wp2_with (first | ((with_reducible refine gate_callee (f := 10) rfl ?_); refine goesL_ (some 144) rfl rfl Try.func10 (by kernel_rfl) rfl #[] rfl (by (try simp only [List.map_toArray, List.map_cons, List.map_nil]); first | done | rfl | (simp only [List.length_drop, List.length_take]; rfl)) ?_; (with_reducible refine (standbylaw33_awake.calls k2  t319 _ A124.out).mono ?_); rintro e w125 ⟨rfl, hb⟩; refine ⟨_, rfl, ?_⟩; have n0_ := Aside0.mk (Kd.R_below (by (with_reducible repeat (first | apply Kd.R_alloc | apply Kd.R_drewN | apply Kd.R_drew)); exact HO_12.out) hb); have n1_ := Aside0.mk (Kd.Q_below (by (with_reducible repeat (first | apply Kd.Q_alloc | apply Kd.Q_drewN | apply Kd.Q_drew)); exact HO_318004.out) hb); have n2_ := Aside0.mk (blk_below (g := gb317) (o := .cells #[.int .i64 x318000_2, .int .i64 x318001_2, .int .i64 x318002_2, .int .i64 x318003_2, u318004] 24 (0, 0)) (by (with_reducible repeat (first | refine blk_drewN ?_ _ | refine blk_drew ?_ | refine blk_alloc ?_ _)); exact BK317.out) hb); have n3_ := Aside0.mk (below_step (by repeat (first | (with_reducible first | exact HB.out | apply below_alloc | apply pw_below_drewN | apply below_drew1 | refine below_set ?_ GE317.out) | exact HB.out)) hb); clear HO_12; clear HO_318004; clear BK317; clear HB; have HO_12 := n0_; have HO_318004 := n1_; have BK317 := n2_; have HB := n3_; clear n0_ n1_ n2_ n3_; (try clear hb); (try clear hb2); (try clear hk); (try clear hi)))
       go_ret
       exact ⟨by first | rfl | (simp [errW_none, errW_some] <;> rfl) | (simp [*, errW_none, errW_some] <;> rfl), by repeat (first | (with_reducible first | exact HB.out | apply below_alloc | apply pw_below_drewN | apply below_drew1 | refine below_set ?_ GE317.out) | exact HB.out)⟩

end Go.Proofs.Ytppniempndnghaa.PA
