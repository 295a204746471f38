-- Written by a program of this session (wip/tools) over the kit's print.
import Derived.Test.YtppniempndnghaaPAx0
import Derived.Test.YtppniempndnghaaPAx10
import Derived.Test.YtppniempndnghaaPAx11
import Derived.Test.YtppniempndnghaaPAx12
import Derived.Test.YtppniempndnghaaPAx13
import Derived.Test.YtppniempndnghaaPAy19
namespace Go.Proofs.Ytppniempndnghaa.PA
open Go.RowKit Go.Proofs.YtppniempndnghaaW.PrintWords Go.Proofs.YtppniempndnghaaW.PrintLast Go.Proofs.YtppniempndnghaaW.PrintMore
attribute [local go_sem] max2_int min2_int max_two min_two max_three min_three max_four min_four   -- for this text's walks alone
set_option linter.unusedVariables false
set_option linter.unusedSimpArgs false

/-! ### standbylaw33_ThrottleWaits: function 6 -/
mutual
def standbylaw33_ThrottleWaits.j0 : Nat → List Int → Bool → Bool → Int → Int → Int → Int → List (S71) → Option (Bool)
  | 0, _, _, _, _, _, _, _, _ => none
  | k + 1, x2, x8, x36, x357000, x357001, x357002, x357003, x357004 => if x36 = true then (if x8 = true then ((standbylaw33_awake.f k).bind fun t357 => (some t357)) else (some false)) else (standbylaw33_ThrottleWaits.l0 k 0 0 0 x2 (x2.length : Int) 0 x357000 x357001 x357002 x357003 x357004)
def standbylaw33_ThrottleWaits.l0 : Nat → Int → Int → Int → List Int → Int → Int → Int → Int → Int → Int → List (S71) → Option (Bool)
  | 0, _, _, _, _, _, _, _, _, _, _, _ => none
  | k + 1, x9, x10, x11, x41, x42, x43, x357000, x357001, x357002, x357003, x357004 => if x43 < x42 then (if 0 ≤ x43 then (if x43 < (x41.length : Int) then (if (wrap64 ((Int.tmod (wrap64 (rd x41 x43)) 30) + 1)) > (wrap64 (x357001 * x357000)) then (standbylaw33_ThrottleWaits.l0 k x9 x10 x11 x41 x42 (wrap64 (x43 + 1)) x357000 x357001 x357002 x357003 x357004) else ((throttle_Write.f k x357000 x357001 x357002 x357003 x357004 x9 (wrap64 ((Int.tmod (wrap64 (rd x41 x43)) 30) + 1))).bind fun bt360 => (if bt360.2.2.2.2.2.2 = 0 then (standbylaw33_ThrottleWaits.j2 k x9 x10 x11 (wrap64 ((Int.tmod (wrap64 (rd x41 x43)) 30) + 1)) bt360.2.2.2.2.2.1 x41 x42 x43 (decide (bt360.2.2.2.2.2.1 < 0)) bt360.1 bt360.2.1 bt360.2.2.1 bt360.2.2.2.1 bt360.2.2.2.2.1) else (standbylaw33_ThrottleWaits.j2 k x9 x10 x11 (wrap64 ((Int.tmod (wrap64 (rd x41 x43)) 30) + 1)) bt360.2.2.2.2.2.1 x41 x42 x43 true bt360.1 bt360.2.1 bt360.2.2.1 bt360.2.2.2.1 bt360.2.2.2.2.1)))) else (none)) else (none)) else ((standbylaw33_awake.f k).bind fun t358 => (some t358))
def standbylaw33_ThrottleWaits.j2 : Nat → Int → Int → Int → Int → Int → List Int → Int → Int → Bool → Int → Int → Int → Int → List (S71) → Option (Bool)
  | 0, _, _, _, _, _, _, _, _, _, _, _, _, _, _ => none
  | k + 1, x9, x10, x11, x14, x16, x41, x42, x43, x71, x370000, x370001, x370002, x370003, x370004 => if x71 = true then (some false) else (standbylaw33_ThrottleWaits.l1 k x9 x10 x11 x14 x16 x41 x42 x43 x370000 x370001 x370002 x370003 x370004)
def standbylaw33_ThrottleWaits.l1 : Nat → Int → Int → Int → Int → Int → List Int → Int → Int → Int → Int → Int → Int → List (S71) → Option (Bool)
  | 0, _, _, _, _, _, _, _, _, _, _, _, _, _ => none
  | k + 1, x9, x10, x11, x14, x18, x41, x42, x43, x357000, x357001, x357002, x357003, x357004 => if x18 > 0 then ((throttle_Progress.f k x357000 x357001 x357002 x357003 x357004 (wrap64 (x9 + 1)) (mn x10 (wrap64 (x11 + x357001)))).bind fun bt371 => ((throttle_Write.f k bt371.1 bt371.2.1 bt371.2.2.1 bt371.2.2.2.1 bt371.2.2.2.2.1 (wrap64 (x9 + 1)) x14).bind fun bt380 => (if bt371.2.2.2.2.2 = 0 then (if bt380.2.2.2.2.2.2 = 0 then (standbylaw33_ThrottleWaits.j4 k (wrap64 (x9 + 1)) x10 (mn x10 (wrap64 (x11 + x357001))) x14 x18 bt380.2.2.2.2.2.1 x41 x42 x43 (bt380.2.2.2.2.2.1 != (wrap64 (x18 - 1))) bt371.1 bt371.2.1 bt371.2.2.1 bt371.2.2.2.1 bt371.2.2.2.2.1 bt380.1 bt380.2.1 bt380.2.2.1 bt380.2.2.2.1 bt380.2.2.2.2.1) else (standbylaw33_ThrottleWaits.j4 k (wrap64 (x9 + 1)) x10 (mn x10 (wrap64 (x11 + x357001))) x14 x18 bt380.2.2.2.2.2.1 x41 x42 x43 true bt371.1 bt371.2.1 bt371.2.2.1 bt371.2.2.2.1 bt371.2.2.2.2.1 bt380.1 bt380.2.1 bt380.2.2.1 bt380.2.2.2.1 bt380.2.2.2.2.1)) else (standbylaw33_ThrottleWaits.j4 k (wrap64 (x9 + 1)) x10 (mn x10 (wrap64 (x11 + x357001))) x14 x18 bt380.2.2.2.2.2.1 x41 x42 x43 true bt371.1 bt371.2.1 bt371.2.2.1 bt371.2.2.2.1 bt371.2.2.2.2.1 bt380.1 bt380.2.1 bt380.2.2.1 bt380.2.2.2.1 bt380.2.2.2.2.1)))) else ((throttle_Backlog.f k x357000 x357001 x357002 x357003 x357004).bind fun t370 => (if t370 = (wrap64 ((wrap64 (x10 + x14)) - x11)) then (standbylaw33_ThrottleWaits.l0 k x9 (wrap64 (x10 + x14)) x11 x41 x42 (wrap64 (x43 + 1)) x357000 x357001 x357002 x357003 x357004) else (some false)))
def standbylaw33_ThrottleWaits.j4 : Nat → Int → Int → Int → Int → Int → Int → List Int → Int → Int → Bool → Int → Int → Int → Int → List (S71) → Int → Int → Int → Int → List (S71) → Option (Bool)
  | 0, _, _, _, _, _, _, _, _, _, _, _, _, _, _, _, _, _, _, _, _ => none
  | k + 1, x9, x10, x11, x14, x18, x22, x41, x42, x43, x112, x380000, x380001, x380002, x380003, x380004, x390000, x390001, x390002, x390003, x390004 => if x112 = true then (some false) else (if x22 = 0 then (standbylaw33_ThrottleWaits.l1 k x9 x10 x11 x14 (wrap64 (x18 - 1)) x41 x42 x43 x390000 x390001 x390002 x390003 x390004) else (standbylaw33_ThrottleWaits.l1 k x9 x10 x11 x14 (wrap64 (x18 - 1)) x41 x42 x43 x380000 x380001 x380002 x380003 x380004))
end
def standbylaw33_ThrottleWaits.f (k : Nat) (a0 : Int) (a1 : Int) (l2 : List Int) : Option (Bool) := (standbylaw33_begin.f a0 a1).bind fun bt348 => (if (l2.length : Int) > 40 then (standbylaw33_ThrottleWaits.j0 k l2 bt348.2.2.2.2.2 true bt348.1 bt348.2.1 bt348.2.2.1 bt348.2.2.2.1 bt348.2.2.2.2.1) else (standbylaw33_ThrottleWaits.j0 k l2 bt348.2.2.2.2.2 (!bt348.2.2.2.2.2) bt348.1 bt348.2.1 bt348.2.2.1 bt348.2.2.2.1 bt348.2.2.2.2.1))
theorem standbylaw33_ThrottleWaits.mono_l : ∀ k, (∀ y0 y1 y2 y3 y4 y5 y6 y7, LeO (standbylaw33_ThrottleWaits.j0 k y0 y1 y2 y3 y4 y5 y6 y7) (standbylaw33_ThrottleWaits.j0 (k + 1) y0 y1 y2 y3 y4 y5 y6 y7)) ∧ (∀ y0 y1 y2 y3 y4 y5 y6 y7 y8 y9 y10, LeO (standbylaw33_ThrottleWaits.l0 k y0 y1 y2 y3 y4 y5 y6 y7 y8 y9 y10) (standbylaw33_ThrottleWaits.l0 (k + 1) y0 y1 y2 y3 y4 y5 y6 y7 y8 y9 y10)) ∧ (∀ y0 y1 y2 y3 y4 y5 y6 y7 y8 y9 y10 y11 y12 y13, LeO (standbylaw33_ThrottleWaits.j2 k y0 y1 y2 y3 y4 y5 y6 y7 y8 y9 y10 y11 y12 y13) (standbylaw33_ThrottleWaits.j2 (k + 1) y0 y1 y2 y3 y4 y5 y6 y7 y8 y9 y10 y11 y12 y13)) ∧ (∀ y0 y1 y2 y3 y4 y5 y6 y7 y8 y9 y10 y11 y12, LeO (standbylaw33_ThrottleWaits.l1 k y0 y1 y2 y3 y4 y5 y6 y7 y8 y9 y10 y11 y12) (standbylaw33_ThrottleWaits.l1 (k + 1) y0 y1 y2 y3 y4 y5 y6 y7 y8 y9 y10 y11 y12)) ∧ (∀ y0 y1 y2 y3 y4 y5 y6 y7 y8 y9 y10 y11 y12 y13 y14 y15 y16 y17 y18 y19, LeO (standbylaw33_ThrottleWaits.j4 k y0 y1 y2 y3 y4 y5 y6 y7 y8 y9 y10 y11 y12 y13 y14 y15 y16 y17 y18 y19) (standbylaw33_ThrottleWaits.j4 (k + 1) y0 y1 y2 y3 y4 y5 y6 y7 y8 y9 y10 y11 y12 y13 y14 y15 y16 y17 y18 y19))
  | 0 => ⟨fun _ _ _ _ _ _ _ _ r h => by simp [standbylaw33_ThrottleWaits.j0] at h, fun _ _ _ _ _ _ _ _ _ _ _ r h => by simp [standbylaw33_ThrottleWaits.l0] at h, fun _ _ _ _ _ _ _ _ _ _ _ _ _ _ r h => by simp [standbylaw33_ThrottleWaits.j2] at h, fun _ _ _ _ _ _ _ _ _ _ _ _ _ r h => by simp [standbylaw33_ThrottleWaits.l1] at h, fun _ _ _ _ _ _ _ _ _ _ _ _ _ _ _ _ _ _ _ _ r h => by simp [standbylaw33_ThrottleWaits.j4] at h⟩
  | k + 1 => by
    obtain ⟨ih0, ih1, ih2, ih3, ih4⟩ := standbylaw33_ThrottleWaits.mono_l k
    refine ⟨?_, ?_, ?_, ?_, ?_⟩
    · intro y0 y1 y2 y3 y4 y5 y6 y7
      unfold standbylaw33_ThrottleWaits.j0
      repeat' first
      | (with_reducible exact ih0 _ _ _ _ _ _ _ _)
      | (with_reducible exact ih1 _ _ _ _ _ _ _ _ _ _ _)
      | (with_reducible exact ih2 _ _ _ _ _ _ _ _ _ _ _ _ _ _)
      | (with_reducible exact ih3 _ _ _ _ _ _ _ _ _ _ _ _ _)
      | (with_reducible exact ih4 _ _ _ _ _ _ _ _ _ _ _ _ _ _ _ _ _ _ _ _)
      | (with_reducible exact standbylaw33_awake.mono _)
      | (with_reducible exact throttle_Backlog.mono _ _ _ _ _ _)
      | (with_reducible exact throttle_Progress.mono _ _ _ _ _ _ _ _)
      | (with_reducible exact throttle_Write.mono _ _ _ _ _ _ _ _)
      | (with_reducible exact LeO.refl _)
      | (with_reducible exact LeO.none _)
      | (with_reducible refine LeO.ite ?_ ?_)
      | (with_reducible refine LeO.bind ?_ (fun _ => ?_))
      | exact ih0 _ _ _ _ _ _ _ _
      | exact ih1 _ _ _ _ _ _ _ _ _ _ _
      | exact ih2 _ _ _ _ _ _ _ _ _ _ _ _ _ _
      | exact ih3 _ _ _ _ _ _ _ _ _ _ _ _ _
      | exact ih4 _ _ _ _ _ _ _ _ _ _ _ _ _ _ _ _ _ _ _ _
      | exact standbylaw33_awake.mono _
      | exact throttle_Backlog.mono _ _ _ _ _ _
      | exact throttle_Progress.mono _ _ _ _ _ _ _ _
      | exact throttle_Write.mono _ _ _ _ _ _ _ _
      | exact LeO.none _
      | refine LeO.ite ?_ ?_
      | refine LeO.bind ?_ (fun _ => ?_)
    · intro y0 y1 y2 y3 y4 y5 y6 y7 y8 y9 y10
      unfold standbylaw33_ThrottleWaits.l0
      repeat' first
      | (with_reducible exact ih0 _ _ _ _ _ _ _ _)
      | (with_reducible exact ih1 _ _ _ _ _ _ _ _ _ _ _)
      | (with_reducible exact ih2 _ _ _ _ _ _ _ _ _ _ _ _ _ _)
      | (with_reducible exact ih3 _ _ _ _ _ _ _ _ _ _ _ _ _)
      | (with_reducible exact ih4 _ _ _ _ _ _ _ _ _ _ _ _ _ _ _ _ _ _ _ _)
      | (with_reducible exact standbylaw33_awake.mono _)
      | (with_reducible exact throttle_Backlog.mono _ _ _ _ _ _)
      | (with_reducible exact throttle_Progress.mono _ _ _ _ _ _ _ _)
      | (with_reducible exact throttle_Write.mono _ _ _ _ _ _ _ _)
      | (with_reducible exact LeO.refl _)
      | (with_reducible exact LeO.none _)
      | (with_reducible refine LeO.ite ?_ ?_)
      | (with_reducible refine LeO.bind ?_ (fun _ => ?_))
      | exact ih0 _ _ _ _ _ _ _ _
      | exact ih1 _ _ _ _ _ _ _ _ _ _ _
      | exact ih2 _ _ _ _ _ _ _ _ _ _ _ _ _ _
      | exact ih3 _ _ _ _ _ _ _ _ _ _ _ _ _
      | exact ih4 _ _ _ _ _ _ _ _ _ _ _ _ _ _ _ _ _ _ _ _
      | exact standbylaw33_awake.mono _
      | exact throttle_Backlog.mono _ _ _ _ _ _
      | exact throttle_Progress.mono _ _ _ _ _ _ _ _
      | exact throttle_Write.mono _ _ _ _ _ _ _ _
      | exact LeO.none _
      | refine LeO.ite ?_ ?_
      | refine LeO.bind ?_ (fun _ => ?_)
    · intro y0 y1 y2 y3 y4 y5 y6 y7 y8 y9 y10 y11 y12 y13
      unfold standbylaw33_ThrottleWaits.j2
      repeat' first
      | (with_reducible exact ih0 _ _ _ _ _ _ _ _)
      | (with_reducible exact ih1 _ _ _ _ _ _ _ _ _ _ _)
      | (with_reducible exact ih2 _ _ _ _ _ _ _ _ _ _ _ _ _ _)
      | (with_reducible exact ih3 _ _ _ _ _ _ _ _ _ _ _ _ _)
      | (with_reducible exact ih4 _ _ _ _ _ _ _ _ _ _ _ _ _ _ _ _ _ _ _ _)
      | (with_reducible exact standbylaw33_awake.mono _)
      | (with_reducible exact throttle_Backlog.mono _ _ _ _ _ _)
      | (with_reducible exact throttle_Progress.mono _ _ _ _ _ _ _ _)
      | (with_reducible exact throttle_Write.mono _ _ _ _ _ _ _ _)
      | (with_reducible exact LeO.refl _)
      | (with_reducible exact LeO.none _)
      | (with_reducible refine LeO.ite ?_ ?_)
      | (with_reducible refine LeO.bind ?_ (fun _ => ?_))
      | exact ih0 _ _ _ _ _ _ _ _
      | exact ih1 _ _ _ _ _ _ _ _ _ _ _
      | exact ih2 _ _ _ _ _ _ _ _ _ _ _ _ _ _
      | exact ih3 _ _ _ _ _ _ _ _ _ _ _ _ _
      | exact ih4 _ _ _ _ _ _ _ _ _ _ _ _ _ _ _ _ _ _ _ _
      | exact standbylaw33_awake.mono _
      | exact throttle_Backlog.mono _ _ _ _ _ _
      | exact throttle_Progress.mono _ _ _ _ _ _ _ _
      | exact throttle_Write.mono _ _ _ _ _ _ _ _
      | exact LeO.none _
      | refine LeO.ite ?_ ?_
      | refine LeO.bind ?_ (fun _ => ?_)
    · intro y0 y1 y2 y3 y4 y5 y6 y7 y8 y9 y10 y11 y12
      unfold standbylaw33_ThrottleWaits.l1
      repeat' first
      | (with_reducible exact ih0 _ _ _ _ _ _ _ _)
      | (with_reducible exact ih1 _ _ _ _ _ _ _ _ _ _ _)
      | (with_reducible exact ih2 _ _ _ _ _ _ _ _ _ _ _ _ _ _)
      | (with_reducible exact ih3 _ _ _ _ _ _ _ _ _ _ _ _ _)
      | (with_reducible exact ih4 _ _ _ _ _ _ _ _ _ _ _ _ _ _ _ _ _ _ _ _)
      | (with_reducible exact standbylaw33_awake.mono _)
      | (with_reducible exact throttle_Backlog.mono _ _ _ _ _ _)
      | (with_reducible exact throttle_Progress.mono _ _ _ _ _ _ _ _)
      | (with_reducible exact throttle_Write.mono _ _ _ _ _ _ _ _)
      | (with_reducible exact LeO.refl _)
      | (with_reducible exact LeO.none _)
      | (with_reducible refine LeO.ite ?_ ?_)
      | (with_reducible refine LeO.bind ?_ (fun _ => ?_))
      | exact ih0 _ _ _ _ _ _ _ _
      | exact ih1 _ _ _ _ _ _ _ _ _ _ _
      | exact ih2 _ _ _ _ _ _ _ _ _ _ _ _ _ _
      | exact ih3 _ _ _ _ _ _ _ _ _ _ _ _ _
      | exact ih4 _ _ _ _ _ _ _ _ _ _ _ _ _ _ _ _ _ _ _ _
      | exact standbylaw33_awake.mono _
      | exact throttle_Backlog.mono _ _ _ _ _ _
      | exact throttle_Progress.mono _ _ _ _ _ _ _ _
      | exact throttle_Write.mono _ _ _ _ _ _ _ _
      | exact LeO.none _
      | refine LeO.ite ?_ ?_
      | refine LeO.bind ?_ (fun _ => ?_)
    · intro y0 y1 y2 y3 y4 y5 y6 y7 y8 y9 y10 y11 y12 y13 y14 y15 y16 y17 y18 y19
      unfold standbylaw33_ThrottleWaits.j4
      repeat' first
      | (with_reducible exact ih0 _ _ _ _ _ _ _ _)
      | (with_reducible exact ih1 _ _ _ _ _ _ _ _ _ _ _)
      | (with_reducible exact ih2 _ _ _ _ _ _ _ _ _ _ _ _ _ _)
      | (with_reducible exact ih3 _ _ _ _ _ _ _ _ _ _ _ _ _)
      | (with_reducible exact ih4 _ _ _ _ _ _ _ _ _ _ _ _ _ _ _ _ _ _ _ _)
      | (with_reducible exact standbylaw33_awake.mono _)
      | (with_reducible exact throttle_Backlog.mono _ _ _ _ _ _)
      | (with_reducible exact throttle_Progress.mono _ _ _ _ _ _ _ _)
      | (with_reducible exact throttle_Write.mono _ _ _ _ _ _ _ _)
      | (with_reducible exact LeO.refl _)
      | (with_reducible exact LeO.none _)
      | (with_reducible refine LeO.ite ?_ ?_)
      | (with_reducible refine LeO.bind ?_ (fun _ => ?_))
      | exact ih0 _ _ _ _ _ _ _ _
      | exact ih1 _ _ _ _ _ _ _ _ _ _ _
      | exact ih2 _ _ _ _ _ _ _ _ _ _ _ _ _ _
      | exact ih3 _ _ _ _ _ _ _ _ _ _ _ _ _
      | exact ih4 _ _ _ _ _ _ _ _ _ _ _ _ _ _ _ _ _ _ _ _
      | exact standbylaw33_awake.mono _
      | exact throttle_Backlog.mono _ _ _ _ _ _
      | exact throttle_Progress.mono _ _ _ _ _ _ _ _
      | exact throttle_Write.mono _ _ _ _ _ _ _ _
      | exact LeO.none _
      | refine LeO.ite ?_ ?_
      | refine LeO.bind ?_ (fun _ => ?_)
theorem standbylaw33_ThrottleWaits.mono : ∀ a0 a1 a2 k, LeO (standbylaw33_ThrottleWaits.f k a0 a1 a2) (standbylaw33_ThrottleWaits.f (k + 1) a0 a1 a2) := by
  intro a0 a1 a2 k
  obtain ⟨ih0, ih1, ih2, ih3, ih4⟩ := standbylaw33_ThrottleWaits.mono_l k
  unfold standbylaw33_ThrottleWaits.f
  repeat' first
      | (with_reducible exact ih0 _ _ _ _ _ _ _ _)
      | (with_reducible exact ih1 _ _ _ _ _ _ _ _ _ _ _)
      | (with_reducible exact ih2 _ _ _ _ _ _ _ _ _ _ _ _ _ _)
      | (with_reducible exact ih3 _ _ _ _ _ _ _ _ _ _ _ _ _)
      | (with_reducible exact ih4 _ _ _ _ _ _ _ _ _ _ _ _ _ _ _ _ _ _ _ _)
      | (with_reducible exact standbylaw33_awake.mono _)
      | (with_reducible exact throttle_Backlog.mono _ _ _ _ _ _)
      | (with_reducible exact throttle_Progress.mono _ _ _ _ _ _ _ _)
      | (with_reducible exact throttle_Write.mono _ _ _ _ _ _ _ _)
      | (with_reducible exact LeO.refl _)
      | (with_reducible exact LeO.none _)
      | (with_reducible refine LeO.ite ?_ ?_)
      | (with_reducible refine LeO.bind ?_ (fun _ => ?_))
      | exact ih0 _ _ _ _ _ _ _ _
      | exact ih1 _ _ _ _ _ _ _ _ _ _ _
      | exact ih2 _ _ _ _ _ _ _ _ _ _ _ _ _ _
      | exact ih3 _ _ _ _ _ _ _ _ _ _ _ _ _
      | exact ih4 _ _ _ _ _ _ _ _ _ _ _ _ _ _ _ _ _ _ _ _
      | exact standbylaw33_awake.mono _
      | exact throttle_Backlog.mono _ _ _ _ _ _
      | exact throttle_Progress.mono _ _ _ _ _ _ _ _
      | exact throttle_Write.mono _ _ _ _ _ _ _ _
      | exact LeO.none _
      | refine LeO.ite ?_ ?_
      | refine LeO.bind ?_ (fun _ => ?_)
set_option maxHeartbeats 8000000 in
set_option maxRecDepth 100000 in
theorem standbylaw33_ThrottleWaits.calls (k : Nat) (a0 : Int) (a1 : Int) (A2 : Option Addr) (c2 : Nat) (l2 : List Int) (r : Bool) (w : World) (hr2 : Kd.C (Kd.int .u8) w A2 l2.length l2) (hc2 : l2.length ≤ c2) (h : standbylaw33_ThrottleWaits.f k a0 a1 l2 = some r) :
    Calls Try.prog 6 #[.int .u8 a0, .int .u8 a1, .slice A2 l2.length c2] w fun e w' => e = .returned (.bool r) ∧ Below w.heap.size w w' := by
  have hu24 := Try.underlying24
  have HR2 := Aside0.mk hr2
  have HC2 := Aside0.mk hc2
  clear hr2 hc2
  have HB := Aside0.mk (Below.refl w.heap.size w)
  have H : ((standbylaw33_begin.f a0 a1).bind fun bt348 => (if (l2.length : Int) > 40 then (standbylaw33_ThrottleWaits.j0 k l2 bt348.2.2.2.2.2 true bt348.1 bt348.2.1 bt348.2.2.1 bt348.2.2.2.1 bt348.2.2.2.2.1) else (standbylaw33_ThrottleWaits.j0 k l2 bt348.2.2.2.2.2 (!bt348.2.2.2.2.2) bt348.1 bt348.2.1 bt348.2.2.1 bt348.2.2.2.1 bt348.2.2.2.2.1))) = some r := h
  clear h
  replace H := Option.bind_eq_some_iff.mp H
  obtain ⟨⟨t348, t349, t350, t351, t352, t355⟩, A40, H⟩ := H
  replace H : (if (l2.length : Int) > 40 then (standbylaw33_ThrottleWaits.j0 k l2 t355 true t348 t349 t350 t351 t352) else (standbylaw33_ThrottleWaits.j0 k l2 t355 (!t355) t348 t349 t350 t351 t352)) = some r := H
  have A4 := Aside0.mk A40
  clear A40
  have HC5 := Aside0.mk H
  clear H
  go_enter Try.func6, Try.ntmps6
  go_upto_region 2 with (first | ((with_reducible refine gate_callee (f := 18) rfl ?_); refine goesL_ (some 27) rfl rfl Try.func18 (by kernel_rfl) rfl #[.int .u8 a0, .int .u8 a1] rfl (by (try simp only [List.map_toArray, List.map_cons, List.map_nil]); first | done | rfl | (simp only [List.length_drop, List.length_take]; rfl)) ?_; (with_reducible refine (standbylaw33_begin.calls a0 a1 t348 t349 t350 t351 t352 t355 _ A4.out).mono ?_); rintro e w6 ⟨v353, rfl, ho0, hb⟩; refine ⟨_, rfl, ?_⟩; have n0_ := Aside0.mk (Kd.R_lower ho0 (below_size (by repeat (first | (with_reducible first | exact HB.out | apply below_alloc | apply pw_below_drewN | apply below_drew1) | exact HB.out)))); have n1_ := Aside0.mk (below_step (by repeat (first | (with_reducible first | exact HB.out | apply below_alloc | apply pw_below_drewN | apply below_drew1) | exact HB.out)) hb); clear HB; have HO354 := n0_; have HB := n1_; clear n0_ n1_; (try clear hb); (try clear hb2); (try clear hk); (try clear hi); (try clear ho0)) | ((with_reducible refine gate_dst (N := 7) rfl ?_); refine box_event ?hg (N := 7) ?hd (cs := #[.int .i64 0, .int .i64 0, .int .i64 0, .int .i64 0, .slice none 0 0]) (t := 24) ?hr ?_; (case hd => rfl); (case hg => rfl); (case hr => first | (go_simp; done) | (go_simp; rfl)); intro gb356 hg w7 hbox hb; have n0_ := Aside0.mk (Kd.R_below (by (with_reducible repeat (first | apply Kd.R_alloc | apply Kd.R_drewN | apply Kd.R_drew)); exact HO354.out) hb); have n1_ := Aside0.mk (below_step (by repeat (first | (with_reducible first | exact HB.out | apply below_alloc | apply pw_below_drewN | apply below_drew1) | exact HB.out)) hb); have n2_ := Aside0.mk (hbox); have n3_ := Aside0.mk ((by rw [hg]; exact (below_size (by repeat (first | (with_reducible first | exact HB.out | apply below_alloc | apply pw_below_drewN | apply below_drew1) | exact HB.out))) : w.heap.size ≤ gb356)); have n4_ := Aside0.mk ((by rw [hg]; exact (below_size (by repeat (first | (with_reducible first | exact HB.out | apply below_alloc | apply pw_below_drewN | apply below_drew1) | exact HB.out))) : w.heap.size ≤ gb356)); clear HO354; clear HB; have HO354 := n0_; have HB := n1_; have BK356 := n2_; have GW356 := n3_; have GE356 := n4_; clear n0_ n1_ n2_ n3_ n4_; clear hb hbox hg; have hcz8_0 : w7.cell? ⟨gb356, 0, none⟩ = some (.int .i64 0) := (blk_cell BK356.out 0).trans rfl; have hcz8_1 : w7.cell? ⟨gb356, 1, none⟩ = some (.int .i64 0) := (blk_cell BK356.out 1).trans rfl; have hcz8_2 : w7.cell? ⟨gb356, 2, none⟩ = some (.int .i64 0) := (blk_cell BK356.out 2).trans rfl; have hcz8_3 : w7.cell? ⟨gb356, 3, none⟩ = some (.int .i64 0) := (blk_cell BK356.out 3).trans rfl; have hcz8_4 : w7.cell? ⟨gb356, 4, none⟩ = some (.slice none 0 0) := (blk_cell BK356.out 4).trans rfl; have hfz8_0 := blk_frozen BK356.out 0; have hfz8_1 := blk_frozen BK356.out 1; have hfz8_2 := blk_frozen BK356.out 2; have hfz8_3 := blk_frozen BK356.out 3; have hfz8_4 := blk_frozen BK356.out 4; obtain ⟨Ao9, co9, eo9⟩ := Kd.R_slice HO354.out; subst eo9))
  (try simp only [Act.put, List.setIfInBounds_toArray, List.set_cons_zero, List.set_cons_succ])
  go_cut [36] (fun v36 wc => ∃ (kq : Nat) (x36_4 : Bool), v36 = .bool x36_4 ∧ Aside0 (standbylaw33_ThrottleWaits.j0 kq l2 t355 x36_4 t348 t349 t350 t351 t352 = some r) ∧ Aside0 (kq ≤ k) ∧ Aside0 (Kd.Q k71 71 wc w.heap.size (fun _ => True) (.slice Ao9 t352.length co9) t352) ∧ Aside0 (wc.heap[gb356]? = some (.cells #[.int .i64 t348, .int .i64 t349, .int .i64 t350, .int .i64 t351, (.slice Ao9 t352.length co9)] 24 (0, 0))) ∧ Aside0 (Below w.heap.size w wc))
  case first =>
    have H := HC5.out
    clear HC5
    by_cases c10 : (l2.length : Int) > 40
    · rw [if_pos c10] at H
      have c10b0 : decide (40 < (l2.length : Int)) = true := decide_eq_true c10
      have c10b1 : decide (40 < l2.length) = true := decide_eq_true (by omega)
      clear c10
      (first | rw [c10b0] | (simp only [i64_w, i32_w]; rw [c10b0]) | skip)
      have H' := Aside0.mk H
      clear H
      go_wp2
      go_meet
      case rel => exact ⟨_, (true), (by first | rfl | (simp; done) | (simp [*]; done)), H', ⟨by first | omega | exact Nat.le_refl _⟩, ⟨Kd.Q_of_R (by (with_reducible repeat (first | apply Kd.R_alloc | apply Kd.R_drewN | apply Kd.R_drew)); exact Kd.R_mono (Kd.R_far (p := ⟨gb356, 4, none⟩) (Kd.R_far (p := ⟨gb356, 3, none⟩) (Kd.R_far (p := ⟨gb356, 2, none⟩) (Kd.R_far (p := ⟨gb356, 1, none⟩) (Kd.R_far (p := ⟨gb356, 0, none⟩) (Kd.R_types HO354.out BK356.out (by decide)) (fun _ hk => hk.2) (.int .i64 t348)) (fun _ hk => hk.2) (.int .i64 t349)) (fun _ hk => hk.2) (.int .i64 t350)) (fun _ hk => hk.2) (.int .i64 t351)) (fun _ hk => hk.2) (.slice Ao9 t352.length co9)) (fun _ hk => trivial))⟩, ⟨by (with_reducible repeat (first | refine blk_drewN ?_ _ | refine blk_drew ?_ | refine blk_alloc ?_ _)); refine blk_put (cs := #[.int .i64 t348, .int .i64 t349, .int .i64 t350, .int .i64 t351, .slice none 0 0]) ?_ 4 _ rfl; (with_reducible repeat (first | refine blk_drewN ?_ _ | refine blk_drew ?_ | refine blk_alloc ?_ _)); refine blk_put (cs := #[.int .i64 t348, .int .i64 t349, .int .i64 t350, .int .i64 0, .slice none 0 0]) ?_ 3 _ rfl; (with_reducible repeat (first | refine blk_drewN ?_ _ | refine blk_drew ?_ | refine blk_alloc ?_ _)); refine blk_put (cs := #[.int .i64 t348, .int .i64 t349, .int .i64 0, .int .i64 0, .slice none 0 0]) ?_ 2 _ rfl; (with_reducible repeat (first | refine blk_drewN ?_ _ | refine blk_drew ?_ | refine blk_alloc ?_ _)); refine blk_put (cs := #[.int .i64 t348, .int .i64 0, .int .i64 0, .int .i64 0, .slice none 0 0]) ?_ 1 _ rfl; (with_reducible repeat (first | refine blk_drewN ?_ _ | refine blk_drew ?_ | refine blk_alloc ?_ _)); refine blk_put (cs := #[.int .i64 0, .int .i64 0, .int .i64 0, .int .i64 0, .slice none 0 0]) ?_ 0 _ rfl; (with_reducible repeat (first | refine blk_drewN ?_ _ | refine blk_drew ?_ | refine blk_alloc ?_ _)); exact BK356.out⟩, ⟨by repeat (first | (with_reducible first | exact HB.out | apply below_alloc | apply pw_below_drewN | apply below_drew1 | refine below_set ?_ GE356.out) | exact HB.out)⟩⟩
    · rw [if_neg c10] at H
      have c10b0 : decide (40 < (l2.length : Int)) = false := decide_eq_false c10
      have c10b1 : decide (40 < l2.length) = false := decide_eq_false (by omega)
      clear c10
      (first | rw [c10b0] | (simp only [i64_w, i32_w]; rw [c10b0]) | skip)
      have H' := Aside0.mk H
      clear H
      go_wp2
      go_meet
      case rel => exact ⟨_, (!t355), (by first | rfl | (simp; done) | (simp [*]; done)), H', ⟨by first | omega | exact Nat.le_refl _⟩, ⟨Kd.Q_of_R (by (with_reducible repeat (first | apply Kd.R_alloc | apply Kd.R_drewN | apply Kd.R_drew)); exact Kd.R_mono (Kd.R_far (p := ⟨gb356, 4, none⟩) (Kd.R_far (p := ⟨gb356, 3, none⟩) (Kd.R_far (p := ⟨gb356, 2, none⟩) (Kd.R_far (p := ⟨gb356, 1, none⟩) (Kd.R_far (p := ⟨gb356, 0, none⟩) (Kd.R_types HO354.out BK356.out (by decide)) (fun _ hk => hk.2) (.int .i64 t348)) (fun _ hk => hk.2) (.int .i64 t349)) (fun _ hk => hk.2) (.int .i64 t350)) (fun _ hk => hk.2) (.int .i64 t351)) (fun _ hk => hk.2) (.slice Ao9 t352.length co9)) (fun _ hk => trivial))⟩, ⟨by (with_reducible repeat (first | refine blk_drewN ?_ _ | refine blk_drew ?_ | refine blk_alloc ?_ _)); refine blk_put (cs := #[.int .i64 t348, .int .i64 t349, .int .i64 t350, .int .i64 t351, .slice none 0 0]) ?_ 4 _ rfl; (with_reducible repeat (first | refine blk_drewN ?_ _ | refine blk_drew ?_ | refine blk_alloc ?_ _)); refine blk_put (cs := #[.int .i64 t348, .int .i64 t349, .int .i64 t350, .int .i64 0, .slice none 0 0]) ?_ 3 _ rfl; (with_reducible repeat (first | refine blk_drewN ?_ _ | refine blk_drew ?_ | refine blk_alloc ?_ _)); refine blk_put (cs := #[.int .i64 t348, .int .i64 t349, .int .i64 0, .int .i64 0, .slice none 0 0]) ?_ 2 _ rfl; (with_reducible repeat (first | refine blk_drewN ?_ _ | refine blk_drew ?_ | refine blk_alloc ?_ _)); refine blk_put (cs := #[.int .i64 t348, .int .i64 0, .int .i64 0, .int .i64 0, .slice none 0 0]) ?_ 1 _ rfl; (with_reducible repeat (first | refine blk_drewN ?_ _ | refine blk_drew ?_ | refine blk_alloc ?_ _)); refine blk_put (cs := #[.int .i64 0, .int .i64 0, .int .i64 0, .int .i64 0, .slice none 0 0]) ?_ 0 _ rfl; (with_reducible repeat (first | refine blk_drewN ?_ _ | refine blk_drew ?_ | refine blk_alloc ?_ _)); exact BK356.out⟩, ⟨by repeat (first | (with_reducible first | exact HB.out | apply below_alloc | apply pw_below_drewN | apply below_drew1 | refine below_set ?_ GE356.out) | exact HB.out)⟩⟩
  case rest =>
    clear HC5
    try clear c1
    try clear c2
    try clear p2
    try clear c6
    try clear c10
    try clear c10b0
    try clear c10b1
    try clear hcz8_0
    try clear hcz8_1
    try clear hcz8_2
    try clear hcz8_3
    try clear hcz8_4
    try clear hfz8_0
    try clear hfz8_1
    try clear hfz8_2
    try clear hfz8_3
    try clear hfz8_4
    obtain ⟨kq, x36_4, rfl, HA, HJ4, HO_357004, BK356, HB⟩ := hcut
    cases kq with
    | zero => exact absurd HA.out (by simp [standbylaw33_ThrottleWaits.j0])
    | succ kj4 =>
      have H := HA.out
      clear HA
      simp only [standbylaw33_ThrottleWaits.j0] at H
      by_cases c11 : x36_4 = true
      · subst c11
        have H1 : (if t355 = true then ((standbylaw33_awake.f kj4).bind fun t357 => (some t357)) else (some false)) = some r := by rw [if_pos rfl] at H; exact H
        clear H
        have H := H1
        clear H1
        by_cases c12 : t355 = true
        · subst c12
          have H1 : ((standbylaw33_awake.f kj4).bind fun t357 => (some t357)) = some r := by rw [if_pos rfl] at H; exact H
          clear H
          have H := H1
          clear H1
          replace H := Option.bind_eq_some_iff.mp H
          obtain ⟨t357, A130, H⟩ := H
          replace H : (some t357) = some r := H
          have A13 := Aside0.mk A130
          clear A130
          obtain rfl := Option.some.inj H
          go_wp2_with (first | (go_at_call 10; (with_reducible refine (standbylaw33_awake.calls kj4  t357 _ A13.out).mono ?_); rintro e w14 ⟨rfl, hb⟩; have n0_ := Aside0.mk (Kd.Q_below (by (with_reducible repeat (first | apply Kd.Q_alloc | apply Kd.Q_drewN | apply Kd.Q_drew)); exact HO_357004.out) hb); have n1_ := Aside0.mk (blk_below (g := gb356) (o := .cells #[.int .i64 t348, .int .i64 t349, .int .i64 t350, .int .i64 t351, .slice Ao9 t352.length co9] 24 (0, 0)) (by (with_reducible repeat (first | refine blk_drewN ?_ _ | refine blk_drew ?_ | refine blk_alloc ?_ _)); exact BK356.out) hb); have n2_ := Aside0.mk (below_step (by repeat (first | (with_reducible first | exact HB.out | apply below_alloc | apply pw_below_drewN | apply below_drew1 | refine below_set ?_ GE356.out) | exact HB.out)) hb); clear HO_357004; clear BK356; clear HB; have HO_357004 := n0_; have BK356 := n1_; have HB := n2_; clear n0_ n1_ n2_; (try clear hb); (try clear hb2); (try clear hk); (try clear hi)))
          go_ret
          exact ⟨by first | rfl | (simp [errW_none, errW_some] <;> rfl) | (simp [*, errW_none, errW_some] <;> rfl), by repeat (first | (with_reducible first | exact HB.out | apply below_alloc | apply pw_below_drewN | apply below_drew1 | refine below_set ?_ GE356.out) | exact HB.out)⟩
        · replace c12 := Bool.eq_false_iff.mpr c12
          subst c12
          have H1 : (some false) = some r := by rw [if_neg (show ¬ (false = true) by decide)] at H; exact H
          clear H
          have H := H1
          clear H1
          obtain rfl := Option.some.inj H
          go_wp2
          go_ret
          exact ⟨by first | rfl | (simp [errW_none, errW_some] <;> rfl) | (simp [*, errW_none, errW_some] <;> rfl), by repeat (first | (with_reducible first | exact HB.out | apply below_alloc | apply pw_below_drewN | apply below_drew1 | refine below_set ?_ GE356.out) | exact HB.out)⟩
      · replace c11 := Bool.eq_false_iff.mpr c11
        subst c11
        have H1 : (standbylaw33_ThrottleWaits.l0 kj4 0 0 0 l2 (l2.length : Int) 0 t348 t349 t350 t351 t352) = some r := by rw [if_neg (show ¬ (false = true) by decide)] at H; exact H
        clear H
        have H := H1
        clear H1
        have H' := Aside0.mk H
        clear H
        go_wp2
        go_loopg [9, 10, 11, 43] kj4 (fun kq v9 v10 v11 v43 w' => ∃ (x9_2 : Int) (x10_2 : Int) (x11_2 : Int) (x43_2 : Int) (x357000_2 : Int) (x357001_2 : Int) (x357002_2 : Int) (x357003_2 : Int) (x357004_2 : List (S71)) (u357004 : Value), v9 = .int .i64 x9_2 ∧ v10 = .int .i64 x10_2 ∧ v11 = .int .i64 x11_2 ∧ v43 = .int .i64 x43_2 ∧ Aside0 (standbylaw33_ThrottleWaits.l0 kq x9_2 x10_2 x11_2 l2 (l2.length : Int) x43_2 x357000_2 x357001_2 x357002_2 x357003_2 x357004_2 = some r) ∧ Aside0 (kq ≤ kj4) ∧ Aside0 (Kd.Q k71 71 w' w.heap.size (fun _ => True) u357004 x357004_2) ∧ Aside0 (w'.heap[gb356]? = some (.cells #[.int .i64 x357000_2, .int .i64 x357001_2, .int .i64 x357002_2, .int .i64 x357003_2, u357004] 24 (0, 0))) ∧ Aside0 (Below w.heap.size w w'))
        case atStart => exact ⟨(0), (0), (0), (0), (t348), (t349), (t350), (t351), (t352), (.slice Ao9 t352.length co9), (by first | rfl | (simp; done) | (simp [*]; done)), (by first | rfl | (simp; done) | (simp [*]; done)), (by first | rfl | (simp; done) | (simp [*]; done)), (by first | rfl | (simp; done) | (simp [*]; done)), H', ⟨Nat.le_refl _⟩, ⟨by (with_reducible repeat (first | apply Kd.Q_alloc | apply Kd.Q_drewN | apply Kd.Q_drew)); exact HO_357004.out⟩, ⟨by (with_reducible repeat (first | refine blk_drewN ?_ _ | refine blk_drew ?_ | refine blk_alloc ?_ _)); exact BK356.out⟩, ⟨by repeat (first | (with_reducible first | exact HB.out | apply below_alloc | apply pw_below_drewN | apply below_drew1 | refine below_set ?_ GE356.out) | exact HB.out)⟩⟩
        case round =>
          clear H'
          try clear c1
          try clear c2
          try clear p2
          try clear c6
          try clear c10
          try clear c10b0
          try clear c10b1
          try clear c11
          try clear c12
          try clear hcz8_0
          try clear hcz8_1
          try clear hcz8_2
          try clear hcz8_3
          try clear hcz8_4
          try clear hfz8_0
          try clear hfz8_1
          try clear hfz8_2
          try clear hfz8_3
          try clear hfz8_4
          try clear p2
          obtain ⟨x9_2, x10_2, x11_2, x43_2, x357000_2, x357001_2, x357002_2, x357003_2, x357004_2, u357004, rfl, rfl, rfl, rfl, HA, HK2, HO_357004, BK356, HB⟩ := hrel
          cases gk with
          | zero => exact absurd HA.out (by simp [standbylaw33_ThrottleWaits.l0])
          | succ k2 =>
            have H := HA.out
            clear HA
            simp only [standbylaw33_ThrottleWaits.l0] at H
            by_cases c15 : x43_2 < (l2.length : Int)
            · rw [if_pos c15] at H
              have c15b0 : decide (x43_2 < (l2.length : Int)) = true := decide_eq_true c15
              clear c15
              by_cases c16 : 0 ≤ x43_2
              · rw [if_pos c16] at H
                have c16b0 : decide (0 ≤ x43_2) = true := decide_eq_true c16
                clear c16
                by_cases c17 : x43_2 < (l2.length : Int)
                · rw [if_pos c17] at H
                  have c17b0 : decide (x43_2 < (l2.length : Int)) = true := decide_eq_true c17
                  clear c17
                  by_cases c18 : (wrap64 ((Int.tmod (wrap64 (rd l2 x43_2)) 30) + 1)) > (wrap64 (x357001_2 * x357000_2))
                  · rw [if_pos c18] at H
                    have c18b0 : decide ((wrap64 (x357001_2 * x357000_2)) < (wrap64 ((Int.tmod (wrap64 (rd l2 x43_2)) 30) + 1))) = true := decide_eq_true c18
                    clear c18
                    have H' := Aside0.mk H
                    clear H
                    have p359 : 0 ≤ (x43_2 : Int) := of_decide_eq_true (by first | (with_reducible assumption) | assumption)
                    have q359 : x43_2 < (l2.length : Int) := of_decide_eq_true (by first | (with_reducible assumption) | assumption)
                    obtain ⟨ad359, e359, hx359_0⟩ := Kd.at_int HR2.out x43_2 p359 q359
                    cases e359
                    replace hx359_0 := (HB.out.cell (World.block_lt_of_cell? w _ hx359_0)).trans hx359_0
                    replace p359 := eq_true p359
                    replace q359 := eq_true q359
                    have hcz19_0 : wr.cell? ⟨gb356, 0, none⟩ = some (.int .i64 x357000_2) := (blk_cell BK356.out 0).trans rfl
                    have hcz19_1 : wr.cell? ⟨gb356, 1, none⟩ = some (.int .i64 x357001_2) := (blk_cell BK356.out 1).trans rfl
                    have hcz19_2 : wr.cell? ⟨gb356, 2, none⟩ = some (.int .i64 x357002_2) := (blk_cell BK356.out 2).trans rfl
                    have hcz19_3 : wr.cell? ⟨gb356, 3, none⟩ = some (.int .i64 x357003_2) := (blk_cell BK356.out 3).trans rfl
                    have hcz19_4 : wr.cell? ⟨gb356, 4, none⟩ = some (u357004) := (blk_cell BK356.out 4).trans rfl
                    have hfz19_0 := blk_frozen BK356.out 0
                    have hfz19_1 := blk_frozen BK356.out 1
                    have hfz19_2 := blk_frozen BK356.out 2
                    have hfz19_3 := blk_frozen BK356.out 3
                    have hfz19_4 := blk_frozen BK356.out 4
                    go_wp2
                    go_roundg k2
                    case measure => have := HJ4.out; have := HK2.out; omega
                    case rel => exact ⟨(x9_2), (x10_2), (x11_2), (wrap64 (x43_2 + 1)), (x357000_2), (x357001_2), (x357002_2), (x357003_2), (x357004_2), (u357004), (by first | rfl | (simp; done) | (simp [*]; done)), (by first | rfl | (simp; done) | (simp [*]; done)), (by first | rfl | (simp; done) | (simp [*]; done)), (by first | rfl | (simp; done) | (simp [*]; done)), H', ⟨by have := HJ4.out; have := HK2.out; omega⟩, ⟨by (with_reducible repeat (first | apply Kd.Q_alloc | apply Kd.Q_drewN | apply Kd.Q_drew)); exact HO_357004.out⟩, ⟨by (with_reducible repeat (first | refine blk_drewN ?_ _ | refine blk_drew ?_ | refine blk_alloc ?_ _)); exact BK356.out⟩, ⟨by repeat (first | (with_reducible first | exact HB.out | apply below_alloc | apply pw_below_drewN | apply below_drew1 | refine below_set ?_ GE356.out) | exact HB.out)⟩⟩
                  · rw [if_neg c18] at H
                    have c18b0 : decide ((wrap64 (x357001_2 * x357000_2)) < (wrap64 ((Int.tmod (wrap64 (rd l2 x43_2)) 30) + 1))) = false := decide_eq_false c18
                    clear c18
                    replace H := Option.bind_eq_some_iff.mp H
                    obtain ⟨⟨t360, t361, t362, t363, t364, t367, t368⟩, A200, H⟩ := H
                    replace H : (if t368 = 0 then (standbylaw33_ThrottleWaits.j2 k2 x9_2 x10_2 x11_2 (wrap64 ((Int.tmod (wrap64 (rd l2 x43_2)) 30) + 1)) t367 l2 (l2.length : Int) x43_2 (decide (t367 < 0)) t360 t361 t362 t363 t364) else (standbylaw33_ThrottleWaits.j2 k2 x9_2 x10_2 x11_2 (wrap64 ((Int.tmod (wrap64 (rd l2 x43_2)) 30) + 1)) t367 l2 (l2.length : Int) x43_2 true t360 t361 t362 t363 t364)) = some r := H
                    have A20 := Aside0.mk A200
                    clear A200
                    have HC21 := Aside0.mk H
                    clear H
                    have p359 : 0 ≤ (x43_2 : Int) := of_decide_eq_true (by first | (with_reducible assumption) | assumption)
                    have q359 : x43_2 < (l2.length : Int) := of_decide_eq_true (by first | (with_reducible assumption) | assumption)
                    obtain ⟨ad359, e359, hx359_0⟩ := Kd.at_int HR2.out x43_2 p359 q359
                    cases e359
                    replace hx359_0 := (HB.out.cell (World.block_lt_of_cell? w _ hx359_0)).trans hx359_0
                    replace p359 := eq_true p359
                    replace q359 := eq_true q359
                    have hcz22_0 : wr.cell? ⟨gb356, 0, none⟩ = some (.int .i64 x357000_2) := (blk_cell BK356.out 0).trans rfl
                    have hcz22_1 : wr.cell? ⟨gb356, 1, none⟩ = some (.int .i64 x357001_2) := (blk_cell BK356.out 1).trans rfl
                    have hcz22_2 : wr.cell? ⟨gb356, 2, none⟩ = some (.int .i64 x357002_2) := (blk_cell BK356.out 2).trans rfl
                    have hcz22_3 : wr.cell? ⟨gb356, 3, none⟩ = some (.int .i64 x357003_2) := (blk_cell BK356.out 3).trans rfl
                    have hcz22_4 : wr.cell? ⟨gb356, 4, none⟩ = some (u357004) := (blk_cell BK356.out 4).trans rfl
                    have hfz22_0 := blk_frozen BK356.out 0
                    have hfz22_1 := blk_frozen BK356.out 1
                    have hfz22_2 := blk_frozen BK356.out 2
                    have hfz22_3 := blk_frozen BK356.out 3
                    have hfz22_4 := blk_frozen BK356.out 4
                    obtain ⟨Ao23, co23, eo23, _⟩ := Kd.Q_slice HO_357004.out
                    subst eo23
                    go_upto_region 11 with (first | ((with_reducible refine gate_callee (f := 16) rfl ?_); refine goesL_ (some 62) rfl rfl Try.func16 (by kernel_rfl) rfl #[.agg #[.int .i64 x357000_2, .int .i64 x357001_2, .int .i64 x357002_2, .int .i64 x357003_2, .slice Ao23 x357004_2.length co23], .int .i64 x9_2, .int .i64 (wrap64 ((Int.tmod (wrap64 (rd l2 x43_2)) 30) + 1))] rfl (by (try simp only [List.map_toArray, List.map_cons, List.map_nil]); first | done | rfl | (simp only [List.length_drop, List.length_take]; rfl)) ?_; (with_reducible refine (throttle_Write.calls k2 x357000_2 x357001_2 x357002_2 x357003_2 _ _ x357004_2 x9_2 (wrap64 ((Int.tmod (wrap64 (rd l2 x43_2)) 30) + 1)) t360 t361 t362 t363 t364 t367 t368 _ ?side1 ?side2 A20.out).mono ?_); (case side1 => repeat (first | exact (Kd.Q_reads' HO_357004.out).2.2 | (with_reducible refine Kd.C_alloc ?_ _) | (with_reducible refine Kd.C_drewN ?_ _) | (with_reducible refine Kd.C_drew ?_))); (case side2 => exact (Kd.Q_reads' HO_357004.out).2.1); rintro e w24 ⟨v365, rfl, ho0, hb⟩; refine ⟨_, rfl, ?_⟩; have n0_ := Aside0.mk (Kd.Q_elder' (by (with_reducible repeat (first | apply Kd.Q_alloc | apply Kd.Q_drewN | apply Kd.Q_drew)); exact HO_357004.out) (Kd.Q_base ho0) hb); have n1_ := Aside0.mk (Kd.Q_lower (Kd.Q_new' ho0 (Kd.Q_lt (by (with_reducible repeat (first | apply Kd.Q_alloc | apply Kd.Q_drewN | apply Kd.Q_drew)); exact HO_357004.out))) (below_size (by repeat (first | (with_reducible first | exact HB.out | apply below_alloc | apply pw_below_drewN | apply below_drew1 | refine below_set ?_ GE356.out) | exact HB.out)))); have n2_ := Aside0.mk (blk_below (g := gb356) (o := .cells #[.int .i64 x357000_2, .int .i64 x357001_2, .int .i64 x357002_2, .int .i64 x357003_2, .slice Ao23 x357004_2.length co23] 24 (0, 0)) (by (with_reducible repeat (first | refine blk_drewN ?_ _ | refine blk_drew ?_ | refine blk_alloc ?_ _)); exact BK356.out) hb); have n3_ := Aside0.mk (below_step (by repeat (first | (with_reducible first | exact HB.out | apply below_alloc | apply pw_below_drewN | apply below_drew1 | refine below_set ?_ GE356.out) | exact HB.out)) hb); clear HO_357004; clear BK356; clear HB; have HO_357004 := n0_; have HO366 := n1_; have BK356 := n2_; have HB := n3_; clear n0_ n1_ n2_ n3_; (try clear hb); (try clear hb2); (try clear hk); (try clear hi); (try clear ho0)) | ((with_reducible refine gate_dst (N := 15) rfl ?_); refine box_event ?hg (N := 15) ?hd (cs := #[.int .i64 0, .int .i64 0, .int .i64 0, .int .i64 0, .slice none 0 0]) (t := 24) ?hr ?_; (case hd => rfl); (case hg => rfl); (case hr => first | (go_simp; done) | (go_simp; rfl)); intro gb369 hg w25 hbox hb; have n0_ := Aside0.mk (Kd.Q_below (by (with_reducible repeat (first | apply Kd.Q_alloc | apply Kd.Q_drewN | apply Kd.Q_drew)); exact HO_357004.out) hb); have n1_ := Aside0.mk (Kd.Q_below (by (with_reducible repeat (first | apply Kd.Q_alloc | apply Kd.Q_drewN | apply Kd.Q_drew)); exact HO366.out) hb); have n2_ := Aside0.mk (blk_below (g := gb356) (o := .cells #[.int .i64 x357000_2, .int .i64 x357001_2, .int .i64 x357002_2, .int .i64 x357003_2, .slice Ao23 x357004_2.length co23] 24 (0, 0)) (by (with_reducible repeat (first | refine blk_drewN ?_ _ | refine blk_drew ?_ | refine blk_alloc ?_ _)); exact BK356.out) hb); have n3_ := Aside0.mk (below_step (by repeat (first | (with_reducible first | exact HB.out | apply below_alloc | apply pw_below_drewN | apply below_drew1 | refine below_set ?_ GE356.out) | exact HB.out)) hb); have n4_ := Aside0.mk (hbox); have n5_ := Aside0.mk ((by rw [hg]; exact (below_size (by repeat (first | (with_reducible first | exact HB.out | apply below_alloc | apply pw_below_drewN | apply below_drew1 | refine below_set ?_ GE356.out) | exact HB.out))) : w.heap.size ≤ gb369)); have n6_ := Aside0.mk ((by rw [hg]; exact (below_size (by repeat (first | (with_reducible first | exact HB.out | apply below_alloc | apply pw_below_drewN | apply below_drew1 | refine below_set ?_ GE356.out) | exact HB.out))) : w.heap.size ≤ gb369)); have n7_ := Aside0.mk ((by rw [hg]; exact Nat.ne_of_lt (blk_lt (g := gb356) (o := .cells #[.int .i64 x357000_2, .int .i64 x357001_2, .int .i64 x357002_2, .int .i64 x357003_2, .slice Ao23 x357004_2.length co23] 24 (0, 0)) (by (with_reducible repeat (first | refine blk_drewN ?_ _ | refine blk_drew ?_ | refine blk_alloc ?_ _)); exact BK356.out)) : gb356 ≠ gb369)); have n8_ := Aside0.mk ((by rw [hg]; exact Nat.ne_of_gt (blk_lt (g := gb356) (o := .cells #[.int .i64 x357000_2, .int .i64 x357001_2, .int .i64 x357002_2, .int .i64 x357003_2, .slice Ao23 x357004_2.length co23] 24 (0, 0)) (by (with_reducible repeat (first | refine blk_drewN ?_ _ | refine blk_drew ?_ | refine blk_alloc ?_ _)); exact BK356.out)) : gb369 ≠ gb356)); clear HO_357004; clear HO366; clear BK356; clear HB; have HO_357004 := n0_; have HO366 := n1_; have BK356 := n2_; have HB := n3_; have BK369 := n4_; have GW369 := n5_; have GE369 := n6_; have NB356_369 := n7_; have NB369_356 := n8_; clear n0_ n1_ n2_ n3_ n4_ n5_ n6_ n7_ n8_; clear hb hbox hg; have hnb26 := NB369_356.out; have hnc26 := NB356_369.out; have hcz27_0 : w25.cell? ⟨gb369, 0, none⟩ = some (.int .i64 0) := (blk_cell BK369.out 0).trans rfl; have hcz27_1 : w25.cell? ⟨gb369, 1, none⟩ = some (.int .i64 0) := (blk_cell BK369.out 1).trans rfl; have hcz27_2 : w25.cell? ⟨gb369, 2, none⟩ = some (.int .i64 0) := (blk_cell BK369.out 2).trans rfl; have hcz27_3 : w25.cell? ⟨gb369, 3, none⟩ = some (.int .i64 0) := (blk_cell BK369.out 3).trans rfl; have hcz27_4 : w25.cell? ⟨gb369, 4, none⟩ = some (.slice none 0 0) := (blk_cell BK369.out 4).trans rfl; have hfz27_0 := blk_frozen BK369.out 0; have hfz27_1 := blk_frozen BK369.out 1; have hfz27_2 := blk_frozen BK369.out 2; have hfz27_3 := blk_frozen BK369.out 3; have hfz27_4 := blk_frozen BK369.out 4; obtain ⟨Ao28, co28, eo28, _⟩ := Kd.Q_slice HO366.out; subst eo28))
                    (try simp only [Act.put, List.setIfInBounds_toArray, List.set_cons_zero, List.set_cons_succ])
                    go_cut [71] (fun v71 wc => ∃ (kq : Nat) (x71_20 : Bool), v71 = .bool x71_20 ∧ Aside0 (standbylaw33_ThrottleWaits.j2 kq x9_2 x10_2 x11_2 (wrap64 ((Int.tmod (wrap64 (rd l2 x43_2)) 30) + 1)) t367 l2 (l2.length : Int) x43_2 x71_20 t360 t361 t362 t363 t364 = some r) ∧ Aside0 (kq ≤ k2) ∧ Aside0 (Kd.Q k71 71 wc w.heap.size (fun _ => True) (.slice Ao23 x357004_2.length co23) x357004_2) ∧ Aside0 (Kd.Q k71 71 wc w.heap.size (fun _ => True) (.slice Ao28 t364.length co28) t364) ∧ Aside0 (wc.heap[gb356]? = some (.cells #[.int .i64 x357000_2, .int .i64 x357001_2, .int .i64 x357002_2, .int .i64 x357003_2, (.slice Ao23 x357004_2.length co23)] 24 (0, 0))) ∧ Aside0 (wc.heap[gb369]? = some (.cells #[.int .i64 t360, .int .i64 t361, .int .i64 t362, .int .i64 t363, (.slice Ao28 t364.length co28)] 24 (0, 0))) ∧ Aside0 (Below w.heap.size w wc))
                    case first =>
                      have H := HC21.out
                      clear HC21
                      by_cases c29 : t368 = 0
                      · rw [if_pos c29] at H
                        have c29b0 : (t368 == 0) = true := beq_iff_eq.mpr c29
                        have c29b1 : (t368 != 0) = false := bne_eq_false_iff_eq.mpr c29
                        clear c29
                        (first | rw [c29b0] | (simp only [i64_w, i32_w]; rw [c29b0]) | skip)
                        have H' := Aside0.mk H
                        clear H
                        go_wp2
                        go_meet
                        case rel => exact ⟨_, (decide (t367 < 0)), (by first | rfl | (simp; done) | (simp [*]; done)), H', ⟨by have := HJ4.out; have := HK2.out; first | omega | exact Nat.le_refl _⟩, ⟨by (with_reducible repeat (first | apply Kd.Q_alloc | apply Kd.Q_drewN | apply Kd.Q_drew)); exact Kd.Q_mono (Kd.Q_far (p := ⟨gb369, 4, none⟩) (Kd.Q_far (p := ⟨gb369, 3, none⟩) (Kd.Q_far (p := ⟨gb369, 2, none⟩) (Kd.Q_far (p := ⟨gb369, 1, none⟩) (Kd.Q_far (p := ⟨gb369, 0, none⟩) (Kd.Q_types HO_357004.out BK369.out (by decide)) (fun _ hk => hk.2) (.int .i64 t360)) (fun _ hk => hk.2) (.int .i64 t361)) (fun _ hk => hk.2) (.int .i64 t362)) (fun _ hk => hk.2) (.int .i64 t363)) (fun _ hk => hk.2) (.slice Ao28 t364.length co28)) (fun _ hk => trivial)⟩, ⟨by (with_reducible repeat (first | apply Kd.Q_alloc | apply Kd.Q_drewN | apply Kd.Q_drew)); exact Kd.Q_mono (Kd.Q_far (p := ⟨gb369, 4, none⟩) (Kd.Q_far (p := ⟨gb369, 3, none⟩) (Kd.Q_far (p := ⟨gb369, 2, none⟩) (Kd.Q_far (p := ⟨gb369, 1, none⟩) (Kd.Q_far (p := ⟨gb369, 0, none⟩) (Kd.Q_types HO366.out BK369.out (by decide)) (fun _ hk => hk.2) (.int .i64 t360)) (fun _ hk => hk.2) (.int .i64 t361)) (fun _ hk => hk.2) (.int .i64 t362)) (fun _ hk => hk.2) (.int .i64 t363)) (fun _ hk => hk.2) (.slice Ao28 t364.length co28)) (fun _ hk => trivial)⟩, ⟨by (with_reducible repeat (first | refine blk_drewN ?_ _ | refine blk_drew ?_ | refine blk_alloc ?_ _)); refine blk_far ?_ NB356_369.out _; (with_reducible repeat (first | refine blk_drewN ?_ _ | refine blk_drew ?_ | refine blk_alloc ?_ _)); refine blk_far ?_ NB356_369.out _; (with_reducible repeat (first | refine blk_drewN ?_ _ | refine blk_drew ?_ | refine blk_alloc ?_ _)); refine blk_far ?_ NB356_369.out _; (with_reducible repeat (first | refine blk_drewN ?_ _ | refine blk_drew ?_ | refine blk_alloc ?_ _)); refine blk_far ?_ NB356_369.out _; (with_reducible repeat (first | refine blk_drewN ?_ _ | refine blk_drew ?_ | refine blk_alloc ?_ _)); refine blk_far ?_ NB356_369.out _; (with_reducible repeat (first | refine blk_drewN ?_ _ | refine blk_drew ?_ | refine blk_alloc ?_ _)); exact BK356.out⟩, ⟨by (with_reducible repeat (first | refine blk_drewN ?_ _ | refine blk_drew ?_ | refine blk_alloc ?_ _)); refine blk_put (cs := #[.int .i64 t360, .int .i64 t361, .int .i64 t362, .int .i64 t363, .slice none 0 0]) ?_ 4 _ rfl; (with_reducible repeat (first | refine blk_drewN ?_ _ | refine blk_drew ?_ | refine blk_alloc ?_ _)); refine blk_put (cs := #[.int .i64 t360, .int .i64 t361, .int .i64 t362, .int .i64 0, .slice none 0 0]) ?_ 3 _ rfl; (with_reducible repeat (first | refine blk_drewN ?_ _ | refine blk_drew ?_ | refine blk_alloc ?_ _)); refine blk_put (cs := #[.int .i64 t360, .int .i64 t361, .int .i64 0, .int .i64 0, .slice none 0 0]) ?_ 2 _ rfl; (with_reducible repeat (first | refine blk_drewN ?_ _ | refine blk_drew ?_ | refine blk_alloc ?_ _)); refine blk_put (cs := #[.int .i64 t360, .int .i64 0, .int .i64 0, .int .i64 0, .slice none 0 0]) ?_ 1 _ rfl; (with_reducible repeat (first | refine blk_drewN ?_ _ | refine blk_drew ?_ | refine blk_alloc ?_ _)); refine blk_put (cs := #[.int .i64 0, .int .i64 0, .int .i64 0, .int .i64 0, .slice none 0 0]) ?_ 0 _ rfl; (with_reducible repeat (first | refine blk_drewN ?_ _ | refine blk_drew ?_ | refine blk_alloc ?_ _)); exact BK369.out⟩, ⟨by repeat (first | (with_reducible first | exact HB.out | apply below_alloc | apply pw_below_drewN | apply below_drew1 | refine below_set ?_ GE356.out | refine below_set ?_ GE369.out) | exact HB.out)⟩⟩
                      · rw [if_neg c29] at H
                        have c29b0 : (t368 == 0) = false := beq_eq_false_iff_ne.mpr c29
                        have c29b1 : (t368 != 0) = true := bne_iff_ne.mpr c29
                        (first | rw [c29b0] | (simp only [i64_w, i32_w]; rw [c29b0]) | skip)
                        have H' := Aside0.mk H
                        clear H
                        go_wp2
                        go_meet
                        case rel => exact ⟨_, (true), (by first | rfl | (simp; done) | (simp [*]; done)), H', ⟨by have := HJ4.out; have := HK2.out; first | omega | exact Nat.le_refl _⟩, ⟨by (with_reducible repeat (first | apply Kd.Q_alloc | apply Kd.Q_drewN | apply Kd.Q_drew)); exact Kd.Q_mono (Kd.Q_far (p := ⟨gb369, 4, none⟩) (Kd.Q_far (p := ⟨gb369, 3, none⟩) (Kd.Q_far (p := ⟨gb369, 2, none⟩) (Kd.Q_far (p := ⟨gb369, 1, none⟩) (Kd.Q_far (p := ⟨gb369, 0, none⟩) (Kd.Q_types HO_357004.out BK369.out (by decide)) (fun _ hk => hk.2) (.int .i64 t360)) (fun _ hk => hk.2) (.int .i64 t361)) (fun _ hk => hk.2) (.int .i64 t362)) (fun _ hk => hk.2) (.int .i64 t363)) (fun _ hk => hk.2) (.slice Ao28 t364.length co28)) (fun _ hk => trivial)⟩, ⟨by (with_reducible repeat (first | apply Kd.Q_alloc | apply Kd.Q_drewN | apply Kd.Q_drew)); exact Kd.Q_mono (Kd.Q_far (p := ⟨gb369, 4, none⟩) (Kd.Q_far (p := ⟨gb369, 3, none⟩) (Kd.Q_far (p := ⟨gb369, 2, none⟩) (Kd.Q_far (p := ⟨gb369, 1, none⟩) (Kd.Q_far (p := ⟨gb369, 0, none⟩) (Kd.Q_types HO366.out BK369.out (by decide)) (fun _ hk => hk.2) (.int .i64 t360)) (fun _ hk => hk.2) (.int .i64 t361)) (fun _ hk => hk.2) (.int .i64 t362)) (fun _ hk => hk.2) (.int .i64 t363)) (fun _ hk => hk.2) (.slice Ao28 t364.length co28)) (fun _ hk => trivial)⟩, ⟨by (with_reducible repeat (first | refine blk_drewN ?_ _ | refine blk_drew ?_ | refine blk_alloc ?_ _)); refine blk_far ?_ NB356_369.out _; (with_reducible repeat (first | refine blk_drewN ?_ _ | refine blk_drew ?_ | refine blk_alloc ?_ _)); refine blk_far ?_ NB356_369.out _; (with_reducible repeat (first | refine blk_drewN ?_ _ | refine blk_drew ?_ | refine blk_alloc ?_ _)); refine blk_far ?_ NB356_369.out _; (with_reducible repeat (first | refine blk_drewN ?_ _ | refine blk_drew ?_ | refine blk_alloc ?_ _)); refine blk_far ?_ NB356_369.out _; (with_reducible repeat (first | refine blk_drewN ?_ _ | refine blk_drew ?_ | refine blk_alloc ?_ _)); refine blk_far ?_ NB356_369.out _; (with_reducible repeat (first | refine blk_drewN ?_ _ | refine blk_drew ?_ | refine blk_alloc ?_ _)); exact BK356.out⟩, ⟨by (with_reducible repeat (first | refine blk_drewN ?_ _ | refine blk_drew ?_ | refine blk_alloc ?_ _)); refine blk_put (cs := #[.int .i64 t360, .int .i64 t361, .int .i64 t362, .int .i64 t363, .slice none 0 0]) ?_ 4 _ rfl; (with_reducible repeat (first | refine blk_drewN ?_ _ | refine blk_drew ?_ | refine blk_alloc ?_ _)); refine blk_put (cs := #[.int .i64 t360, .int .i64 t361, .int .i64 t362, .int .i64 0, .slice none 0 0]) ?_ 3 _ rfl; (with_reducible repeat (first | refine blk_drewN ?_ _ | refine blk_drew ?_ | refine blk_alloc ?_ _)); refine blk_put (cs := #[.int .i64 t360, .int .i64 t361, .int .i64 0, .int .i64 0, .slice none 0 0]) ?_ 2 _ rfl; (with_reducible repeat (first | refine blk_drewN ?_ _ | refine blk_drew ?_ | refine blk_alloc ?_ _)); refine blk_put (cs := #[.int .i64 t360, .int .i64 0, .int .i64 0, .int .i64 0, .slice none 0 0]) ?_ 1 _ rfl; (with_reducible repeat (first | refine blk_drewN ?_ _ | refine blk_drew ?_ | refine blk_alloc ?_ _)); refine blk_put (cs := #[.int .i64 0, .int .i64 0, .int .i64 0, .int .i64 0, .slice none 0 0]) ?_ 0 _ rfl; (with_reducible repeat (first | refine blk_drewN ?_ _ | refine blk_drew ?_ | refine blk_alloc ?_ _)); exact BK369.out⟩, ⟨by repeat (first | (with_reducible first | exact HB.out | apply below_alloc | apply pw_below_drewN | apply below_drew1 | refine below_set ?_ GE356.out | refine below_set ?_ GE369.out) | exact HB.out)⟩⟩
                    case rest =>
                      clear HC21
                      try clear c1
                      try clear c2
                      try clear p2
                      try clear p3
                      try clear q3
                      try clear hx3
                      try clear c6
                      try clear p6
                      try clear c10
                      try clear c10b0
                      try clear c10b1
                      try clear c11
                      try clear c12
                      try clear c15
                      try clear c15b0
                      try clear c16
                      try clear c16b0
                      try clear c17
                      try clear c17b0
                      try clear c18
                      try clear c18b0
                      try clear c26
                      try clear c29
                      try clear c29b0
                      try clear c29b1
                      try clear hcz19_0
                      try clear hcz19_1
                      try clear hcz19_2
                      try clear hcz19_3
                      try clear hcz19_4
                      try clear hcz22_0
                      try clear hcz22_1
                      try clear hcz22_2
                      try clear hcz22_3
                      try clear hcz22_4
                      try clear hcz27_0
                      try clear hcz27_1
                      try clear hcz27_2
                      try clear hcz27_3
                      try clear hcz27_4
                      try clear hcz8_0
                      try clear hcz8_1
                      try clear hcz8_2
                      try clear hcz8_3
                      try clear hcz8_4
                      try clear hfz19_0
                      try clear hfz19_1
                      try clear hfz19_2
                      try clear hfz19_3
                      try clear hfz19_4
                      try clear hfz22_0
                      try clear hfz22_1
                      try clear hfz22_2
                      try clear hfz22_3
                      try clear hfz22_4
                      try clear hfz27_0
                      try clear hfz27_1
                      try clear hfz27_2
                      try clear hfz27_3
                      try clear hfz27_4
                      try clear hfz8_0
                      try clear hfz8_1
                      try clear hfz8_2
                      try clear hfz8_3
                      try clear hfz8_4
                      try clear hx359_0
                      try clear p2
                      try clear p359
                      try clear q359
                      obtain ⟨kq, x71_20, rfl, HA, HJ20, HO_357004, HO_370004, BK356, BK369, HB⟩ := hcut
                      cases kq with
                      | zero => exact absurd HA.out (by simp [standbylaw33_ThrottleWaits.j2])
                      | succ kj20 =>
                        have H := HA.out
                        clear HA
                        simp only [standbylaw33_ThrottleWaits.j2] at H
                        by_cases c30 : x71_20 = true
                        · subst c30
                          have H1 : (some false) = some r := by rw [if_pos rfl] at H; exact H
                          clear H
                          have H := H1
                          clear H1
                          obtain rfl := Option.some.inj H
                          go_wp2
                          go_ret
                          exact ⟨by first | rfl | (simp [errW_none, errW_some] <;> rfl) | (simp [*, errW_none, errW_some] <;> rfl), by repeat (first | (with_reducible first | exact HB.out | apply below_alloc | apply pw_below_drewN | apply below_drew1 | refine below_set ?_ GE356.out | refine below_set ?_ GE369.out) | exact HB.out)⟩
                        · replace c30 := Bool.eq_false_iff.mpr c30
                          subst c30
                          have H1 : (standbylaw33_ThrottleWaits.l1 kj20 x9_2 x10_2 x11_2 (wrap64 ((Int.tmod (wrap64 (rd l2 x43_2)) 30) + 1)) t367 l2 (l2.length : Int) x43_2 t360 t361 t362 t363 t364) = some r := by rw [if_neg (show ¬ (false = true) by decide)] at H; exact H
                          clear H
                          have H := H1
                          clear H1
                          have H' := Aside0.mk H
                          clear H
                          have hnb31 := NB369_356.out
                          have hnc31 := NB356_369.out
                          have hcz32_0 : wc.cell? ⟨gb369, 0, none⟩ = some (.int .i64 t360) := (blk_cell BK369.out 0).trans rfl
                          have hcz32_1 : wc.cell? ⟨gb369, 1, none⟩ = some (.int .i64 t361) := (blk_cell BK369.out 1).trans rfl
                          have hcz32_2 : wc.cell? ⟨gb369, 2, none⟩ = some (.int .i64 t362) := (blk_cell BK369.out 2).trans rfl
                          have hcz32_3 : wc.cell? ⟨gb369, 3, none⟩ = some (.int .i64 t363) := (blk_cell BK369.out 3).trans rfl
                          have hcz32_4 : wc.cell? ⟨gb369, 4, none⟩ = some (.slice Ao28 t364.length co28) := (blk_cell BK369.out 4).trans rfl
                          have hfz32_0 := blk_frozen BK369.out 0
                          have hfz32_1 := blk_frozen BK369.out 1
                          have hfz32_2 := blk_frozen BK369.out 2
                          have hfz32_3 := blk_frozen BK369.out 3
                          have hfz32_4 := blk_frozen BK369.out 4
                          have hcz33_0 : wc.cell? ⟨gb356, 0, none⟩ = some (.int .i64 x357000_2) := (blk_cell BK356.out 0).trans rfl
                          have hcz33_1 : wc.cell? ⟨gb356, 1, none⟩ = some (.int .i64 x357001_2) := (blk_cell BK356.out 1).trans rfl
                          have hcz33_2 : wc.cell? ⟨gb356, 2, none⟩ = some (.int .i64 x357002_2) := (blk_cell BK356.out 2).trans rfl
                          have hcz33_3 : wc.cell? ⟨gb356, 3, none⟩ = some (.int .i64 x357003_2) := (blk_cell BK356.out 3).trans rfl
                          have hcz33_4 : wc.cell? ⟨gb356, 4, none⟩ = some (.slice Ao23 x357004_2.length co23) := (blk_cell BK356.out 4).trans rfl
                          have hfz33_0 := blk_frozen BK356.out 0
                          have hfz33_1 := blk_frozen BK356.out 1
                          have hfz33_2 := blk_frozen BK356.out 2
                          have hfz33_3 := blk_frozen BK356.out 3
                          have hfz33_4 := blk_frozen BK356.out 4
                          go_wp2
                          go_loopg [9, 11, 18] kj20 (fun kq v9 v11 v18 w' => ∃ (x9_4 : Int) (x11_4 : Int) (x18_4 : Int) (x357000_4 : Int) (x357001_4 : Int) (x357002_4 : Int) (x357003_4 : Int) (x357004_4 : List (S71)) (u357004 : Value), v9 = .int .i64 x9_4 ∧ v11 = .int .i64 x11_4 ∧ v18 = .int .i64 x18_4 ∧ Aside0 (standbylaw33_ThrottleWaits.l1 kq x9_4 x10_2 x11_4 (wrap64 ((Int.tmod (wrap64 (rd l2 x43_2)) 30) + 1)) x18_4 l2 (l2.length : Int) x43_2 x357000_4 x357001_4 x357002_4 x357003_4 x357004_4 = some r) ∧ Aside0 (kq ≤ kj20) ∧ Aside0 (Kd.Q k71 71 w' w.heap.size (fun _ => True) u357004 x357004_4) ∧ Aside0 (Kd.Q k71 71 w' w.heap.size (fun _ => True) (.slice Ao28 t364.length co28) t364) ∧ Aside0 (w'.heap[gb356]? = some (.cells #[.int .i64 x357000_4, .int .i64 x357001_4, .int .i64 x357002_4, .int .i64 x357003_4, u357004] 24 (0, 0))) ∧ Aside0 (w'.heap[gb369]? = some (.cells #[.int .i64 t360, .int .i64 t361, .int .i64 t362, .int .i64 t363, (.slice Ao28 t364.length co28)] 24 (0, 0))) ∧ Aside0 (Below w.heap.size w w'))
                          case atStart => exact ⟨(x9_2), (x11_2), (t367), (t360), (t361), (t362), (t363), (t364), (.slice Ao28 t364.length co28), (by first | rfl | (simp; done) | (simp [*]; done)), (by first | rfl | (simp; done) | (simp [*]; done)), (by first | rfl | (simp; done) | (simp [*]; done)), H', ⟨Nat.le_refl _⟩, ⟨by (with_reducible repeat (first | apply Kd.Q_alloc | apply Kd.Q_drewN | apply Kd.Q_drew)); exact Kd.Q_mono (Kd.Q_far (p := ⟨gb356, 4, none⟩) (Kd.Q_far (p := ⟨gb356, 3, none⟩) (Kd.Q_far (p := ⟨gb356, 2, none⟩) (Kd.Q_far (p := ⟨gb356, 1, none⟩) (Kd.Q_far (p := ⟨gb356, 0, none⟩) (Kd.Q_types HO_370004.out BK356.out (by decide)) (fun _ hk => hk.2) (.int .i64 t360)) (fun _ hk => hk.2) (.int .i64 t361)) (fun _ hk => hk.2) (.int .i64 t362)) (fun _ hk => hk.2) (.int .i64 t363)) (fun _ hk => hk.2) (.slice Ao28 t364.length co28)) (fun _ hk => trivial)⟩, ⟨by (with_reducible repeat (first | apply Kd.Q_alloc | apply Kd.Q_drewN | apply Kd.Q_drew)); exact Kd.Q_mono (Kd.Q_far (p := ⟨gb356, 4, none⟩) (Kd.Q_far (p := ⟨gb356, 3, none⟩) (Kd.Q_far (p := ⟨gb356, 2, none⟩) (Kd.Q_far (p := ⟨gb356, 1, none⟩) (Kd.Q_far (p := ⟨gb356, 0, none⟩) (Kd.Q_types HO_370004.out BK356.out (by decide)) (fun _ hk => hk.2) (.int .i64 t360)) (fun _ hk => hk.2) (.int .i64 t361)) (fun _ hk => hk.2) (.int .i64 t362)) (fun _ hk => hk.2) (.int .i64 t363)) (fun _ hk => hk.2) (.slice Ao28 t364.length co28)) (fun _ hk => trivial)⟩, ⟨by (with_reducible repeat (first | refine blk_drewN ?_ _ | refine blk_drew ?_ | refine blk_alloc ?_ _)); refine blk_put (cs := #[.int .i64 t360, .int .i64 t361, .int .i64 t362, .int .i64 t363, .slice Ao23 x357004_2.length co23]) ?_ 4 _ rfl; (with_reducible repeat (first | refine blk_drewN ?_ _ | refine blk_drew ?_ | refine blk_alloc ?_ _)); refine blk_put (cs := #[.int .i64 t360, .int .i64 t361, .int .i64 t362, .int .i64 x357003_2, .slice Ao23 x357004_2.length co23]) ?_ 3 _ rfl; (with_reducible repeat (first | refine blk_drewN ?_ _ | refine blk_drew ?_ | refine blk_alloc ?_ _)); refine blk_put (cs := #[.int .i64 t360, .int .i64 t361, .int .i64 x357002_2, .int .i64 x357003_2, .slice Ao23 x357004_2.length co23]) ?_ 2 _ rfl; (with_reducible repeat (first | refine blk_drewN ?_ _ | refine blk_drew ?_ | refine blk_alloc ?_ _)); refine blk_put (cs := #[.int .i64 t360, .int .i64 x357001_2, .int .i64 x357002_2, .int .i64 x357003_2, .slice Ao23 x357004_2.length co23]) ?_ 1 _ rfl; (with_reducible repeat (first | refine blk_drewN ?_ _ | refine blk_drew ?_ | refine blk_alloc ?_ _)); refine blk_put (cs := #[.int .i64 x357000_2, .int .i64 x357001_2, .int .i64 x357002_2, .int .i64 x357003_2, .slice Ao23 x357004_2.length co23]) ?_ 0 _ rfl; (with_reducible repeat (first | refine blk_drewN ?_ _ | refine blk_drew ?_ | refine blk_alloc ?_ _)); exact BK356.out⟩, ⟨by (with_reducible repeat (first | refine blk_drewN ?_ _ | refine blk_drew ?_ | refine blk_alloc ?_ _)); refine blk_far ?_ NB369_356.out _; (with_reducible repeat (first | refine blk_drewN ?_ _ | refine blk_drew ?_ | refine blk_alloc ?_ _)); refine blk_far ?_ NB369_356.out _; (with_reducible repeat (first | refine blk_drewN ?_ _ | refine blk_drew ?_ | refine blk_alloc ?_ _)); refine blk_far ?_ NB369_356.out _; (with_reducible repeat (first | refine blk_drewN ?_ _ | refine blk_drew ?_ | refine blk_alloc ?_ _)); refine blk_far ?_ NB369_356.out _; (with_reducible repeat (first | refine blk_drewN ?_ _ | refine blk_drew ?_ | refine blk_alloc ?_ _)); refine blk_far ?_ NB369_356.out _; (with_reducible repeat (first | refine blk_drewN ?_ _ | refine blk_drew ?_ | refine blk_alloc ?_ _)); exact BK369.out⟩, ⟨by repeat (first | (with_reducible first | exact HB.out | apply below_alloc | apply pw_below_drewN | apply below_drew1 | refine below_set ?_ GE356.out | refine below_set ?_ GE369.out) | exact HB.out)⟩⟩
                          case round =>
                            clear H'
                            try clear c1
                            try clear c2
                            try clear p2
                            try clear c3
                            try clear p3
                            try clear q3
                            try clear hx3
                            try clear c6
                            try clear p6
                            try clear c10
                            try clear c10b0
                            try clear c10b1
                            try clear c11
                            try clear c12
                            try clear c15
                            try clear c15b0
                            try clear c16
                            try clear c16b0
                            try clear c17
                            try clear c17b0
                            try clear c18
                            try clear c18b0
                            try clear c26
                            try clear c29
                            try clear c29b0
                            try clear c29b1
                            try clear c30
                            try clear c31
                            try clear hcz19_0
                            try clear hcz19_1
                            try clear hcz19_2
                            try clear hcz19_3
                            try clear hcz19_4
                            try clear hcz22_0
                            try clear hcz22_1
                            try clear hcz22_2
                            try clear hcz22_3
                            try clear hcz22_4
                            try clear hcz27_0
                            try clear hcz27_1
                            try clear hcz27_2
                            try clear hcz27_3
                            try clear hcz27_4
                            try clear hcz32_0
                            try clear hcz32_1
                            try clear hcz32_2
                            try clear hcz32_3
                            try clear hcz32_4
                            try clear hcz33_0
                            try clear hcz33_1
                            try clear hcz33_2
                            try clear hcz33_3
                            try clear hcz33_4
                            try clear hcz8_0
                            try clear hcz8_1
                            try clear hcz8_2
                            try clear hcz8_3
                            try clear hcz8_4
                            try clear hfz19_0
                            try clear hfz19_1
                            try clear hfz19_2
                            try clear hfz19_3
                            try clear hfz19_4
                            try clear hfz22_0
                            try clear hfz22_1
                            try clear hfz22_2
                            try clear hfz22_3
                            try clear hfz22_4
                            try clear hfz27_0
                            try clear hfz27_1
                            try clear hfz27_2
                            try clear hfz27_3
                            try clear hfz27_4
                            try clear hfz32_0
                            try clear hfz32_1
                            try clear hfz32_2
                            try clear hfz32_3
                            try clear hfz32_4
                            try clear hfz33_0
                            try clear hfz33_1
                            try clear hfz33_2
                            try clear hfz33_3
                            try clear hfz33_4
                            try clear hfz8_0
                            try clear hfz8_1
                            try clear hfz8_2
                            try clear hfz8_3
                            try clear hfz8_4
                            try clear hx359_0
                            try clear p2
                            try clear p3
                            try clear p359
                            try clear p6
                            try clear q3
                            try clear q359
                            obtain ⟨x9_4, x11_4, x18_4, x357000_4, x357001_4, x357002_4, x357003_4, x357004_4, u357004, rfl, rfl, rfl, HA, HK4, HO_357004, HO_370004, BK356, BK369, HB⟩ := hrel
                            cases gk with
                            | zero => exact absurd HA.out (by simp [standbylaw33_ThrottleWaits.l1])
                            | succ k4 =>
                              have H := HA.out
                              clear HA
                              simp only [standbylaw33_ThrottleWaits.l1] at H
                              by_cases c34 : x18_4 > 0
                              · rw [if_pos c34] at H
                                have c34b0 : decide (0 < x18_4) = true := decide_eq_true c34
                                clear c34
                                obtain ⟨ji35, hji35⟩ : ∃ j_ : Int, (mn x10_2 (wrap64 (x11_4 + x357001_4))) = j_ := ⟨_, rfl⟩
                                replace H : ((throttle_Progress.f k4 x357000_4 x357001_4 x357002_4 x357003_4 x357004_4 (wrap64 (x9_4 + 1)) (ji35)).bind fun bt371 => ((throttle_Write.f k4 bt371.1 bt371.2.1 bt371.2.2.1 bt371.2.2.2.1 bt371.2.2.2.2.1 (wrap64 (x9_4 + 1)) (wrap64 ((Int.tmod (wrap64 (rd l2 x43_2)) 30) + 1))).bind fun bt380 => (if bt371.2.2.2.2.2 = 0 then (if bt380.2.2.2.2.2.2 = 0 then (standbylaw33_ThrottleWaits.j4 k4 (wrap64 (x9_4 + 1)) x10_2 ji35 (wrap64 ((Int.tmod (wrap64 (rd l2 x43_2)) 30) + 1)) x18_4 bt380.2.2.2.2.2.1 l2 (l2.length : Int) x43_2 (bt380.2.2.2.2.2.1 != (wrap64 (x18_4 - 1))) bt371.1 bt371.2.1 bt371.2.2.1 bt371.2.2.2.1 bt371.2.2.2.2.1 bt380.1 bt380.2.1 bt380.2.2.1 bt380.2.2.2.1 bt380.2.2.2.2.1) else (standbylaw33_ThrottleWaits.j4 k4 (wrap64 (x9_4 + 1)) x10_2 ji35 (wrap64 ((Int.tmod (wrap64 (rd l2 x43_2)) 30) + 1)) x18_4 bt380.2.2.2.2.2.1 l2 (l2.length : Int) x43_2 true bt371.1 bt371.2.1 bt371.2.2.1 bt371.2.2.2.1 bt371.2.2.2.2.1 bt380.1 bt380.2.1 bt380.2.2.1 bt380.2.2.2.1 bt380.2.2.2.2.1)) else (standbylaw33_ThrottleWaits.j4 k4 (wrap64 (x9_4 + 1)) x10_2 ji35 (wrap64 ((Int.tmod (wrap64 (rd l2 x43_2)) 30) + 1)) x18_4 bt380.2.2.2.2.2.1 l2 (l2.length : Int) x43_2 true bt371.1 bt371.2.1 bt371.2.2.1 bt371.2.2.2.1 bt371.2.2.2.2.1 bt380.1 bt380.2.1 bt380.2.2.1 bt380.2.2.2.1 bt380.2.2.2.2.1)))) = some r := by first | (rw [hji35] at H; exact H) | (simp only [hji35] at H ⊢; exact H)
                                have hji35_ : (if (wrap64 (x11_4 + x357001_4)) < x10_2 then (wrap64 (x11_4 + x357001_4)) else x10_2) = ji35 := hji35
                                replace H := Option.bind_eq_some_iff.mp H
                                obtain ⟨⟨t371, t372, t373, t374, t375, t378⟩, A360, H⟩ := H
                                replace H : ((throttle_Write.f k4 t371 t372 t373 t374 t375 (wrap64 (x9_4 + 1)) (wrap64 ((Int.tmod (wrap64 (rd l2 x43_2)) 30) + 1))).bind fun bt380 => (if t378 = 0 then (if bt380.2.2.2.2.2.2 = 0 then (standbylaw33_ThrottleWaits.j4 k4 (wrap64 (x9_4 + 1)) x10_2 ji35 (wrap64 ((Int.tmod (wrap64 (rd l2 x43_2)) 30) + 1)) x18_4 bt380.2.2.2.2.2.1 l2 (l2.length : Int) x43_2 (bt380.2.2.2.2.2.1 != (wrap64 (x18_4 - 1))) t371 t372 t373 t374 t375 bt380.1 bt380.2.1 bt380.2.2.1 bt380.2.2.2.1 bt380.2.2.2.2.1) else (standbylaw33_ThrottleWaits.j4 k4 (wrap64 (x9_4 + 1)) x10_2 ji35 (wrap64 ((Int.tmod (wrap64 (rd l2 x43_2)) 30) + 1)) x18_4 bt380.2.2.2.2.2.1 l2 (l2.length : Int) x43_2 true t371 t372 t373 t374 t375 bt380.1 bt380.2.1 bt380.2.2.1 bt380.2.2.2.1 bt380.2.2.2.2.1)) else (standbylaw33_ThrottleWaits.j4 k4 (wrap64 (x9_4 + 1)) x10_2 ji35 (wrap64 ((Int.tmod (wrap64 (rd l2 x43_2)) 30) + 1)) x18_4 bt380.2.2.2.2.2.1 l2 (l2.length : Int) x43_2 true t371 t372 t373 t374 t375 bt380.1 bt380.2.1 bt380.2.2.1 bt380.2.2.2.1 bt380.2.2.2.2.1))) = some r := H
                                have A36 := Aside0.mk A360
                                clear A360
                                replace H := Option.bind_eq_some_iff.mp H
                                obtain ⟨⟨t380, t381, t382, t383, t384, t387, t388⟩, A370, H⟩ := H
                                replace H : (if t378 = 0 then (if t388 = 0 then (standbylaw33_ThrottleWaits.j4 k4 (wrap64 (x9_4 + 1)) x10_2 ji35 (wrap64 ((Int.tmod (wrap64 (rd l2 x43_2)) 30) + 1)) x18_4 t387 l2 (l2.length : Int) x43_2 (t387 != (wrap64 (x18_4 - 1))) t371 t372 t373 t374 t375 t380 t381 t382 t383 t384) else (standbylaw33_ThrottleWaits.j4 k4 (wrap64 (x9_4 + 1)) x10_2 ji35 (wrap64 ((Int.tmod (wrap64 (rd l2 x43_2)) 30) + 1)) x18_4 t387 l2 (l2.length : Int) x43_2 true t371 t372 t373 t374 t375 t380 t381 t382 t383 t384)) else (standbylaw33_ThrottleWaits.j4 k4 (wrap64 (x9_4 + 1)) x10_2 ji35 (wrap64 ((Int.tmod (wrap64 (rd l2 x43_2)) 30) + 1)) x18_4 t387 l2 (l2.length : Int) x43_2 true t371 t372 t373 t374 t375 t380 t381 t382 t383 t384)) = some r := H
                                have A37 := Aside0.mk A370
                                clear A370
                                have HC38 := Aside0.mk H
                                clear H
                                have hnb39 := NB356_369.out
                                have hnc39 := NB369_356.out
                                have hcz40_0 : wr.cell? ⟨gb356, 0, none⟩ = some (.int .i64 x357000_4) := (blk_cell BK356.out 0).trans rfl
                                have hcz40_1 : wr.cell? ⟨gb356, 1, none⟩ = some (.int .i64 x357001_4) := (blk_cell BK356.out 1).trans rfl
                                have hcz40_2 : wr.cell? ⟨gb356, 2, none⟩ = some (.int .i64 x357002_4) := (blk_cell BK356.out 2).trans rfl
                                have hcz40_3 : wr.cell? ⟨gb356, 3, none⟩ = some (.int .i64 x357003_4) := (blk_cell BK356.out 3).trans rfl
                                have hcz40_4 : wr.cell? ⟨gb356, 4, none⟩ = some (u357004) := (blk_cell BK356.out 4).trans rfl
                                have hfz40_0 := blk_frozen BK356.out 0
                                have hfz40_1 := blk_frozen BK356.out 1
                                have hfz40_2 := blk_frozen BK356.out 2
                                have hfz40_3 := blk_frozen BK356.out 3
                                have hfz40_4 := blk_frozen BK356.out 4
                                obtain ⟨Ao41, co41, eo41, _⟩ := Kd.Q_slice HO_357004.out
                                subst eo41
                                go_upto_region 21 with (first | ((with_reducible refine gate_callee (f := 19) rfl ?_); refine goesL_ (some 90) rfl rfl Try.func19 (by kernel_rfl) rfl #[.agg #[.int .i64 x357000_4, .int .i64 x357001_4, .int .i64 x357002_4, .int .i64 x357003_4, .slice Ao41 x357004_4.length co41], .int .i64 (wrap64 (x9_4 + 1)), .int .i64 ji35] rfl (by (try simp only [List.map_toArray, List.map_cons, List.map_nil]); first | done | (simp only [hji35]; rfl) | rfl | (simp only [List.length_drop, List.length_take]; rfl)) ?_; (with_reducible refine (throttle_Progress.calls k4 x357000_4 x357001_4 x357002_4 x357003_4 _ _ x357004_4 (wrap64 (x9_4 + 1)) ji35 t371 t372 t373 t374 t375 t378 _ ?side1 ?side2 A36.out).mono ?_); (case side1 => repeat (first | exact (Kd.Q_reads' HO_357004.out).2.2 | (with_reducible refine Kd.C_alloc ?_ _) | (with_reducible refine Kd.C_drewN ?_ _) | (with_reducible refine Kd.C_drew ?_))); (case side2 => exact (Kd.Q_reads' HO_357004.out).2.1); rintro e w42 ⟨v376, rfl, ho0, hb⟩; refine ⟨_, rfl, ?_⟩; have n0_ := Aside0.mk (Kd.Q_elder' (by (with_reducible repeat (first | apply Kd.Q_alloc | apply Kd.Q_drewN | apply Kd.Q_drew)); exact HO_357004.out) (Kd.Q_base ho0) hb); have n1_ := Aside0.mk (Kd.Q_elder' (by (with_reducible repeat (first | apply Kd.Q_alloc | apply Kd.Q_drewN | apply Kd.Q_drew)); exact HO_370004.out) (Kd.Q_base ho0) hb); have n2_ := Aside0.mk (Kd.Q_lower (Kd.Q_new' (Kd.Q_new' ho0 (Kd.Q_lt (by (with_reducible repeat (first | apply Kd.Q_alloc | apply Kd.Q_drewN | apply Kd.Q_drew)); exact HO_357004.out))) (Kd.Q_lt (by (with_reducible repeat (first | apply Kd.Q_alloc | apply Kd.Q_drewN | apply Kd.Q_drew)); exact HO_370004.out))) (below_size (by repeat (first | (with_reducible first | exact HB.out | apply below_alloc | apply pw_below_drewN | apply below_drew1 | refine below_set ?_ GE356.out | refine below_set ?_ GE369.out) | exact HB.out)))); have n3_ := Aside0.mk (blk_below (g := gb356) (o := .cells #[.int .i64 x357000_4, .int .i64 x357001_4, .int .i64 x357002_4, .int .i64 x357003_4, .slice Ao41 x357004_4.length co41] 24 (0, 0)) (by (with_reducible repeat (first | refine blk_drewN ?_ _ | refine blk_drew ?_ | refine blk_alloc ?_ _)); exact BK356.out) hb); have n4_ := Aside0.mk (blk_below (g := gb369) (o := .cells #[.int .i64 t360, .int .i64 t361, .int .i64 t362, .int .i64 t363, .slice Ao28 t364.length co28] 24 (0, 0)) (by (with_reducible repeat (first | refine blk_drewN ?_ _ | refine blk_drew ?_ | refine blk_alloc ?_ _)); exact BK369.out) hb); have n5_ := Aside0.mk (below_step (by repeat (first | (with_reducible first | exact HB.out | apply below_alloc | apply pw_below_drewN | apply below_drew1 | refine below_set ?_ GE356.out | refine below_set ?_ GE369.out) | exact HB.out)) hb); clear HO_357004; clear HO_370004; clear BK356; clear BK369; clear HB; have HO_357004 := n0_; have HO_370004 := n1_; have HO377 := n2_; have BK356 := n3_; have BK369 := n4_; have HB := n5_; clear n0_ n1_ n2_ n3_ n4_ n5_; (try clear hb); (try clear hb2); (try clear hk); (try clear hi); (try clear ho0)) | ((with_reducible refine gate_dst (N := 19) rfl ?_); refine box_event ?hg (N := 19) ?hd (cs := #[.int .i64 0, .int .i64 0, .int .i64 0, .int .i64 0, .slice none 0 0]) (t := 24) ?hr ?_; (case hd => rfl); (case hg => rfl); (case hr => first | (go_simp; done) | (go_simp; rfl)); intro gb379 hg w43 hbox hb; have n0_ := Aside0.mk (Kd.Q_below (by (with_reducible repeat (first | apply Kd.Q_alloc | apply Kd.Q_drewN | apply Kd.Q_drew)); exact HO_357004.out) hb); have n1_ := Aside0.mk (Kd.Q_below (by (with_reducible repeat (first | apply Kd.Q_alloc | apply Kd.Q_drewN | apply Kd.Q_drew)); exact HO_370004.out) hb); have n2_ := Aside0.mk (Kd.Q_below (by (with_reducible repeat (first | apply Kd.Q_alloc | apply Kd.Q_drewN | apply Kd.Q_drew)); exact HO377.out) hb); have n3_ := Aside0.mk (blk_below (g := gb356) (o := .cells #[.int .i64 x357000_4, .int .i64 x357001_4, .int .i64 x357002_4, .int .i64 x357003_4, .slice Ao41 x357004_4.length co41] 24 (0, 0)) (by (with_reducible repeat (first | refine blk_drewN ?_ _ | refine blk_drew ?_ | refine blk_alloc ?_ _)); exact BK356.out) hb); have n4_ := Aside0.mk (blk_below (g := gb369) (o := .cells #[.int .i64 t360, .int .i64 t361, .int .i64 t362, .int .i64 t363, .slice Ao28 t364.length co28] 24 (0, 0)) (by (with_reducible repeat (first | refine blk_drewN ?_ _ | refine blk_drew ?_ | refine blk_alloc ?_ _)); exact BK369.out) hb); have n5_ := Aside0.mk (below_step (by repeat (first | (with_reducible first | exact HB.out | apply below_alloc | apply pw_below_drewN | apply below_drew1 | refine below_set ?_ GE356.out | refine below_set ?_ GE369.out) | exact HB.out)) hb); have n6_ := Aside0.mk (hbox); have n7_ := Aside0.mk ((by rw [hg]; exact (below_size (by repeat (first | (with_reducible first | exact HB.out | apply below_alloc | apply pw_below_drewN | apply below_drew1 | refine below_set ?_ GE356.out | refine below_set ?_ GE369.out) | exact HB.out))) : w.heap.size ≤ gb379)); have n8_ := Aside0.mk ((by rw [hg]; exact (below_size (by repeat (first | (with_reducible first | exact HB.out | apply below_alloc | apply pw_below_drewN | apply below_drew1 | refine below_set ?_ GE356.out | refine below_set ?_ GE369.out) | exact HB.out))) : w.heap.size ≤ gb379)); have n9_ := Aside0.mk ((by rw [hg]; exact Nat.ne_of_lt (blk_lt (g := gb356) (o := .cells #[.int .i64 x357000_4, .int .i64 x357001_4, .int .i64 x357002_4, .int .i64 x357003_4, .slice Ao41 x357004_4.length co41] 24 (0, 0)) (by (with_reducible repeat (first | refine blk_drewN ?_ _ | refine blk_drew ?_ | refine blk_alloc ?_ _)); exact BK356.out)) : gb356 ≠ gb379)); have n10_ := Aside0.mk ((by rw [hg]; exact Nat.ne_of_gt (blk_lt (g := gb356) (o := .cells #[.int .i64 x357000_4, .int .i64 x357001_4, .int .i64 x357002_4, .int .i64 x357003_4, .slice Ao41 x357004_4.length co41] 24 (0, 0)) (by (with_reducible repeat (first | refine blk_drewN ?_ _ | refine blk_drew ?_ | refine blk_alloc ?_ _)); exact BK356.out)) : gb379 ≠ gb356)); have n11_ := Aside0.mk ((by rw [hg]; exact Nat.ne_of_lt (blk_lt (g := gb369) (o := .cells #[.int .i64 t360, .int .i64 t361, .int .i64 t362, .int .i64 t363, .slice Ao28 t364.length co28] 24 (0, 0)) (by (with_reducible repeat (first | refine blk_drewN ?_ _ | refine blk_drew ?_ | refine blk_alloc ?_ _)); exact BK369.out)) : gb369 ≠ gb379)); have n12_ := Aside0.mk ((by rw [hg]; exact Nat.ne_of_gt (blk_lt (g := gb369) (o := .cells #[.int .i64 t360, .int .i64 t361, .int .i64 t362, .int .i64 t363, .slice Ao28 t364.length co28] 24 (0, 0)) (by (with_reducible repeat (first | refine blk_drewN ?_ _ | refine blk_drew ?_ | refine blk_alloc ?_ _)); exact BK369.out)) : gb379 ≠ gb369)); clear HO_357004; clear HO_370004; clear HO377; clear BK356; clear BK369; clear HB; have HO_357004 := n0_; have HO_370004 := n1_; have HO377 := n2_; have BK356 := n3_; have BK369 := n4_; have HB := n5_; have BK379 := n6_; have GW379 := n7_; have GE379 := n8_; have NB356_379 := n9_; have NB379_356 := n10_; have NB369_379 := n11_; have NB379_369 := n12_; clear n0_ n1_ n2_ n3_ n4_ n5_ n6_ n7_ n8_ n9_ n10_ n11_ n12_; clear hb hbox hg; have hnb44 := NB379_356.out; have hnc44 := NB356_379.out; have hnb45 := NB379_369.out; have hnc45 := NB369_379.out; have hcz46_0 : w43.cell? ⟨gb379, 0, none⟩ = some (.int .i64 0) := (blk_cell BK379.out 0).trans rfl; have hcz46_1 : w43.cell? ⟨gb379, 1, none⟩ = some (.int .i64 0) := (blk_cell BK379.out 1).trans rfl; have hcz46_2 : w43.cell? ⟨gb379, 2, none⟩ = some (.int .i64 0) := (blk_cell BK379.out 2).trans rfl; have hcz46_3 : w43.cell? ⟨gb379, 3, none⟩ = some (.int .i64 0) := (blk_cell BK379.out 3).trans rfl; have hcz46_4 : w43.cell? ⟨gb379, 4, none⟩ = some (.slice none 0 0) := (blk_cell BK379.out 4).trans rfl; have hfz46_0 := blk_frozen BK379.out 0; have hfz46_1 := blk_frozen BK379.out 1; have hfz46_2 := blk_frozen BK379.out 2; have hfz46_3 := blk_frozen BK379.out 3; have hfz46_4 := blk_frozen BK379.out 4; obtain ⟨Ao47, co47, eo47, _⟩ := Kd.Q_slice HO377.out; subst eo47) | ((with_reducible refine gate_callee (f := 16) rfl ?_); refine goesL_ (some 97) rfl rfl Try.func16 (by kernel_rfl) rfl #[.agg #[.int .i64 t371, .int .i64 t372, .int .i64 t373, .int .i64 t374, .slice Ao47 t375.length co47], .int .i64 (wrap64 (x9_4 + 1)), .int .i64 (wrap64 ((Int.tmod (wrap64 (rd l2 x43_2)) 30) + 1))] rfl (by (try simp only [List.map_toArray, List.map_cons, List.map_nil]); first | done | rfl | (simp only [List.length_drop, List.length_take]; rfl)) ?_; (with_reducible refine (throttle_Write.calls k4 t371 t372 t373 t374 _ _ t375 (wrap64 (x9_4 + 1)) (wrap64 ((Int.tmod (wrap64 (rd l2 x43_2)) 30) + 1)) t380 t381 t382 t383 t384 t387 t388 _ ?side1 ?side2 A37.out).mono ?_); (case side1 => refine (Kd.Q_reads' (e := 71) (base := w.heap.size) (ok := fun k_ => ((True ∧ some k_ ≠ (.slice Ao41 x357004_4.length co41 : Value).ownBlock) ∧ some k_ ≠ (.slice Ao28 t364.length co28 : Value).ownBlock)) (n := t375.length) (c := co47) ?_).2.2; exact (by (with_reducible repeat (first | apply Kd.Q_alloc | apply Kd.Q_drewN | apply Kd.Q_drew)); exact (Kd.Q_mono (Kd.Q_far (p := ⟨gb379, 4, none⟩) (Kd.Q_far (p := ⟨gb379, 3, none⟩) (Kd.Q_far (p := ⟨gb379, 2, none⟩) (Kd.Q_far (p := ⟨gb379, 1, none⟩) (Kd.Q_far (p := ⟨gb379, 0, none⟩) (Kd.Q_types HO377.out BK379.out (by decide)) (fun _ hk => hk.2) (.int .i64 t371)) (fun _ hk => hk.2) (.int .i64 t372)) (fun _ hk => hk.2) (.int .i64 t373)) (fun _ hk => hk.2) (.int .i64 t374)) (fun _ hk => hk.2) (.slice Ao47 t375.length co47)) (fun _ h_ => h_.1)))); (case side2 => exact (Kd.Q_reads' HO377.out).2.1); rintro e w48 ⟨v385, rfl, ho0, hb⟩; refine ⟨_, rfl, ?_⟩; have n0_ := Aside0.mk (Kd.Q_elder' (by (with_reducible repeat (first | apply Kd.Q_alloc | apply Kd.Q_drewN | apply Kd.Q_drew)); exact (Kd.Q_mono (Kd.Q_far (p := ⟨gb379, 4, none⟩) (Kd.Q_far (p := ⟨gb379, 3, none⟩) (Kd.Q_far (p := ⟨gb379, 2, none⟩) (Kd.Q_far (p := ⟨gb379, 1, none⟩) (Kd.Q_far (p := ⟨gb379, 0, none⟩) (Kd.Q_types HO_357004.out BK379.out (by decide)) (fun _ hk => hk.2) (.int .i64 t371)) (fun _ hk => hk.2) (.int .i64 t372)) (fun _ hk => hk.2) (.int .i64 t373)) (fun _ hk => hk.2) (.int .i64 t374)) (fun _ hk => hk.2) (.slice Ao47 t375.length co47)) (fun _ h_ => h_.1))) (Kd.Q_base ho0) hb); have n1_ := Aside0.mk (Kd.Q_elder' (by (with_reducible repeat (first | apply Kd.Q_alloc | apply Kd.Q_drewN | apply Kd.Q_drew)); exact (Kd.Q_mono (Kd.Q_far (p := ⟨gb379, 4, none⟩) (Kd.Q_far (p := ⟨gb379, 3, none⟩) (Kd.Q_far (p := ⟨gb379, 2, none⟩) (Kd.Q_far (p := ⟨gb379, 1, none⟩) (Kd.Q_far (p := ⟨gb379, 0, none⟩) (Kd.Q_types HO_370004.out BK379.out (by decide)) (fun _ hk => hk.2) (.int .i64 t371)) (fun _ hk => hk.2) (.int .i64 t372)) (fun _ hk => hk.2) (.int .i64 t373)) (fun _ hk => hk.2) (.int .i64 t374)) (fun _ hk => hk.2) (.slice Ao47 t375.length co47)) (fun _ h_ => h_.1))) (Kd.Q_base ho0) hb); have n2_ := Aside0.mk (Kd.Q_elder' (by (with_reducible repeat (first | apply Kd.Q_alloc | apply Kd.Q_drewN | apply Kd.Q_drew)); exact (Kd.Q_mono (Kd.Q_far (p := ⟨gb379, 4, none⟩) (Kd.Q_far (p := ⟨gb379, 3, none⟩) (Kd.Q_far (p := ⟨gb379, 2, none⟩) (Kd.Q_far (p := ⟨gb379, 1, none⟩) (Kd.Q_far (p := ⟨gb379, 0, none⟩) (Kd.Q_types HO377.out BK379.out (by decide)) (fun _ hk => hk.2) (.int .i64 t371)) (fun _ hk => hk.2) (.int .i64 t372)) (fun _ hk => hk.2) (.int .i64 t373)) (fun _ hk => hk.2) (.int .i64 t374)) (fun _ hk => hk.2) (.slice Ao47 t375.length co47)) (fun _ h_ => h_.1))) (Kd.Q_base ho0) hb); have n3_ := Aside0.mk (Kd.Q_lower (Kd.Q_new' (Kd.Q_new' (Kd.Q_new' ho0 (Kd.Q_lt (by (with_reducible repeat (first | apply Kd.Q_alloc | apply Kd.Q_drewN | apply Kd.Q_drew)); exact (Kd.Q_mono (Kd.Q_far (p := ⟨gb379, 4, none⟩) (Kd.Q_far (p := ⟨gb379, 3, none⟩) (Kd.Q_far (p := ⟨gb379, 2, none⟩) (Kd.Q_far (p := ⟨gb379, 1, none⟩) (Kd.Q_far (p := ⟨gb379, 0, none⟩) (Kd.Q_types HO_357004.out BK379.out (by decide)) (fun _ hk => hk.2) (.int .i64 t371)) (fun _ hk => hk.2) (.int .i64 t372)) (fun _ hk => hk.2) (.int .i64 t373)) (fun _ hk => hk.2) (.int .i64 t374)) (fun _ hk => hk.2) (.slice Ao47 t375.length co47)) (fun _ h_ => h_.1))))) (Kd.Q_lt (by (with_reducible repeat (first | apply Kd.Q_alloc | apply Kd.Q_drewN | apply Kd.Q_drew)); exact (Kd.Q_mono (Kd.Q_far (p := ⟨gb379, 4, none⟩) (Kd.Q_far (p := ⟨gb379, 3, none⟩) (Kd.Q_far (p := ⟨gb379, 2, none⟩) (Kd.Q_far (p := ⟨gb379, 1, none⟩) (Kd.Q_far (p := ⟨gb379, 0, none⟩) (Kd.Q_types HO_370004.out BK379.out (by decide)) (fun _ hk => hk.2) (.int .i64 t371)) (fun _ hk => hk.2) (.int .i64 t372)) (fun _ hk => hk.2) (.int .i64 t373)) (fun _ hk => hk.2) (.int .i64 t374)) (fun _ hk => hk.2) (.slice Ao47 t375.length co47)) (fun _ h_ => h_.1))))) (Kd.Q_lt (by (with_reducible repeat (first | apply Kd.Q_alloc | apply Kd.Q_drewN | apply Kd.Q_drew)); exact (Kd.Q_mono (Kd.Q_far (p := ⟨gb379, 4, none⟩) (Kd.Q_far (p := ⟨gb379, 3, none⟩) (Kd.Q_far (p := ⟨gb379, 2, none⟩) (Kd.Q_far (p := ⟨gb379, 1, none⟩) (Kd.Q_far (p := ⟨gb379, 0, none⟩) (Kd.Q_types HO377.out BK379.out (by decide)) (fun _ hk => hk.2) (.int .i64 t371)) (fun _ hk => hk.2) (.int .i64 t372)) (fun _ hk => hk.2) (.int .i64 t373)) (fun _ hk => hk.2) (.int .i64 t374)) (fun _ hk => hk.2) (.slice Ao47 t375.length co47)) (fun _ h_ => h_.1))))) (below_size (by repeat (first | (with_reducible first | exact HB.out | apply below_alloc | apply pw_below_drewN | apply below_drew1 | refine below_set ?_ GE356.out | refine below_set ?_ GE369.out | refine below_set ?_ GE379.out) | exact HB.out)))); have n4_ := Aside0.mk (blk_below (g := gb356) (o := .cells #[.int .i64 x357000_4, .int .i64 x357001_4, .int .i64 x357002_4, .int .i64 x357003_4, .slice Ao41 x357004_4.length co41] 24 (0, 0)) (by (with_reducible repeat (first | refine blk_drewN ?_ _ | refine blk_drew ?_ | refine blk_alloc ?_ _)); refine blk_far ?_ NB356_379.out _; (with_reducible repeat (first | refine blk_drewN ?_ _ | refine blk_drew ?_ | refine blk_alloc ?_ _)); refine blk_far ?_ NB356_379.out _; (with_reducible repeat (first | refine blk_drewN ?_ _ | refine blk_drew ?_ | refine blk_alloc ?_ _)); refine blk_far ?_ NB356_379.out _; (with_reducible repeat (first | refine blk_drewN ?_ _ | refine blk_drew ?_ | refine blk_alloc ?_ _)); refine blk_far ?_ NB356_379.out _; (with_reducible repeat (first | refine blk_drewN ?_ _ | refine blk_drew ?_ | refine blk_alloc ?_ _)); refine blk_far ?_ NB356_379.out _; (with_reducible repeat (first | refine blk_drewN ?_ _ | refine blk_drew ?_ | refine blk_alloc ?_ _)); exact BK356.out) hb); have n5_ := Aside0.mk (blk_below (g := gb369) (o := .cells #[.int .i64 t360, .int .i64 t361, .int .i64 t362, .int .i64 t363, .slice Ao28 t364.length co28] 24 (0, 0)) (by (with_reducible repeat (first | refine blk_drewN ?_ _ | refine blk_drew ?_ | refine blk_alloc ?_ _)); refine blk_far ?_ NB369_379.out _; (with_reducible repeat (first | refine blk_drewN ?_ _ | refine blk_drew ?_ | refine blk_alloc ?_ _)); refine blk_far ?_ NB369_379.out _; (with_reducible repeat (first | refine blk_drewN ?_ _ | refine blk_drew ?_ | refine blk_alloc ?_ _)); refine blk_far ?_ NB369_379.out _; (with_reducible repeat (first | refine blk_drewN ?_ _ | refine blk_drew ?_ | refine blk_alloc ?_ _)); refine blk_far ?_ NB369_379.out _; (with_reducible repeat (first | refine blk_drewN ?_ _ | refine blk_drew ?_ | refine blk_alloc ?_ _)); refine blk_far ?_ NB369_379.out _; (with_reducible repeat (first | refine blk_drewN ?_ _ | refine blk_drew ?_ | refine blk_alloc ?_ _)); exact BK369.out) hb); have n6_ := Aside0.mk (blk_below (g := gb379) (o := .cells #[.int .i64 t371, .int .i64 t372, .int .i64 t373, .int .i64 t374, .slice Ao47 t375.length co47] 24 (0, 0)) (by (with_reducible repeat (first | refine blk_drewN ?_ _ | refine blk_drew ?_ | refine blk_alloc ?_ _)); refine blk_put (cs := #[.int .i64 t371, .int .i64 t372, .int .i64 t373, .int .i64 t374, .slice none 0 0]) ?_ 4 _ rfl; (with_reducible repeat (first | refine blk_drewN ?_ _ | refine blk_drew ?_ | refine blk_alloc ?_ _)); refine blk_put (cs := #[.int .i64 t371, .int .i64 t372, .int .i64 t373, .int .i64 0, .slice none 0 0]) ?_ 3 _ rfl; (with_reducible repeat (first | refine blk_drewN ?_ _ | refine blk_drew ?_ | refine blk_alloc ?_ _)); refine blk_put (cs := #[.int .i64 t371, .int .i64 t372, .int .i64 0, .int .i64 0, .slice none 0 0]) ?_ 2 _ rfl; (with_reducible repeat (first | refine blk_drewN ?_ _ | refine blk_drew ?_ | refine blk_alloc ?_ _)); refine blk_put (cs := #[.int .i64 t371, .int .i64 0, .int .i64 0, .int .i64 0, .slice none 0 0]) ?_ 1 _ rfl; (with_reducible repeat (first | refine blk_drewN ?_ _ | refine blk_drew ?_ | refine blk_alloc ?_ _)); refine blk_put (cs := #[.int .i64 0, .int .i64 0, .int .i64 0, .int .i64 0, .slice none 0 0]) ?_ 0 _ rfl; (with_reducible repeat (first | refine blk_drewN ?_ _ | refine blk_drew ?_ | refine blk_alloc ?_ _)); exact BK379.out) hb); have n7_ := Aside0.mk (below_step (by repeat (first | (with_reducible first | exact HB.out | apply below_alloc | apply pw_below_drewN | apply below_drew1 | refine below_set ?_ GE356.out | refine below_set ?_ GE369.out | refine below_set ?_ GE379.out) | exact HB.out)) hb); clear HO_357004; clear HO_370004; clear HO377; clear BK356; clear BK369; clear BK379; clear HB; have HO_357004 := n0_; have HO_370004 := n1_; have HO377 := n2_; have HO386 := n3_; have BK356 := n4_; have BK369 := n5_; have BK379 := n6_; have HB := n7_; clear n0_ n1_ n2_ n3_ n4_ n5_ n6_ n7_; (try clear hb); (try clear hb2); (try clear hk); (try clear hi); (try clear ho0)) | ((with_reducible refine gate_dst (N := 21) rfl ?_); refine box_event ?hg (N := 21) ?hd (cs := #[.int .i64 0, .int .i64 0, .int .i64 0, .int .i64 0, .slice none 0 0]) (t := 24) ?hr ?_; (case hd => rfl); (case hg => rfl); (case hr => first | (go_simp; done) | (go_simp; rfl)); intro gb389 hg w49 hbox hb; have n0_ := Aside0.mk (Kd.Q_below (by (with_reducible repeat (first | apply Kd.Q_alloc | apply Kd.Q_drewN | apply Kd.Q_drew)); exact HO_357004.out) hb); have n1_ := Aside0.mk (Kd.Q_below (by (with_reducible repeat (first | apply Kd.Q_alloc | apply Kd.Q_drewN | apply Kd.Q_drew)); exact HO_370004.out) hb); have n2_ := Aside0.mk (Kd.Q_below (by (with_reducible repeat (first | apply Kd.Q_alloc | apply Kd.Q_drewN | apply Kd.Q_drew)); exact HO377.out) hb); have n3_ := Aside0.mk (Kd.Q_below (by (with_reducible repeat (first | apply Kd.Q_alloc | apply Kd.Q_drewN | apply Kd.Q_drew)); exact HO386.out) hb); have n4_ := Aside0.mk (blk_below (g := gb356) (o := .cells #[.int .i64 x357000_4, .int .i64 x357001_4, .int .i64 x357002_4, .int .i64 x357003_4, .slice Ao41 x357004_4.length co41] 24 (0, 0)) (by (with_reducible repeat (first | refine blk_drewN ?_ _ | refine blk_drew ?_ | refine blk_alloc ?_ _)); exact BK356.out) hb); have n5_ := Aside0.mk (blk_below (g := gb369) (o := .cells #[.int .i64 t360, .int .i64 t361, .int .i64 t362, .int .i64 t363, .slice Ao28 t364.length co28] 24 (0, 0)) (by (with_reducible repeat (first | refine blk_drewN ?_ _ | refine blk_drew ?_ | refine blk_alloc ?_ _)); exact BK369.out) hb); have n6_ := Aside0.mk (blk_below (g := gb379) (o := .cells #[.int .i64 t371, .int .i64 t372, .int .i64 t373, .int .i64 t374, .slice Ao47 t375.length co47] 24 (0, 0)) (by (with_reducible repeat (first | refine blk_drewN ?_ _ | refine blk_drew ?_ | refine blk_alloc ?_ _)); exact BK379.out) hb); have n7_ := Aside0.mk (below_step (by repeat (first | (with_reducible first | exact HB.out | apply below_alloc | apply pw_below_drewN | apply below_drew1 | refine below_set ?_ GE356.out | refine below_set ?_ GE369.out | refine below_set ?_ GE379.out) | exact HB.out)) hb); have n8_ := Aside0.mk (hbox); have n9_ := Aside0.mk ((by rw [hg]; exact (below_size (by repeat (first | (with_reducible first | exact HB.out | apply below_alloc | apply pw_below_drewN | apply below_drew1 | refine below_set ?_ GE356.out | refine below_set ?_ GE369.out | refine below_set ?_ GE379.out) | exact HB.out))) : w.heap.size ≤ gb389)); have n10_ := Aside0.mk ((by rw [hg]; exact (below_size (by repeat (first | (with_reducible first | exact HB.out | apply below_alloc | apply pw_below_drewN | apply below_drew1 | refine below_set ?_ GE356.out | refine below_set ?_ GE369.out | refine below_set ?_ GE379.out) | exact HB.out))) : w.heap.size ≤ gb389)); have n11_ := Aside0.mk ((by rw [hg]; exact Nat.ne_of_lt (blk_lt (g := gb356) (o := .cells #[.int .i64 x357000_4, .int .i64 x357001_4, .int .i64 x357002_4, .int .i64 x357003_4, .slice Ao41 x357004_4.length co41] 24 (0, 0)) (by (with_reducible repeat (first | refine blk_drewN ?_ _ | refine blk_drew ?_ | refine blk_alloc ?_ _)); exact BK356.out)) : gb356 ≠ gb389)); have n12_ := Aside0.mk ((by rw [hg]; exact Nat.ne_of_gt (blk_lt (g := gb356) (o := .cells #[.int .i64 x357000_4, .int .i64 x357001_4, .int .i64 x357002_4, .int .i64 x357003_4, .slice Ao41 x357004_4.length co41] 24 (0, 0)) (by (with_reducible repeat (first | refine blk_drewN ?_ _ | refine blk_drew ?_ | refine blk_alloc ?_ _)); exact BK356.out)) : gb389 ≠ gb356)); have n13_ := Aside0.mk ((by rw [hg]; exact Nat.ne_of_lt (blk_lt (g := gb369) (o := .cells #[.int .i64 t360, .int .i64 t361, .int .i64 t362, .int .i64 t363, .slice Ao28 t364.length co28] 24 (0, 0)) (by (with_reducible repeat (first | refine blk_drewN ?_ _ | refine blk_drew ?_ | refine blk_alloc ?_ _)); exact BK369.out)) : gb369 ≠ gb389)); have n14_ := Aside0.mk ((by rw [hg]; exact Nat.ne_of_gt (blk_lt (g := gb369) (o := .cells #[.int .i64 t360, .int .i64 t361, .int .i64 t362, .int .i64 t363, .slice Ao28 t364.length co28] 24 (0, 0)) (by (with_reducible repeat (first | refine blk_drewN ?_ _ | refine blk_drew ?_ | refine blk_alloc ?_ _)); exact BK369.out)) : gb389 ≠ gb369)); have n15_ := Aside0.mk ((by rw [hg]; exact Nat.ne_of_lt (blk_lt (g := gb379) (o := .cells #[.int .i64 t371, .int .i64 t372, .int .i64 t373, .int .i64 t374, .slice Ao47 t375.length co47] 24 (0, 0)) (by (with_reducible repeat (first | refine blk_drewN ?_ _ | refine blk_drew ?_ | refine blk_alloc ?_ _)); exact BK379.out)) : gb379 ≠ gb389)); have n16_ := Aside0.mk ((by rw [hg]; exact Nat.ne_of_gt (blk_lt (g := gb379) (o := .cells #[.int .i64 t371, .int .i64 t372, .int .i64 t373, .int .i64 t374, .slice Ao47 t375.length co47] 24 (0, 0)) (by (with_reducible repeat (first | refine blk_drewN ?_ _ | refine blk_drew ?_ | refine blk_alloc ?_ _)); exact BK379.out)) : gb389 ≠ gb379)); clear HO_357004; clear HO_370004; clear HO377; clear HO386; clear BK356; clear BK369; clear BK379; clear HB; have HO_357004 := n0_; have HO_370004 := n1_; have HO377 := n2_; have HO386 := n3_; have BK356 := n4_; have BK369 := n5_; have BK379 := n6_; have HB := n7_; have BK389 := n8_; have GW389 := n9_; have GE389 := n10_; have NB356_389 := n11_; have NB389_356 := n12_; have NB369_389 := n13_; have NB389_369 := n14_; have NB379_389 := n15_; have NB389_379 := n16_; clear n0_ n1_ n2_ n3_ n4_ n5_ n6_ n7_ n8_ n9_ n10_ n11_ n12_ n13_ n14_ n15_ n16_; clear hb hbox hg; have hnb50 := NB389_356.out; have hnc50 := NB356_389.out; have hnb51 := NB389_369.out; have hnc51 := NB369_389.out; have hnb52 := NB389_379.out; have hnc52 := NB379_389.out; have hcz53_0 : w49.cell? ⟨gb389, 0, none⟩ = some (.int .i64 0) := (blk_cell BK389.out 0).trans rfl; have hcz53_1 : w49.cell? ⟨gb389, 1, none⟩ = some (.int .i64 0) := (blk_cell BK389.out 1).trans rfl; have hcz53_2 : w49.cell? ⟨gb389, 2, none⟩ = some (.int .i64 0) := (blk_cell BK389.out 2).trans rfl; have hcz53_3 : w49.cell? ⟨gb389, 3, none⟩ = some (.int .i64 0) := (blk_cell BK389.out 3).trans rfl; have hcz53_4 : w49.cell? ⟨gb389, 4, none⟩ = some (.slice none 0 0) := (blk_cell BK389.out 4).trans rfl; have hfz53_0 := blk_frozen BK389.out 0; have hfz53_1 := blk_frozen BK389.out 1; have hfz53_2 := blk_frozen BK389.out 2; have hfz53_3 := blk_frozen BK389.out 3; have hfz53_4 := blk_frozen BK389.out 4; obtain ⟨Ao54, co54, eo54, _⟩ := Kd.Q_slice HO386.out; subst eo54))
                                (try simp only [Act.put, List.setIfInBounds_toArray, List.set_cons_zero, List.set_cons_succ])
                                go_cut [112] (fun v112 wc => ∃ (kq : Nat) (x112_37 : Bool), v112 = .bool x112_37 ∧ Aside0 (standbylaw33_ThrottleWaits.j4 kq (wrap64 (x9_4 + 1)) x10_2 ji35 (wrap64 ((Int.tmod (wrap64 (rd l2 x43_2)) 30) + 1)) x18_4 t387 l2 (l2.length : Int) x43_2 x112_37 t371 t372 t373 t374 t375 t380 t381 t382 t383 t384 = some r) ∧ Aside0 (kq ≤ k4) ∧ Aside0 (Kd.Q k71 71 wc w.heap.size (fun k_ => some k_ ≠ ((.slice Ao47 t375.length co47) : Value).ownBlock ∧ some k_ ≠ ((.slice Ao54 t384.length co54) : Value).ownBlock) (.slice Ao41 x357004_4.length co41) x357004_4) ∧ Aside0 (Kd.Q k71 71 wc w.heap.size (fun k_ => some k_ ≠ ((.slice Ao47 t375.length co47) : Value).ownBlock ∧ some k_ ≠ ((.slice Ao54 t384.length co54) : Value).ownBlock) (.slice Ao28 t364.length co28) t364) ∧ Aside0 (Kd.Q k71 71 wc w.heap.size (fun k_ => some k_ ≠ ((.slice Ao41 x357004_4.length co41) : Value).ownBlock ∧ some k_ ≠ ((.slice Ao28 t364.length co28) : Value).ownBlock ∧ some k_ ≠ ((.slice Ao54 t384.length co54) : Value).ownBlock) (.slice Ao47 t375.length co47) t375) ∧ Aside0 (Kd.Q k71 71 wc w.heap.size (fun k_ => some k_ ≠ ((.slice Ao41 x357004_4.length co41) : Value).ownBlock ∧ some k_ ≠ ((.slice Ao28 t364.length co28) : Value).ownBlock ∧ some k_ ≠ ((.slice Ao47 t375.length co47) : Value).ownBlock) (.slice Ao54 t384.length co54) t384) ∧ Aside0 (wc.heap[gb356]? = some (.cells #[.int .i64 x357000_4, .int .i64 x357001_4, .int .i64 x357002_4, .int .i64 x357003_4, (.slice Ao41 x357004_4.length co41)] 24 (0, 0))) ∧ Aside0 (wc.heap[gb369]? = some (.cells #[.int .i64 t360, .int .i64 t361, .int .i64 t362, .int .i64 t363, (.slice Ao28 t364.length co28)] 24 (0, 0))) ∧ Aside0 (wc.heap[gb379]? = some (.cells #[.int .i64 t371, .int .i64 t372, .int .i64 t373, .int .i64 t374, (.slice Ao47 t375.length co47)] 24 (0, 0))) ∧ Aside0 (wc.heap[gb389]? = some (.cells #[.int .i64 t380, .int .i64 t381, .int .i64 t382, .int .i64 t383, (.slice Ao54 t384.length co54)] 24 (0, 0))) ∧ Aside0 (Below w.heap.size w wc))
                                case first =>
                                  have H := HC38.out
                                  clear HC38
                                  by_cases c55 : t378 = 0
                                  · rw [if_pos c55] at H
                                    have c55b0 : (t378 == 0) = true := beq_iff_eq.mpr c55
                                    have c55b1 : (t378 != 0) = false := bne_eq_false_iff_eq.mpr c55
                                    clear c55
                                    (first | rw [c55b0] | (simp only [i64_w, i32_w]; rw [c55b0]) | skip)
                                    by_cases c56 : t388 = 0
                                    · rw [if_pos c56] at H
                                      have c56b0 : (t388 == 0) = true := beq_iff_eq.mpr c56
                                      have c56b1 : (t388 != 0) = false := bne_eq_false_iff_eq.mpr c56
                                      clear c56
                                      have H' := Aside0.mk H
                                      clear H
                                      go_wp2
                                      go_meet
                                      case rel => exact ⟨_, ((t387 != (wrap64 (x18_4 - 1)))), (by first | rfl | (simp; done) | (simp [*]; done)), H', ⟨by have := HJ4.out; have := HK2.out; have := HJ20.out; have := HK4.out; first | omega | exact Nat.le_refl _⟩, ⟨by (with_reducible repeat (first | apply Kd.Q_alloc | apply Kd.Q_drewN | apply Kd.Q_drew)); exact Kd.Q_mono (Kd.Q_far (p := ⟨gb389, 4, none⟩) (Kd.Q_far (p := ⟨gb389, 3, none⟩) (Kd.Q_far (p := ⟨gb389, 2, none⟩) (Kd.Q_far (p := ⟨gb389, 1, none⟩) (Kd.Q_far (p := ⟨gb389, 0, none⟩) (Kd.Q_types HO_357004.out BK389.out (by decide)) (fun _ hk => hk.2) (.int .i64 t380)) (fun _ hk => hk.2) (.int .i64 t381)) (fun _ hk => hk.2) (.int .i64 t382)) (fun _ hk => hk.2) (.int .i64 t383)) (fun _ hk => hk.2) (.slice Ao54 t384.length co54)) (fun _ hk => ⟨hk.1.1.2, hk.1.2⟩)⟩, ⟨by (with_reducible repeat (first | apply Kd.Q_alloc | apply Kd.Q_drewN | apply Kd.Q_drew)); exact Kd.Q_mono (Kd.Q_far (p := ⟨gb389, 4, none⟩) (Kd.Q_far (p := ⟨gb389, 3, none⟩) (Kd.Q_far (p := ⟨gb389, 2, none⟩) (Kd.Q_far (p := ⟨gb389, 1, none⟩) (Kd.Q_far (p := ⟨gb389, 0, none⟩) (Kd.Q_types HO_370004.out BK389.out (by decide)) (fun _ hk => hk.2) (.int .i64 t380)) (fun _ hk => hk.2) (.int .i64 t381)) (fun _ hk => hk.2) (.int .i64 t382)) (fun _ hk => hk.2) (.int .i64 t383)) (fun _ hk => hk.2) (.slice Ao54 t384.length co54)) (fun _ hk => ⟨hk.1.1.2, hk.1.2⟩)⟩, ⟨by (with_reducible repeat (first | apply Kd.Q_alloc | apply Kd.Q_drewN | apply Kd.Q_drew)); exact Kd.Q_mono (Kd.Q_far (p := ⟨gb389, 4, none⟩) (Kd.Q_far (p := ⟨gb389, 3, none⟩) (Kd.Q_far (p := ⟨gb389, 2, none⟩) (Kd.Q_far (p := ⟨gb389, 1, none⟩) (Kd.Q_far (p := ⟨gb389, 0, none⟩) (Kd.Q_types HO377.out BK389.out (by decide)) (fun _ hk => hk.2) (.int .i64 t380)) (fun _ hk => hk.2) (.int .i64 t381)) (fun _ hk => hk.2) (.int .i64 t382)) (fun _ hk => hk.2) (.int .i64 t383)) (fun _ hk => hk.2) (.slice Ao54 t384.length co54)) (fun _ hk => ⟨hk.1.1.1.2, ⟨hk.1.1.2, hk.1.2⟩⟩)⟩, ⟨by (with_reducible repeat (first | apply Kd.Q_alloc | apply Kd.Q_drewN | apply Kd.Q_drew)); exact Kd.Q_mono (Kd.Q_far (p := ⟨gb389, 4, none⟩) (Kd.Q_far (p := ⟨gb389, 3, none⟩) (Kd.Q_far (p := ⟨gb389, 2, none⟩) (Kd.Q_far (p := ⟨gb389, 1, none⟩) (Kd.Q_far (p := ⟨gb389, 0, none⟩) (Kd.Q_types HO386.out BK389.out (by decide)) (fun _ hk => hk.2) (.int .i64 t380)) (fun _ hk => hk.2) (.int .i64 t381)) (fun _ hk => hk.2) (.int .i64 t382)) (fun _ hk => hk.2) (.int .i64 t383)) (fun _ hk => hk.2) (.slice Ao54 t384.length co54)) (fun _ hk => ⟨hk.1.1.1.2, ⟨hk.1.1.2, hk.1.2⟩⟩)⟩, ⟨by (with_reducible repeat (first | refine blk_drewN ?_ _ | refine blk_drew ?_ | refine blk_alloc ?_ _)); refine blk_far ?_ NB356_389.out _; (with_reducible repeat (first | refine blk_drewN ?_ _ | refine blk_drew ?_ | refine blk_alloc ?_ _)); refine blk_far ?_ NB356_389.out _; (with_reducible repeat (first | refine blk_drewN ?_ _ | refine blk_drew ?_ | refine blk_alloc ?_ _)); refine blk_far ?_ NB356_389.out _; (with_reducible repeat (first | refine blk_drewN ?_ _ | refine blk_drew ?_ | refine blk_alloc ?_ _)); refine blk_far ?_ NB356_389.out _; (with_reducible repeat (first | refine blk_drewN ?_ _ | refine blk_drew ?_ | refine blk_alloc ?_ _)); refine blk_far ?_ NB356_389.out _; (with_reducible repeat (first | refine blk_drewN ?_ _ | refine blk_drew ?_ | refine blk_alloc ?_ _)); exact BK356.out⟩, ⟨by (with_reducible repeat (first | refine blk_drewN ?_ _ | refine blk_drew ?_ | refine blk_alloc ?_ _)); refine blk_far ?_ NB369_389.out _; (with_reducible repeat (first | refine blk_drewN ?_ _ | refine blk_drew ?_ | refine blk_alloc ?_ _)); refine blk_far ?_ NB369_389.out _; (with_reducible repeat (first | refine blk_drewN ?_ _ | refine blk_drew ?_ | refine blk_alloc ?_ _)); refine blk_far ?_ NB369_389.out _; (with_reducible repeat (first | refine blk_drewN ?_ _ | refine blk_drew ?_ | refine blk_alloc ?_ _)); refine blk_far ?_ NB369_389.out _; (with_reducible repeat (first | refine blk_drewN ?_ _ | refine blk_drew ?_ | refine blk_alloc ?_ _)); refine blk_far ?_ NB369_389.out _; (with_reducible repeat (first | refine blk_drewN ?_ _ | refine blk_drew ?_ | refine blk_alloc ?_ _)); exact BK369.out⟩, ⟨by (with_reducible repeat (first | refine blk_drewN ?_ _ | refine blk_drew ?_ | refine blk_alloc ?_ _)); refine blk_far ?_ NB379_389.out _; (with_reducible repeat (first | refine blk_drewN ?_ _ | refine blk_drew ?_ | refine blk_alloc ?_ _)); refine blk_far ?_ NB379_389.out _; (with_reducible repeat (first | refine blk_drewN ?_ _ | refine blk_drew ?_ | refine blk_alloc ?_ _)); refine blk_far ?_ NB379_389.out _; (with_reducible repeat (first | refine blk_drewN ?_ _ | refine blk_drew ?_ | refine blk_alloc ?_ _)); refine blk_far ?_ NB379_389.out _; (with_reducible repeat (first | refine blk_drewN ?_ _ | refine blk_drew ?_ | refine blk_alloc ?_ _)); refine blk_far ?_ NB379_389.out _; (with_reducible repeat (first | refine blk_drewN ?_ _ | refine blk_drew ?_ | refine blk_alloc ?_ _)); exact BK379.out⟩, ⟨by (with_reducible repeat (first | refine blk_drewN ?_ _ | refine blk_drew ?_ | refine blk_alloc ?_ _)); refine blk_put (cs := #[.int .i64 t380, .int .i64 t381, .int .i64 t382, .int .i64 t383, .slice none 0 0]) ?_ 4 _ rfl; (with_reducible repeat (first | refine blk_drewN ?_ _ | refine blk_drew ?_ | refine blk_alloc ?_ _)); refine blk_put (cs := #[.int .i64 t380, .int .i64 t381, .int .i64 t382, .int .i64 0, .slice none 0 0]) ?_ 3 _ rfl; (with_reducible repeat (first | refine blk_drewN ?_ _ | refine blk_drew ?_ | refine blk_alloc ?_ _)); refine blk_put (cs := #[.int .i64 t380, .int .i64 t381, .int .i64 0, .int .i64 0, .slice none 0 0]) ?_ 2 _ rfl; (with_reducible repeat (first | refine blk_drewN ?_ _ | refine blk_drew ?_ | refine blk_alloc ?_ _)); refine blk_put (cs := #[.int .i64 t380, .int .i64 0, .int .i64 0, .int .i64 0, .slice none 0 0]) ?_ 1 _ rfl; (with_reducible repeat (first | refine blk_drewN ?_ _ | refine blk_drew ?_ | refine blk_alloc ?_ _)); refine blk_put (cs := #[.int .i64 0, .int .i64 0, .int .i64 0, .int .i64 0, .slice none 0 0]) ?_ 0 _ rfl; (with_reducible repeat (first | refine blk_drewN ?_ _ | refine blk_drew ?_ | refine blk_alloc ?_ _)); exact BK389.out⟩, ⟨by repeat (first | (with_reducible first | exact HB.out | apply below_alloc | apply pw_below_drewN | apply below_drew1 | refine below_set ?_ GE356.out | refine below_set ?_ GE369.out | refine below_set ?_ GE379.out | refine below_set ?_ GE389.out) | exact HB.out)⟩⟩
                                    · rw [if_neg c56] at H
                                      have c56b0 : (t388 == 0) = false := beq_eq_false_iff_ne.mpr c56
                                      have c56b1 : (t388 != 0) = true := bne_iff_ne.mpr c56
                                      have H' := Aside0.mk H
                                      clear H
                                      go_wp2
                                      go_meet
                                      case rel => exact ⟨_, (true), (by first | rfl | (simp; done) | (simp [*]; done)), H', ⟨by have := HJ4.out; have := HK2.out; have := HJ20.out; have := HK4.out; first | omega | exact Nat.le_refl _⟩, ⟨by (with_reducible repeat (first | apply Kd.Q_alloc | apply Kd.Q_drewN | apply Kd.Q_drew)); exact Kd.Q_mono (Kd.Q_far (p := ⟨gb389, 4, none⟩) (Kd.Q_far (p := ⟨gb389, 3, none⟩) (Kd.Q_far (p := ⟨gb389, 2, none⟩) (Kd.Q_far (p := ⟨gb389, 1, none⟩) (Kd.Q_far (p := ⟨gb389, 0, none⟩) (Kd.Q_types HO_357004.out BK389.out (by decide)) (fun _ hk => hk.2) (.int .i64 t380)) (fun _ hk => hk.2) (.int .i64 t381)) (fun _ hk => hk.2) (.int .i64 t382)) (fun _ hk => hk.2) (.int .i64 t383)) (fun _ hk => hk.2) (.slice Ao54 t384.length co54)) (fun _ hk => ⟨hk.1.1.2, hk.1.2⟩)⟩, ⟨by (with_reducible repeat (first | apply Kd.Q_alloc | apply Kd.Q_drewN | apply Kd.Q_drew)); exact Kd.Q_mono (Kd.Q_far (p := ⟨gb389, 4, none⟩) (Kd.Q_far (p := ⟨gb389, 3, none⟩) (Kd.Q_far (p := ⟨gb389, 2, none⟩) (Kd.Q_far (p := ⟨gb389, 1, none⟩) (Kd.Q_far (p := ⟨gb389, 0, none⟩) (Kd.Q_types HO_370004.out BK389.out (by decide)) (fun _ hk => hk.2) (.int .i64 t380)) (fun _ hk => hk.2) (.int .i64 t381)) (fun _ hk => hk.2) (.int .i64 t382)) (fun _ hk => hk.2) (.int .i64 t383)) (fun _ hk => hk.2) (.slice Ao54 t384.length co54)) (fun _ hk => ⟨hk.1.1.2, hk.1.2⟩)⟩, ⟨by (with_reducible repeat (first | apply Kd.Q_alloc | apply Kd.Q_drewN | apply Kd.Q_drew)); exact Kd.Q_mono (Kd.Q_far (p := ⟨gb389, 4, none⟩) (Kd.Q_far (p := ⟨gb389, 3, none⟩) (Kd.Q_far (p := ⟨gb389, 2, none⟩) (Kd.Q_far (p := ⟨gb389, 1, none⟩) (Kd.Q_far (p := ⟨gb389, 0, none⟩) (Kd.Q_types HO377.out BK389.out (by decide)) (fun _ hk => hk.2) (.int .i64 t380)) (fun _ hk => hk.2) (.int .i64 t381)) (fun _ hk => hk.2) (.int .i64 t382)) (fun _ hk => hk.2) (.int .i64 t383)) (fun _ hk => hk.2) (.slice Ao54 t384.length co54)) (fun _ hk => ⟨hk.1.1.1.2, ⟨hk.1.1.2, hk.1.2⟩⟩)⟩, ⟨by (with_reducible repeat (first | apply Kd.Q_alloc | apply Kd.Q_drewN | apply Kd.Q_drew)); exact Kd.Q_mono (Kd.Q_far (p := ⟨gb389, 4, none⟩) (Kd.Q_far (p := ⟨gb389, 3, none⟩) (Kd.Q_far (p := ⟨gb389, 2, none⟩) (Kd.Q_far (p := ⟨gb389, 1, none⟩) (Kd.Q_far (p := ⟨gb389, 0, none⟩) (Kd.Q_types HO386.out BK389.out (by decide)) (fun _ hk => hk.2) (.int .i64 t380)) (fun _ hk => hk.2) (.int .i64 t381)) (fun _ hk => hk.2) (.int .i64 t382)) (fun _ hk => hk.2) (.int .i64 t383)) (fun _ hk => hk.2) (.slice Ao54 t384.length co54)) (fun _ hk => ⟨hk.1.1.1.2, ⟨hk.1.1.2, hk.1.2⟩⟩)⟩, ⟨by (with_reducible repeat (first | refine blk_drewN ?_ _ | refine blk_drew ?_ | refine blk_alloc ?_ _)); refine blk_far ?_ NB356_389.out _; (with_reducible repeat (first | refine blk_drewN ?_ _ | refine blk_drew ?_ | refine blk_alloc ?_ _)); refine blk_far ?_ NB356_389.out _; (with_reducible repeat (first | refine blk_drewN ?_ _ | refine blk_drew ?_ | refine blk_alloc ?_ _)); refine blk_far ?_ NB356_389.out _; (with_reducible repeat (first | refine blk_drewN ?_ _ | refine blk_drew ?_ | refine blk_alloc ?_ _)); refine blk_far ?_ NB356_389.out _; (with_reducible repeat (first | refine blk_drewN ?_ _ | refine blk_drew ?_ | refine blk_alloc ?_ _)); refine blk_far ?_ NB356_389.out _; (with_reducible repeat (first | refine blk_drewN ?_ _ | refine blk_drew ?_ | refine blk_alloc ?_ _)); exact BK356.out⟩, ⟨by (with_reducible repeat (first | refine blk_drewN ?_ _ | refine blk_drew ?_ | refine blk_alloc ?_ _)); refine blk_far ?_ NB369_389.out _; (with_reducible repeat (first | refine blk_drewN ?_ _ | refine blk_drew ?_ | refine blk_alloc ?_ _)); refine blk_far ?_ NB369_389.out _; (with_reducible repeat (first | refine blk_drewN ?_ _ | refine blk_drew ?_ | refine blk_alloc ?_ _)); refine blk_far ?_ NB369_389.out _; (with_reducible repeat (first | refine blk_drewN ?_ _ | refine blk_drew ?_ | refine blk_alloc ?_ _)); refine blk_far ?_ NB369_389.out _; (with_reducible repeat (first | refine blk_drewN ?_ _ | refine blk_drew ?_ | refine blk_alloc ?_ _)); refine blk_far ?_ NB369_389.out _; (with_reducible repeat (first | refine blk_drewN ?_ _ | refine blk_drew ?_ | refine blk_alloc ?_ _)); exact BK369.out⟩, ⟨by (with_reducible repeat (first | refine blk_drewN ?_ _ | refine blk_drew ?_ | refine blk_alloc ?_ _)); refine blk_far ?_ NB379_389.out _; (with_reducible repeat (first | refine blk_drewN ?_ _ | refine blk_drew ?_ | refine blk_alloc ?_ _)); refine blk_far ?_ NB379_389.out _; (with_reducible repeat (first | refine blk_drewN ?_ _ | refine blk_drew ?_ | refine blk_alloc ?_ _)); refine blk_far ?_ NB379_389.out _; (with_reducible repeat (first | refine blk_drewN ?_ _ | refine blk_drew ?_ | refine blk_alloc ?_ _)); refine blk_far ?_ NB379_389.out _; (with_reducible repeat (first | refine blk_drewN ?_ _ | refine blk_drew ?_ | refine blk_alloc ?_ _)); refine blk_far ?_ NB379_389.out _; (with_reducible repeat (first | refine blk_drewN ?_ _ | refine blk_drew ?_ | refine blk_alloc ?_ _)); exact BK379.out⟩, ⟨by (with_reducible repeat (first | refine blk_drewN ?_ _ | refine blk_drew ?_ | refine blk_alloc ?_ _)); refine blk_put (cs := #[.int .i64 t380, .int .i64 t381, .int .i64 t382, .int .i64 t383, .slice none 0 0]) ?_ 4 _ rfl; (with_reducible repeat (first | refine blk_drewN ?_ _ | refine blk_drew ?_ | refine blk_alloc ?_ _)); refine blk_put (cs := #[.int .i64 t380, .int .i64 t381, .int .i64 t382, .int .i64 0, .slice none 0 0]) ?_ 3 _ rfl; (with_reducible repeat (first | refine blk_drewN ?_ _ | refine blk_drew ?_ | refine blk_alloc ?_ _)); refine blk_put (cs := #[.int .i64 t380, .int .i64 t381, .int .i64 0, .int .i64 0, .slice none 0 0]) ?_ 2 _ rfl; (with_reducible repeat (first | refine blk_drewN ?_ _ | refine blk_drew ?_ | refine blk_alloc ?_ _)); refine blk_put (cs := #[.int .i64 t380, .int .i64 0, .int .i64 0, .int .i64 0, .slice none 0 0]) ?_ 1 _ rfl; (with_reducible repeat (first | refine blk_drewN ?_ _ | refine blk_drew ?_ | refine blk_alloc ?_ _)); refine blk_put (cs := #[.int .i64 0, .int .i64 0, .int .i64 0, .int .i64 0, .slice none 0 0]) ?_ 0 _ rfl; (with_reducible repeat (first | refine blk_drewN ?_ _ | refine blk_drew ?_ | refine blk_alloc ?_ _)); exact BK389.out⟩, ⟨by repeat (first | (with_reducible first | exact HB.out | apply below_alloc | apply pw_below_drewN | apply below_drew1 | refine below_set ?_ GE356.out | refine below_set ?_ GE369.out | refine below_set ?_ GE379.out | refine below_set ?_ GE389.out) | exact HB.out)⟩⟩
                                  · rw [if_neg c55] at H
                                    have c55b0 : (t378 == 0) = false := beq_eq_false_iff_ne.mpr c55
                                    have c55b1 : (t378 != 0) = true := bne_iff_ne.mpr c55
                                    (first | rw [c55b0] | (simp only [i64_w, i32_w]; rw [c55b0]) | skip)
                                    have H' := Aside0.mk H
                                    clear H
                                    go_wp2
                                    go_meet
                                    case rel => exact ⟨_, (true), (by first | rfl | (simp; done) | (simp [*]; done)), H', ⟨by have := HJ4.out; have := HK2.out; have := HJ20.out; have := HK4.out; first | omega | exact Nat.le_refl _⟩, ⟨by (with_reducible repeat (first | apply Kd.Q_alloc | apply Kd.Q_drewN | apply Kd.Q_drew)); exact Kd.Q_mono (Kd.Q_far (p := ⟨gb389, 4, none⟩) (Kd.Q_far (p := ⟨gb389, 3, none⟩) (Kd.Q_far (p := ⟨gb389, 2, none⟩) (Kd.Q_far (p := ⟨gb389, 1, none⟩) (Kd.Q_far (p := ⟨gb389, 0, none⟩) (Kd.Q_types HO_357004.out BK389.out (by decide)) (fun _ hk => hk.2) (.int .i64 t380)) (fun _ hk => hk.2) (.int .i64 t381)) (fun _ hk => hk.2) (.int .i64 t382)) (fun _ hk => hk.2) (.int .i64 t383)) (fun _ hk => hk.2) (.slice Ao54 t384.length co54)) (fun _ hk => ⟨hk.1.1.2, hk.1.2⟩)⟩, ⟨by (with_reducible repeat (first | apply Kd.Q_alloc | apply Kd.Q_drewN | apply Kd.Q_drew)); exact Kd.Q_mono (Kd.Q_far (p := ⟨gb389, 4, none⟩) (Kd.Q_far (p := ⟨gb389, 3, none⟩) (Kd.Q_far (p := ⟨gb389, 2, none⟩) (Kd.Q_far (p := ⟨gb389, 1, none⟩) (Kd.Q_far (p := ⟨gb389, 0, none⟩) (Kd.Q_types HO_370004.out BK389.out (by decide)) (fun _ hk => hk.2) (.int .i64 t380)) (fun _ hk => hk.2) (.int .i64 t381)) (fun _ hk => hk.2) (.int .i64 t382)) (fun _ hk => hk.2) (.int .i64 t383)) (fun _ hk => hk.2) (.slice Ao54 t384.length co54)) (fun _ hk => ⟨hk.1.1.2, hk.1.2⟩)⟩, ⟨by (with_reducible repeat (first | apply Kd.Q_alloc | apply Kd.Q_drewN | apply Kd.Q_drew)); exact Kd.Q_mono (Kd.Q_far (p := ⟨gb389, 4, none⟩) (Kd.Q_far (p := ⟨gb389, 3, none⟩) (Kd.Q_far (p := ⟨gb389, 2, none⟩) (Kd.Q_far (p := ⟨gb389, 1, none⟩) (Kd.Q_far (p := ⟨gb389, 0, none⟩) (Kd.Q_types HO377.out BK389.out (by decide)) (fun _ hk => hk.2) (.int .i64 t380)) (fun _ hk => hk.2) (.int .i64 t381)) (fun _ hk => hk.2) (.int .i64 t382)) (fun _ hk => hk.2) (.int .i64 t383)) (fun _ hk => hk.2) (.slice Ao54 t384.length co54)) (fun _ hk => ⟨hk.1.1.1.2, ⟨hk.1.1.2, hk.1.2⟩⟩)⟩, ⟨by (with_reducible repeat (first | apply Kd.Q_alloc | apply Kd.Q_drewN | apply Kd.Q_drew)); exact Kd.Q_mono (Kd.Q_far (p := ⟨gb389, 4, none⟩) (Kd.Q_far (p := ⟨gb389, 3, none⟩) (Kd.Q_far (p := ⟨gb389, 2, none⟩) (Kd.Q_far (p := ⟨gb389, 1, none⟩) (Kd.Q_far (p := ⟨gb389, 0, none⟩) (Kd.Q_types HO386.out BK389.out (by decide)) (fun _ hk => hk.2) (.int .i64 t380)) (fun _ hk => hk.2) (.int .i64 t381)) (fun _ hk => hk.2) (.int .i64 t382)) (fun _ hk => hk.2) (.int .i64 t383)) (fun _ hk => hk.2) (.slice Ao54 t384.length co54)) (fun _ hk => ⟨hk.1.1.1.2, ⟨hk.1.1.2, hk.1.2⟩⟩)⟩, ⟨by (with_reducible repeat (first | refine blk_drewN ?_ _ | refine blk_drew ?_ | refine blk_alloc ?_ _)); refine blk_far ?_ NB356_389.out _; (with_reducible repeat (first | refine blk_drewN ?_ _ | refine blk_drew ?_ | refine blk_alloc ?_ _)); refine blk_far ?_ NB356_389.out _; (with_reducible repeat (first | refine blk_drewN ?_ _ | refine blk_drew ?_ | refine blk_alloc ?_ _)); refine blk_far ?_ NB356_389.out _; (with_reducible repeat (first | refine blk_drewN ?_ _ | refine blk_drew ?_ | refine blk_alloc ?_ _)); refine blk_far ?_ NB356_389.out _; (with_reducible repeat (first | refine blk_drewN ?_ _ | refine blk_drew ?_ | refine blk_alloc ?_ _)); refine blk_far ?_ NB356_389.out _; (with_reducible repeat (first | refine blk_drewN ?_ _ | refine blk_drew ?_ | refine blk_alloc ?_ _)); exact BK356.out⟩, ⟨by (with_reducible repeat (first | refine blk_drewN ?_ _ | refine blk_drew ?_ | refine blk_alloc ?_ _)); refine blk_far ?_ NB369_389.out _; (with_reducible repeat (first | refine blk_drewN ?_ _ | refine blk_drew ?_ | refine blk_alloc ?_ _)); refine blk_far ?_ NB369_389.out _; (with_reducible repeat (first | refine blk_drewN ?_ _ | refine blk_drew ?_ | refine blk_alloc ?_ _)); refine blk_far ?_ NB369_389.out _; (with_reducible repeat (first | refine blk_drewN ?_ _ | refine blk_drew ?_ | refine blk_alloc ?_ _)); refine blk_far ?_ NB369_389.out _; (with_reducible repeat (first | refine blk_drewN ?_ _ | refine blk_drew ?_ | refine blk_alloc ?_ _)); refine blk_far ?_ NB369_389.out _; (with_reducible repeat (first | refine blk_drewN ?_ _ | refine blk_drew ?_ | refine blk_alloc ?_ _)); exact BK369.out⟩, ⟨by (with_reducible repeat (first | refine blk_drewN ?_ _ | refine blk_drew ?_ | refine blk_alloc ?_ _)); refine blk_far ?_ NB379_389.out _; (with_reducible repeat (first | refine blk_drewN ?_ _ | refine blk_drew ?_ | refine blk_alloc ?_ _)); refine blk_far ?_ NB379_389.out _; (with_reducible repeat (first | refine blk_drewN ?_ _ | refine blk_drew ?_ | refine blk_alloc ?_ _)); refine blk_far ?_ NB379_389.out _; (with_reducible repeat (first | refine blk_drewN ?_ _ | refine blk_drew ?_ | refine blk_alloc ?_ _)); refine blk_far ?_ NB379_389.out _; (with_reducible repeat (first | refine blk_drewN ?_ _ | refine blk_drew ?_ | refine blk_alloc ?_ _)); refine blk_far ?_ NB379_389.out _; (with_reducible repeat (first | refine blk_drewN ?_ _ | refine blk_drew ?_ | refine blk_alloc ?_ _)); exact BK379.out⟩, ⟨by (with_reducible repeat (first | refine blk_drewN ?_ _ | refine blk_drew ?_ | refine blk_alloc ?_ _)); refine blk_put (cs := #[.int .i64 t380, .int .i64 t381, .int .i64 t382, .int .i64 t383, .slice none 0 0]) ?_ 4 _ rfl; (with_reducible repeat (first | refine blk_drewN ?_ _ | refine blk_drew ?_ | refine blk_alloc ?_ _)); refine blk_put (cs := #[.int .i64 t380, .int .i64 t381, .int .i64 t382, .int .i64 0, .slice none 0 0]) ?_ 3 _ rfl; (with_reducible repeat (first | refine blk_drewN ?_ _ | refine blk_drew ?_ | refine blk_alloc ?_ _)); refine blk_put (cs := #[.int .i64 t380, .int .i64 t381, .int .i64 0, .int .i64 0, .slice none 0 0]) ?_ 2 _ rfl; (with_reducible repeat (first | refine blk_drewN ?_ _ | refine blk_drew ?_ | refine blk_alloc ?_ _)); refine blk_put (cs := #[.int .i64 t380, .int .i64 0, .int .i64 0, .int .i64 0, .slice none 0 0]) ?_ 1 _ rfl; (with_reducible repeat (first | refine blk_drewN ?_ _ | refine blk_drew ?_ | refine blk_alloc ?_ _)); refine blk_put (cs := #[.int .i64 0, .int .i64 0, .int .i64 0, .int .i64 0, .slice none 0 0]) ?_ 0 _ rfl; (with_reducible repeat (first | refine blk_drewN ?_ _ | refine blk_drew ?_ | refine blk_alloc ?_ _)); exact BK389.out⟩, ⟨by repeat (first | (with_reducible first | exact HB.out | apply below_alloc | apply pw_below_drewN | apply below_drew1 | refine below_set ?_ GE356.out | refine below_set ?_ GE369.out | refine below_set ?_ GE379.out | refine below_set ?_ GE389.out) | exact HB.out)⟩⟩
                                case rest =>
                                  clear HC38
                                  try clear c1
                                  try clear c2
                                  try clear p2
                                  try clear c3
                                  try clear p3
                                  try clear q3
                                  try clear hx3
                                  try clear c4
                                  try clear c5
                                  try clear c6
                                  try clear p6
                                  try clear c10
                                  try clear c10b0
                                  try clear c10b1
                                  try clear c11
                                  try clear c12
                                  try clear c15
                                  try clear c15b0
                                  try clear c16
                                  try clear c16b0
                                  try clear c17
                                  try clear c17b0
                                  try clear c18
                                  try clear c18b0
                                  try clear c19
                                  try clear c26
                                  try clear c29
                                  try clear c29b0
                                  try clear c29b1
                                  try clear c30
                                  try clear c31
                                  try clear c34
                                  try clear c34b0
                                  try clear p35
                                  try clear q35
                                  try clear hx35
                                  try clear c39
                                  try clear c44
                                  try clear c45
                                  try clear c50
                                  try clear c51
                                  try clear c52
                                  try clear c55
                                  try clear c55b0
                                  try clear c55b1
                                  try clear c56
                                  try clear c56b0
                                  try clear c56b1
                                  try clear hcz19_0
                                  try clear hcz19_1
                                  try clear hcz19_2
                                  try clear hcz19_3
                                  try clear hcz19_4
                                  try clear hcz22_0
                                  try clear hcz22_1
                                  try clear hcz22_2
                                  try clear hcz22_3
                                  try clear hcz22_4
                                  try clear hcz27_0
                                  try clear hcz27_1
                                  try clear hcz27_2
                                  try clear hcz27_3
                                  try clear hcz27_4
                                  try clear hcz32_0
                                  try clear hcz32_1
                                  try clear hcz32_2
                                  try clear hcz32_3
                                  try clear hcz32_4
                                  try clear hcz33_0
                                  try clear hcz33_1
                                  try clear hcz33_2
                                  try clear hcz33_3
                                  try clear hcz33_4
                                  try clear hcz40_0
                                  try clear hcz40_1
                                  try clear hcz40_2
                                  try clear hcz40_3
                                  try clear hcz40_4
                                  try clear hcz46_0
                                  try clear hcz46_1
                                  try clear hcz46_2
                                  try clear hcz46_3
                                  try clear hcz46_4
                                  try clear hcz53_0
                                  try clear hcz53_1
                                  try clear hcz53_2
                                  try clear hcz53_3
                                  try clear hcz53_4
                                  try clear hcz8_0
                                  try clear hcz8_1
                                  try clear hcz8_2
                                  try clear hcz8_3
                                  try clear hcz8_4
                                  try clear hfz19_0
                                  try clear hfz19_1
                                  try clear hfz19_2
                                  try clear hfz19_3
                                  try clear hfz19_4
                                  try clear hfz22_0
                                  try clear hfz22_1
                                  try clear hfz22_2
                                  try clear hfz22_3
                                  try clear hfz22_4
                                  try clear hfz27_0
                                  try clear hfz27_1
                                  try clear hfz27_2
                                  try clear hfz27_3
                                  try clear hfz27_4
                                  try clear hfz32_0
                                  try clear hfz32_1
                                  try clear hfz32_2
                                  try clear hfz32_3
                                  try clear hfz32_4
                                  try clear hfz33_0
                                  try clear hfz33_1
                                  try clear hfz33_2
                                  try clear hfz33_3
                                  try clear hfz33_4
                                  try clear hfz40_0
                                  try clear hfz40_1
                                  try clear hfz40_2
                                  try clear hfz40_3
                                  try clear hfz40_4
                                  try clear hfz46_0
                                  try clear hfz46_1
                                  try clear hfz46_2
                                  try clear hfz46_3
                                  try clear hfz46_4
                                  try clear hfz53_0
                                  try clear hfz53_1
                                  try clear hfz53_2
                                  try clear hfz53_3
                                  try clear hfz53_4
                                  try clear hfz8_0
                                  try clear hfz8_1
                                  try clear hfz8_2
                                  try clear hfz8_3
                                  try clear hfz8_4
                                  try clear hx359_0
                                  try clear p2
                                  try clear p3
                                  try clear p359
                                  try clear p6
                                  try clear q3
                                  try clear q359
                                  obtain ⟨kq, x112_37, rfl, HA, HJ37, HO_357004, HO_370004, HO_380004, HO_390004, BK356, BK369, BK379, BK389, HB⟩ := hcut
                                  cases kq with
                                  | zero => exact absurd HA.out (by simp [standbylaw33_ThrottleWaits.j4])
                                  | succ kj37 =>
                                    have H := HA.out
                                    clear HA
                                    simp only [standbylaw33_ThrottleWaits.j4] at H
                                    by_cases c57 : x112_37 = true
                                    · subst c57
                                      have H1 : (some false) = some r := by rw [if_pos rfl] at H; exact H
                                      clear H
                                      have H := H1
                                      clear H1
                                      obtain rfl := Option.some.inj H
                                      go_wp2
                                      go_ret
                                      exact ⟨by first | rfl | (simp [errW_none, errW_some] <;> rfl) | (simp only [← hji35]; first | rfl | (simp [errW_none, errW_some] <;> rfl)) | (simp [*, errW_none, errW_some] <;> rfl), by repeat (first | (with_reducible first | exact HB.out | apply below_alloc | apply pw_below_drewN | apply below_drew1 | refine below_set ?_ GE356.out | refine below_set ?_ GE369.out | refine below_set ?_ GE379.out | refine below_set ?_ GE389.out) | exact HB.out)⟩
                                    · replace c57 := Bool.eq_false_iff.mpr c57
                                      subst c57
                                      have H1 : (if t387 = 0 then (standbylaw33_ThrottleWaits.l1 kj37 (wrap64 (x9_4 + 1)) x10_2 ji35 (wrap64 ((Int.tmod (wrap64 (rd l2 x43_2)) 30) + 1)) (wrap64 (x18_4 - 1)) l2 (l2.length : Int) x43_2 t380 t381 t382 t383 t384) else (standbylaw33_ThrottleWaits.l1 kj37 (wrap64 (x9_4 + 1)) x10_2 ji35 (wrap64 ((Int.tmod (wrap64 (rd l2 x43_2)) 30) + 1)) (wrap64 (x18_4 - 1)) l2 (l2.length : Int) x43_2 t371 t372 t373 t374 t375)) = some r := by rw [if_neg (show ¬ (false = true) by decide)] at H; exact H
                                      clear H
                                      have H := H1
                                      clear H1
                                      by_cases c58 : t387 = 0
                                      · rw [if_pos c58] at H
                                        have c58b0 : (t387 == 0) = true := beq_iff_eq.mpr c58
                                        have c58b1 : (t387 != 0) = false := bne_eq_false_iff_eq.mpr c58
                                        clear c58
                                        have H' := Aside0.mk H
                                        clear H
                                        have hnb59 := NB379_356.out
                                        have hnc59 := NB356_379.out
                                        have hnb60 := NB379_369.out
                                        have hnc60 := NB369_379.out
                                        have hnb61 := NB379_389.out
                                        have hnc61 := NB389_379.out
                                        have hcz62_0 : wc.cell? ⟨gb379, 0, none⟩ = some (.int .i64 t371) := (blk_cell BK379.out 0).trans rfl
                                        have hcz62_1 : wc.cell? ⟨gb379, 1, none⟩ = some (.int .i64 t372) := (blk_cell BK379.out 1).trans rfl
                                        have hcz62_2 : wc.cell? ⟨gb379, 2, none⟩ = some (.int .i64 t373) := (blk_cell BK379.out 2).trans rfl
                                        have hcz62_3 : wc.cell? ⟨gb379, 3, none⟩ = some (.int .i64 t374) := (blk_cell BK379.out 3).trans rfl
                                        have hcz62_4 : wc.cell? ⟨gb379, 4, none⟩ = some (.slice Ao47 t375.length co47) := (blk_cell BK379.out 4).trans rfl
                                        have hfz62_0 := blk_frozen BK379.out 0
                                        have hfz62_1 := blk_frozen BK379.out 1
                                        have hfz62_2 := blk_frozen BK379.out 2
                                        have hfz62_3 := blk_frozen BK379.out 3
                                        have hfz62_4 := blk_frozen BK379.out 4
                                        have hnb63 := NB356_369.out
                                        have hnc63 := NB369_356.out
                                        have hnb64 := NB356_389.out
                                        have hnc64 := NB389_356.out
                                        have hcz65_0 : wc.cell? ⟨gb356, 0, none⟩ = some (.int .i64 x357000_4) := (blk_cell BK356.out 0).trans rfl
                                        have hcz65_1 : wc.cell? ⟨gb356, 1, none⟩ = some (.int .i64 x357001_4) := (blk_cell BK356.out 1).trans rfl
                                        have hcz65_2 : wc.cell? ⟨gb356, 2, none⟩ = some (.int .i64 x357002_4) := (blk_cell BK356.out 2).trans rfl
                                        have hcz65_3 : wc.cell? ⟨gb356, 3, none⟩ = some (.int .i64 x357003_4) := (blk_cell BK356.out 3).trans rfl
                                        have hcz65_4 : wc.cell? ⟨gb356, 4, none⟩ = some (.slice Ao41 x357004_4.length co41) := (blk_cell BK356.out 4).trans rfl
                                        have hfz65_0 := blk_frozen BK356.out 0
                                        have hfz65_1 := blk_frozen BK356.out 1
                                        have hfz65_2 := blk_frozen BK356.out 2
                                        have hfz65_3 := blk_frozen BK356.out 3
                                        have hfz65_4 := blk_frozen BK356.out 4
                                        have hnb66 := NB389_369.out
                                        have hnc66 := NB369_389.out
                                        have hcz67_0 : wc.cell? ⟨gb389, 0, none⟩ = some (.int .i64 t380) := (blk_cell BK389.out 0).trans rfl
                                        have hcz67_1 : wc.cell? ⟨gb389, 1, none⟩ = some (.int .i64 t381) := (blk_cell BK389.out 1).trans rfl
                                        have hcz67_2 : wc.cell? ⟨gb389, 2, none⟩ = some (.int .i64 t382) := (blk_cell BK389.out 2).trans rfl
                                        have hcz67_3 : wc.cell? ⟨gb389, 3, none⟩ = some (.int .i64 t383) := (blk_cell BK389.out 3).trans rfl
                                        have hcz67_4 : wc.cell? ⟨gb389, 4, none⟩ = some (.slice Ao54 t384.length co54) := (blk_cell BK389.out 4).trans rfl
                                        have hfz67_0 := blk_frozen BK389.out 0
                                        have hfz67_1 := blk_frozen BK389.out 1
                                        have hfz67_2 := blk_frozen BK389.out 2
                                        have hfz67_3 := blk_frozen BK389.out 3
                                        have hfz67_4 := blk_frozen BK389.out 4
                                        go_wp2
                                        go_roundg kj37
                                        case measure => have := HJ4.out; have := HK2.out; have := HJ20.out; have := HK4.out; have := HJ37.out; omega
                                        case rel => exact ⟨((wrap64 (x9_4 + 1))), (ji35), (wrap64 (x18_4 - 1)), (t380), (t381), (t382), (t383), (t384), (.slice Ao54 t384.length co54), (by first | rfl | (simp; done) | (simp [*]; done)), (by first | rfl | (simp; done) | (simp only [← hji35] <;> (first | rfl | simp)) | (simp [*]; done)), (by first | rfl | (simp; done) | (simp [*]; done)), H', ⟨by have := HJ4.out; have := HK2.out; have := HJ20.out; have := HK4.out; have := HJ37.out; omega⟩, ⟨by (with_reducible repeat (first | apply Kd.Q_alloc | apply Kd.Q_drewN | apply Kd.Q_drew)); exact Kd.Q_mono (Kd.Q_far (p := ⟨gb356, 4, none⟩) (Kd.Q_far (p := ⟨gb356, 3, none⟩) (Kd.Q_far (p := ⟨gb356, 2, none⟩) (Kd.Q_far (p := ⟨gb356, 1, none⟩) (Kd.Q_far (p := ⟨gb356, 0, none⟩) (Kd.Q_far (p := ⟨gb356, 4, none⟩) (Kd.Q_far (p := ⟨gb356, 3, none⟩) (Kd.Q_far (p := ⟨gb356, 2, none⟩) (Kd.Q_far (p := ⟨gb356, 1, none⟩) (Kd.Q_far (p := ⟨gb356, 0, none⟩) (Kd.Q_types HO_390004.out BK356.out (by decide)) (fun _ hk => hk.2) (.int .i64 t371)) (fun _ hk => hk.2) (.int .i64 t372)) (fun _ hk => hk.2) (.int .i64 t373)) (fun _ hk => hk.2) (.int .i64 t374)) (fun _ hk => hk.2) (.slice Ao47 t375.length co47)) (fun _ hk => hk.2) (.int .i64 t380)) (fun _ hk => hk.2) (.int .i64 t381)) (fun _ hk => hk.2) (.int .i64 t382)) (fun _ hk => hk.2) (.int .i64 t383)) (fun _ hk => hk.2) (.slice Ao54 t384.length co54)) (fun _ hk => trivial)⟩, ⟨by (with_reducible repeat (first | apply Kd.Q_alloc | apply Kd.Q_drewN | apply Kd.Q_drew)); exact Kd.Q_mono (Kd.Q_far (p := ⟨gb356, 4, none⟩) (Kd.Q_far (p := ⟨gb356, 3, none⟩) (Kd.Q_far (p := ⟨gb356, 2, none⟩) (Kd.Q_far (p := ⟨gb356, 1, none⟩) (Kd.Q_far (p := ⟨gb356, 0, none⟩) (Kd.Q_far (p := ⟨gb356, 4, none⟩) (Kd.Q_far (p := ⟨gb356, 3, none⟩) (Kd.Q_far (p := ⟨gb356, 2, none⟩) (Kd.Q_far (p := ⟨gb356, 1, none⟩) (Kd.Q_far (p := ⟨gb356, 0, none⟩) (Kd.Q_types HO_370004.out BK356.out (by decide)) (fun _ hk => hk.2) (.int .i64 t371)) (fun _ hk => hk.2) (.int .i64 t372)) (fun _ hk => hk.2) (.int .i64 t373)) (fun _ hk => hk.2) (.int .i64 t374)) (fun _ hk => hk.2) (.slice Ao47 t375.length co47)) (fun _ hk => hk.2) (.int .i64 t380)) (fun _ hk => hk.2) (.int .i64 t381)) (fun _ hk => hk.2) (.int .i64 t382)) (fun _ hk => hk.2) (.int .i64 t383)) (fun _ hk => hk.2) (.slice Ao54 t384.length co54)) (fun _ hk => trivial)⟩, ⟨by (with_reducible repeat (first | refine blk_drewN ?_ _ | refine blk_drew ?_ | refine blk_alloc ?_ _)); refine blk_put (cs := #[.int .i64 t380, .int .i64 t381, .int .i64 t382, .int .i64 t383, .slice Ao47 t375.length co47]) ?_ 4 _ rfl; (with_reducible repeat (first | refine blk_drewN ?_ _ | refine blk_drew ?_ | refine blk_alloc ?_ _)); refine blk_put (cs := #[.int .i64 t380, .int .i64 t381, .int .i64 t382, .int .i64 t374, .slice Ao47 t375.length co47]) ?_ 3 _ rfl; (with_reducible repeat (first | refine blk_drewN ?_ _ | refine blk_drew ?_ | refine blk_alloc ?_ _)); refine blk_put (cs := #[.int .i64 t380, .int .i64 t381, .int .i64 t373, .int .i64 t374, .slice Ao47 t375.length co47]) ?_ 2 _ rfl; (with_reducible repeat (first | refine blk_drewN ?_ _ | refine blk_drew ?_ | refine blk_alloc ?_ _)); refine blk_put (cs := #[.int .i64 t380, .int .i64 t372, .int .i64 t373, .int .i64 t374, .slice Ao47 t375.length co47]) ?_ 1 _ rfl; (with_reducible repeat (first | refine blk_drewN ?_ _ | refine blk_drew ?_ | refine blk_alloc ?_ _)); refine blk_put (cs := #[.int .i64 t371, .int .i64 t372, .int .i64 t373, .int .i64 t374, .slice Ao47 t375.length co47]) ?_ 0 _ rfl; (with_reducible repeat (first | refine blk_drewN ?_ _ | refine blk_drew ?_ | refine blk_alloc ?_ _)); refine blk_put (cs := #[.int .i64 t371, .int .i64 t372, .int .i64 t373, .int .i64 t374, .slice Ao41 x357004_4.length co41]) ?_ 4 _ rfl; (with_reducible repeat (first | refine blk_drewN ?_ _ | refine blk_drew ?_ | refine blk_alloc ?_ _)); refine blk_put (cs := #[.int .i64 t371, .int .i64 t372, .int .i64 t373, .int .i64 x357003_4, .slice Ao41 x357004_4.length co41]) ?_ 3 _ rfl; (with_reducible repeat (first | refine blk_drewN ?_ _ | refine blk_drew ?_ | refine blk_alloc ?_ _)); refine blk_put (cs := #[.int .i64 t371, .int .i64 t372, .int .i64 x357002_4, .int .i64 x357003_4, .slice Ao41 x357004_4.length co41]) ?_ 2 _ rfl; (with_reducible repeat (first | refine blk_drewN ?_ _ | refine blk_drew ?_ | refine blk_alloc ?_ _)); refine blk_put (cs := #[.int .i64 t371, .int .i64 x357001_4, .int .i64 x357002_4, .int .i64 x357003_4, .slice Ao41 x357004_4.length co41]) ?_ 1 _ rfl; (with_reducible repeat (first | refine blk_drewN ?_ _ | refine blk_drew ?_ | refine blk_alloc ?_ _)); refine blk_put (cs := #[.int .i64 x357000_4, .int .i64 x357001_4, .int .i64 x357002_4, .int .i64 x357003_4, .slice Ao41 x357004_4.length co41]) ?_ 0 _ rfl; (with_reducible repeat (first | refine blk_drewN ?_ _ | refine blk_drew ?_ | refine blk_alloc ?_ _)); exact BK356.out⟩, ⟨by (with_reducible repeat (first | refine blk_drewN ?_ _ | refine blk_drew ?_ | refine blk_alloc ?_ _)); refine blk_far ?_ NB369_356.out _; (with_reducible repeat (first | refine blk_drewN ?_ _ | refine blk_drew ?_ | refine blk_alloc ?_ _)); refine blk_far ?_ NB369_356.out _; (with_reducible repeat (first | refine blk_drewN ?_ _ | refine blk_drew ?_ | refine blk_alloc ?_ _)); refine blk_far ?_ NB369_356.out _; (with_reducible repeat (first | refine blk_drewN ?_ _ | refine blk_drew ?_ | refine blk_alloc ?_ _)); refine blk_far ?_ NB369_356.out _; (with_reducible repeat (first | refine blk_drewN ?_ _ | refine blk_drew ?_ | refine blk_alloc ?_ _)); refine blk_far ?_ NB369_356.out _; (with_reducible repeat (first | refine blk_drewN ?_ _ | refine blk_drew ?_ | refine blk_alloc ?_ _)); refine blk_far ?_ NB369_356.out _; (with_reducible repeat (first | refine blk_drewN ?_ _ | refine blk_drew ?_ | refine blk_alloc ?_ _)); refine blk_far ?_ NB369_356.out _; (with_reducible repeat (first | refine blk_drewN ?_ _ | refine blk_drew ?_ | refine blk_alloc ?_ _)); refine blk_far ?_ NB369_356.out _; (with_reducible repeat (first | refine blk_drewN ?_ _ | refine blk_drew ?_ | refine blk_alloc ?_ _)); refine blk_far ?_ NB369_356.out _; (with_reducible repeat (first | refine blk_drewN ?_ _ | refine blk_drew ?_ | refine blk_alloc ?_ _)); refine blk_far ?_ NB369_356.out _; (with_reducible repeat (first | refine blk_drewN ?_ _ | refine blk_drew ?_ | refine blk_alloc ?_ _)); exact BK369.out⟩, ⟨by repeat (first | (with_reducible first | exact HB.out | apply below_alloc | apply pw_below_drewN | apply below_drew1 | refine below_set ?_ GE356.out | refine below_set ?_ GE369.out | refine below_set ?_ GE379.out | refine below_set ?_ GE389.out) | exact HB.out)⟩⟩
                                      · rw [if_neg c58] at H
                                        have c58b0 : (t387 == 0) = false := beq_eq_false_iff_ne.mpr c58
                                        have c58b1 : (t387 != 0) = true := bne_iff_ne.mpr c58
                                        have H' := Aside0.mk H
                                        clear H
                                        have hnb68 := NB379_356.out
                                        have hnc68 := NB356_379.out
                                        have hnb69 := NB379_369.out
                                        have hnc69 := NB369_379.out
                                        have hnb70 := NB379_389.out
                                        have hnc70 := NB389_379.out
                                        have hcz71_0 : wc.cell? ⟨gb379, 0, none⟩ = some (.int .i64 t371) := (blk_cell BK379.out 0).trans rfl
                                        have hcz71_1 : wc.cell? ⟨gb379, 1, none⟩ = some (.int .i64 t372) := (blk_cell BK379.out 1).trans rfl
                                        have hcz71_2 : wc.cell? ⟨gb379, 2, none⟩ = some (.int .i64 t373) := (blk_cell BK379.out 2).trans rfl
                                        have hcz71_3 : wc.cell? ⟨gb379, 3, none⟩ = some (.int .i64 t374) := (blk_cell BK379.out 3).trans rfl
                                        have hcz71_4 : wc.cell? ⟨gb379, 4, none⟩ = some (.slice Ao47 t375.length co47) := (blk_cell BK379.out 4).trans rfl
                                        have hfz71_0 := blk_frozen BK379.out 0
                                        have hfz71_1 := blk_frozen BK379.out 1
                                        have hfz71_2 := blk_frozen BK379.out 2
                                        have hfz71_3 := blk_frozen BK379.out 3
                                        have hfz71_4 := blk_frozen BK379.out 4
                                        have hnb72 := NB356_369.out
                                        have hnc72 := NB369_356.out
                                        have hnb73 := NB356_389.out
                                        have hnc73 := NB389_356.out
                                        have hcz74_0 : wc.cell? ⟨gb356, 0, none⟩ = some (.int .i64 x357000_4) := (blk_cell BK356.out 0).trans rfl
                                        have hcz74_1 : wc.cell? ⟨gb356, 1, none⟩ = some (.int .i64 x357001_4) := (blk_cell BK356.out 1).trans rfl
                                        have hcz74_2 : wc.cell? ⟨gb356, 2, none⟩ = some (.int .i64 x357002_4) := (blk_cell BK356.out 2).trans rfl
                                        have hcz74_3 : wc.cell? ⟨gb356, 3, none⟩ = some (.int .i64 x357003_4) := (blk_cell BK356.out 3).trans rfl
                                        have hcz74_4 : wc.cell? ⟨gb356, 4, none⟩ = some (.slice Ao41 x357004_4.length co41) := (blk_cell BK356.out 4).trans rfl
                                        have hfz74_0 := blk_frozen BK356.out 0
                                        have hfz74_1 := blk_frozen BK356.out 1
                                        have hfz74_2 := blk_frozen BK356.out 2
                                        have hfz74_3 := blk_frozen BK356.out 3
                                        have hfz74_4 := blk_frozen BK356.out 4
                                        go_wp2
                                        go_roundg kj37
                                        case measure => have := HJ4.out; have := HK2.out; have := HJ20.out; have := HK4.out; have := HJ37.out; omega
                                        case rel => exact ⟨((wrap64 (x9_4 + 1))), (ji35), (wrap64 (x18_4 - 1)), (t371), (t372), (t373), (t374), (t375), (.slice Ao47 t375.length co47), (by first | rfl | (simp; done) | (simp [*]; done)), (by first | rfl | (simp; done) | (simp only [← hji35] <;> (first | rfl | simp)) | (simp [*]; done)), (by first | rfl | (simp; done) | (simp [*]; done)), H', ⟨by have := HJ4.out; have := HK2.out; have := HJ20.out; have := HK4.out; have := HJ37.out; omega⟩, ⟨by (with_reducible repeat (first | apply Kd.Q_alloc | apply Kd.Q_drewN | apply Kd.Q_drew)); exact Kd.Q_mono (Kd.Q_far (p := ⟨gb356, 4, none⟩) (Kd.Q_far (p := ⟨gb356, 3, none⟩) (Kd.Q_far (p := ⟨gb356, 2, none⟩) (Kd.Q_far (p := ⟨gb356, 1, none⟩) (Kd.Q_far (p := ⟨gb356, 0, none⟩) (Kd.Q_types HO_380004.out BK356.out (by decide)) (fun _ hk => hk.2) (.int .i64 t371)) (fun _ hk => hk.2) (.int .i64 t372)) (fun _ hk => hk.2) (.int .i64 t373)) (fun _ hk => hk.2) (.int .i64 t374)) (fun _ hk => hk.2) (.slice Ao47 t375.length co47)) (fun _ hk => trivial)⟩, ⟨by (with_reducible repeat (first | apply Kd.Q_alloc | apply Kd.Q_drewN | apply Kd.Q_drew)); exact Kd.Q_mono (Kd.Q_far (p := ⟨gb356, 4, none⟩) (Kd.Q_far (p := ⟨gb356, 3, none⟩) (Kd.Q_far (p := ⟨gb356, 2, none⟩) (Kd.Q_far (p := ⟨gb356, 1, none⟩) (Kd.Q_far (p := ⟨gb356, 0, none⟩) (Kd.Q_types HO_370004.out BK356.out (by decide)) (fun _ hk => hk.2) (.int .i64 t371)) (fun _ hk => hk.2) (.int .i64 t372)) (fun _ hk => hk.2) (.int .i64 t373)) (fun _ hk => hk.2) (.int .i64 t374)) (fun _ hk => hk.2) (.slice Ao47 t375.length co47)) (fun _ hk => trivial)⟩, ⟨by (with_reducible repeat (first | refine blk_drewN ?_ _ | refine blk_drew ?_ | refine blk_alloc ?_ _)); refine blk_put (cs := #[.int .i64 t371, .int .i64 t372, .int .i64 t373, .int .i64 t374, .slice Ao41 x357004_4.length co41]) ?_ 4 _ rfl; (with_reducible repeat (first | refine blk_drewN ?_ _ | refine blk_drew ?_ | refine blk_alloc ?_ _)); refine blk_put (cs := #[.int .i64 t371, .int .i64 t372, .int .i64 t373, .int .i64 x357003_4, .slice Ao41 x357004_4.length co41]) ?_ 3 _ rfl; (with_reducible repeat (first | refine blk_drewN ?_ _ | refine blk_drew ?_ | refine blk_alloc ?_ _)); refine blk_put (cs := #[.int .i64 t371, .int .i64 t372, .int .i64 x357002_4, .int .i64 x357003_4, .slice Ao41 x357004_4.length co41]) ?_ 2 _ rfl; (with_reducible repeat (first | refine blk_drewN ?_ _ | refine blk_drew ?_ | refine blk_alloc ?_ _)); refine blk_put (cs := #[.int .i64 t371, .int .i64 x357001_4, .int .i64 x357002_4, .int .i64 x357003_4, .slice Ao41 x357004_4.length co41]) ?_ 1 _ rfl; (with_reducible repeat (first | refine blk_drewN ?_ _ | refine blk_drew ?_ | refine blk_alloc ?_ _)); refine blk_put (cs := #[.int .i64 x357000_4, .int .i64 x357001_4, .int .i64 x357002_4, .int .i64 x357003_4, .slice Ao41 x357004_4.length co41]) ?_ 0 _ rfl; (with_reducible repeat (first | refine blk_drewN ?_ _ | refine blk_drew ?_ | refine blk_alloc ?_ _)); exact BK356.out⟩, ⟨by (with_reducible repeat (first | refine blk_drewN ?_ _ | refine blk_drew ?_ | refine blk_alloc ?_ _)); refine blk_far ?_ NB369_356.out _; (with_reducible repeat (first | refine blk_drewN ?_ _ | refine blk_drew ?_ | refine blk_alloc ?_ _)); refine blk_far ?_ NB369_356.out _; (with_reducible repeat (first | refine blk_drewN ?_ _ | refine blk_drew ?_ | refine blk_alloc ?_ _)); refine blk_far ?_ NB369_356.out _; (with_reducible repeat (first | refine blk_drewN ?_ _ | refine blk_drew ?_ | refine blk_alloc ?_ _)); refine blk_far ?_ NB369_356.out _; (with_reducible repeat (first | refine blk_drewN ?_ _ | refine blk_drew ?_ | refine blk_alloc ?_ _)); refine blk_far ?_ NB369_356.out _; (with_reducible repeat (first | refine blk_drewN ?_ _ | refine blk_drew ?_ | refine blk_alloc ?_ _)); exact BK369.out⟩, ⟨by repeat (first | (with_reducible first | exact HB.out | apply below_alloc | apply pw_below_drewN | apply below_drew1 | refine below_set ?_ GE356.out | refine below_set ?_ GE369.out | refine below_set ?_ GE379.out | refine below_set ?_ GE389.out) | exact HB.out)⟩⟩
                              · rw [if_neg c34] at H
                                have c34b0 : decide (0 < x18_4) = false := decide_eq_false c34
                                clear c34
                                replace H := Option.bind_eq_some_iff.mp H
                                obtain ⟨t370, A750, H⟩ := H
                                replace H : (if t370 = (wrap64 ((wrap64 (x10_2 + (wrap64 ((Int.tmod (wrap64 (rd l2 x43_2)) 30) + 1)))) - x11_4)) then (standbylaw33_ThrottleWaits.l0 k4 x9_4 (wrap64 (x10_2 + (wrap64 ((Int.tmod (wrap64 (rd l2 x43_2)) 30) + 1)))) x11_4 l2 (l2.length : Int) (wrap64 (x43_2 + 1)) x357000_4 x357001_4 x357002_4 x357003_4 x357004_4) else (some false)) = some r := H
                                have A75 := Aside0.mk A750
                                clear A750
                                by_cases c76 : t370 = (wrap64 ((wrap64 (x10_2 + (wrap64 ((Int.tmod (wrap64 (rd l2 x43_2)) 30) + 1)))) - x11_4))
                                · rw [if_pos c76] at H
                                  have c76b0 : (t370 == (wrap64 ((wrap64 (x10_2 + (wrap64 ((Int.tmod (wrap64 (rd l2 x43_2)) 30) + 1)))) - x11_4))) = true := beq_iff_eq.mpr c76
                                  have c76b1 : (t370 != (wrap64 ((wrap64 (x10_2 + (wrap64 ((Int.tmod (wrap64 (rd l2 x43_2)) 30) + 1)))) - x11_4))) = false := bne_eq_false_iff_eq.mpr c76
                                  clear c76
                                  have H' := Aside0.mk H
                                  clear H
                                  have hnb77 := NB356_369.out
                                  have hnc77 := NB369_356.out
                                  have hcz78_0 : wr.cell? ⟨gb356, 0, none⟩ = some (.int .i64 x357000_4) := (blk_cell BK356.out 0).trans rfl
                                  have hcz78_1 : wr.cell? ⟨gb356, 1, none⟩ = some (.int .i64 x357001_4) := (blk_cell BK356.out 1).trans rfl
                                  have hcz78_2 : wr.cell? ⟨gb356, 2, none⟩ = some (.int .i64 x357002_4) := (blk_cell BK356.out 2).trans rfl
                                  have hcz78_3 : wr.cell? ⟨gb356, 3, none⟩ = some (.int .i64 x357003_4) := (blk_cell BK356.out 3).trans rfl
                                  have hcz78_4 : wr.cell? ⟨gb356, 4, none⟩ = some (u357004) := (blk_cell BK356.out 4).trans rfl
                                  have hfz78_0 := blk_frozen BK356.out 0
                                  have hfz78_1 := blk_frozen BK356.out 1
                                  have hfz78_2 := blk_frozen BK356.out 2
                                  have hfz78_3 := blk_frozen BK356.out 3
                                  have hfz78_4 := blk_frozen BK356.out 4
                                  obtain ⟨Ao79, co79, eo79, _⟩ := Kd.Q_slice HO_357004.out
                                  subst eo79
                                  go_wp2_with (first | ((with_reducible refine gate_callee (f := 22) rfl ?_); refine goesL_ (some 121) rfl rfl Try.func22 (by kernel_rfl) rfl #[.agg #[.int .i64 x357000_4, .int .i64 x357001_4, .int .i64 x357002_4, .int .i64 x357003_4, .slice Ao79 x357004_4.length co79]] rfl (by (try simp only [List.map_toArray, List.map_cons, List.map_nil]); first | done | rfl | (simp only [List.length_drop, List.length_take]; rfl)) ?_; (with_reducible refine (throttle_Backlog.calls k4 x357000_4 x357001_4 x357002_4 x357003_4 _ _ x357004_4 t370 _ ?side1 ?side2 A75.out).mono ?_); (case side1 => repeat (first | exact (Kd.Q_reads' HO_357004.out).2.2 | (with_reducible refine Kd.C_alloc ?_ _) | (with_reducible refine Kd.C_drewN ?_ _) | (with_reducible refine Kd.C_drew ?_))); (case side2 => exact (Kd.Q_reads' HO_357004.out).2.1); rintro e w80 ⟨rfl, hb⟩; refine ⟨_, rfl, ?_⟩; have n0_ := Aside0.mk (Kd.Q_below (by (with_reducible repeat (first | apply Kd.Q_alloc | apply Kd.Q_drewN | apply Kd.Q_drew)); exact HO_357004.out) hb); have n1_ := Aside0.mk (Kd.Q_below (by (with_reducible repeat (first | apply Kd.Q_alloc | apply Kd.Q_drewN | apply Kd.Q_drew)); exact HO_370004.out) hb); have n2_ := Aside0.mk (blk_below (g := gb356) (o := .cells #[.int .i64 x357000_4, .int .i64 x357001_4, .int .i64 x357002_4, .int .i64 x357003_4, .slice Ao79 x357004_4.length co79] 24 (0, 0)) (by (with_reducible repeat (first | refine blk_drewN ?_ _ | refine blk_drew ?_ | refine blk_alloc ?_ _)); exact BK356.out) hb); have n3_ := Aside0.mk (blk_below (g := gb369) (o := .cells #[.int .i64 t360, .int .i64 t361, .int .i64 t362, .int .i64 t363, .slice Ao28 t364.length co28] 24 (0, 0)) (by (with_reducible repeat (first | refine blk_drewN ?_ _ | refine blk_drew ?_ | refine blk_alloc ?_ _)); exact BK369.out) hb); have n4_ := Aside0.mk (below_step (by repeat (first | (with_reducible first | exact HB.out | apply below_alloc | apply pw_below_drewN | apply below_drew1 | refine below_set ?_ GE356.out | refine below_set ?_ GE369.out) | exact HB.out)) hb); clear HO_357004; clear HO_370004; clear BK356; clear BK369; clear HB; have HO_357004 := n0_; have HO_370004 := n1_; have BK356 := n2_; have BK369 := n3_; have HB := n4_; clear n0_ n1_ n2_ n3_ n4_; (try clear hb); (try clear hb2); (try clear hk); (try clear hi)))
                                  go_roundg k4
                                  case measure => have := HJ4.out; have := HK2.out; have := HJ20.out; have := HK4.out; omega
                                  case rel => exact ⟨(x9_4), (wrap64 (x10_2 + (wrap64 ((Int.tmod (wrap64 (rd l2 x43_2)) 30) + 1)))), (x11_4), (wrap64 (x43_2 + 1)), (x357000_4), (x357001_4), (x357002_4), (x357003_4), (x357004_4), (.slice Ao79 x357004_4.length co79), (by first | rfl | (simp; done) | (simp [*]; done)), (by first | rfl | (simp; done) | (simp [*]; done)), (by first | rfl | (simp; done) | (simp [*]; done)), (by first | rfl | (simp; done) | (simp [*]; done)), H', ⟨by have := HJ4.out; have := HK2.out; have := HJ20.out; have := HK4.out; omega⟩, ⟨by (with_reducible repeat (first | apply Kd.Q_alloc | apply Kd.Q_drewN | apply Kd.Q_drew)); exact HO_357004.out⟩, ⟨by (with_reducible repeat (first | refine blk_drewN ?_ _ | refine blk_drew ?_ | refine blk_alloc ?_ _)); exact BK356.out⟩, ⟨by repeat (first | (with_reducible first | exact HB.out | apply below_alloc | apply pw_below_drewN | apply below_drew1 | refine below_set ?_ GE356.out | refine below_set ?_ GE369.out) | exact HB.out)⟩⟩
                                · rw [if_neg c76] at H
                                  have c76b0 : (t370 == (wrap64 ((wrap64 (x10_2 + (wrap64 ((Int.tmod (wrap64 (rd l2 x43_2)) 30) + 1)))) - x11_4))) = false := beq_eq_false_iff_ne.mpr c76
                                  have c76b1 : (t370 != (wrap64 ((wrap64 (x10_2 + (wrap64 ((Int.tmod (wrap64 (rd l2 x43_2)) 30) + 1)))) - x11_4))) = true := bne_iff_ne.mpr c76
                                  obtain rfl := Option.some.inj H
                                  have hnb81 := NB356_369.out
                                  have hnc81 := NB369_356.out
                                  have hcz82_0 : wr.cell? ⟨gb356, 0, none⟩ = some (.int .i64 x357000_4) := (blk_cell BK356.out 0).trans rfl
                                  have hcz82_1 : wr.cell? ⟨gb356, 1, none⟩ = some (.int .i64 x357001_4) := (blk_cell BK356.out 1).trans rfl
                                  have hcz82_2 : wr.cell? ⟨gb356, 2, none⟩ = some (.int .i64 x357002_4) := (blk_cell BK356.out 2).trans rfl
                                  have hcz82_3 : wr.cell? ⟨gb356, 3, none⟩ = some (.int .i64 x357003_4) := (blk_cell BK356.out 3).trans rfl
                                  have hcz82_4 : wr.cell? ⟨gb356, 4, none⟩ = some (u357004) := (blk_cell BK356.out 4).trans rfl
                                  have hfz82_0 := blk_frozen BK356.out 0
                                  have hfz82_1 := blk_frozen BK356.out 1
                                  have hfz82_2 := blk_frozen BK356.out 2
                                  have hfz82_3 := blk_frozen BK356.out 3
                                  have hfz82_4 := blk_frozen BK356.out 4
                                  obtain ⟨Ao83, co83, eo83, _⟩ := Kd.Q_slice HO_357004.out
                                  subst eo83
                                  go_wp2_with (first | ((with_reducible refine gate_callee (f := 22) rfl ?_); refine goesL_ (some 121) rfl rfl Try.func22 (by kernel_rfl) rfl #[.agg #[.int .i64 x357000_4, .int .i64 x357001_4, .int .i64 x357002_4, .int .i64 x357003_4, .slice Ao83 x357004_4.length co83]] rfl (by (try simp only [List.map_toArray, List.map_cons, List.map_nil]); first | done | rfl | (simp only [List.length_drop, List.length_take]; rfl)) ?_; (with_reducible refine (throttle_Backlog.calls k4 x357000_4 x357001_4 x357002_4 x357003_4 _ _ x357004_4 t370 _ ?side1 ?side2 A75.out).mono ?_); (case side1 => repeat (first | exact (Kd.Q_reads' HO_357004.out).2.2 | (with_reducible refine Kd.C_alloc ?_ _) | (with_reducible refine Kd.C_drewN ?_ _) | (with_reducible refine Kd.C_drew ?_))); (case side2 => exact (Kd.Q_reads' HO_357004.out).2.1); rintro e w84 ⟨rfl, hb⟩; refine ⟨_, rfl, ?_⟩; have n0_ := Aside0.mk (Kd.Q_below (by (with_reducible repeat (first | apply Kd.Q_alloc | apply Kd.Q_drewN | apply Kd.Q_drew)); exact HO_357004.out) hb); have n1_ := Aside0.mk (Kd.Q_below (by (with_reducible repeat (first | apply Kd.Q_alloc | apply Kd.Q_drewN | apply Kd.Q_drew)); exact HO_370004.out) hb); have n2_ := Aside0.mk (blk_below (g := gb356) (o := .cells #[.int .i64 x357000_4, .int .i64 x357001_4, .int .i64 x357002_4, .int .i64 x357003_4, .slice Ao83 x357004_4.length co83] 24 (0, 0)) (by (with_reducible repeat (first | refine blk_drewN ?_ _ | refine blk_drew ?_ | refine blk_alloc ?_ _)); exact BK356.out) hb); have n3_ := Aside0.mk (blk_below (g := gb369) (o := .cells #[.int .i64 t360, .int .i64 t361, .int .i64 t362, .int .i64 t363, .slice Ao28 t364.length co28] 24 (0, 0)) (by (with_reducible repeat (first | refine blk_drewN ?_ _ | refine blk_drew ?_ | refine blk_alloc ?_ _)); exact BK369.out) hb); have n4_ := Aside0.mk (below_step (by repeat (first | (with_reducible first | exact HB.out | apply below_alloc | apply pw_below_drewN | apply below_drew1 | refine below_set ?_ GE356.out | refine below_set ?_ GE369.out) | exact HB.out)) hb); clear HO_357004; clear HO_370004; clear BK356; clear BK369; clear HB; have HO_357004 := n0_; have HO_370004 := n1_; have BK356 := n2_; have BK369 := n3_; have HB := n4_; clear n0_ n1_ n2_ n3_ n4_; (try clear hb); (try clear hb2); (try clear hk); (try clear hi)))
                                  go_ret
                                  exact ⟨by first | rfl | (simp [errW_none, errW_some] <;> rfl) | (simp [*, errW_none, errW_some] <;> rfl), by repeat (first | (with_reducible first | exact HB.out | apply below_alloc | apply pw_below_drewN | apply below_drew1 | refine below_set ?_ GE356.out | refine below_set ?_ GE369.out) | exact HB.out)⟩
                · rw [if_neg c17] at H
                  exact absurd H (by simp)
              · rw [if_neg c16] at H
                exact absurd H (by simp)
            · rw [if_neg c15] at H
              have c15b0 : decide (x43_2 < (l2.length : Int)) = false := decide_eq_false c15
              clear c15
              replace H := Option.bind_eq_some_iff.mp H
              obtain ⟨t358, A850, H⟩ := H
              replace H : (some t358) = some r := H
              have A85 := Aside0.mk A850
              clear A850
              obtain rfl := Option.some.inj H
              go_wp2_with (first | ((with_reducible refine gate_callee (f := 10) rfl ?_); refine goesL_ (some 127) rfl rfl Try.func10 (by kernel_rfl) rfl #[] rfl (by (try simp only [List.map_toArray, List.map_cons, List.map_nil]); first | done | rfl | (simp only [List.length_drop, List.length_take]; rfl)) ?_; (with_reducible refine (standbylaw33_awake.calls k2  t358 _ A85.out).mono ?_); rintro e w86 ⟨rfl, hb⟩; refine ⟨_, rfl, ?_⟩; have n0_ := Aside0.mk (Kd.Q_below (by (with_reducible repeat (first | apply Kd.Q_alloc | apply Kd.Q_drewN | apply Kd.Q_drew)); exact HO_357004.out) hb); have n1_ := Aside0.mk (blk_below (g := gb356) (o := .cells #[.int .i64 x357000_2, .int .i64 x357001_2, .int .i64 x357002_2, .int .i64 x357003_2, u357004] 24 (0, 0)) (by (with_reducible repeat (first | refine blk_drewN ?_ _ | refine blk_drew ?_ | refine blk_alloc ?_ _)); exact BK356.out) hb); have n2_ := Aside0.mk (below_step (by repeat (first | (with_reducible first | exact HB.out | apply below_alloc | apply pw_below_drewN | apply below_drew1 | refine below_set ?_ GE356.out) | exact HB.out)) hb); clear HO_357004; clear BK356; clear HB; have HO_357004 := n0_; have BK356 := n1_; have HB := n2_; clear n0_ n1_ n2_; (try clear hb); (try clear hb2); (try clear hk); (try clear hi)))
              go_ret
              exact ⟨by first | rfl | (simp [errW_none, errW_some] <;> rfl) | (simp [*, errW_none, errW_some] <;> rfl), by repeat (first | (with_reducible first | exact HB.out | apply below_alloc | apply pw_below_drewN | apply below_drew1 | refine below_set ?_ GE356.out) | exact HB.out)⟩

end Go.Proofs.Ytppniempndnghaa.PA
