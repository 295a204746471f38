-- Written by a program of this session (wip/tools) over the kit's print.
import Derived.Test.YtedoloapddmanaaPBx0
import Derived.Test.YtedoloapddmanaaSh
import Derived.Test.YtedoloapddmanaaSh2
import Derived.Test.YtedoloapddmanaaPBx2
namespace Go.Proofs.Ytedoloapddmanaa.PB
open Go.RowKit Go.Proofs.YtedoloapddmanaaW.PrintWords Go.Proofs.YtedoloapddmanaaW.PrintLast Go.Proofs.YtedoloapddmanaaW.PrintMore
attribute [local go_sem] max2_int min2_int max_two min_two max_three min_three max_four min_four   -- for this text's walks alone
set_option linter.unusedVariables false
set_option linter.unusedSimpArgs false
def commit_CheckTarget.j0 : Nat → Bool → Int → Int → Int → Int → Option (Int)
  | 0, _, _, _, _, _ => none
  | k + 1, x3, x121000, x121001, a8, a9 => if x3 = true then (some 2) else (if a9 < 0 then (some 3) else (if a8 < a9 then (some 3) else (if a8 > 1073741824 then (some 3) else (some 0))))
def commit_CheckTarget.f (k : Nat) (aB : Int) (aA : Int) (aC : Int) (aD : Int) : Option (Int) := (commit_time.f aB).bind fun aT => (if aT = true then ((commit_site.f aA).bind fun aU => (commit_CheckTarget.j0 k (!aU) aB aA aC aD)) else (commit_CheckTarget.j0 k (!aT) aB aA aC aD))
theorem commit_CheckTarget.mono_l : ∀ k, (∀ y0 y1 y2 y3 y4, LeO (commit_CheckTarget.j0 k y0 y1 y2 y3 y4) (commit_CheckTarget.j0 (k + 1) y0 y1 y2 y3 y4))
  | 0 => fun _ _ _ _ _ r h => by simp [commit_CheckTarget.j0] at h
  | k + 1 => by
    have ih0 := commit_CheckTarget.mono_l k
    · intro y0 y1 y2 y3 y4
      unfold commit_CheckTarget.j0
      repeat' first
      | (with_reducible exact ih0 _ _ _ _ _)
      | (with_reducible exact LeO.refl _)
      | (with_reducible exact LeO.none _)
      | (with_reducible refine LeO.ite ?_ ?_)
      | (with_reducible refine LeO.bind ?_ (fun _ => ?_))
      | exact ih0 _ _ _ _ _
      | exact LeO.none _
      | refine LeO.ite ?_ ?_
      | refine LeO.bind ?_ (fun _ => ?_)
theorem commit_CheckTarget.mono : ∀ a0 a1 a2 a3 k, LeO (commit_CheckTarget.f k a0 a1 a2 a3) (commit_CheckTarget.f (k + 1) a0 a1 a2 a3) := by
  intro a0 a1 a2 a3 k
  have ih0 := commit_CheckTarget.mono_l k
  unfold commit_CheckTarget.f
  repeat' first
      | (with_reducible exact ih0 _ _ _ _ _)
      | (with_reducible exact LeO.refl _)
      | (with_reducible exact LeO.none _)
      | (with_reducible refine LeO.ite ?_ ?_)
      | (with_reducible refine LeO.bind ?_ (fun _ => ?_))
      | exact ih0 _ _ _ _ _
      | exact LeO.none _
      | refine LeO.ite ?_ ?_
      | refine LeO.bind ?_ (fun _ => ?_)
set_option maxHeartbeats 8000000 in
set_option maxRecDepth 100000 in
theorem commit_CheckTarget.calls (k : Nat) (aB : Int) (aA : Int) (aC : Int) (aD : Int) (r : Int) (w : World) (h : commit_CheckTarget.f k aB aA aC aD = some r) :
    Calls Try.prog 20 #[.agg #[.int .i64 aB, .int .i64 aA, .int .i64 aC, .int .i64 aD]] w fun e w' => e = .returned (.int .i64 r) ∧ Below w.heap.size w w' := by
  have hu26 := Try.underlying26
  have HB := Aside0.mk (Below.refl w.heap.size w)
  have H : ((commit_time.f aB).bind fun aT => (if aT = true then ((commit_site.f aA).bind fun aU => (commit_CheckTarget.j0 k (!aU) aB aA aC aD)) else (commit_CheckTarget.j0 k (!aT) aB aA aC aD))) = some r := h
  clear h
  replace H := Option.bind_eq_some_iff.mp H
  obtain ⟨aT, A20, H⟩ := H
  (try dsimp only at H)
  have A2 := Aside0.mk A20
  clear A20
  have HC3 := Aside0.mk H
  clear H
  go_enter Try.func20, Try.ntmps20
  go_upto_if 3 with (first | ((with_reducible refine gate_dst (N := 1) rfl ?_); refine box_event ?hg (N := 1) ?hd (cs := #[.int .i64 aB, .int .i64 aA, .int .i64 aC, .int .i64 aD]) (t := 26) ?hr ?_; (case hd => rfl); (case hg => rfl); (case hr => first | (go_simp; done) | (go_simp; rfl)); intro eN hg w4 hbox hb; have aM := Aside0.mk (hbox); have GW120 := gZ HB hg; have GE120 := gZ HB hg; replace HB := tB HB hb; clear hb hbox hg; obtain ⟨bS, bT, bU, bV⟩ := cz4 aM.out; obtain ⟨bW, bX, bY, bZ⟩ := fz4 aM.out) | ((with_reducible refine gate_callee (f := 44) rfl ?_); refine goesL_ (some 6) rfl rfl Try.func44 (by kernel_rfl) rfl #[.int .i64 aB] rfl (by (try simp only [List.map_toArray, List.map_cons, List.map_nil]); first | done | rfl | (simp only [List.length_drop, List.length_take]; rfl)) ?_; (with_reducible refine (commit_time.calls aB aT _ A2.out).mono ?_); rintro e w' ⟨rfl, ⟨nd, rfl⟩⟩; refine ⟨_, rfl, ?_⟩))
  (try simp only [Act.put, sA, sB, sC])
  go_cut [3] (fun v3 wc => ∃ (kq : Nat) (bI : Bool), v3 = .bool bI ∧ Aside0 (commit_CheckTarget.j0 kq bI aB aA aC aD = some r) ∧ Aside0 (kq ≤ k) ∧ Aside0 (wc.heap[eN]? = some (.cells #[.int .i64 aB, .int .i64 aA, .int .i64 aC, .int .i64 aD] 26 (0, 0))) ∧ Aside0 (Below w.heap.size w wc))
  case first =>
    have H := HC3.out
    clear HC3
    by_cases c6 : aT = true
    · subst c6
      have H1 : ((commit_site.f aA).bind fun aU => (commit_CheckTarget.j0 k (!aU) aB aA aC aD)) = some r := by rw [if_pos rfl] at H; exact H
      clear H
      have H := H1
      clear H1
      replace H := Option.bind_eq_some_iff.mp H
      obtain ⟨aU, A70, H⟩ := H
      (try dsimp only at H)
      have A7 := Aside0.mk A70
      clear A70
      have H' := Aside0.mk H
      clear H
      obtain ⟨dZ, d0, d1, d2⟩ := cz4 aM.out
      obtain ⟨d3, d4, d5, d6⟩ := fz4 aM.out
      go_wp2_with (first | ((with_reducible refine gate_callee (f := 45) rfl ?_); refine goesL_ (some 10) rfl rfl Try.func45 (by kernel_rfl) rfl #[.int .i64 aA] rfl (by (try simp only [List.map_toArray, List.map_cons, List.map_nil]); first | done | rfl | (simp only [List.length_drop, List.length_take]; rfl)) ?_; (with_reducible refine (commit_site.calls aA aU _ A7.out).mono ?_); rintro e w' ⟨rfl, ⟨nd, rfl⟩⟩; refine ⟨_, rfl, ?_⟩))
      go_meet
      case rel => exact ⟨_, (!aU), (by first | rfl | (simp; done) | (simp [*]; done)), H', ⟨by first | omega | exact Nat.le_refl _⟩, ⟨by refine mK ?_; exact aM.out⟩, ⟨kB HB.out⟩⟩
    · replace c6 := Bool.eq_false_iff.mpr c6
      subst c6
      have H1 : (commit_CheckTarget.j0 k (!false) aB aA aC aD) = some r := by rw [if_neg (show ¬ (false = true) by decide)] at H; exact H
      clear H
      have H := H1
      clear H1
      have H' := Aside0.mk H
      clear H
      go_wp2
      go_meet
      case rel => exact ⟨_, (!false), (by first | rfl | (simp; done) | (simp [*]; done)), H', ⟨by first | omega | exact Nat.le_refl _⟩, ⟨by refine mK ?_; exact aM.out⟩, ⟨kB HB.out⟩⟩
  case rest =>
    clear HC3
    try clear c2
    try clear p2
    try clear c4
    try clear c6
    try clear bS bT bU bV
    try clear dZ d0 d1 d2
    try clear bW bX bY bZ
    try clear d3 d4 d5 d6
    obtain ⟨kq, bI, rfl, HA, HJ2, aM, HB⟩ := hcut
    cases kq with
    | zero => exact absurd HA.out (by simp [commit_CheckTarget.j0])
    | succ kj2 =>
      have H := HA.out
      clear HA
      simp only [commit_CheckTarget.j0] at H
      by_cases c9 : bI = true
      · subst c9
        have H1 : (some 2) = some r := by rw [if_pos rfl] at H; exact H
        clear H
        have H := H1
        clear H1
        obtain rfl := Option.some.inj H
        go_wp2
        go_ret
        exact ⟨by first | rfl | (simp [errW_none, errW_some] <;> rfl) | (simp [*, errW_none, errW_some] <;> rfl), (kB HB.out)⟩
      · replace c9 := Bool.eq_false_iff.mpr c9
        subst c9
        have H1 : (if aD < 0 then (some 3) else (if aC < aD then (some 3) else (if aC > 1073741824 then (some 3) else (some 0)))) = some r := by rw [if_neg (show ¬ (false = true) by decide)] at H; exact H
        clear H
        have H := H1
        clear H1
        by_cases c10 : aD < 0
        · rw [if_pos c10] at H
          have eO : decide (aD < 0) = true := decide_eq_true c10
          clear c10
          obtain rfl := Option.some.inj H
          obtain ⟨bA, bB, bC, bD⟩ := cz4 aM.out
          obtain ⟨bE, bF, bG, bH⟩ := fz4 aM.out
          go_wp2
          go_ret
          exact ⟨by first | rfl | (simp [errW_none, errW_some] <;> rfl) | (simp [*, errW_none, errW_some] <;> rfl), (kB HB.out)⟩
        · rw [if_neg c10] at H
          have eO : decide (aD < 0) = false := decide_eq_false c10
          clear c10
          by_cases c12 : aC < aD
          · rw [if_pos c12] at H
            have eP : decide (aC < aD) = true := decide_eq_true c12
            clear c12
            obtain rfl := Option.some.inj H
            obtain ⟨e5, e6, e7, e8⟩ := cz4 aM.out
            obtain ⟨e9, fA, fB, fC⟩ := fz4 aM.out
            go_wp2
            go_ret
            exact ⟨by first | rfl | (simp [errW_none, errW_some] <;> rfl) | (simp [*, errW_none, errW_some] <;> rfl), (kB HB.out)⟩
          · rw [if_neg c12] at H
            have eP : decide (aC < aD) = false := decide_eq_false c12
            clear c12
            by_cases c14 : aC > 1073741824
            · rw [if_pos c14] at H
              have eQ : decide (1073741824 < aC) = true := decide_eq_true c14
              clear c14
              obtain rfl := Option.some.inj H
              obtain ⟨fD, fE, fF, fG⟩ := cz4 aM.out
              obtain ⟨fH, fI, fJ, fK⟩ := fz4 aM.out
              go_wp2
              go_ret
              exact ⟨by first | rfl | (simp [errW_none, errW_some] <;> rfl) | (simp [*, errW_none, errW_some] <;> rfl), (kB HB.out)⟩
            · rw [if_neg c14] at H
              have eQ : decide (1073741824 < aC) = false := decide_eq_false c14
              clear c14
              obtain rfl := Option.some.inj H
              obtain ⟨fL, fM, fN, fO⟩ := cz4 aM.out
              obtain ⟨fP, fQ, fR, fS⟩ := fz4 aM.out
              go_wp2
              go_ret
              exact ⟨by first | rfl | (simp [errW_none, errW_some] <;> rfl) | (simp [*, errW_none, errW_some] <;> rfl), (kB HB.out)⟩
def commit_target_message.f (aB : Int) (aA : Int) (aC : Int) (aD : Int) (a1 : Int) (a2 : Int) : Option ((List (S53))) := some (([(⟨a1, aA, 0, 0, a2, aB, (), ()⟩ : S53)] : List (S53)))
set_option maxHeartbeats 8000000 in
set_option maxRecDepth 100000 in
theorem commit_target_message.calls (aB : Int) (aA : Int) (aC : Int) (aD : Int) (a1 : Int) (a2 : Int) (r : List (S53)) (w : World) (h : commit_target_message.f aB aA aC aD a1 a2 = some r) :
    Calls Try.prog 57 #[.agg #[.int .i64 aB, .int .i64 aA, .int .i64 aC, .int .i64 aD], .int .i64 a1, .int .i64 a2] w fun e w' => ∃ v0_ : Value, e = .returned (v0_) ∧ Kd.R k53 53 w' w.heap.size (fun _ => True) v0_ r ∧ Below w.heap.size w w' := by
  have hu88 := Try.underlying88
  have hu53 := Try.underlying53
  have HB := Aside0.mk (Below.refl w.heap.size w)
  have H : (some (([(⟨a1, aA, 0, 0, a2, aB, (), ()⟩ : S53)] : List (S53)))) = some r := h
  clear h
  obtain ⟨e2, aV⟩ : ∃ y_ : List (S53), y_ = (([(⟨a1, aA, 0, 0, a2, aB, (), ()⟩ : S53)] : List (S53))) := ⟨_, rfl⟩
  replace H : (some e2) = some r := by first | (rw [aV]; with_reducible exact H) | (have H2_ := (Option.bind_some _ _).symm.trans H; rw [aV]; with_reducible exact H2_) | (have H2_ := (Option.bind_some _ _).symm.trans H; with_reducible exact H2_) | with_reducible exact H | (rw [aV]; exact H) | exact H
  have b0 := Aside0.mk aV
  clear aV
  obtain rfl := Option.some.inj H
  go_enter Try.func57, Try.ntmps57
  go_wp2_with (first | ((with_reducible refine gate_dst (N := 3) rfl ?_); refine box_event ?hg (N := 3) ?hd (cs := #[.int .i64 aB, .int .i64 aA, .int .i64 aC, .int .i64 aD]) (t := 88) ?hr ?_; (case hd => rfl); (case hg => rfl); (case hr => first | (go_simp; done) | (go_simp; rfl)); intro gb123 hg w4 hbox hb; have aY := Aside0.mk (hbox); have GW123 := gZ HB hg; have GE123 := gZ HB hg; replace HB := tB HB hb; clear hb hbox hg; obtain ⟨bS, bT, bU, bV⟩ := cz4 aY.out; obtain ⟨bW, bX, bY, bZ⟩ := fz4 aY.out) | ((with_reducible refine gate_dst (N := 16) rfl ?_); refine Kd.R_lit k53 _ 53 ?hg (N := 16) ?hd (xs := ([(⟨a1, aA, 0, 0, a2, aB, (), ()⟩ : S53)] : List (S53))) (inner := [.int .i64 a1, .int .i64 aA, .int .i64 0, .int .i64 0, .int .i64 a2, .int .i64 aB, .slice none 0 0, .slice none 0 0]) (ok := fun _ => True) (okp := fun _ => True) ?hr ?hp (fun _ hk => hk) trivial (Below.refl _ _) (Nat.le_refl _) (by simp) ?_; (case hd => rfl); (case hg => rfl); (case hr => first | (go_simp; done) | (go_simp; rfl)); (case hp => exact (Reps.c8 (show Kd.M k53 _ _ _ (⟨a1, aA, 0, 0, a2, aB, (), ()⟩ : S53) [.int .i64 a1, .int .i64 aA, .int .i64 0, .int .i64 0, .int .i64 a2, .int .i64 aB, .slice none 0 0, .slice none 0 0] from (k53_mkM _ _ _ (⟨a1, aA, 0, 0, a2, aB, (), ()⟩ : S53) )) (Reps.none _ _))); intro v125 w6 ho7 hb hg_ hnew_; clear hg_ hnew_; (first | rw [← b0.out] at ho7 | (simp only [Int.reduceToNat] at ho7; rw [← b0.out] at ho7)); have eR := Aside0.mk (Kd.R_lower ho7 (kZ HB.out)); replace aY := tK aY hb; replace HB := tB HB hb; clear hb ho7))
  go_ret
  exact ⟨_, by first | rfl | (simp [errW_none, errW_some] <;> rfl) | (simp [*, errW_none, errW_some] <;> rfl), by refine mR ?_; exact eR.out, (kB HB.out)⟩
def commit_target_offered.f (aB : Int) (aA : Int) (aC : Int) (aD : Int) : Option ((List (S53))) := (commit_target_message.f aB aA aC aD 9 aC).bind fun aW => (some aW)
set_option maxHeartbeats 8000000 in
set_option maxRecDepth 100000 in
theorem commit_target_offered.calls (aB : Int) (aA : Int) (aC : Int) (aD : Int) (r : List (S53)) (w : World) (h : commit_target_offered.f aB aA aC aD = some r) :
    Calls Try.prog 54 #[.agg #[.int .i64 aB, .int .i64 aA, .int .i64 aC, .int .i64 aD]] w fun e w' => ∃ v0_ : Value, e = .returned (v0_) ∧ Kd.R k53 53 w' w.heap.size (fun _ => True) v0_ r ∧ Below w.heap.size w w' := by
  have hu88 := Try.underlying88
  have HB := Aside0.mk (Below.refl w.heap.size w)
  have H : ((commit_target_message.f aB aA aC aD 9 aC).bind fun aW => (some aW)) = some r := h
  clear h
  replace H := Option.bind_eq_some_iff.mp H
  obtain ⟨aW, A20, H⟩ := H
  replace H : (some aW) = some r := H
  have A2 := Aside0.mk A20
  clear A20
  obtain rfl := Option.some.inj H
  go_enter Try.func54, Try.ntmps54
  go_wp2_with (first | ((with_reducible refine gate_dst (N := 1) rfl ?_); refine box_event ?hg (N := 1) ?hd (cs := #[.int .i64 aB, .int .i64 aA, .int .i64 aC, .int .i64 aD]) (t := 88) ?hr ?_; (case hd => rfl); (case hg => rfl); (case hr => first | (go_simp; done) | (go_simp; rfl)); intro gb127 hg w3 hbox hb; have aZ := Aside0.mk (hbox); have GW127 := gZ HB hg; have GE127 := gZ HB hg; replace HB := tB HB hb; clear hb hbox hg; obtain ⟨d7, d8, d9, eA⟩ := cz4 aZ.out; obtain ⟨eB, eC, eD, eE⟩ := fz4 aZ.out) | ((with_reducible refine gate_callee (f := 57) rfl ?_); refine goesL_ (some 7) rfl rfl Try.func57 (by kernel_rfl) rfl #[.agg #[.int .i64 aB, .int .i64 aA, .int .i64 aC, .int .i64 aD], .int .i64 9, .int .i64 aC] rfl (by (try simp only [List.map_toArray, List.map_cons, List.map_nil]); first | done | rfl | (simp only [List.length_drop, List.length_take]; rfl)) ?_; (with_reducible refine (commit_target_message.calls aB aA aC aD 9 aC aW _ A2.out).mono ?_); rintro e w5 ⟨v129, rfl, ho0, hb⟩; refine ⟨_, rfl, ?_⟩; have eS := Aside0.mk (Kd.R_lower ho0 (kZ HB.out)); replace aZ := tK aZ hb; replace HB := tB HB hb; (try clear hb); (try clear hb2); (try clear hk); (try clear hi); (try clear ho0)))
  go_ret
  exact ⟨_, by first | rfl | (simp [errW_none, errW_some] <;> rfl) | (simp [*, errW_none, errW_some] <;> rfl), by refine mR ?_; exact eS.out, (kB HB.out)⟩
def commit_Store.f (k : Nat) (aB : Int) (aA : Int) (aC : Int) (aD : Int) (a1 : Int) : Option (Int × Int × Int × Int × (List (S53)) × Int) := (commit_CheckTarget.f k aB aA aC aD).bind fun aR => (if aR = 0 then (if a1 ≤ aC then (some (0, 0, 0, 0, ([] : List (S53)), 8)) else (if a1 > 1073741824 then (some (0, 0, 0, 0, ([] : List (S53)), 2)) else ((commit_target_offered.f aB aA a1 aD).bind fun a6 => (some (aB, aA, a1, aD, a6, 0))))) else (some (0, 0, 0, 0, ([] : List (S53)), aR)))
theorem commit_Store.mono : ∀ a0 a1 a2 a3 a4 k, LeO (commit_Store.f k a0 a1 a2 a3 a4) (commit_Store.f (k + 1) a0 a1 a2 a3 a4) := by
  intro a0 a1 a2 a3 a4 k
  unfold commit_Store.f
  repeat' first
      | (with_reducible exact commit_CheckTarget.mono _ _ _ _ _)
      | (with_reducible exact LeO.refl _)
      | (with_reducible exact LeO.none _)
      | (with_reducible refine LeO.ite ?_ ?_)
      | (with_reducible refine LeO.bind ?_ (fun _ => ?_))
      | exact commit_CheckTarget.mono _ _ _ _ _
      | exact LeO.none _
      | refine LeO.ite ?_ ?_
      | refine LeO.bind ?_ (fun _ => ?_)
set_option maxHeartbeats 8000000 in
set_option maxRecDepth 100000 in
theorem commit_Store.calls (k : Nat) (aB : Int) (aA : Int) (aC : Int) (aD : Int) (a1 : Int) (r1 : Int) (r2 : Int) (r3 : Int) (r4 : Int) (r5 : List (S53)) (r6 : Int) (w : World) (h : commit_Store.f k aB aA aC aD a1 = some (r1, r2, r3, r4, r5, r6)) :
    Calls Try.prog 31 #[.agg #[.int .i64 aB, .int .i64 aA, .int .i64 aC, .int .i64 aD], .int .i64 a1] w fun e w' => ∃ v4_ : Value, e = .returned (.tuple #[.agg #[.int .i64 r1, .int .i64 r2, .int .i64 r3, .int .i64 r4], v4_, .int .i64 r6]) ∧ Kd.R k53 53 w' w.heap.size (fun _ => True) v4_ r5 ∧ Below w.heap.size w w' := by
  have hu26 := Try.underlying26
  have hu88 := Try.underlying88
  have HB := Aside0.mk (Below.refl w.heap.size w)
  have H : ((commit_CheckTarget.f k aB aA aC aD).bind fun aR => (if aR = 0 then (if a1 ≤ aC then (some (0, 0, 0, 0, ([] : List (S53)), 8)) else (if a1 > 1073741824 then (some (0, 0, 0, 0, ([] : List (S53)), 2)) else ((commit_target_offered.f aB aA a1 aD).bind fun a6 => (some (aB, aA, a1, aD, a6, 0))))) else (some (0, 0, 0, 0, ([] : List (S53)), aR)))) = some (r1, r2, r3, r4, r5, r6) := h
  clear h
  replace H := Option.bind_eq_some_iff.mp H
  obtain ⟨aR, A30, H⟩ := H
  (try dsimp only at H)
  have A3 := Aside0.mk A30
  clear A30
  by_cases c4 : aR = 0
  · rw [if_pos c4] at H
    have c4b0 : (aR == 0) = true := beq_iff_eq.mpr c4
    have c4b1 : (aR != 0) = false := bne_eq_false_iff_eq.mpr c4
    clear c4
    by_cases c5 : a1 ≤ aC
    · rw [if_pos c5] at H
      have c5b0 : decide (a1 ≤ aC) = true := decide_eq_true c5
      clear c5
      simp only [Option.some.injEq, Prod.mk.injEq] at H
      obtain ⟨rfl, rfl, rfl, rfl, rfl, rfl⟩ := H
      go_enter Try.func31, Try.ntmps31
      go_wp2_with (first | ((with_reducible refine gate_dst (N := 2) rfl ?_); refine box_event ?hg (N := 2) ?hd (cs := #[.int .i64 aB, .int .i64 aA, .int .i64 aC, .int .i64 aD]) (t := 26) ?hr ?_; (case hd => rfl); (case hg => rfl); (case hr => first | (go_simp; done) | (go_simp; rfl)); intro aP hg w6 hbox hb; have aE := Aside0.mk (hbox); have bJ := gZ HB hg; have bK := gZ HB hg; replace HB := tB HB hb; clear hb hbox hg) | ((with_reducible refine gate_dst (N := 4) rfl ?_); refine box_event ?hg (N := 4) ?hd (cs := #[.int .i64 0, .int .i64 0, .int .i64 0, .int .i64 0]) (t := 26) ?hr ?_; (case hd => rfl); (case hg => rfl); (case hr => first | (go_simp; done) | (go_simp; rfl)); intro aN hg w7 hbox hb; have aG := Aside0.mk (hbox); have bL := gZ HB hg; have bM := gZ HB hg; replace HB := tB HB hb; have aI := nL aE hg; have aK := nG aE hg; replace aE := tK aE hb; clear hb hbox hg; have e3 := aI.out; have e4 := aK.out; obtain ⟨eF, eG, eH, eI⟩ := cz4 aE.out; obtain ⟨eJ, eK, eL, eM⟩ := fz4 aE.out) | ((with_reducible refine gate_callee (f := 20) rfl ?_); refine goesL_ (some 9) rfl rfl Try.func20 (by kernel_rfl) rfl #[.agg #[.int .i64 aB, .int .i64 aA, .int .i64 aC, .int .i64 aD]] rfl (by (try simp only [List.map_toArray, List.map_cons, List.map_nil]); first | done | rfl | (simp only [List.length_drop, List.length_take]; rfl)) ?_; (with_reducible refine (commit_CheckTarget.calls k aB aA aC aD aR _ A3.out).mono ?_); rintro e w10 ⟨rfl, hb⟩; refine ⟨_, rfl, ?_⟩; replace aE := tK aE hb; replace aG := tK aG hb; replace HB := tB HB hb; (try clear hb); (try clear hb2); (try clear hk); (try clear hi); obtain ⟨bA, bB, bC, bD⟩ := cz4 aE.out; obtain ⟨bE, bF, bG, bH⟩ := fz4 aE.out; obtain ⟨b1, b2, b3, b4⟩ := cz4 aG.out; obtain ⟨b5, b6, b7, b8⟩ := fz4 aG.out))
      refine bodyPost_ret (results_ctt rfl _ _ aN 26 #[.int .i64 0, .int .i64 0, .int .i64 0, .int .i64 0] (0, 0) _ rfl (by exact (mK (pt4_0_4 aG.out))) Try.underlying26 rfl (by kernel_rfl)) rfl ?_
      exact ⟨_, by first | rfl | (simp [errW_none, errW_some] <;> rfl) | (simp [*, errW_none, errW_some] <;> rfl), by first | exact Kd.R_nil _ _ _ _ _ | exact Kd.N_nil _ _ _ _ _ | exact Kd.V_nil _ _ _ _ _ | exact Kd.Q_nil _ _ _ _ _ | exact Kd.S_nil _ _ _ _ _, (kB HB.out)⟩
    · rw [if_neg c5] at H
      have c5b0 : decide (a1 ≤ aC) = false := decide_eq_false c5
      clear c5
      by_cases c13 : a1 > 1073741824
      · rw [if_pos c13] at H
        have bN : decide (1073741824 < a1) = true := decide_eq_true c13
        clear c13
        simp only [Option.some.injEq, Prod.mk.injEq] at H
        obtain ⟨rfl, rfl, rfl, rfl, rfl, rfl⟩ := H
        go_enter Try.func31, Try.ntmps31
        go_wp2_with (first | ((with_reducible refine gate_dst (N := 2) rfl ?_); refine box_event ?hg (N := 2) ?hd (cs := #[.int .i64 aB, .int .i64 aA, .int .i64 aC, .int .i64 aD]) (t := 26) ?hr ?_; (case hd => rfl); (case hg => rfl); (case hr => first | (go_simp; done) | (go_simp; rfl)); intro aP hg w14 hbox hb; have aE := Aside0.mk (hbox); have bJ := gZ HB hg; have bK := gZ HB hg; replace HB := tB HB hb; clear hb hbox hg) | ((with_reducible refine gate_dst (N := 4) rfl ?_); refine box_event ?hg (N := 4) ?hd (cs := #[.int .i64 0, .int .i64 0, .int .i64 0, .int .i64 0]) (t := 26) ?hr ?_; (case hd => rfl); (case hg => rfl); (case hr => first | (go_simp; done) | (go_simp; rfl)); intro aN hg w15 hbox hb; have aG := Aside0.mk (hbox); have bL := gZ HB hg; have bM := gZ HB hg; replace HB := tB HB hb; have aI := nL aE hg; have aK := nG aE hg; replace aE := tK aE hb; clear hb hbox hg; have eT := aI.out; have eU := aK.out; obtain ⟨b9, cA, cB, cC⟩ := cz4 aE.out; obtain ⟨cD, cE, cF, cG⟩ := fz4 aE.out) | ((with_reducible refine gate_callee (f := 20) rfl ?_); refine goesL_ (some 9) rfl rfl Try.func20 (by kernel_rfl) rfl #[.agg #[.int .i64 aB, .int .i64 aA, .int .i64 aC, .int .i64 aD]] rfl (by (try simp only [List.map_toArray, List.map_cons, List.map_nil]); first | done | rfl | (simp only [List.length_drop, List.length_take]; rfl)) ?_; (with_reducible refine (commit_CheckTarget.calls k aB aA aC aD aR _ A3.out).mono ?_); rintro e w18 ⟨rfl, hb⟩; refine ⟨_, rfl, ?_⟩; replace aE := tK aE hb; replace aG := tK aG hb; replace HB := tB HB hb; (try clear hb); (try clear hb2); (try clear hk); (try clear hi); obtain ⟨cH, cI, cJ, cK⟩ := cz4 aE.out; obtain ⟨cL, cM, cN, cO⟩ := fz4 aE.out; obtain ⟨cP, cQ, cR, cS⟩ := cz4 aG.out; obtain ⟨cT, cU, cV, cW⟩ := fz4 aG.out))
        refine bodyPost_ret (results_ctt rfl _ _ aN 26 #[.int .i64 0, .int .i64 0, .int .i64 0, .int .i64 0] (0, 0) _ rfl (by exact (mK (pt4_0_4 aG.out))) Try.underlying26 rfl (by kernel_rfl)) rfl ?_
        exact ⟨_, by first | rfl | (simp [errW_none, errW_some] <;> rfl) | (simp [*, errW_none, errW_some] <;> rfl), by first | exact Kd.R_nil _ _ _ _ _ | exact Kd.N_nil _ _ _ _ _ | exact Kd.V_nil _ _ _ _ _ | exact Kd.Q_nil _ _ _ _ _ | exact Kd.S_nil _ _ _ _ _, (kB HB.out)⟩
      · rw [if_neg c13] at H
        have bN : decide (1073741824 < a1) = false := decide_eq_false c13
        clear c13
        replace H := Option.bind_eq_some_iff.mp H
        obtain ⟨a6, A210, H⟩ := H
        (try dsimp only at H)
        have A21 := Aside0.mk A210
        clear A210
        simp only [Option.some.injEq, Prod.mk.injEq] at H
        obtain ⟨rfl, rfl, rfl, rfl, rfl, rfl⟩ := H
        go_enter Try.func31, Try.ntmps31
        try go_wp2_with (first | ((with_reducible refine gate_dst (N := 2) rfl ?_); refine box_event ?hg (N := 2) ?hd (cs := #[.int .i64 aB, .int .i64 aA, .int .i64 aC, .int .i64 aD]) (t := 26) ?hr ?_; (case hd => rfl); (case hg => rfl); (case hr => first | (go_simp; done) | (go_simp; rfl)); intro aP hg w22 hbox hb; have aE := Aside0.mk (hbox); have bJ := gZ HB hg; have bK := gZ HB hg; replace HB := tB HB hb; clear hb hbox hg) | ((with_reducible refine gate_dst (N := 4) rfl ?_); refine box_event ?hg (N := 4) ?hd (cs := #[.int .i64 0, .int .i64 0, .int .i64 0, .int .i64 0]) (t := 26) ?hr ?_; (case hd => rfl); (case hg => rfl); (case hr => first | (go_simp; done) | (go_simp; rfl)); intro aN hg w23 hbox hb; have aG := Aside0.mk (hbox); have bL := gZ HB hg; have bM := gZ HB hg; replace HB := tB HB hb; have aI := nL aE hg; have aK := nG aE hg; replace aE := tK aE hb; clear hb hbox hg; have eV := aI.out; have eW := aK.out; obtain ⟨cX, cY, cZ, c0⟩ := cz4 aE.out; obtain ⟨c1, c3, c7, dA⟩ := fz4 aE.out) | ((with_reducible refine gate_callee (f := 20) rfl ?_); refine goesL_ (some 9) rfl rfl Try.func20 (by kernel_rfl) rfl #[.agg #[.int .i64 aB, .int .i64 aA, .int .i64 aC, .int .i64 aD]] rfl (by (try simp only [List.map_toArray, List.map_cons, List.map_nil]); first | done | rfl | (simp only [List.length_drop, List.length_take]; rfl)) ?_; (with_reducible refine (commit_CheckTarget.calls k aB aA aC aD aR _ A3.out).mono ?_); rintro e w26 ⟨rfl, hb⟩; refine ⟨_, rfl, ?_⟩; replace aE := tK aE hb; replace aG := tK aG hb; replace HB := tB HB hb; (try clear hb); (try clear hb2); (try clear hk); (try clear hi); obtain ⟨dB, dC, dD, dE⟩ := cz4 aE.out; obtain ⟨dF, dG, dH, dI⟩ := fz4 aE.out))
        have n0_ : Aside0 ((w26.setCell ⟨aP, 2, none⟩ (.int .i64 a1)).heap[aP]? = some (.cells #[.int .i64 aB, .int .i64 aA, .int .i64 a1, .int .i64 aD] 26 (0, 0))) := ⟨by exact (mK (pt4_2_1 aE.out))⟩
        have n1_ : Aside0 ((w26.setCell ⟨aP, 2, none⟩ (.int .i64 a1)).heap[aN]? = some (.cells #[.int .i64 0, .int .i64 0, .int .i64 0, .int .i64 0] 26 (0, 0))) := ⟨by exact (mK (fr aG.out aK.out))⟩
        have n2_ : Aside0 (Below w.heap.size w (w26.setCell ⟨aP, 2, none⟩ (.int .i64 a1))) := ⟨kB HB.out⟩
        (try clear aE)
        (try clear aG)
        (try clear HB)
        generalize (w26.setCell ⟨aP, 2, none⟩ (.int .i64 a1)) = w28 at n0_ n1_ n2_ ⊢
        have aE := n0_
        have aG := n1_
        have HB := n2_
        clear n0_ n1_ n2_
        have n0_ := Aside0.mk (blk_drew aE.out)
        have n1_ := Aside0.mk (blk_drew aG.out)
        have n2_ := Aside0.mk (below_drew1 HB.out)
        clear aE
        clear aG
        clear HB
        have aE := n0_
        have aG := n1_
        have HB := n2_
        clear n0_ n1_ n2_
        refine start_ (n := 7) (S := fun w' => w'.cell? ⟨aP, 0, none⟩ = some (.int .i64 aB) ∧ w'.cell? ⟨aP, 1, none⟩ = some (.int .i64 aA) ∧ w'.cell? ⟨aP, 2, none⟩ = some (.int .i64 a1) ∧ w'.cell? ⟨aP, 3, none⟩ = some (.int .i64 aD)) (ds := []) #[false, false, false, false, false, false, false] (by kernel_rfl) rfl rfl ⟨(blk_cell aE.out 0).trans rfl, (blk_cell aE.out 1).trans rfl, (blk_cell aE.out 2).trans rfl, (blk_cell aE.out 3).trans rfl⟩ (fun hHeld => ?_)
        generalize w28.drew = w29 at aE aG HB hHeld ⊢
        refine take_ (i := 0) (N := some 27) (v := ?_) (a' := ?_) (bs 7 1) rfl rfl (by kernel_rfl) (fun _ _ _ h => h) (Or.inl ⟨by rfl, ?_⟩) hHeld ?_ ?_
        rotate_left
        · rintro w' ⟨s0, s1, s2, s3⟩
          go_simp
          with_reducible rfl
        rotate_left
        · simp only [Act.put, sA, sB, sC, i64_w, i32_w]
          rfl
        refine take_ (i := 1) (N := some 28) (v := ?_) (a' := ?_) (bs 7 3) rfl rfl (by kernel_rfl) (fun _ _ _ h => h) (Or.inl ⟨by rfl, ?_⟩) hHeld ?_ ?_
        rotate_left
        · rintro w' ⟨s0, s1, s2, s3⟩
          go_simp
          with_reducible rfl
        rotate_left
        · simp only [Act.put, sA, sB, sC, i64_w, i32_w]
          rfl
        refine pure_ (i := 2) (N := some 29) (v := ?_) (a' := ?_) (bs 7 7) rfl rfl (by kernel_rfl) (fun _ _ _ h => h) (Or.inl ⟨by rfl, ?_⟩) ?_ ?_
        rotate_left
        · intro w'
          go_simp
          with_reducible rfl
        rotate_left
        · simp only [Act.put, sA, sB, sC, i64_w, i32_w]
          rfl
        refine one_ (i := 3) (N := some 30) (bs 7 15) rfl rfl (by kernel_rfl) (by decide) (fun K hK => ?_)
        refine goes_ Try.func54 (by kernel_rfl) rfl #[.agg #[.int .i64 aB, .int .i64 aA, .int .i64 a1, .int .i64 aD]] (by rfl) rfl rfl (by (try simp only [List.map_toArray, List.map_cons, List.map_nil]); first | done | rfl | (simp only [List.length_drop, List.length_take]; rfl)) ?_
        with_reducible refine (commit_target_offered.calls aB aA a1 aD a6 _ A21.out).mono ?_
        rintro e w30 ⟨v135, rfl, ho0, hb⟩
        refine ⟨_, rfl, ?_⟩
        have n0_ := Aside0.mk (Kd.R_lower ho0 (kZ HB.out))
        have n1_ := tK aE hb
        have n2_ := tK aG hb
        have n3_ := tB HB hb
        clear aE
        clear aG
        clear HB
        have eX := n0_
        have aE := n1_
        have aG := n2_
        have HB := n3_
        clear n0_ n1_ n2_ n3_
        (try clear hb)
        (try clear hb2)
        (try clear hk)
        (try clear hi)
        (try clear ho0)
        refine hK.out _ _ ⟨(blk_cell aE.out 0).trans rfl, (blk_cell aE.out 1).trans rfl, (blk_cell aE.out 2).trans rfl, (blk_cell aE.out 3).trans rfl⟩ (fun hHeld => ?_)
        clear hK K
        refine norm_ (a' := ?_) ?_ ?_
        rotate_left
        · show Act.put _ (some 30) _ = _
          simp only [Act.put, sA, sB, sC, i64_w, i32_w]
          rfl
        refine one_ (i := 4) (N := none) (bs 7 31) rfl rfl (by kernel_rfl) (by decide) (fun K hK => ?_)
        have hs31 : w30.cell? ⟨aN, 0, none⟩ = some (.int .i64 0) := (blk_cell aG.out 0).trans rfl
        have hfs31 := blk_frozen aG.out 0
        have hns31_0 := aI.out
        have hms31_0 := aK.out
        have hs32 : w30.cell? ⟨aN, 1, none⟩ = some (.int .i64 0) := (blk_cell aG.out 1).trans rfl
        have hfs32 := blk_frozen aG.out 1
        have hns32_0 := aI.out
        have hms32_0 := aK.out
        have hs33 : w30.cell? ⟨aN, 2, none⟩ = some (.int .i64 0) := (blk_cell aG.out 2).trans rfl
        have hfs33 := blk_frozen aG.out 2
        have hns33_0 := aI.out
        have hms33_0 := aK.out
        have hs34 : w30.cell? ⟨aN, 3, none⟩ = some (.int .i64 0) := (blk_cell aG.out 3).trans rfl
        have hfs34 := blk_frozen aG.out 3
        have hns34_0 := aI.out
        have hms34_0 := aK.out
        refine skip_ (w1 := ?_) (by rfl) rfl ?_ ?_
        rotate_left
        · go_simp
          rfl
        refine hK.out _ _ ⟨(cf4 aI.out hHeld.1), (cf4 aI.out hHeld.2.1), (cf4 aI.out hHeld.2.2.1), (cf4 aI.out hHeld.2.2.2)⟩ (fun hHeld => ?_)
        clear hK K
        refine pure_ (i := 5) (N := some 5) (v := ?_) (a' := ?_) (bs 7 63) rfl rfl (by kernel_rfl) (fun _ _ _ h => h) (Or.inl ⟨by rfl, ?_⟩) ?_ ?_
        rotate_left
        · intro w'
          go_simp
          with_reducible rfl
        rotate_left
        · simp only [Act.put, sA, sB, sC, i64_w, i32_w]
          rfl
        refine pure_ (i := 6) (N := some 6) (v := ?_) (a' := ?_) (bs 7 127) rfl rfl (by kernel_rfl) (fun _ _ _ h => h) (Or.inl ⟨by rfl, ?_⟩) ?_ ?_
        rotate_left
        · intro w'
          go_simp
          with_reducible rfl
        rotate_left
        · simp only [Act.put, sA, sB, sC, i64_w, i32_w]
          rfl
        refine done_ (by kernel_rfl) ?_
        try go_wp2
        refine bodyPost_ret (results_ctt rfl _ _ aN 26 #[.int .i64 aB, .int .i64 aA, .int .i64 a1, .int .i64 aD] (0, 0) _ rfl (by exact (mK (pt4_0_4 aG.out))) Try.underlying26 rfl (by kernel_rfl)) rfl ?_
        exact ⟨_, by first | rfl | (simp [errW_none, errW_some] <;> rfl) | (simp [*, errW_none, errW_some] <;> rfl), by refine mR ?_; exact Kd.R_mono (rf4 aN 0 (Kd.R_types eX.out aG.out (by decide)) (fun _ hk => hk.2) (.int .i64 aB) (.int .i64 aA) (.int .i64 a1) (.int .i64 aD)) (fun _ hk => trivial), (kB HB.out)⟩
  · rw [if_neg c4] at H
    have c4b0 : (aR == 0) = false := beq_eq_false_iff_ne.mpr c4
    have c4b1 : (aR != 0) = true := bne_iff_ne.mpr c4
    simp only [Option.some.injEq, Prod.mk.injEq] at H
    obtain ⟨rfl, rfl, rfl, rfl, rfl, rfl⟩ := H
    go_enter Try.func31, Try.ntmps31
    go_wp2_with (first | ((with_reducible refine gate_dst (N := 2) rfl ?_); refine box_event ?hg (N := 2) ?hd (cs := #[.int .i64 aB, .int .i64 aA, .int .i64 aC, .int .i64 aD]) (t := 26) ?hr ?_; (case hd => rfl); (case hg => rfl); (case hr => first | (go_simp; done) | (go_simp; rfl)); intro aP hg w35 hbox hb; have aE := Aside0.mk (hbox); have bJ := gZ HB hg; have bK := gZ HB hg; replace HB := tB HB hb; clear hb hbox hg) | ((with_reducible refine gate_dst (N := 4) rfl ?_); refine box_event ?hg (N := 4) ?hd (cs := #[.int .i64 0, .int .i64 0, .int .i64 0, .int .i64 0]) (t := 26) ?hr ?_; (case hd => rfl); (case hg => rfl); (case hr => first | (go_simp; done) | (go_simp; rfl)); intro aN hg w36 hbox hb; have aG := Aside0.mk (hbox); have bL := gZ HB hg; have bM := gZ HB hg; replace HB := tB HB hb; have aI := nL aE hg; have aK := nG aE hg; replace aE := tK aE hb; clear hb hbox hg; have eY := aI.out; have eZ := aK.out; obtain ⟨dJ, dK, dL, dM⟩ := cz4 aE.out; obtain ⟨dN, dO, dP, dQ⟩ := fz4 aE.out) | ((with_reducible refine gate_callee (f := 20) rfl ?_); refine goesL_ (some 9) rfl rfl Try.func20 (by kernel_rfl) rfl #[.agg #[.int .i64 aB, .int .i64 aA, .int .i64 aC, .int .i64 aD]] rfl (by (try simp only [List.map_toArray, List.map_cons, List.map_nil]); first | done | rfl | (simp only [List.length_drop, List.length_take]; rfl)) ?_; (with_reducible refine (commit_CheckTarget.calls k aB aA aC aD aR _ A3.out).mono ?_); rintro e w39 ⟨rfl, hb⟩; refine ⟨_, rfl, ?_⟩; replace aE := tK aE hb; replace aG := tK aG hb; replace HB := tB HB hb; (try clear hb); (try clear hb2); (try clear hk); (try clear hi); obtain ⟨dR, dS, dT, dU⟩ := cz4 aG.out; obtain ⟨dV, dW, dX, dY⟩ := fz4 aG.out))
    refine bodyPost_ret (results_ctt rfl _ _ aN 26 #[.int .i64 0, .int .i64 0, .int .i64 0, .int .i64 0] (0, 0) _ rfl (by exact (mK (pt4_0_4 aG.out))) Try.underlying26 rfl (by kernel_rfl)) rfl ?_
    exact ⟨_, by first | rfl | (simp [errW_none, errW_some] <;> rfl) | (simp [*, errW_none, errW_some] <;> rfl), by first | exact Kd.R_nil _ _ _ _ _ | exact Kd.N_nil _ _ _ _ _ | exact Kd.V_nil _ _ _ _ _ | exact Kd.Q_nil _ _ _ _ _ | exact Kd.S_nil _ _ _ _ _, (kB HB.out)⟩
def commit_target_committed.f (aB : Int) (aA : Int) (aC : Int) (aD : Int) : Option ((List (S53))) := (commit_target_message.f aB aA aC aD 11 aD).bind fun aX => (some aX)
set_option maxHeartbeats 8000000 in
set_option maxRecDepth 100000 in
theorem commit_target_committed.calls (aB : Int) (aA : Int) (aC : Int) (aD : Int) (r : List (S53)) (w : World) (h : commit_target_committed.f aB aA aC aD = some r) :
    Calls Try.prog 56 #[.agg #[.int .i64 aB, .int .i64 aA, .int .i64 aC, .int .i64 aD]] w fun e w' => ∃ v0_ : Value, e = .returned (v0_) ∧ Kd.R k53 53 w' w.heap.size (fun _ => True) v0_ r ∧ Below w.heap.size w w' := by
  have hu88 := Try.underlying88
  have HB := Aside0.mk (Below.refl w.heap.size w)
  have H : ((commit_target_message.f aB aA aC aD 11 aD).bind fun aX => (some aX)) = some r := h
  clear h
  replace H := Option.bind_eq_some_iff.mp H
  obtain ⟨aX, A20, H⟩ := H
  replace H : (some aX) = some r := H
  have A2 := Aside0.mk A20
  clear A20
  obtain rfl := Option.some.inj H
  go_enter Try.func56, Try.ntmps56
  go_wp2_with (first | ((with_reducible refine gate_dst (N := 1) rfl ?_); refine box_event ?hg (N := 1) ?hd (cs := #[.int .i64 aB, .int .i64 aA, .int .i64 aC, .int .i64 aD]) (t := 88) ?hr ?_; (case hd => rfl); (case hg => rfl); (case hr => first | (go_simp; done) | (go_simp; rfl)); intro gb137 hg w3 hbox hb; have a5 := Aside0.mk (hbox); have GW137 := gZ HB hg; have GE137 := gZ HB hg; replace HB := tB HB hb; clear hb hbox hg; obtain ⟨d7, d8, d9, eA⟩ := cz4 a5.out; obtain ⟨eB, eC, eD, eE⟩ := fz4 a5.out) | ((with_reducible refine gate_callee (f := 57) rfl ?_); refine goesL_ (some 7) rfl rfl Try.func57 (by kernel_rfl) rfl #[.agg #[.int .i64 aB, .int .i64 aA, .int .i64 aC, .int .i64 aD], .int .i64 11, .int .i64 aD] rfl (by (try simp only [List.map_toArray, List.map_cons, List.map_nil]); first | done | rfl | (simp only [List.length_drop, List.length_take]; rfl)) ?_; (with_reducible refine (commit_target_message.calls aB aA aC aD 11 aD aX _ A2.out).mono ?_); rintro e w5 ⟨v139, rfl, ho0, hb⟩; refine ⟨_, rfl, ?_⟩; have e0 := Aside0.mk (Kd.R_lower ho0 (kZ HB.out)); replace a5 := tK a5 hb; replace HB := tB HB hb; (try clear hb); (try clear hb2); (try clear hk); (try clear hi); (try clear ho0)))
  go_ret
  exact ⟨_, by first | rfl | (simp [errW_none, errW_some] <;> rfl) | (simp [*, errW_none, errW_some] <;> rfl), by refine mR ?_; exact e0.out, (kB HB.out)⟩
def commit_Apply.f (k : Nat) (aB : Int) (aA : Int) (aC : Int) (aD : Int) (a1 : Int) : Option (Int × Int × Int × Int × (List (S53)) × Int) := (commit_CheckTarget.f k aB aA aC aD).bind fun aS => (if aS = 0 then (if a1 ≤ aD then (some (0, 0, 0, 0, ([] : List (S53)), 8)) else (if a1 > aC then (some (0, 0, 0, 0, ([] : List (S53)), 15)) else ((commit_target_committed.f aB aA aC a1).bind fun a7 => (some (aB, aA, aC, a1, a7, 0))))) else (some (0, 0, 0, 0, ([] : List (S53)), aS)))
theorem commit_Apply.mono : ∀ a0 a1 a2 a3 a4 k, LeO (commit_Apply.f k a0 a1 a2 a3 a4) (commit_Apply.f (k + 1) a0 a1 a2 a3 a4) := by
  intro a0 a1 a2 a3 a4 k
  unfold commit_Apply.f
  repeat' first
      | (with_reducible exact commit_CheckTarget.mono _ _ _ _ _)
      | (with_reducible exact LeO.refl _)
      | (with_reducible exact LeO.none _)
      | (with_reducible refine LeO.ite ?_ ?_)
      | (with_reducible refine LeO.bind ?_ (fun _ => ?_))
      | exact commit_CheckTarget.mono _ _ _ _ _
      | exact LeO.none _
      | refine LeO.ite ?_ ?_
      | refine LeO.bind ?_ (fun _ => ?_)
set_option maxHeartbeats 8000000 in
set_option maxRecDepth 100000 in
theorem commit_Apply.calls (k : Nat) (aB : Int) (aA : Int) (aC : Int) (aD : Int) (a1 : Int) (r1 : Int) (r2 : Int) (r3 : Int) (r4 : Int) (r5 : List (S53)) (r6 : Int) (w : World) (h : commit_Apply.f k aB aA aC aD a1 = some (r1, r2, r3, r4, r5, r6)) :
    Calls Try.prog 33 #[.agg #[.int .i64 aB, .int .i64 aA, .int .i64 aC, .int .i64 aD], .int .i64 a1] w fun e w' => ∃ v4_ : Value, e = .returned (.tuple #[.agg #[.int .i64 r1, .int .i64 r2, .int .i64 r3, .int .i64 r4], v4_, .int .i64 r6]) ∧ Kd.R k53 53 w' w.heap.size (fun _ => True) v4_ r5 ∧ Below w.heap.size w w' := by
  have hu26 := Try.underlying26
  have hu88 := Try.underlying88
  have HB := Aside0.mk (Below.refl w.heap.size w)
  have H : ((commit_CheckTarget.f k aB aA aC aD).bind fun aS => (if aS = 0 then (if a1 ≤ aD then (some (0, 0, 0, 0, ([] : List (S53)), 8)) else (if a1 > aC then (some (0, 0, 0, 0, ([] : List (S53)), 15)) else ((commit_target_committed.f aB aA aC a1).bind fun a7 => (some (aB, aA, aC, a1, a7, 0))))) else (some (0, 0, 0, 0, ([] : List (S53)), aS)))) = some (r1, r2, r3, r4, r5, r6) := h
  clear h
  replace H := Option.bind_eq_some_iff.mp H
  obtain ⟨aS, A30, H⟩ := H
  (try dsimp only at H)
  have A3 := Aside0.mk A30
  clear A30
  by_cases c4 : aS = 0
  · rw [if_pos c4] at H
    have c4b0 : (aS == 0) = true := beq_iff_eq.mpr c4
    have c4b1 : (aS != 0) = false := bne_eq_false_iff_eq.mpr c4
    clear c4
    by_cases c5 : a1 ≤ aD
    · rw [if_pos c5] at H
      have c5b0 : decide (a1 ≤ aD) = true := decide_eq_true c5
      clear c5
      simp only [Option.some.injEq, Prod.mk.injEq] at H
      obtain ⟨rfl, rfl, rfl, rfl, rfl, rfl⟩ := H
      go_enter Try.func33, Try.ntmps33
      go_wp2_with (first | ((with_reducible refine gate_dst (N := 2) rfl ?_); refine box_event ?hg (N := 2) ?hd (cs := #[.int .i64 aB, .int .i64 aA, .int .i64 aC, .int .i64 aD]) (t := 26) ?hr ?_; (case hd => rfl); (case hg => rfl); (case hr => first | (go_simp; done) | (go_simp; rfl)); intro aQ hg w6 hbox hb; have aF := Aside0.mk (hbox); have bO := gZ HB hg; have bP := gZ HB hg; replace HB := tB HB hb; clear hb hbox hg) | ((with_reducible refine gate_dst (N := 4) rfl ?_); refine box_event ?hg (N := 4) ?hd (cs := #[.int .i64 0, .int .i64 0, .int .i64 0, .int .i64 0]) (t := 26) ?hr ?_; (case hd => rfl); (case hg => rfl); (case hr => first | (go_simp; done) | (go_simp; rfl)); intro aO hg w7 hbox hb; have aH := Aside0.mk (hbox); have bQ := gZ HB hg; have bR := gZ HB hg; replace HB := tB HB hb; have aJ := nL aF hg; have aL := nG aF hg; replace aF := tK aF hb; clear hb hbox hg; have e3 := aJ.out; have e4 := aL.out; obtain ⟨eF, eG, eH, eI⟩ := cz4 aF.out; obtain ⟨eJ, eK, eL, eM⟩ := fz4 aF.out) | ((with_reducible refine gate_callee (f := 20) rfl ?_); refine goesL_ (some 9) rfl rfl Try.func20 (by kernel_rfl) rfl #[.agg #[.int .i64 aB, .int .i64 aA, .int .i64 aC, .int .i64 aD]] rfl (by (try simp only [List.map_toArray, List.map_cons, List.map_nil]); first | done | rfl | (simp only [List.length_drop, List.length_take]; rfl)) ?_; (with_reducible refine (commit_CheckTarget.calls k aB aA aC aD aS _ A3.out).mono ?_); rintro e w10 ⟨rfl, hb⟩; refine ⟨_, rfl, ?_⟩; replace aF := tK aF hb; replace aH := tK aH hb; replace HB := tB HB hb; (try clear hb); (try clear hb2); (try clear hk); (try clear hi); obtain ⟨bA, bB, bC, bD⟩ := cz4 aF.out; obtain ⟨bE, bF, bG, bH⟩ := fz4 aF.out; obtain ⟨b1, b2, b3, b4⟩ := cz4 aH.out; obtain ⟨b5, b6, b7, b8⟩ := fz4 aH.out))
      refine bodyPost_ret (results_ctt rfl _ _ aO 26 #[.int .i64 0, .int .i64 0, .int .i64 0, .int .i64 0] (0, 0) _ rfl (by exact (mK (pt4_0_4 aH.out))) Try.underlying26 rfl (by kernel_rfl)) rfl ?_
      exact ⟨_, by first | rfl | (simp [errW_none, errW_some] <;> rfl) | (simp [*, errW_none, errW_some] <;> rfl), by first | exact Kd.R_nil _ _ _ _ _ | exact Kd.N_nil _ _ _ _ _ | exact Kd.V_nil _ _ _ _ _ | exact Kd.Q_nil _ _ _ _ _ | exact Kd.S_nil _ _ _ _ _, (kB HB.out)⟩
    · rw [if_neg c5] at H
      have c5b0 : decide (a1 ≤ aD) = false := decide_eq_false c5
      clear c5
      by_cases c13 : a1 > aC
      · rw [if_pos c13] at H
        have bN : decide (aC < a1) = true := decide_eq_true c13
        clear c13
        simp only [Option.some.injEq, Prod.mk.injEq] at H
        obtain ⟨rfl, rfl, rfl, rfl, rfl, rfl⟩ := H
        go_enter Try.func33, Try.ntmps33
        go_wp2_with (first | ((with_reducible refine gate_dst (N := 2) rfl ?_); refine box_event ?hg (N := 2) ?hd (cs := #[.int .i64 aB, .int .i64 aA, .int .i64 aC, .int .i64 aD]) (t := 26) ?hr ?_; (case hd => rfl); (case hg => rfl); (case hr => first | (go_simp; done) | (go_simp; rfl)); intro aQ hg w14 hbox hb; have aF := Aside0.mk (hbox); have bO := gZ HB hg; have bP := gZ HB hg; replace HB := tB HB hb; clear hb hbox hg) | ((with_reducible refine gate_dst (N := 4) rfl ?_); refine box_event ?hg (N := 4) ?hd (cs := #[.int .i64 0, .int .i64 0, .int .i64 0, .int .i64 0]) (t := 26) ?hr ?_; (case hd => rfl); (case hg => rfl); (case hr => first | (go_simp; done) | (go_simp; rfl)); intro aO hg w15 hbox hb; have aH := Aside0.mk (hbox); have bQ := gZ HB hg; have bR := gZ HB hg; replace HB := tB HB hb; have aJ := nL aF hg; have aL := nG aF hg; replace aF := tK aF hb; clear hb hbox hg; have eT := aJ.out; have eU := aL.out; obtain ⟨b9, cA, cB, cC⟩ := cz4 aF.out; obtain ⟨cD, cE, cF, cG⟩ := fz4 aF.out) | ((with_reducible refine gate_callee (f := 20) rfl ?_); refine goesL_ (some 9) rfl rfl Try.func20 (by kernel_rfl) rfl #[.agg #[.int .i64 aB, .int .i64 aA, .int .i64 aC, .int .i64 aD]] rfl (by (try simp only [List.map_toArray, List.map_cons, List.map_nil]); first | done | rfl | (simp only [List.length_drop, List.length_take]; rfl)) ?_; (with_reducible refine (commit_CheckTarget.calls k aB aA aC aD aS _ A3.out).mono ?_); rintro e w18 ⟨rfl, hb⟩; refine ⟨_, rfl, ?_⟩; replace aF := tK aF hb; replace aH := tK aH hb; replace HB := tB HB hb; (try clear hb); (try clear hb2); (try clear hk); (try clear hi); obtain ⟨cH, cI, cJ, cK⟩ := cz4 aF.out; obtain ⟨cL, cM, cN, cO⟩ := fz4 aF.out; obtain ⟨cP, cQ, cR, cS⟩ := cz4 aH.out; obtain ⟨cT, cU, cV, cW⟩ := fz4 aH.out))
        refine bodyPost_ret (results_ctt rfl _ _ aO 26 #[.int .i64 0, .int .i64 0, .int .i64 0, .int .i64 0] (0, 0) _ rfl (by exact (mK (pt4_0_4 aH.out))) Try.underlying26 rfl (by kernel_rfl)) rfl ?_
        exact ⟨_, by first | rfl | (simp [errW_none, errW_some] <;> rfl) | (simp [*, errW_none, errW_some] <;> rfl), by first | exact Kd.R_nil _ _ _ _ _ | exact Kd.N_nil _ _ _ _ _ | exact Kd.V_nil _ _ _ _ _ | exact Kd.Q_nil _ _ _ _ _ | exact Kd.S_nil _ _ _ _ _, (kB HB.out)⟩
      · rw [if_neg c13] at H
        have bN : decide (aC < a1) = false := decide_eq_false c13
        clear c13
        replace H := Option.bind_eq_some_iff.mp H
        obtain ⟨a7, A210, H⟩ := H
        (try dsimp only at H)
        have A21 := Aside0.mk A210
        clear A210
        simp only [Option.some.injEq, Prod.mk.injEq] at H
        obtain ⟨rfl, rfl, rfl, rfl, rfl, rfl⟩ := H
        go_enter Try.func33, Try.ntmps33
        try go_wp2_with (first | ((with_reducible refine gate_dst (N := 2) rfl ?_); refine box_event ?hg (N := 2) ?hd (cs := #[.int .i64 aB, .int .i64 aA, .int .i64 aC, .int .i64 aD]) (t := 26) ?hr ?_; (case hd => rfl); (case hg => rfl); (case hr => first | (go_simp; done) | (go_simp; rfl)); intro aQ hg w22 hbox hb; have aF := Aside0.mk (hbox); have bO := gZ HB hg; have bP := gZ HB hg; replace HB := tB HB hb; clear hb hbox hg) | ((with_reducible refine gate_dst (N := 4) rfl ?_); refine box_event ?hg (N := 4) ?hd (cs := #[.int .i64 0, .int .i64 0, .int .i64 0, .int .i64 0]) (t := 26) ?hr ?_; (case hd => rfl); (case hg => rfl); (case hr => first | (go_simp; done) | (go_simp; rfl)); intro aO hg w23 hbox hb; have aH := Aside0.mk (hbox); have bQ := gZ HB hg; have bR := gZ HB hg; replace HB := tB HB hb; have aJ := nL aF hg; have aL := nG aF hg; replace aF := tK aF hb; clear hb hbox hg; have eV := aJ.out; have eW := aL.out; obtain ⟨cX, cY, cZ, c0⟩ := cz4 aF.out; obtain ⟨c1, c3, c7, dA⟩ := fz4 aF.out) | ((with_reducible refine gate_callee (f := 20) rfl ?_); refine goesL_ (some 9) rfl rfl Try.func20 (by kernel_rfl) rfl #[.agg #[.int .i64 aB, .int .i64 aA, .int .i64 aC, .int .i64 aD]] rfl (by (try simp only [List.map_toArray, List.map_cons, List.map_nil]); first | done | rfl | (simp only [List.length_drop, List.length_take]; rfl)) ?_; (with_reducible refine (commit_CheckTarget.calls k aB aA aC aD aS _ A3.out).mono ?_); rintro e w26 ⟨rfl, hb⟩; refine ⟨_, rfl, ?_⟩; replace aF := tK aF hb; replace aH := tK aH hb; replace HB := tB HB hb; (try clear hb); (try clear hb2); (try clear hk); (try clear hi); obtain ⟨dB, dC, dD, dE⟩ := cz4 aF.out; obtain ⟨dF, dG, dH, dI⟩ := fz4 aF.out))
        have n0_ : Aside0 ((w26.setCell ⟨aQ, 3, none⟩ (.int .i64 a1)).heap[aQ]? = some (.cells #[.int .i64 aB, .int .i64 aA, .int .i64 aC, .int .i64 a1] 26 (0, 0))) := ⟨by exact (mK (pt4_3_1 aF.out))⟩
        have n1_ : Aside0 ((w26.setCell ⟨aQ, 3, none⟩ (.int .i64 a1)).heap[aO]? = some (.cells #[.int .i64 0, .int .i64 0, .int .i64 0, .int .i64 0] 26 (0, 0))) := ⟨by exact (mK (fr aH.out aL.out))⟩
        have n2_ : Aside0 (Below w.heap.size w (w26.setCell ⟨aQ, 3, none⟩ (.int .i64 a1))) := ⟨kB HB.out⟩
        (try clear aF)
        (try clear aH)
        (try clear HB)
        generalize (w26.setCell ⟨aQ, 3, none⟩ (.int .i64 a1)) = w28 at n0_ n1_ n2_ ⊢
        have aF := n0_
        have aH := n1_
        have HB := n2_
        clear n0_ n1_ n2_
        have n0_ := Aside0.mk (blk_drew aF.out)
        have n1_ := Aside0.mk (blk_drew aH.out)
        have n2_ := Aside0.mk (below_drew1 HB.out)
        clear aF
        clear aH
        clear HB
        have aF := n0_
        have aH := n1_
        have HB := n2_
        clear n0_ n1_ n2_
        refine start_ (n := 7) (S := fun w' => w'.cell? ⟨aQ, 0, none⟩ = some (.int .i64 aB) ∧ w'.cell? ⟨aQ, 1, none⟩ = some (.int .i64 aA) ∧ w'.cell? ⟨aQ, 2, none⟩ = some (.int .i64 aC) ∧ w'.cell? ⟨aQ, 3, none⟩ = some (.int .i64 a1)) (ds := []) #[false, false, false, false, false, false, false] (by kernel_rfl) rfl rfl ⟨(blk_cell aF.out 0).trans rfl, (blk_cell aF.out 1).trans rfl, (blk_cell aF.out 2).trans rfl, (blk_cell aF.out 3).trans rfl⟩ (fun hHeld => ?_)
        generalize w28.drew = w29 at aF aH HB hHeld ⊢
        refine take_ (i := 0) (N := some 29) (v := ?_) (a' := ?_) (bs 7 1) rfl rfl (by kernel_rfl) (fun _ _ _ h => h) (Or.inl ⟨by rfl, ?_⟩) hHeld ?_ ?_
        rotate_left
        · rintro w' ⟨s0, s1, s2, s3⟩
          go_simp
          with_reducible rfl
        rotate_left
        · simp only [Act.put, sA, sB, sC, i64_w, i32_w]
          rfl
        refine take_ (i := 1) (N := some 30) (v := ?_) (a' := ?_) (bs 7 3) rfl rfl (by kernel_rfl) (fun _ _ _ h => h) (Or.inl ⟨by rfl, ?_⟩) hHeld ?_ ?_
        rotate_left
        · rintro w' ⟨s0, s1, s2, s3⟩
          go_simp
          with_reducible rfl
        rotate_left
        · simp only [Act.put, sA, sB, sC, i64_w, i32_w]
          rfl
        refine pure_ (i := 2) (N := some 31) (v := ?_) (a' := ?_) (bs 7 7) rfl rfl (by kernel_rfl) (fun _ _ _ h => h) (Or.inl ⟨by rfl, ?_⟩) ?_ ?_
        rotate_left
        · intro w'
          go_simp
          with_reducible rfl
        rotate_left
        · simp only [Act.put, sA, sB, sC, i64_w, i32_w]
          rfl
        refine one_ (i := 3) (N := some 32) (bs 7 15) rfl rfl (by kernel_rfl) (by decide) (fun K hK => ?_)
        refine goes_ Try.func56 (by kernel_rfl) rfl #[.agg #[.int .i64 aB, .int .i64 aA, .int .i64 aC, .int .i64 a1]] (by rfl) rfl rfl (by (try simp only [List.map_toArray, List.map_cons, List.map_nil]); first | done | rfl | (simp only [List.length_drop, List.length_take]; rfl)) ?_
        with_reducible refine (commit_target_committed.calls aB aA aC a1 a7 _ A21.out).mono ?_
        rintro e w30 ⟨v145, rfl, ho0, hb⟩
        refine ⟨_, rfl, ?_⟩
        have n0_ := Aside0.mk (Kd.R_lower ho0 (kZ HB.out))
        have n1_ := tK aF hb
        have n2_ := tK aH hb
        have n3_ := tB HB hb
        clear aF
        clear aH
        clear HB
        have e1 := n0_
        have aF := n1_
        have aH := n2_
        have HB := n3_
        clear n0_ n1_ n2_ n3_
        (try clear hb)
        (try clear hb2)
        (try clear hk)
        (try clear hi)
        (try clear ho0)
        refine hK.out _ _ ⟨(blk_cell aF.out 0).trans rfl, (blk_cell aF.out 1).trans rfl, (blk_cell aF.out 2).trans rfl, (blk_cell aF.out 3).trans rfl⟩ (fun hHeld => ?_)
        clear hK K
        refine norm_ (a' := ?_) ?_ ?_
        rotate_left
        · show Act.put _ (some 32) _ = _
          simp only [Act.put, sA, sB, sC, i64_w, i32_w]
          rfl
        refine one_ (i := 4) (N := none) (bs 7 31) rfl rfl (by kernel_rfl) (by decide) (fun K hK => ?_)
        have hs31 : w30.cell? ⟨aO, 0, none⟩ = some (.int .i64 0) := (blk_cell aH.out 0).trans rfl
        have hfs31 := blk_frozen aH.out 0
        have hns31_0 := aJ.out
        have hms31_0 := aL.out
        have hs32 : w30.cell? ⟨aO, 1, none⟩ = some (.int .i64 0) := (blk_cell aH.out 1).trans rfl
        have hfs32 := blk_frozen aH.out 1
        have hns32_0 := aJ.out
        have hms32_0 := aL.out
        have hs33 : w30.cell? ⟨aO, 2, none⟩ = some (.int .i64 0) := (blk_cell aH.out 2).trans rfl
        have hfs33 := blk_frozen aH.out 2
        have hns33_0 := aJ.out
        have hms33_0 := aL.out
        have hs34 : w30.cell? ⟨aO, 3, none⟩ = some (.int .i64 0) := (blk_cell aH.out 3).trans rfl
        have hfs34 := blk_frozen aH.out 3
        have hns34_0 := aJ.out
        have hms34_0 := aL.out
        refine skip_ (w1 := ?_) (by rfl) rfl ?_ ?_
        rotate_left
        · go_simp
          rfl
        refine hK.out _ _ ⟨(cf4 aJ.out hHeld.1), (cf4 aJ.out hHeld.2.1), (cf4 aJ.out hHeld.2.2.1), (cf4 aJ.out hHeld.2.2.2)⟩ (fun hHeld => ?_)
        clear hK K
        refine pure_ (i := 5) (N := some 5) (v := ?_) (a' := ?_) (bs 7 63) rfl rfl (by kernel_rfl) (fun _ _ _ h => h) (Or.inl ⟨by rfl, ?_⟩) ?_ ?_
        rotate_left
        · intro w'
          go_simp
          with_reducible rfl
        rotate_left
        · simp only [Act.put, sA, sB, sC, i64_w, i32_w]
          rfl
        refine pure_ (i := 6) (N := some 6) (v := ?_) (a' := ?_) (bs 7 127) rfl rfl (by kernel_rfl) (fun _ _ _ h => h) (Or.inl ⟨by rfl, ?_⟩) ?_ ?_
        rotate_left
        · intro w'
          go_simp
          with_reducible rfl
        rotate_left
        · simp only [Act.put, sA, sB, sC, i64_w, i32_w]
          rfl
        refine done_ (by kernel_rfl) ?_
        try go_wp2
        refine bodyPost_ret (results_ctt rfl _ _ aO 26 #[.int .i64 aB, .int .i64 aA, .int .i64 aC, .int .i64 a1] (0, 0) _ rfl (by exact (mK (pt4_0_4 aH.out))) Try.underlying26 rfl (by kernel_rfl)) rfl ?_
        exact ⟨_, by first | rfl | (simp [errW_none, errW_some] <;> rfl) | (simp [*, errW_none, errW_some] <;> rfl), by refine mR ?_; exact Kd.R_mono (rf4 aO 0 (Kd.R_types e1.out aH.out (by decide)) (fun _ hk => hk.2) (.int .i64 aB) (.int .i64 aA) (.int .i64 aC) (.int .i64 a1)) (fun _ hk => trivial), (kB HB.out)⟩
  · rw [if_neg c4] at H
    have c4b0 : (aS == 0) = false := beq_eq_false_iff_ne.mpr c4
    have c4b1 : (aS != 0) = true := bne_iff_ne.mpr c4
    simp only [Option.some.injEq, Prod.mk.injEq] at H
    obtain ⟨rfl, rfl, rfl, rfl, rfl, rfl⟩ := H
    go_enter Try.func33, Try.ntmps33
    go_wp2_with (first | ((with_reducible refine gate_dst (N := 2) rfl ?_); refine box_event ?hg (N := 2) ?hd (cs := #[.int .i64 aB, .int .i64 aA, .int .i64 aC, .int .i64 aD]) (t := 26) ?hr ?_; (case hd => rfl); (case hg => rfl); (case hr => first | (go_simp; done) | (go_simp; rfl)); intro aQ hg w35 hbox hb; have aF := Aside0.mk (hbox); have bO := gZ HB hg; have bP := gZ HB hg; replace HB := tB HB hb; clear hb hbox hg) | ((with_reducible refine gate_dst (N := 4) rfl ?_); refine box_event ?hg (N := 4) ?hd (cs := #[.int .i64 0, .int .i64 0, .int .i64 0, .int .i64 0]) (t := 26) ?hr ?_; (case hd => rfl); (case hg => rfl); (case hr => first | (go_simp; done) | (go_simp; rfl)); intro aO hg w36 hbox hb; have aH := Aside0.mk (hbox); have bQ := gZ HB hg; have bR := gZ HB hg; replace HB := tB HB hb; have aJ := nL aF hg; have aL := nG aF hg; replace aF := tK aF hb; clear hb hbox hg; have eY := aJ.out; have eZ := aL.out; obtain ⟨dJ, dK, dL, dM⟩ := cz4 aF.out; obtain ⟨dN, dO, dP, dQ⟩ := fz4 aF.out) | ((with_reducible refine gate_callee (f := 20) rfl ?_); refine goesL_ (some 9) rfl rfl Try.func20 (by kernel_rfl) rfl #[.agg #[.int .i64 aB, .int .i64 aA, .int .i64 aC, .int .i64 aD]] rfl (by (try simp only [List.map_toArray, List.map_cons, List.map_nil]); first | done | rfl | (simp only [List.length_drop, List.length_take]; rfl)) ?_; (with_reducible refine (commit_CheckTarget.calls k aB aA aC aD aS _ A3.out).mono ?_); rintro e w39 ⟨rfl, hb⟩; refine ⟨_, rfl, ?_⟩; replace aF := tK aF hb; replace aH := tK aH hb; replace HB := tB HB hb; (try clear hb); (try clear hb2); (try clear hk); (try clear hi); obtain ⟨dR, dS, dT, dU⟩ := cz4 aH.out; obtain ⟨dV, dW, dX, dY⟩ := fz4 aH.out))
    refine bodyPost_ret (results_ctt rfl _ _ aO 26 #[.int .i64 0, .int .i64 0, .int .i64 0, .int .i64 0] (0, 0) _ rfl (by exact (mK (pt4_0_4 aH.out))) Try.underlying26 rfl (by kernel_rfl)) rfl ?_
    exact ⟨_, by first | rfl | (simp [errW_none, errW_some] <;> rfl) | (simp [*, errW_none, errW_some] <;> rfl), by first | exact Kd.R_nil _ _ _ _ _ | exact Kd.N_nil _ _ _ _ _ | exact Kd.V_nil _ _ _ _ _ | exact Kd.Q_nil _ _ _ _ _ | exact Kd.S_nil _ _ _ _ _, (kB HB.out)⟩
end Go.Proofs.Ytedoloapddmanaa.PB
