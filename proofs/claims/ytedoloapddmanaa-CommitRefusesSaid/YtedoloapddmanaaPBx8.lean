-- Written by a program of this session (wip/tools) over the kit's print.
import Derived.Test.YtedoloapddmanaaPBx0
import Derived.Test.YtedoloapddmanaaSh
import Derived.Test.YtedoloapddmanaaPBx2
import Derived.Test.YtedoloapddmanaaPBx3
import Derived.Test.YtedoloapddmanaaPBx5
import Derived.Test.YtedoloapddmanaaPBx6
namespace Go.Proofs.Ytedoloapddmanaa.PB
open Go.RowKit Go.Proofs.YtedoloapddmanaaW.PrintWords Go.Proofs.YtedoloapddmanaaW.PrintLast Go.Proofs.YtedoloapddmanaaW.PrintMore
attribute [local go_sem] max2_int min2_int max_two min_two max_three min_three max_four min_four   -- for this text's walks alone
set_option linter.unusedVariables false
set_option linter.unusedSimpArgs false
def rsMsgs (e s st : Int) (l : List Int) : List S53 := (l.filter (fun n => decide (st < n))).map (fun n => ⟨8, 0, s, n, 0, e, (), ()⟩)
theorem rsMsgs_le (e s st : Int) (l : List Int) : (rsMsgs e s st l).length ≤ l.length := by
  unfold rsMsgs
  rw [List.length_map]
  exact List.length_filter_le _ _
theorem rsMsgs_snoc (e s st : Int) (l : List Int) (n : Int) : rsMsgs e s st (l ++ [n]) = rsMsgs e s st l ++ (if st < n then [⟨8, 0, s, n, 0, e, (), ()⟩] else []) := by
  unfold rsMsgs
  by_cases h : st < n <;> simp [List.filter_append, List.filter_cons, h]
theorem take_rd (l : List Int) (k : Nat) (h : k < l.length) : l.take (k + 1) = l.take k ++ [rd l (k : Int)] := by
  rw [List.take_succ_eq_append_getElem h]
  congr 2
  unfold rd
  rw [Int.toNat_natCast, List.getD_eq_getElem?_getD, List.getElem?_eq_getElem h]
  rfl
set_option maxHeartbeats 8000000 in
set_option maxRecDepth 100000 in
theorem resend_err (k : Nat) (e s st ap : Int) (A : Option Addr) (c : Nat) (l : List Int) (r : Int) (w : World) (hr : Kd.C (Kd.int .i64) w A l.length l) (hc : l.length ≤ c) (h : commit_CheckSource.f k e s l st ap = some r) (he : r ≠ 0) :
    Calls Try.prog 25 #[.agg #[.int .i64 e, .int .i64 s, .slice A l.length c, .int .i64 st, .int .i64 ap]] w fun e' w' => e' = .returned (.slice none 0 0) ∧ Below w.heap.size w w' := by
  have hu79 := Try.underlying79
  have hu24 := Try.underlying24
  have HR := Aside0.mk hr
  have HC := Aside0.mk hc
  clear hr hc
  have hn : (r != 0) = true := bne_iff_ne.2 he
  have H := Aside0.mk h
  have HE := Aside0.mk he
  clear h he
  have hW : (w.alloc (.cells #[.int .i64 e, .int .i64 s, .slice A l.length c, .int .i64 st, .int .i64 ap] 24)).heap[w.heap.size]? = some (.cells #[.int .i64 e, .int .i64 s, .slice A l.length c, .int .i64 st, .int .i64 ap] 24 (0, 0)) ∧ Below w.heap.size w (w.alloc (.cells #[.int .i64 e, .int .i64 s, .slice A l.length c, .int .i64 st, .int .i64 ap] 24)) := ⟨blk_new w _, below_alloc (Below.refl _ _) _⟩
  have HW := Aside0.mk hW
  clear hW
  go_enter Try.func25, Try.ntmps25
  go_wp2_with fail
  generalize w.alloc (.cells #[.int .i64 e, .int .i64 s, .slice A l.length c, .int .i64 st, .int .i64 ap] 24) = W at HW ⊢
  refine (commit_CheckSource.calls k e s A c l st ap r W (Kd.C_below HR.out HW.out.2) HC.out H.out).mono ?_
  rintro e' w1 ⟨rfl, hb⟩
  have HX1 := Aside0.mk (blk_below HW.out.1 hb)
  have HB1 := Aside0.mk (below_then HW.out.2 HW.out.2.size hb)
  clear hb HW
  have hx := HX1.out
  have hcx0 := (blk_cell hx 0).trans rfl
  have hcx1 := (blk_cell hx 1).trans rfl
  have hcx2 := (blk_cell hx 2).trans rfl
  have hcx3 := (blk_cell hx 3).trans rfl
  have hcx4 := (blk_cell hx 4).trans rfl
  have hfx0 := blk_frozen hx 0
  have hfx1 := blk_frozen hx 1
  have hfx2 := blk_frozen hx 2
  have hfx3 := blk_frozen hx 3
  have hfx4 := blk_frozen hx 4
  clear hx
  go_wp2
  go_ret
  exact ⟨rfl, HB1.out⟩
set_option maxHeartbeats 16000000 in
set_option maxRecDepth 100000 in
theorem resend_more (k : Nat) (e s st ap : Int) (A : Option Addr) (c : Nat) (l : List Int) (w : World) (hr : Kd.C (Kd.int .i64) w A l.length l) (hc : l.length ≤ c) (h : commit_CheckSource.f k e s l st ap = some 0) (hlb : l.length ≤ 100000) (h1 : ap < st) :
    Calls Try.prog 25 #[.agg #[.int .i64 e, .int .i64 s, .slice A l.length c, .int .i64 st, .int .i64 ap]] w fun e' w' => ∃ v0_ : Value, e' = .returned v0_ ∧ Kd.R k53 53 w' w.heap.size (fun _ => True) v0_ ([(⟨10, 0, s, st, 0, e, (), ()⟩ : S53)] ++ rsMsgs e s st l) ∧ Below w.heap.size w w' := by
  have hu79 := Try.underlying79
  have hu24 := Try.underlying24
  have HR := Aside0.mk hr
  have HC := Aside0.mk hc
  clear hr hc
  have hd1 : decide (ap < st) = true := decide_eq_true h1
  have H := Aside0.mk h
  have HLB := Aside0.mk hlb
  have H1 := Aside0.mk h1
  clear h hlb h1
  have hW : (w.alloc (.cells #[.int .i64 e, .int .i64 s, .slice A l.length c, .int .i64 st, .int .i64 ap] 24)).heap[w.heap.size]? = some (.cells #[.int .i64 e, .int .i64 s, .slice A l.length c, .int .i64 st, .int .i64 ap] 24 (0, 0)) ∧ Below w.heap.size w (w.alloc (.cells #[.int .i64 e, .int .i64 s, .slice A l.length c, .int .i64 st, .int .i64 ap] 24)) := ⟨blk_new w _, below_alloc (Below.refl _ _) _⟩
  have HW := Aside0.mk hW
  clear hW
  go_enter Try.func25, Try.ntmps25
  go_wp2_with fail
  generalize w.alloc (.cells #[.int .i64 e, .int .i64 s, .slice A l.length c, .int .i64 st, .int .i64 ap] 24) = W at HW ⊢
  refine (commit_CheckSource.calls k e s A c l st ap 0 W (Kd.C_below HR.out HW.out.2) HC.out H.out).mono ?_
  rintro e' w1 ⟨rfl, hb⟩
  have HX1 := Aside0.mk (blk_below HW.out.1 hb)
  have HB1 := Aside0.mk (below_then HW.out.2 HW.out.2.size hb)
  clear hb HW
  have hx := HX1.out
  have hcx0 := (blk_cell hx 0).trans rfl
  have hcx1 := (blk_cell hx 1).trans rfl
  have hcx2 := (blk_cell hx 2).trans rfl
  have hcx3 := (blk_cell hx 3).trans rfl
  have hcx4 := (blk_cell hx 4).trans rfl
  have hfx0 := blk_frozen hx 0
  have hfx1 := blk_frozen hx 1
  have hfx2 := blk_frozen hx 2
  have hfx3 := blk_frozen hx 3
  have hfx4 := blk_frozen hx 4
  clear hx
  go_wp2_with fail
  have HC1 := Aside0.mk (Kd.C_below HR.out HB1.out)
  refine (commit_begin_calls e s st ap _ c l w1 HC1.out HC.out (by have := HLB.out; omega)).mono ?_
  rintro e' w2 ⟨g, v, rfl, hI, hR, hg, hb⟩
  obtain ⟨A2, c2, rfl⟩ := Kd.R_slice hR
  have HI2 := Aside0.mk hI
  have HB2 := Aside0.mk (below_then HB1.out HB1.out.size hb)
  have HX2 := Aside0.mk (blk_below HX1.out hb)
  have HG := Aside0.mk (Nat.le_trans HB1.out.size hg)
  clear hcx0 hfx0 hcx1 hfx1 hcx2 hfx2 hcx3 hfx3 hcx4 hfx4
  clear hI hR hg hb HX1 HB1 HC1
  obtain ⟨hc0, hc1, hc2, hc3, hc4, hc5, hf0, hf1, hf2, hf3, hf4, hf5⟩ := HI2.out.cells
  have hx := HX2.out
  have hcx0 := (blk_cell hx 0).trans rfl
  have hcx1 := (blk_cell hx 1).trans rfl
  have hcx2 := (blk_cell hx 2).trans rfl
  have hcx3 := (blk_cell hx 3).trans rfl
  have hcx4 := (blk_cell hx 4).trans rfl
  have hfx0 := blk_frozen hx 0
  have hfx1 := blk_frozen hx 1
  have hfx2 := blk_frozen hx 2
  have hfx3 := blk_frozen hx 3
  have hfx4 := blk_frozen hx 4
  clear hx
  go_wp2_with fail
  refine (commit_send_calls g e s st ap _ _ [] 10 st (fun _ => True) w w2 HI2.out HG.out HB2.out (Kd.R_nil k53 53 w2 w.heap.size (fun _ => True)) (by simp) (fun _ _ => trivial)).mono ?_
  rintro e' w3 ⟨u, rfl, hI, hR, hb, hk⟩
  have HI3 := Aside0.mk hI
  have HR3 := Aside0.mk (show Kd.R k53 53 w3 w.heap.size (fun _ => True) u ([⟨10, 0, s, st, 0, e, (), ()⟩] ++ rsMsgs e s st (l.take 0)) from hR)
  have HB3 := Aside0.mk hb
  have HX3 := Aside0.mk (hk _ _ _ (by decide) HX2.out)
  clear hcx0 hfx0 hcx1 hfx1 hcx2 hfx2 hcx3 hfx3 hcx4 hfx4
  clear hc0 hc1 hc2 hc3 hc4 hc5 hf0 hf1 hf2 hf3 hf4 hf5
  clear hI hR hb hk HI2 HB2 HX2
  obtain ⟨hc0, hc1, hc2, hc3, hc4, hc5, hf0, hf1, hf2, hf3, hf4, hf5⟩ := HI3.out.cells
  have hx := HX3.out
  have hcx0 := (blk_cell hx 0).trans rfl
  have hcx1 := (blk_cell hx 1).trans rfl
  have hcx2 := (blk_cell hx 2).trans rfl
  have hcx3 := (blk_cell hx 3).trans rfl
  have hcx4 := (blk_cell hx 4).trans rfl
  have hfx0 := blk_frozen hx 0
  have hfx1 := blk_frozen hx 1
  have hfx2 := blk_frozen hx 2
  have hfx3 := blk_frozen hx 3
  have hfx4 := blk_frozen hx 4
  clear hx
  have hbig : l.length ≤ 100000 := HLB.out
  go_wp2
  go_loopg [5, 23] l.length (fun gg _ s23 wr => ∃ (kk : Nat) (u : Value), kk ≤ l.length ∧ l.length - kk ≤ gg ∧ s23 = .int .i64 kk ∧ Aside0 (StC wr g e s (.slice A2 l.length c2) st ap u) ∧ Aside0 (Kd.R k53 53 wr w.heap.size (fun _ => True) u ([(⟨10, 0, s, st, 0, e, (), ()⟩ : S53)] ++ rsMsgs e s st (l.take kk))) ∧ Aside0 (Below w.heap.size w wr) ∧ Aside0 (wr.heap[w.heap.size]? = some (.cells #[.int .i64 e, .int .i64 s, .slice A l.length c, .int .i64 st, .int .i64 ap] 24 (0, 0))))
  case atStart => exact ⟨0, _, Nat.zero_le _, by omega, rfl, HI3, HR3, HB3, HX3⟩
  case round =>
    clear HI3 HR3 HB3 HX3 hc0 hc1 hc2 hc3 hc4 hc5 hf0 hf1 hf2 hf3 hf4 hf5 hcx0 hfx0 hcx1 hfx1 hcx2 hfx2 hcx3 hfx3 hcx4 hfx4
    obtain ⟨kk, u4, hkk, hg, rfl, HI4, HR4, HB4, HX4⟩ := hrel
    obtain ⟨hc0, hc1, hc2, hc3, hc4, hc5, hf0, hf1, hf2, hf3, hf4, hf5⟩ := HI4.out.cells
    have hx := HX4.out
    have hcx0 := (blk_cell hx 0).trans rfl
    have hcx1 := (blk_cell hx 1).trans rfl
    have hcx2 := (blk_cell hx 2).trans rfl
    have hcx3 := (blk_cell hx 3).trans rfl
    have hcx4 := (blk_cell hx 4).trans rfl
    have hfx0 := blk_frozen hx 0
    have hfx1 := blk_frozen hx 1
    have hfx2 := blk_frozen hx 2
    have hfx3 := blk_frozen hx 3
    have hfx4 := blk_frozen hx 4
    clear hx
    by_cases hlt : kk < l.length
    · have hltz : (kk : Int) < (l.length : Int) := by omega
      have HC4 := Kd.C_below HR.out HB4.out
      obtain ⟨ad, ea, hx⟩ := at_int HC4 (kk : Int) (by omega) hltz
      clear HC4
      cases ea
      simp only [Int.toNat_natCast] at hx
      have HT := Aside0.mk (take_rd l kk hlt)
      have HLT := Aside0.mk hlt
      obtain ⟨n, hn⟩ : ∃ n, n = rd l (kk : Int) := ⟨_, rfl⟩
      rw [← hn] at hx
      have HN := Aside0.mk hn
      clear hn
      by_cases hs : st < n
      · have hd : decide (st < n) = true := decide_eq_true hs
        have HS := Aside0.mk hs
        clear hs
        go_wp2_with fail
        refine (commit_send_calls g e s st ap _ _ ([(⟨10, 0, s, st, 0, e, (), ()⟩ : S53)] ++ rsMsgs e s st (l.take kk)) 8 n (fun _ => True) w _ HI4.out HG.out HB4.out HR4.out (by have h1 := rsMsgs_le e s st (l.take kk); have h2 : (l.take kk).length ≤ l.length := List.length_take_le' _ _; have h3 := HLB.out; simp only [List.length_append, List.length_cons, List.length_nil]; omega) (fun _ _ => trivial)).mono ?_
        rintro e' w5 ⟨u5, rfl, hI, hR, hb, hk⟩
        have HI5 := Aside0.mk hI
        have HR5 := Aside0.mk (show Kd.R k53 53 w5 w.heap.size (fun _ => True) u5 ([(⟨10, 0, s, st, 0, e, (), ()⟩ : S53)] ++ rsMsgs e s st (l.take (kk + 1))) from by rw [HT.out, ← HN.out, rsMsgs_snoc, if_pos HS.out, ← List.append_assoc]; exact hR)
        have HB5 := Aside0.mk hb
        have HX5 := Aside0.mk (hk _ _ _ (by decide) HX4.out)
        clear hI hR hb hk hc0 hc1 hc2 hc3 hc4 hc5 hf0 hf1 hf2 hf3 hf4 hf5 hx hcx0 hfx0 hcx1 hfx1 hcx2 hfx2 hcx3 hfx3 hcx4 hfx4
        go_wp2
        go_roundg (l.length - (kk + 1))
        case measure => omega
        case rel => exact ⟨kk + 1, u5, by omega, by omega, by go_num, HI5, HR5, HB5, HX5⟩
      · have hd : decide (st < n) = false := decide_eq_false hs
        have HR5 := Aside0.mk (show Kd.R k53 53 _ w.heap.size (fun _ => True) u4 ([(⟨10, 0, s, st, 0, e, (), ()⟩ : S53)] ++ rsMsgs e s st (l.take (kk + 1))) from by rw [HT.out, ← HN.out, rsMsgs_snoc, if_neg hs, List.append_nil]; exact HR4.out)
        clear hs
        go_wp2
        go_roundg (l.length - (kk + 1))
        case measure => omega
        case rel => exact ⟨kk + 1, u4, by omega, by omega, by go_num, HI4, HR5, HB4, HX4⟩
    · have hd : decide (kk < l.length) = false := decide_eq_false (by omega)
      have hd' : decide ((kk : Int) < (l.length : Int)) = false := decide_eq_false (by omega)
      have HRE := Aside0.mk (show Kd.R k53 53 _ w.heap.size (fun _ => True) u4 ([(⟨10, 0, s, st, 0, e, (), ()⟩ : S53)] ++ rsMsgs e s st l) from by have h := HR4.out; rw [List.take_of_length_le (by omega)] at h; exact h)
      clear hlt
      go_wp2
      go_ret
      exact ⟨_, rfl, HRE.out, HB4.out⟩
set_option maxHeartbeats 16000000 in
set_option maxRecDepth 100000 in
theorem resend_less (k : Nat) (e s st ap : Int) (A : Option Addr) (c : Nat) (l : List Int) (w : World) (hr : Kd.C (Kd.int .i64) w A l.length l) (hc : l.length ≤ c) (h : commit_CheckSource.f k e s l st ap = some 0) (hlb : l.length ≤ 100000) (h1 : ¬ ap < st) :
    Calls Try.prog 25 #[.agg #[.int .i64 e, .int .i64 s, .slice A l.length c, .int .i64 st, .int .i64 ap]] w fun e' w' => ∃ v0_ : Value, e' = .returned v0_ ∧ Kd.R k53 53 w' w.heap.size (fun _ => True) v0_ (([] : List S53) ++ rsMsgs e s st l) ∧ Below w.heap.size w w' := by
  have hu79 := Try.underlying79
  have hu24 := Try.underlying24
  have HR := Aside0.mk hr
  have HC := Aside0.mk hc
  clear hr hc
  have hd1 : decide (ap < st) = false := decide_eq_false h1
  have H := Aside0.mk h
  have HLB := Aside0.mk hlb
  have H1 := Aside0.mk h1
  clear h hlb h1
  have hW : (w.alloc (.cells #[.int .i64 e, .int .i64 s, .slice A l.length c, .int .i64 st, .int .i64 ap] 24)).heap[w.heap.size]? = some (.cells #[.int .i64 e, .int .i64 s, .slice A l.length c, .int .i64 st, .int .i64 ap] 24 (0, 0)) ∧ Below w.heap.size w (w.alloc (.cells #[.int .i64 e, .int .i64 s, .slice A l.length c, .int .i64 st, .int .i64 ap] 24)) := ⟨blk_new w _, below_alloc (Below.refl _ _) _⟩
  have HW := Aside0.mk hW
  clear hW
  go_enter Try.func25, Try.ntmps25
  go_wp2_with fail
  generalize w.alloc (.cells #[.int .i64 e, .int .i64 s, .slice A l.length c, .int .i64 st, .int .i64 ap] 24) = W at HW ⊢
  refine (commit_CheckSource.calls k e s A c l st ap 0 W (Kd.C_below HR.out HW.out.2) HC.out H.out).mono ?_
  rintro e' w1 ⟨rfl, hb⟩
  have HX1 := Aside0.mk (blk_below HW.out.1 hb)
  have HB1 := Aside0.mk (below_then HW.out.2 HW.out.2.size hb)
  clear hb HW
  have hx := HX1.out
  have hcx0 := (blk_cell hx 0).trans rfl
  have hcx1 := (blk_cell hx 1).trans rfl
  have hcx2 := (blk_cell hx 2).trans rfl
  have hcx3 := (blk_cell hx 3).trans rfl
  have hcx4 := (blk_cell hx 4).trans rfl
  have hfx0 := blk_frozen hx 0
  have hfx1 := blk_frozen hx 1
  have hfx2 := blk_frozen hx 2
  have hfx3 := blk_frozen hx 3
  have hfx4 := blk_frozen hx 4
  clear hx
  go_wp2_with fail
  have HC1 := Aside0.mk (Kd.C_below HR.out HB1.out)
  refine (commit_begin_calls e s st ap _ c l w1 HC1.out HC.out (by have := HLB.out; omega)).mono ?_
  rintro e' w2 ⟨g, v, rfl, hI, hR, hg, hb⟩
  obtain ⟨A2, c2, rfl⟩ := Kd.R_slice hR
  have HI2 := Aside0.mk hI
  have HB2 := Aside0.mk (below_then HB1.out HB1.out.size hb)
  have HX2 := Aside0.mk (blk_below HX1.out hb)
  have HG := Aside0.mk (Nat.le_trans HB1.out.size hg)
  clear hcx0 hfx0 hcx1 hfx1 hcx2 hfx2 hcx3 hfx3 hcx4 hfx4
  clear hI hR hg hb HX1 HB1 HC1
  obtain ⟨hc0, hc1, hc2, hc3, hc4, hc5, hf0, hf1, hf2, hf3, hf4, hf5⟩ := HI2.out.cells
  have hx := HX2.out
  have hcx0 := (blk_cell hx 0).trans rfl
  have hcx1 := (blk_cell hx 1).trans rfl
  have hcx2 := (blk_cell hx 2).trans rfl
  have hcx3 := (blk_cell hx 3).trans rfl
  have hcx4 := (blk_cell hx 4).trans rfl
  have hfx0 := blk_frozen hx 0
  have hfx1 := blk_frozen hx 1
  have hfx2 := blk_frozen hx 2
  have hfx3 := blk_frozen hx 3
  have hfx4 := blk_frozen hx 4
  clear hx
  have HI3 := HI2
  have HR3 := Aside0.mk (show Kd.R k53 53 w2 w.heap.size (fun _ => True) (.slice none 0 0) (([] : List S53) ++ rsMsgs e s st (l.take 0)) from Kd.R_nil k53 53 w2 w.heap.size (fun _ => True))
  have HB3 := HB2
  have HX3 := HX2
  clear HI2 HB2 HX2
  have hbig : l.length ≤ 100000 := HLB.out
  go_wp2
  go_loopg [5, 23] l.length (fun gg _ s23 wr => ∃ (kk : Nat) (u : Value), kk ≤ l.length ∧ l.length - kk ≤ gg ∧ s23 = .int .i64 kk ∧ Aside0 (StC wr g e s (.slice A2 l.length c2) st ap u) ∧ Aside0 (Kd.R k53 53 wr w.heap.size (fun _ => True) u (([] : List S53) ++ rsMsgs e s st (l.take kk))) ∧ Aside0 (Below w.heap.size w wr) ∧ Aside0 (wr.heap[w.heap.size]? = some (.cells #[.int .i64 e, .int .i64 s, .slice A l.length c, .int .i64 st, .int .i64 ap] 24 (0, 0))))
  case atStart => exact ⟨0, _, Nat.zero_le _, by omega, rfl, HI3, HR3, HB3, HX3⟩
  case round =>
    clear HI3 HR3 HB3 HX3 hc0 hc1 hc2 hc3 hc4 hc5 hf0 hf1 hf2 hf3 hf4 hf5 hcx0 hfx0 hcx1 hfx1 hcx2 hfx2 hcx3 hfx3 hcx4 hfx4
    obtain ⟨kk, u4, hkk, hg, rfl, HI4, HR4, HB4, HX4⟩ := hrel
    obtain ⟨hc0, hc1, hc2, hc3, hc4, hc5, hf0, hf1, hf2, hf3, hf4, hf5⟩ := HI4.out.cells
    have hx := HX4.out
    have hcx0 := (blk_cell hx 0).trans rfl
    have hcx1 := (blk_cell hx 1).trans rfl
    have hcx2 := (blk_cell hx 2).trans rfl
    have hcx3 := (blk_cell hx 3).trans rfl
    have hcx4 := (blk_cell hx 4).trans rfl
    have hfx0 := blk_frozen hx 0
    have hfx1 := blk_frozen hx 1
    have hfx2 := blk_frozen hx 2
    have hfx3 := blk_frozen hx 3
    have hfx4 := blk_frozen hx 4
    clear hx
    by_cases hlt : kk < l.length
    · have hltz : (kk : Int) < (l.length : Int) := by omega
      have HC4 := Kd.C_below HR.out HB4.out
      obtain ⟨ad, ea, hx⟩ := at_int HC4 (kk : Int) (by omega) hltz
      clear HC4
      cases ea
      simp only [Int.toNat_natCast] at hx
      have HT := Aside0.mk (take_rd l kk hlt)
      have HLT := Aside0.mk hlt
      obtain ⟨n, hn⟩ : ∃ n, n = rd l (kk : Int) := ⟨_, rfl⟩
      rw [← hn] at hx
      have HN := Aside0.mk hn
      clear hn
      by_cases hs : st < n
      · have hd : decide (st < n) = true := decide_eq_true hs
        have HS := Aside0.mk hs
        clear hs
        go_wp2_with fail
        refine (commit_send_calls g e s st ap _ _ (([] : List S53) ++ rsMsgs e s st (l.take kk)) 8 n (fun _ => True) w _ HI4.out HG.out HB4.out HR4.out (by have h1 := rsMsgs_le e s st (l.take kk); have h2 : (l.take kk).length ≤ l.length := List.length_take_le' _ _; have h3 := HLB.out; simp only [List.length_append, List.length_cons, List.length_nil]; omega) (fun _ _ => trivial)).mono ?_
        rintro e' w5 ⟨u5, rfl, hI, hR, hb, hk⟩
        have HI5 := Aside0.mk hI
        have HR5 := Aside0.mk (show Kd.R k53 53 w5 w.heap.size (fun _ => True) u5 (([] : List S53) ++ rsMsgs e s st (l.take (kk + 1))) from by rw [HT.out, ← HN.out, rsMsgs_snoc, if_pos HS.out, ← List.append_assoc]; exact hR)
        have HB5 := Aside0.mk hb
        have HX5 := Aside0.mk (hk _ _ _ (by decide) HX4.out)
        clear hI hR hb hk hc0 hc1 hc2 hc3 hc4 hc5 hf0 hf1 hf2 hf3 hf4 hf5 hx hcx0 hfx0 hcx1 hfx1 hcx2 hfx2 hcx3 hfx3 hcx4 hfx4
        go_wp2
        go_roundg (l.length - (kk + 1))
        case measure => omega
        case rel => exact ⟨kk + 1, u5, by omega, by omega, by go_num, HI5, HR5, HB5, HX5⟩
      · have hd : decide (st < n) = false := decide_eq_false hs
        have HR5 := Aside0.mk (show Kd.R k53 53 _ w.heap.size (fun _ => True) u4 (([] : List S53) ++ rsMsgs e s st (l.take (kk + 1))) from by rw [HT.out, ← HN.out, rsMsgs_snoc, if_neg hs, List.append_nil]; exact HR4.out)
        clear hs
        go_wp2
        go_roundg (l.length - (kk + 1))
        case measure => omega
        case rel => exact ⟨kk + 1, u4, by omega, by omega, by go_num, HI4, HR5, HB4, HX4⟩
    · have hd : decide (kk < l.length) = false := decide_eq_false (by omega)
      have hd' : decide ((kk : Int) < (l.length : Int)) = false := decide_eq_false (by omega)
      have HRE := Aside0.mk (show Kd.R k53 53 _ w.heap.size (fun _ => True) u4 (([] : List S53) ++ rsMsgs e s st l) from by have h := HR4.out; rw [List.take_of_length_le (by omega)] at h; exact h)
      clear hlt
      go_wp2
      go_ret
      exact ⟨_, rfl, HRE.out, HB4.out⟩
def commit_Resend.f (k : Nat) (a0_0 : Int) (a0_1 : Int) (l0_2 : List Int) (a0_3 : Int) (a0_4 : Int) : Option (List (S53)) :=
  if l0_2.length ≤ 100000 then (commit_CheckSource.f k a0_0 a0_1 l0_2 a0_3 a0_4).bind fun e => if e = 0 then (if a0_4 < a0_3 then some ([⟨10, 0, a0_1, a0_3, 0, a0_0, (), ()⟩] ++ rsMsgs a0_0 a0_1 a0_3 l0_2) else some ([] ++ rsMsgs a0_0 a0_1 a0_3 l0_2)) else some [] else none
theorem commit_Resend.mono : ∀ a0 a1 a2 a3 a4 k, LeO (commit_Resend.f k a0 a1 a2 a3 a4) (commit_Resend.f (k + 1) a0 a1 a2 a3 a4) := by
  intro a0 a1 a2 a3 a4 k
  unfold commit_Resend.f
  repeat' first
    | exact LeO.refl _
    | exact LeO.none _
    | exact commit_CheckSource.mono _ _ _ _ _ _
    | refine LeO.ite ?_ ?_
    | refine LeO.bind ?_ (fun _ => ?_)
theorem commit_Resend.calls (k : Nat) (a0_0 : Int) (a0_1 : Int) (A0_2 : Option Addr) (c0_2 : Nat) (l0_2 : List Int) (a0_3 : Int) (a0_4 : Int) (r : List (S53)) (w : World) (hr0_2 : Kd.C (Kd.int .i64) w A0_2 l0_2.length l0_2) (hc0_2 : l0_2.length ≤ c0_2) (h : commit_Resend.f k a0_0 a0_1 l0_2 a0_3 a0_4 = some r) :
    Calls Try.prog 25 #[.agg #[.int .i64 a0_0, .int .i64 a0_1, .slice A0_2 l0_2.length c0_2, .int .i64 a0_3, .int .i64 a0_4]] w fun e w' => ∃ v0_ : Value, e = .returned (v0_) ∧ Kd.R k53 53 w' w.heap.size (fun _ => True) v0_ r ∧ Below w.heap.size w w' := by
  unfold commit_Resend.f at h
  by_cases hl : l0_2.length ≤ 100000
  rotate_left
  · rw [if_neg hl] at h; cases h
  rw [if_pos hl] at h
  obtain ⟨e, he, h⟩ := Option.bind_eq_some_iff.1 h
  by_cases h0 : e = 0
  rotate_left
  · rw [if_neg h0] at h
    obtain rfl := Option.some.inj h
    exact (resend_err k a0_0 a0_1 a0_3 a0_4 A0_2 c0_2 l0_2 e w hr0_2 hc0_2 he h0).mono fun _ _ hh => ⟨_, hh.1, Kd.R_nil _ _ _ _ _, hh.2⟩
  rw [if_pos h0] at h
  subst h0
  by_cases h1 : a0_4 < a0_3
  · rw [if_pos h1] at h
    obtain rfl := Option.some.inj h
    exact resend_more k a0_0 a0_1 a0_3 a0_4 A0_2 c0_2 l0_2 w hr0_2 hc0_2 he hl h1
  · rw [if_neg h1] at h
    obtain rfl := Option.some.inj h
    exact resend_less k a0_0 a0_1 a0_3 a0_4 A0_2 c0_2 l0_2 w hr0_2 hc0_2 he hl h1
set_option maxHeartbeats 16000000 in
set_option maxRecDepth 100000 in
theorem learn_err (k : Nat) (e s st ap : Int) (A : Option Addr) (c : Nat) (l : List Int) (m0 m1 m2 m3 m4 m5 : Int) (q6 q7 : Value) (w : World) (r : Int) (hr : Kd.C (Kd.int .i64) w A l.length l) (hc : l.length ≤ c) (h : commit_CheckSource.f k e s l st ap = some r) (he : r ≠ 0) :
    Calls Try.prog 29 #[.agg #[.int .i64 e, .int .i64 s, .slice A l.length c, .int .i64 st, .int .i64 ap], .agg #[.int .i64 m0, .int .i64 m1, .int .i64 m2, .int .i64 m3, .int .i64 m4, .int .i64 m5, q6, q7]] w fun e' w' => e' = .returned (.tuple #[.agg #[.int .i64 e, .int .i64 s, .slice A l.length c, .int .i64 st, .int .i64 ap], .slice none 0 0]) ∧ Below w.heap.size w w' := by
  have hu79 := Try.underlying79
  have hu24 := Try.underlying24
  have hu53 := Try.underlying53
  have HR := Aside0.mk hr
  have HC := Aside0.mk hc
  clear hr hc
  have hn : (r != 0) = true := bne_iff_ne.2 he
  have H := Aside0.mk h
  clear h
  have HE := Aside0.mk he
  clear he
  have hgz : w.heap.size ≤ w.heap.size + 1 + 1 := by omega
  go_enter Try.func29, Try.ntmps29
  go_wp2_with fail
  have hW := three_alloc w #[.int .i64 e, .int .i64 s, .slice A l.length c, .int .i64 st, .int .i64 ap] #[.int .i64 m0, .int .i64 m1, .int .i64 m2, .int .i64 m3, .int .i64 m4, .int .i64 m5, q6, q7] #[.int .i64 0, .int .i64 0, .slice none 0 0, .int .i64 0, .int .i64 0]
  generalize ((w.alloc (.cells #[.int .i64 e, .int .i64 s, .slice A l.length c, .int .i64 st, .int .i64 ap] 24)).alloc (.cells #[.int .i64 m0, .int .i64 m1, .int .i64 m2, .int .i64 m3, .int .i64 m4, .int .i64 m5, q6, q7] 53)).alloc (.cells #[.int .i64 0, .int .i64 0, .slice none 0 0, .int .i64 0, .int .i64 0] 24) = W at hW ⊢
  refine (commit_CheckSource.calls k e s A c l st ap r W (Kd.C_below HR.out hW.2.2.2) HC.out H.out).mono ?_
  rintro e' w1 ⟨rfl, hb⟩
  have HX1 := Aside0.mk (blk_below hW.1 hb)
  have HM1 := Aside0.mk (blk_below hW.2.1 hb)
  have HZ1 := Aside0.mk (blk_below hW.2.2.1 hb)
  have HB1 := Aside0.mk (below_then hW.2.2.2 hW.2.2.2.size hb)
  clear hb hW
  have hx := HX1.out
  have hcx0 := (blk_cell hx 0).trans rfl
  have hcx1 := (blk_cell hx 1).trans rfl
  have hcx2 := (blk_cell hx 2).trans rfl
  have hcx3 := (blk_cell hx 3).trans rfl
  have hcx4 := (blk_cell hx 4).trans rfl
  have hfx0 := blk_frozen hx 0
  have hfx1 := blk_frozen hx 1
  have hfx2 := blk_frozen hx 2
  have hfx3 := blk_frozen hx 3
  have hfx4 := blk_frozen hx 4
  clear hx
  have hm := HM1.out
  have hcm0 := (blk_cell hm 0).trans rfl
  have hcm1 := (blk_cell hm 1).trans rfl
  have hcm2 := (blk_cell hm 2).trans rfl
  have hcm3 := (blk_cell hm 3).trans rfl
  have hcm4 := (blk_cell hm 4).trans rfl
  have hcm5 := (blk_cell hm 5).trans rfl
  clear hm
  have hz := HZ1.out
  have hcz0 := (blk_cell hz 0).trans rfl
  have hcz1 := (blk_cell hz 1).trans rfl
  have hcz2 := (blk_cell hz 2).trans rfl
  have hcz3 := (blk_cell hz 3).trans rfl
  have hcz4 := (blk_cell hz 4).trans rfl
  have hfz0 := blk_frozen hz 0
  have hfz1 := blk_frozen hz 1
  have hfz2 := blk_frozen hz 2
  have hfz3 := blk_frozen hz 3
  have hfz4 := blk_frozen hz 4
  clear hz
  go_wp2
  refine bodyPost_ret (results_ct rfl _ _ (w.heap.size + 1 + 1) 24 #[.int .i64 e, .int .i64 s, .slice A l.length c, .int .i64 st, .int .i64 ap] (0, 0) _ rfl (blk_put5 HZ1.out) Try.underlying24 rfl (by kernel_rfl)) rfl ?_
  exact ⟨rfl, below_set5 HB1.out hgz⟩
set_option maxHeartbeats 16000000 in
set_option maxRecDepth 100000 in
theorem learn_site (k : Nat) (e s st ap : Int) (A : Option Addr) (c : Nat) (l : List Int) (m0 m1 m2 m3 m4 m5 : Int) (q6 q7 : Value) (w : World) (hr : Kd.C (Kd.int .i64) w A l.length l) (hc : l.length ≤ c) (h : commit_CheckSource.f k e s l st ap = some 0) (h1 : m1 ≠ s) :
    Calls Try.prog 29 #[.agg #[.int .i64 e, .int .i64 s, .slice A l.length c, .int .i64 st, .int .i64 ap], .agg #[.int .i64 m0, .int .i64 m1, .int .i64 m2, .int .i64 m3, .int .i64 m4, .int .i64 m5, q6, q7]] w fun e' w' => e' = .returned (.tuple #[.agg #[.int .i64 e, .int .i64 s, .slice A l.length c, .int .i64 st, .int .i64 ap], .slice none 0 0]) ∧ Below w.heap.size w w' := by
  have hu79 := Try.underlying79
  have hu24 := Try.underlying24
  have hu53 := Try.underlying53
  have HR := Aside0.mk hr
  have HC := Aside0.mk hc
  clear hr hc
  have hn1 : (m1 != s) = true := bne_iff_ne.2 h1
  have H := Aside0.mk h
  clear h
  have H1 := Aside0.mk h1
  clear h1
  have hgz : w.heap.size ≤ w.heap.size + 1 + 1 := by omega
  go_enter Try.func29, Try.ntmps29
  go_wp2_with fail
  have hW := three_alloc w #[.int .i64 e, .int .i64 s, .slice A l.length c, .int .i64 st, .int .i64 ap] #[.int .i64 m0, .int .i64 m1, .int .i64 m2, .int .i64 m3, .int .i64 m4, .int .i64 m5, q6, q7] #[.int .i64 0, .int .i64 0, .slice none 0 0, .int .i64 0, .int .i64 0]
  generalize ((w.alloc (.cells #[.int .i64 e, .int .i64 s, .slice A l.length c, .int .i64 st, .int .i64 ap] 24)).alloc (.cells #[.int .i64 m0, .int .i64 m1, .int .i64 m2, .int .i64 m3, .int .i64 m4, .int .i64 m5, q6, q7] 53)).alloc (.cells #[.int .i64 0, .int .i64 0, .slice none 0 0, .int .i64 0, .int .i64 0] 24) = W at hW ⊢
  refine (commit_CheckSource.calls k e s A c l st ap 0 W (Kd.C_below HR.out hW.2.2.2) HC.out H.out).mono ?_
  rintro e' w1 ⟨rfl, hb⟩
  have HX1 := Aside0.mk (blk_below hW.1 hb)
  have HM1 := Aside0.mk (blk_below hW.2.1 hb)
  have HZ1 := Aside0.mk (blk_below hW.2.2.1 hb)
  have HB1 := Aside0.mk (below_then hW.2.2.2 hW.2.2.2.size hb)
  clear hb hW
  have hx := HX1.out
  have hcx0 := (blk_cell hx 0).trans rfl
  have hcx1 := (blk_cell hx 1).trans rfl
  have hcx2 := (blk_cell hx 2).trans rfl
  have hcx3 := (blk_cell hx 3).trans rfl
  have hcx4 := (blk_cell hx 4).trans rfl
  have hfx0 := blk_frozen hx 0
  have hfx1 := blk_frozen hx 1
  have hfx2 := blk_frozen hx 2
  have hfx3 := blk_frozen hx 3
  have hfx4 := blk_frozen hx 4
  clear hx
  have hm := HM1.out
  have hcm0 := (blk_cell hm 0).trans rfl
  have hcm1 := (blk_cell hm 1).trans rfl
  have hcm2 := (blk_cell hm 2).trans rfl
  have hcm3 := (blk_cell hm 3).trans rfl
  have hcm4 := (blk_cell hm 4).trans rfl
  have hcm5 := (blk_cell hm 5).trans rfl
  clear hm
  have hz := HZ1.out
  have hcz0 := (blk_cell hz 0).trans rfl
  have hcz1 := (blk_cell hz 1).trans rfl
  have hcz2 := (blk_cell hz 2).trans rfl
  have hcz3 := (blk_cell hz 3).trans rfl
  have hcz4 := (blk_cell hz 4).trans rfl
  have hfz0 := blk_frozen hz 0
  have hfz1 := blk_frozen hz 1
  have hfz2 := blk_frozen hz 2
  have hfz3 := blk_frozen hz 3
  have hfz4 := blk_frozen hz 4
  clear hz
  go_wp2
  refine bodyPost_ret (results_ct rfl _ _ (w.heap.size + 1 + 1) 24 #[.int .i64 e, .int .i64 s, .slice A l.length c, .int .i64 st, .int .i64 ap] (0, 0) _ rfl (blk_put5 HZ1.out) Try.underlying24 rfl (by kernel_rfl)) rfl ?_
  exact ⟨rfl, below_set5 HB1.out hgz⟩
set_option maxHeartbeats 16000000 in
set_option maxRecDepth 100000 in
theorem learn_old (k : Nat) (e s st ap : Int) (A : Option Addr) (c : Nat) (l : List Int) (m0 m1 m2 m3 m4 m5 : Int) (q6 q7 : Value) (w : World) (hr : Kd.C (Kd.int .i64) w A l.length l) (hc : l.length ≤ c) (h : commit_CheckSource.f k e s l st ap = some 0) (h1 : m1 = s) (h2 : m5 < e) :
    Calls Try.prog 29 #[.agg #[.int .i64 e, .int .i64 s, .slice A l.length c, .int .i64 st, .int .i64 ap], .agg #[.int .i64 m0, .int .i64 m1, .int .i64 m2, .int .i64 m3, .int .i64 m4, .int .i64 m5, q6, q7]] w fun e' w' => e' = .returned (.tuple #[.agg #[.int .i64 e, .int .i64 s, .slice A l.length c, .int .i64 st, .int .i64 ap], .slice none 0 0]) ∧ Below w.heap.size w w' := by
  have hu79 := Try.underlying79
  have hu24 := Try.underlying24
  have hu53 := Try.underlying53
  have HR := Aside0.mk hr
  have HC := Aside0.mk hc
  clear hr hc
  have hn1 : (m1 != s) = false := by rw [h1]; exact bne_self_eq_false s
  have hn2 : decide (m5 < e) = true := decide_eq_true h2
  have H := Aside0.mk h
  clear h
  have H1 := Aside0.mk h1
  clear h1
  have H2 := Aside0.mk h2
  clear h2
  have hgz : w.heap.size ≤ w.heap.size + 1 + 1 := by omega
  go_enter Try.func29, Try.ntmps29
  go_wp2_with fail
  have hW := three_alloc w #[.int .i64 e, .int .i64 s, .slice A l.length c, .int .i64 st, .int .i64 ap] #[.int .i64 m0, .int .i64 m1, .int .i64 m2, .int .i64 m3, .int .i64 m4, .int .i64 m5, q6, q7] #[.int .i64 0, .int .i64 0, .slice none 0 0, .int .i64 0, .int .i64 0]
  generalize ((w.alloc (.cells #[.int .i64 e, .int .i64 s, .slice A l.length c, .int .i64 st, .int .i64 ap] 24)).alloc (.cells #[.int .i64 m0, .int .i64 m1, .int .i64 m2, .int .i64 m3, .int .i64 m4, .int .i64 m5, q6, q7] 53)).alloc (.cells #[.int .i64 0, .int .i64 0, .slice none 0 0, .int .i64 0, .int .i64 0] 24) = W at hW ⊢
  refine (commit_CheckSource.calls k e s A c l st ap 0 W (Kd.C_below HR.out hW.2.2.2) HC.out H.out).mono ?_
  rintro e' w1 ⟨rfl, hb⟩
  have HX1 := Aside0.mk (blk_below hW.1 hb)
  have HM1 := Aside0.mk (blk_below hW.2.1 hb)
  have HZ1 := Aside0.mk (blk_below hW.2.2.1 hb)
  have HB1 := Aside0.mk (below_then hW.2.2.2 hW.2.2.2.size hb)
  clear hb hW
  have hx := HX1.out
  have hcx0 := (blk_cell hx 0).trans rfl
  have hcx1 := (blk_cell hx 1).trans rfl
  have hcx2 := (blk_cell hx 2).trans rfl
  have hcx3 := (blk_cell hx 3).trans rfl
  have hcx4 := (blk_cell hx 4).trans rfl
  have hfx0 := blk_frozen hx 0
  have hfx1 := blk_frozen hx 1
  have hfx2 := blk_frozen hx 2
  have hfx3 := blk_frozen hx 3
  have hfx4 := blk_frozen hx 4
  clear hx
  have hm := HM1.out
  have hcm0 := (blk_cell hm 0).trans rfl
  have hcm1 := (blk_cell hm 1).trans rfl
  have hcm2 := (blk_cell hm 2).trans rfl
  have hcm3 := (blk_cell hm 3).trans rfl
  have hcm4 := (blk_cell hm 4).trans rfl
  have hcm5 := (blk_cell hm 5).trans rfl
  clear hm
  have hz := HZ1.out
  have hcz0 := (blk_cell hz 0).trans rfl
  have hcz1 := (blk_cell hz 1).trans rfl
  have hcz2 := (blk_cell hz 2).trans rfl
  have hcz3 := (blk_cell hz 3).trans rfl
  have hcz4 := (blk_cell hz 4).trans rfl
  have hfz0 := blk_frozen hz 0
  have hfz1 := blk_frozen hz 1
  have hfz2 := blk_frozen hz 2
  have hfz3 := blk_frozen hz 3
  have hfz4 := blk_frozen hz 4
  clear hz
  go_wp2
  refine bodyPost_ret (results_ct rfl _ _ (w.heap.size + 1 + 1) 24 #[.int .i64 e, .int .i64 s, .slice A l.length c, .int .i64 st, .int .i64 ap] (0, 0) _ rfl (blk_put5 HZ1.out) Try.underlying24 rfl (by kernel_rfl)) rfl ?_
  exact ⟨rfl, below_set5 HB1.out hgz⟩
set_option maxHeartbeats 16000000 in
set_option maxRecDepth 100000 in
theorem learn_time (k : Nat) (e s st ap : Int) (A : Option Addr) (c : Nat) (l : List Int) (m0 m1 m2 m3 m4 m5 : Int) (q6 q7 : Value) (w : World) (hr : Kd.C (Kd.int .i64) w A l.length l) (hc : l.length ≤ c) (h : commit_CheckSource.f k e s l st ap = some 0) (h1 : m1 = s) (h2 : ¬ m5 < e) (ht : commit_time.f m5 = some false) :
    Calls Try.prog 29 #[.agg #[.int .i64 e, .int .i64 s, .slice A l.length c, .int .i64 st, .int .i64 ap], .agg #[.int .i64 m0, .int .i64 m1, .int .i64 m2, .int .i64 m3, .int .i64 m4, .int .i64 m5, q6, q7]] w fun e' w' => e' = .returned (.tuple #[.agg #[.int .i64 e, .int .i64 s, .slice A l.length c, .int .i64 st, .int .i64 ap], .slice none 0 0]) ∧ Below w.heap.size w w' := by
  have hu79 := Try.underlying79
  have hu24 := Try.underlying24
  have hu53 := Try.underlying53
  have HR := Aside0.mk hr
  have HC := Aside0.mk hc
  clear hr hc
  have hn1 : (m1 != s) = false := by rw [h1]; exact bne_self_eq_false s
  have hn2 : decide (m5 < e) = false := decide_eq_false h2
  have H := Aside0.mk h
  clear h
  have H1 := Aside0.mk h1
  clear h1
  have H2 := Aside0.mk h2
  clear h2
  have HT := Aside0.mk ht
  clear ht
  have hgz : w.heap.size ≤ w.heap.size + 1 + 1 := by omega
  go_enter Try.func29, Try.ntmps29
  go_wp2_with fail
  have hW := three_alloc w #[.int .i64 e, .int .i64 s, .slice A l.length c, .int .i64 st, .int .i64 ap] #[.int .i64 m0, .int .i64 m1, .int .i64 m2, .int .i64 m3, .int .i64 m4, .int .i64 m5, q6, q7] #[.int .i64 0, .int .i64 0, .slice none 0 0, .int .i64 0, .int .i64 0]
  generalize ((w.alloc (.cells #[.int .i64 e, .int .i64 s, .slice A l.length c, .int .i64 st, .int .i64 ap] 24)).alloc (.cells #[.int .i64 m0, .int .i64 m1, .int .i64 m2, .int .i64 m3, .int .i64 m4, .int .i64 m5, q6, q7] 53)).alloc (.cells #[.int .i64 0, .int .i64 0, .slice none 0 0, .int .i64 0, .int .i64 0] 24) = W at hW ⊢
  refine (commit_CheckSource.calls k e s A c l st ap 0 W (Kd.C_below HR.out hW.2.2.2) HC.out H.out).mono ?_
  rintro e' w1 ⟨rfl, hb⟩
  have HX1 := Aside0.mk (blk_below hW.1 hb)
  have HM1 := Aside0.mk (blk_below hW.2.1 hb)
  have HZ1 := Aside0.mk (blk_below hW.2.2.1 hb)
  have HB1 := Aside0.mk (below_then hW.2.2.2 hW.2.2.2.size hb)
  clear hb hW
  have hx := HX1.out
  have hcx0 := (blk_cell hx 0).trans rfl
  have hcx1 := (blk_cell hx 1).trans rfl
  have hcx2 := (blk_cell hx 2).trans rfl
  have hcx3 := (blk_cell hx 3).trans rfl
  have hcx4 := (blk_cell hx 4).trans rfl
  have hfx0 := blk_frozen hx 0
  have hfx1 := blk_frozen hx 1
  have hfx2 := blk_frozen hx 2
  have hfx3 := blk_frozen hx 3
  have hfx4 := blk_frozen hx 4
  clear hx
  have hm := HM1.out
  have hcm0 := (blk_cell hm 0).trans rfl
  have hcm1 := (blk_cell hm 1).trans rfl
  have hcm2 := (blk_cell hm 2).trans rfl
  have hcm3 := (blk_cell hm 3).trans rfl
  have hcm4 := (blk_cell hm 4).trans rfl
  have hcm5 := (blk_cell hm 5).trans rfl
  clear hm
  have hz := HZ1.out
  have hcz0 := (blk_cell hz 0).trans rfl
  have hcz1 := (blk_cell hz 1).trans rfl
  have hcz2 := (blk_cell hz 2).trans rfl
  have hcz3 := (blk_cell hz 3).trans rfl
  have hcz4 := (blk_cell hz 4).trans rfl
  have hfz0 := blk_frozen hz 0
  have hfz1 := blk_frozen hz 1
  have hfz2 := blk_frozen hz 2
  have hfz3 := blk_frozen hz 3
  have hfz4 := blk_frozen hz 4
  clear hz
  go_wp2_with fail
  refine (commit_time.calls m5 false _ HT.out).mono ?_
  rintro e' w2 ⟨rfl, hd⟩
  clear hcx0 hfx0 hcx1 hfx1 hcx2 hfx2 hcx3 hfx3 hcx4 hfx4
  clear hcm0 hcm1 hcm2 hcm3 hcm4 hcm5
  clear hcz0 hfz0 hcz1 hfz1 hcz2 hfz2 hcz3 hfz3 hcz4 hfz4
  have HX2 := Aside0.mk (blk_below HX1.out hd.below)
  have HM2 := Aside0.mk (blk_below HM1.out hd.below)
  have HZ2 := Aside0.mk (blk_below HZ1.out hd.below)
  have HB2 := Aside0.mk (below_then HB1.out HB1.out.size hd.below)
  clear HX1 HM1 HZ1 HB1
  clear hd
  have hx := HX2.out
  have hcx0 := (blk_cell hx 0).trans rfl
  have hcx1 := (blk_cell hx 1).trans rfl
  have hcx2 := (blk_cell hx 2).trans rfl
  have hcx3 := (blk_cell hx 3).trans rfl
  have hcx4 := (blk_cell hx 4).trans rfl
  have hfx0 := blk_frozen hx 0
  have hfx1 := blk_frozen hx 1
  have hfx2 := blk_frozen hx 2
  have hfx3 := blk_frozen hx 3
  have hfx4 := blk_frozen hx 4
  clear hx
  have hm := HM2.out
  have hcm0 := (blk_cell hm 0).trans rfl
  have hcm1 := (blk_cell hm 1).trans rfl
  have hcm2 := (blk_cell hm 2).trans rfl
  have hcm3 := (blk_cell hm 3).trans rfl
  have hcm4 := (blk_cell hm 4).trans rfl
  have hcm5 := (blk_cell hm 5).trans rfl
  clear hm
  have hz := HZ2.out
  have hcz0 := (blk_cell hz 0).trans rfl
  have hcz1 := (blk_cell hz 1).trans rfl
  have hcz2 := (blk_cell hz 2).trans rfl
  have hcz3 := (blk_cell hz 3).trans rfl
  have hcz4 := (blk_cell hz 4).trans rfl
  have hfz0 := blk_frozen hz 0
  have hfz1 := blk_frozen hz 1
  have hfz2 := blk_frozen hz 2
  have hfz3 := blk_frozen hz 3
  have hfz4 := blk_frozen hz 4
  clear hz
  go_wp2
  refine bodyPost_ret (results_ct rfl _ _ (w.heap.size + 1 + 1) 24 #[.int .i64 e, .int .i64 s, .slice A l.length c, .int .i64 st, .int .i64 ap] (0, 0) _ rfl (blk_put5 HZ2.out) Try.underlying24 rfl (by kernel_rfl)) rfl ?_
  exact ⟨rfl, below_set5 HB2.out hgz⟩
set_option maxHeartbeats 16000000 in
set_option maxRecDepth 100000 in
theorem learn_other (k : Nat) (e s st ap : Int) (A : Option Addr) (c : Nat) (l : List Int) (m0 m1 m2 m3 m4 m5 : Int) (q6 q7 : Value) (w : World) (hr : Kd.C (Kd.int .i64) w A l.length l) (hc : l.length ≤ c) (h : commit_CheckSource.f k e s l st ap = some 0) (h1 : m1 = s) (h2 : ¬ m5 < e) (ht : commit_time.f m5 = some true) (hlb : l.length ≤ 1000000) (hk : m0 ≠ 9 ∧ m0 ≠ 11 ∧ m0 ≠ 12) :
    Calls Try.prog 29 #[.agg #[.int .i64 e, .int .i64 s, .slice A l.length c, .int .i64 st, .int .i64 ap], .agg #[.int .i64 m0, .int .i64 m1, .int .i64 m2, .int .i64 m3, .int .i64 m4, .int .i64 m5, q6, q7]] w fun e' w' => ∃ v2_ v5_ : Value, e' = .returned (.tuple #[.agg #[.int .i64 e, .int .i64 s, v2_, .int .i64 st, .int .i64 ap], v5_]) ∧ Kd.Q (Kd.int .i64) 3 w' w.heap.size (fun _ => True) v2_ l ∧ Kd.R k53 53 w' w.heap.size (fun _ => True) v5_ ([] : List S53) ∧ Below w.heap.size w w' := by
  have hu79 := Try.underlying79
  have hu24 := Try.underlying24
  have hu53 := Try.underlying53
  have HR := Aside0.mk hr
  have HC := Aside0.mk hc
  clear hr hc
  have hn1 : (m1 != s) = false := by rw [h1]; exact bne_self_eq_false s
  have hn2 : decide (m5 < e) = false := decide_eq_false h2
  have H := Aside0.mk h
  clear h
  have H1 := Aside0.mk h1
  clear h1
  have H2 := Aside0.mk h2
  clear h2
  have HT := Aside0.mk ht
  clear ht
  have HLB := Aside0.mk hlb
  clear hlb
  have HK := Aside0.mk hk
  clear hk
  have hgz : w.heap.size ≤ w.heap.size + 1 + 1 := by omega
  go_enter Try.func29, Try.ntmps29
  go_wp2_with fail
  have hW := three_alloc w #[.int .i64 e, .int .i64 s, .slice A l.length c, .int .i64 st, .int .i64 ap] #[.int .i64 m0, .int .i64 m1, .int .i64 m2, .int .i64 m3, .int .i64 m4, .int .i64 m5, q6, q7] #[.int .i64 0, .int .i64 0, .slice none 0 0, .int .i64 0, .int .i64 0]
  generalize ((w.alloc (.cells #[.int .i64 e, .int .i64 s, .slice A l.length c, .int .i64 st, .int .i64 ap] 24)).alloc (.cells #[.int .i64 m0, .int .i64 m1, .int .i64 m2, .int .i64 m3, .int .i64 m4, .int .i64 m5, q6, q7] 53)).alloc (.cells #[.int .i64 0, .int .i64 0, .slice none 0 0, .int .i64 0, .int .i64 0] 24) = W at hW ⊢
  refine (commit_CheckSource.calls k e s A c l st ap 0 W (Kd.C_below HR.out hW.2.2.2) HC.out H.out).mono ?_
  rintro e' w1 ⟨rfl, hb⟩
  have HX1 := Aside0.mk (blk_below hW.1 hb)
  have HM1 := Aside0.mk (blk_below hW.2.1 hb)
  have HZ1 := Aside0.mk (blk_below hW.2.2.1 hb)
  have HB1 := Aside0.mk (below_then hW.2.2.2 hW.2.2.2.size hb)
  clear hb hW
  have hx := HX1.out
  have hcx0 := (blk_cell hx 0).trans rfl
  have hcx1 := (blk_cell hx 1).trans rfl
  have hcx2 := (blk_cell hx 2).trans rfl
  have hcx3 := (blk_cell hx 3).trans rfl
  have hcx4 := (blk_cell hx 4).trans rfl
  have hfx0 := blk_frozen hx 0
  have hfx1 := blk_frozen hx 1
  have hfx2 := blk_frozen hx 2
  have hfx3 := blk_frozen hx 3
  have hfx4 := blk_frozen hx 4
  clear hx
  have hm := HM1.out
  have hcm0 := (blk_cell hm 0).trans rfl
  have hcm1 := (blk_cell hm 1).trans rfl
  have hcm2 := (blk_cell hm 2).trans rfl
  have hcm3 := (blk_cell hm 3).trans rfl
  have hcm4 := (blk_cell hm 4).trans rfl
  have hcm5 := (blk_cell hm 5).trans rfl
  clear hm
  have hz := HZ1.out
  have hcz0 := (blk_cell hz 0).trans rfl
  have hcz1 := (blk_cell hz 1).trans rfl
  have hcz2 := (blk_cell hz 2).trans rfl
  have hcz3 := (blk_cell hz 3).trans rfl
  have hcz4 := (blk_cell hz 4).trans rfl
  have hfz0 := blk_frozen hz 0
  have hfz1 := blk_frozen hz 1
  have hfz2 := blk_frozen hz 2
  have hfz3 := blk_frozen hz 3
  have hfz4 := blk_frozen hz 4
  clear hz
  go_wp2_with fail
  refine (commit_time.calls m5 true _ HT.out).mono ?_
  rintro e' w2 ⟨rfl, hd⟩
  clear hcx0 hfx0 hcx1 hfx1 hcx2 hfx2 hcx3 hfx3 hcx4 hfx4
  clear hcm0 hcm1 hcm2 hcm3 hcm4 hcm5
  clear hcz0 hfz0 hcz1 hfz1 hcz2 hfz2 hcz3 hfz3 hcz4 hfz4
  have HX2 := Aside0.mk (blk_below HX1.out hd.below)
  have HM2 := Aside0.mk (blk_below HM1.out hd.below)
  have HZ2 := Aside0.mk (blk_below HZ1.out hd.below)
  have HB2 := Aside0.mk (below_then HB1.out HB1.out.size hd.below)
  clear HX1 HM1 HZ1 HB1
  clear hd
  have hx := HX2.out
  have hcx0 := (blk_cell hx 0).trans rfl
  have hcx1 := (blk_cell hx 1).trans rfl
  have hcx2 := (blk_cell hx 2).trans rfl
  have hcx3 := (blk_cell hx 3).trans rfl
  have hcx4 := (blk_cell hx 4).trans rfl
  have hfx0 := blk_frozen hx 0
  have hfx1 := blk_frozen hx 1
  have hfx2 := blk_frozen hx 2
  have hfx3 := blk_frozen hx 3
  have hfx4 := blk_frozen hx 4
  clear hx
  have hm := HM2.out
  have hcm0 := (blk_cell hm 0).trans rfl
  have hcm1 := (blk_cell hm 1).trans rfl
  have hcm2 := (blk_cell hm 2).trans rfl
  have hcm3 := (blk_cell hm 3).trans rfl
  have hcm4 := (blk_cell hm 4).trans rfl
  have hcm5 := (blk_cell hm 5).trans rfl
  clear hm
  have hz := HZ2.out
  have hcz0 := (blk_cell hz 0).trans rfl
  have hcz1 := (blk_cell hz 1).trans rfl
  have hcz2 := (blk_cell hz 2).trans rfl
  have hcz3 := (blk_cell hz 3).trans rfl
  have hcz4 := (blk_cell hz 4).trans rfl
  have hfz0 := blk_frozen hz 0
  have hfz1 := blk_frozen hz 1
  have hfz2 := blk_frozen hz 2
  have hfz3 := blk_frozen hz 3
  have hfz4 := blk_frozen hz 4
  clear hz
  go_wp2_with fail
  have HC2 := Aside0.mk (Kd.C_below HR.out HB2.out)
  refine (commit_begin_calls e s st ap _ c l w2 HC2.out HC.out HLB.out).mono ?_
  rintro e' w3 ⟨g, v, rfl, hI, hR, hg, hb⟩
  obtain ⟨A3, c3, rfl⟩ := Kd.R_slice hR
  have HI3 := Aside0.mk hI
  have HQ3 := Aside0.mk (Kd.R_lower hR HB2.out.size)
  have HG := Aside0.mk (Nat.le_trans HB2.out.size hg)
  clear hcx0 hfx0 hcx1 hfx1 hcx2 hfx2 hcx3 hfx3 hcx4 hfx4
  clear hcm0 hcm1 hcm2 hcm3 hcm4 hcm5
  clear hcz0 hfz0 hcz1 hfz1 hcz2 hfz2 hcz3 hfz3 hcz4 hfz4
  have HX3 := Aside0.mk (blk_below HX2.out hb)
  have HM3 := Aside0.mk (blk_below HM2.out hb)
  have HZ3 := Aside0.mk (blk_below HZ2.out hb)
  have HB3 := Aside0.mk (below_then HB2.out HB2.out.size hb)
  clear HX2 HM2 HZ2 HB2
  clear hI hR hg hb HC2 HC HR
  obtain ⟨hc0, hc1, hc2, hc3, hc4, hc5, hf0, hf1, hf2, hf3, hf4, hf5⟩ := HI3.out.cells
  have hm := HM3.out
  have hcm0 := (blk_cell hm 0).trans rfl
  have hcm1 := (blk_cell hm 1).trans rfl
  have hcm2 := (blk_cell hm 2).trans rfl
  have hcm3 := (blk_cell hm 3).trans rfl
  have hcm4 := (blk_cell hm 4).trans rfl
  have hcm5 := (blk_cell hm 5).trans rfl
  clear hm
  have hmk := @run_makeMap Try.prog
  obtain ⟨f51, hf51⟩ : ∃ v : Value, v = .func (.func 51) #[.pointer (some ⟨g, 0, none⟩)] #[] := ⟨_, rfl⟩
  obtain ⟨f52, hf52⟩ : ∃ v : Value, v = .func (.func 52) #[.pointer (some ⟨g, 0, none⟩)] #[] := ⟨_, rfl⟩
  obtain ⟨f53, hf53⟩ : ∃ v : Value, v = .func (.func 53) #[.pointer (some ⟨g, 0, none⟩)] #[] := ⟨_, rfl⟩
  have HF51 := Aside0.mk hf51
  have HF52 := Aside0.mk hf52
  have HF53 := Aside0.mk hf53
  clear hf51 hf52 hf53
  go_wp2_with (first | (refine wpList_insert_at _ rfl (.tmp 36) (.const (.int .i64 9)) (.tmp 38) 86 rfl Try.underlying86 Try.underlying3 w3.heap.size #[] 0 9 f51 rfl rfl (by rw [HF51.out]; rfl) (MapKept.heap_alloc _ _).1 rfl ?_; intro w4 hp4 hg4; have HP4 := Aside0.mk hp4; have HG4 := Aside0.mk hg4; clear hp4 hg4) | (refine wpList_insert_at _ rfl (.tmp 36) (.const (.int .i64 11)) (.tmp 40) 86 rfl Try.underlying86 Try.underlying3 w3.heap.size #[⟨.int .i64 9, f51, 0⟩] 1 11 f52 rfl rfl (by rw [HF52.out]; rfl) HP4.out rfl ?_; intro w5 hp5 hg5; have HP5 := Aside0.mk hp5; have HG5 := Aside0.mk (HG4.out.trans hg5); clear hp5 hg5 HP4 HG4) | (refine wpList_insert_at _ rfl (.tmp 36) (.const (.int .i64 12)) (.tmp 42) 86 rfl Try.underlying86 Try.underlying3 w3.heap.size #[⟨.int .i64 9, f51, 0⟩, ⟨.int .i64 11, f52, 1⟩] 2 12 f53 rfl rfl (by rw [HF53.out]; rfl) HP5.out rfl ?_; intro w6 hp6 hg6; have hb6 := map_below (HG5.out.trans hg6); clear hc0 hc1 hc2 hc3 hc4 hc5 hf0 hf1 hf2 hf3 hf4 hf5; clear hcm0 hcm1 hcm2 hcm3 hcm4 hcm5; have HX6 := Aside0.mk (blk_below HX3.out hb6); have HM6 := Aside0.mk (blk_below HM3.out hb6); have HZ6 := Aside0.mk (blk_below HZ3.out hb6); have HB6 := Aside0.mk (below_then HB3.out HB3.out.size hb6); have HI6 := Aside0.mk (HI3.out.below hb6); have HQ6 := Aside0.mk (Kd.R_below HQ3.out hb6); clear HX3 HM3 HZ3 HB3 HI3 HQ3; have hm := HM6.out; have hcm0 := (blk_cell hm 0).trans rfl; have hcm1 := (blk_cell hm 1).trans rfl; have hcm2 := (blk_cell hm 2).trans rfl; have hcm3 := (blk_cell hm 3).trans rfl; have hcm4 := (blk_cell hm 4).trans rfl; have hcm5 := (blk_cell hm 5).trans rfl; clear hm; have hx := HX6.out; have hcx0 := (blk_cell hx 0).trans rfl; have hcx1 := (blk_cell hx 1).trans rfl; have hcx2 := (blk_cell hx 2).trans rfl; have hcx3 := (blk_cell hx 3).trans rfl; have hcx4 := (blk_cell hx 4).trans rfl; have hfx0 := blk_frozen hx 0; have hfx1 := blk_frozen hx 1; have hfx2 := blk_frozen hx 2; have hfx3 := blk_frozen hx 3; have hfx4 := blk_frozen hx 4; clear hx; obtain ⟨hc0, hc1, hc2, hc3, hc4, hc5, hf0, hf1, hf2, hf3, hf4, hf5⟩ := HI6.out.cells; have hlk := look_none (P := Try.prog) Try.underlying86 Try.underlying3 hp6 m0 .nilFunc (zero84 _) (not_found HK.out.1 HK.out.2.1 HK.out.2.2) true; clear hp6 hg6 HP5 HG5 hb6))
  have HR6 := Aside0.mk (Kd.R_nil k53 53 w6 w.heap.size (fun _ => True))
  have HQ6' := Aside0.mk (Kd.Q_of_R HQ6.out)
  clear HQ6
  have HQ6 := HQ6'
  clear HQ6'
  go_wp2
  clear hc0 hc1 hc2 hc3 hc4 hc5 hf0 hf1 hf2 hf3 hf4 hf5
  refine start_ (n := 10) (S := fun w' => w'.cell? ⟨g, 0, none⟩ = some (.int .i64 e) ∧ w'.cell? ⟨g, 1, none⟩ = some (.int .i64 s) ∧ w'.cell? ⟨g, 2, none⟩ = some (.slice A3 l.length c3) ∧ w'.cell? ⟨g, 3, none⟩ = some (.int .i64 st) ∧ w'.cell? ⟨g, 4, none⟩ = some (.int .i64 ap) ∧ w'.cell? ⟨g, 5, none⟩ = some (.slice none 0 0) ∧ Aside0 (StC w' g e s (.slice A3 l.length c3) st ap (.slice none 0 0)) ∧ Aside0 (Kd.Q (Kd.int .i64) 3 w' w.heap.size (fun _ => True) (.slice A3 l.length c3) l) ∧ Aside0 (Kd.R k53 53 w' w.heap.size (fun _ => True) (.slice none 0 0) ([] : List S53)) ∧ Aside0 (Below w.heap.size w w')) (ds := []) #[false, false, false, false, false, false, false, false, false, false] (by kernel_rfl) rfl rfl ⟨HI6.out.drew.cells.1, HI6.out.drew.cells.2.1, HI6.out.drew.cells.2.2.1, HI6.out.drew.cells.2.2.2.1, HI6.out.drew.cells.2.2.2.2.1, HI6.out.drew.cells.2.2.2.2.2.1, ⟨HI6.out.drew⟩, ⟨Kd.Q_drew HQ6.out⟩, ⟨Kd.R_drew HR6.out⟩, ⟨below_drew1 HB6.out⟩⟩ (fun hHeld => ?_)
  refine pure_ (i := 0) (N := some 81) (v := ?_) (a' := ?_) #[true, false, false, false, false, false, false, false, false, false] rfl rfl (by kernel_rfl) (fun _ _ _ h => h) (Or.inl ⟨by rfl, ?_⟩) ?_ ?_
  rotate_left
  · intro w'
    go_simp
    with_reducible rfl
  rotate_left
  · simp only [Act.put, List.setIfInBounds_toArray, List.set_cons_zero, List.set_cons_succ, i64_w, i32_w]
    rfl
  refine pure_ (i := 1) (N := some 82) (v := ?_) (a' := ?_) #[true, true, false, false, false, false, false, false, false, false] rfl rfl (by kernel_rfl) (fun _ _ _ h => h) (Or.inl ⟨by rfl, ?_⟩) ?_ ?_
  rotate_left
  · intro w'
    go_simp
    with_reducible rfl
  rotate_left
  · simp only [Act.put, List.setIfInBounds_toArray, List.set_cons_zero, List.set_cons_succ, i64_w, i32_w]
    rfl
  refine pure_ (i := 2) (N := some 83) (v := ?_) (a' := ?_) #[true, true, true, false, false, false, false, false, false, false] rfl rfl (by kernel_rfl) (fun _ _ _ h => h) (Or.inl ⟨by rfl, ?_⟩) ?_ ?_
  rotate_left
  · intro w'
    go_simp
    with_reducible rfl
  rotate_left
  · simp only [Act.put, List.setIfInBounds_toArray, List.set_cons_zero, List.set_cons_succ, i64_w, i32_w]
    rfl
  refine pure_ (i := 4) (N := some 85) (v := ?_) (a' := ?_) #[true, true, true, false, true, false, false, false, false, false] rfl rfl (by kernel_rfl) (fun _ _ _ h => h) (Or.inl ⟨by rfl, ?_⟩) ?_ ?_
  rotate_left
  · intro w'
    go_simp
    with_reducible rfl
  rotate_left
  · simp only [Act.put, List.setIfInBounds_toArray, List.set_cons_zero, List.set_cons_succ, i64_w, i32_w]
    rfl
  refine pure_ (i := 5) (N := some 86) (v := ?_) (a' := ?_) #[true, true, true, false, true, true, false, false, false, false] rfl rfl (by kernel_rfl) (fun _ _ _ h => h) (Or.inl ⟨by rfl, ?_⟩) ?_ ?_
  rotate_left
  · intro w'
    go_simp
    with_reducible rfl
  rotate_left
  · simp only [Act.put, List.setIfInBounds_toArray, List.set_cons_zero, List.set_cons_succ, i64_w, i32_w]
    rfl
  refine pure_ (i := 6) (N := some 87) (v := ?_) (a' := ?_) #[true, true, true, false, true, true, true, false, false, false] rfl rfl (by kernel_rfl) (fun _ _ _ h => h) (Or.inl ⟨by rfl, ?_⟩) ?_ ?_
  rotate_left
  · intro w'
    go_simp
    with_reducible rfl
  rotate_left
  · simp only [Act.put, List.setIfInBounds_toArray, List.set_cons_zero, List.set_cons_succ, i64_w, i32_w]
    rfl
  refine take_ (i := 3) (N := some 84) (v := ?_) (a' := ?_) #[true, true, true, true, true, true, true, false, false, false] rfl rfl (by kernel_rfl) (fun _ _ _ h => h) (Or.inl ⟨by rfl, ?_⟩) hHeld ?_ ?_
  rotate_left
  · rintro w' ⟨s0, s1, s2, s3, s4, s5, s6, s7, s8, s9⟩
    go_simp
    with_reducible rfl
  rotate_left
  · simp only [Act.put, List.setIfInBounds_toArray, List.set_cons_zero, List.set_cons_succ, i64_w, i32_w]
    rfl
  refine take_ (i := 7) (N := some 88) (v := ?_) (a' := ?_) #[true, true, true, true, true, true, true, true, false, false] rfl rfl (by kernel_rfl) (fun _ _ _ h => h) (Or.inl ⟨by rfl, ?_⟩) hHeld ?_ ?_
  rotate_left
  · rintro w' ⟨s0, s1, s2, s3, s4, s5, s6, s7, s8, s9⟩
    go_simp
    with_reducible rfl
  rotate_left
  · simp only [Act.put, List.setIfInBounds_toArray, List.set_cons_zero, List.set_cons_succ, i64_w, i32_w]
    rfl
  refine one_ (i := 8) (N := none) #[true, true, true, true, true, true, true, true, true, false] rfl rfl (by kernel_rfl) (by decide) (fun K hK => ?_)
  clear hHeld
  have hz := HZ6.out
  have hcz0 := (blk_cell hz 0).trans rfl
  have hcz1 := (blk_cell hz 1).trans rfl
  have hcz2 := (blk_cell hz 2).trans rfl
  have hcz3 := (blk_cell hz 3).trans rfl
  have hcz4 := (blk_cell hz 4).trans rfl
  have hfz0 := blk_frozen hz 0
  have hfz1 := blk_frozen hz 1
  have hfz2 := blk_frozen hz 2
  have hfz3 := blk_frozen hz 3
  have hfz4 := blk_frozen hz 4
  clear hz
  refine skip_ (w1 := ?_) (by rfl) rfl ?_ ?_
  rotate_left
  · go_simp
    rfl
  have HK10 := Aside0.mk (kq_set5 (v0 := .int .i64 e) (v1 := .int .i64 s) (v2 := .slice A3 l.length c3) (v3 := .int .i64 st) (v4 := .int .i64 ap) (Kq.refl (fun t => t ≠ 24) _) HZ6.out (fun h => h rfl))
  have HI10 := Aside0.mk (StC.drew (show StC _ g e s (.slice A3 l.length c3) st ap (.slice none 0 0) from HK10.out _ _ _ (by decide) HI6.out))
  have HQ10 := Aside0.mk (Kd.Q_drew (Q_kq HQ6.out HK10.out (by decide)))
  have HR10 := Aside0.mk (Kd.R_drew (R_kq HR6.out HK10.out (by decide)))
  have HB10 := Aside0.mk (below_drew1 (below_set5 (v0 := .int .i64 e) (v1 := .int .i64 s) (v2 := .slice A3 l.length c3) (v3 := .int .i64 st) (v4 := .int .i64 ap) HB6.out hgz))
  clear HK10
  refine hK.out _ _ ⟨HI10.out.cells.1, HI10.out.cells.2.1, HI10.out.cells.2.2.1, HI10.out.cells.2.2.2.1, HI10.out.cells.2.2.2.2.1, HI10.out.cells.2.2.2.2.2.1, HI10, HQ10, HR10, HB10⟩ (fun hHeld => ?_)
  clear hK K
  refine pure_ (i := 9) (N := some 5) (v := ?_) (a' := ?_) #[true, true, true, true, true, true, true, true, true, true] rfl rfl (by kernel_rfl) (fun _ _ _ h => h) (Or.inl ⟨by rfl, ?_⟩) ?_ ?_
  rotate_left
  · intro w'
    go_simp
    with_reducible rfl
  rotate_left
  · simp only [Act.put, List.setIfInBounds_toArray, List.set_cons_zero, List.set_cons_succ, i64_w, i32_w]
    rfl
  refine done_ (by kernel_rfl) ?_
  obtain ⟨-, -, -, -, -, -, HI11, HQ11, HR11, HB11⟩ := hHeld
  go_wp2
  refine bodyPost_ret (results_ct rfl _ _ (w.heap.size + 1 + 1) 24 #[.int .i64 e, .int .i64 s, .slice A3 l.length c3, .int .i64 st, .int .i64 ap] (0, 0) _ rfl (blk_put5 HZ6.out) Try.underlying24 rfl (by kernel_rfl)) rfl ?_
  exact ⟨_, _, rfl, HQ11.out, HR11.out, HB11.out⟩
end Go.Proofs.Ytedoloapddmanaa.PB
