-- Written by a program of this session (wip/tools) over the kit's print.
import Derived.Test.YtppniempndnghaaPAx0
namespace Go.Proofs.Ytppniempndnghaa.PA
open Go.RowKit Go.Proofs.YtppniempndnghaaW.PrintWords Go.Proofs.YtppniempndnghaaW.PrintLast Go.Proofs.YtppniempndnghaaW.PrintMore
attribute [local go_sem] max2_int min2_int max_two min_two max_three min_three max_four min_four   -- for this text's walks alone
set_option linter.unusedVariables false
set_option linter.unusedSimpArgs false

-- @OURS@
/-! ### api_Mark_44: function 44 -/
def api_Mark_44.f (l0 : List S71) : Option ((List S71)) := if l0.length < 8796093022208 then some l0 else none
set_option maxHeartbeats 4000000 in
set_option maxRecDepth 100000 in
theorem api_Mark_44.calls0 (A : Option Addr) (c : Nat) (l : List S71) (w : World) (hr : Kd.C k71 w A l.length l) (hc : l.length ≤ c) (hl : l.length < 8796093022208) :
    Calls Try.prog 44 #[.slice A l.length c] w fun e w' => ∃ v, e = .returned v ∧ Kd.R k71 71 w' w.heap.size (fun _ => True) v l ∧ Below w.heap.size w w' := by
  have hu22 := Try.underlying22
  have HR := Aside0.mk hr
  have HL := Aside0.mk hl
  have HC := Aside0.mk hc
  clear hr hl hc
  rcases A with _ | ad
  · have hlen : l = [] := by
      rcases l with _ | ⟨x, r⟩
      · rfl
      · obtain ⟨ad, h, _⟩ := HR.out.2.2 (by simp)
        cases h
    subst hlen
    have hq := fun (w : World) a n c n0 c0 => Lib.run_eql_slice_nil (P := Try.prog) w 22 71 a n c n0 c0 Try.underlying22
    go_enter Try.func44, Try.ntmps44
    go_wp2
    go_ret
    exact ⟨_, rfl, Kd.R_nil _ _ _ _ _, Below.refl _ _⟩
  · have hq := fun (w : World) a n c n0 c0 => Lib.run_eql_slice_nil (P := Try.prog) w 22 71 a n c n0 c0 Try.underlying22
    have hb0 : Below w.heap.size w (w.alloc (.cells #[] 71)) := (Below.refl _ _).alloc (Nat.le_refl _) _
    have HO : Aside0 (Kd.R k71 71 (w.alloc (.cells #[] 71)) w.heap.size (fun _ => True) (.slice (some ⟨w.heap.size, 0, none⟩) 0 0) []) :=
      ⟨⟨fun _ _ => trivial, [], ⟨rfl, .inr ⟨w.heap.size, 0, #[], rfl, Nat.le_refl _, heap_alloc_new w _, Nat.le_refl _, by simp, rfl, rfl⟩⟩, Reps.none _ _⟩⟩
    have HB := Aside0.mk hb0
    have HR1 := Aside0.mk (Kd.C_below HR.out hb0)
    clear hb0
    go_enter Try.func44, Try.ntmps44
    go_wp2_with (first | ((with_reducible refine gate_builtin (b := .append) (xs := #[.tmp 5, .tmp 6]) rfl ?_); at_builtin; refine Kd.R_append_rows k71 (w0 := w) w.heap.size rfl (.tmp 5) (.tmp 6) 22 71 ((.agg #[(.int .i64 0), (.int .i64 0)])) 16 rfl Try.underlying22 info71 rfl (by decide) (by omega) (.slice (some ⟨w.heap.size, 0, none⟩) 0 0) [] l _ _ _ (fun _ => True) (fun _ => False) rfl rfl HO.out HR1.out (fun _ _ h => h) (fun _ h => h.elim) (fun _ _ => trivial) HB.out (by simp) (by have := HL.out; simp; omega) ?_; intro v1 w1 ho hb hg ha; have HO2 := Aside0.mk ho; have HB2 := Aside0.mk hb; clear ho hb hg ha))
    go_ret
    exact ⟨_, rfl, HO2.out, HB2.out⟩
theorem api_Mark_44.calls (A0 : Option Addr) (c0 : Nat) (l0 : List S71) (r : List S71) (w : World) (hr0 : Kd.C k71 w A0 l0.length l0) (hc0 : l0.length ≤ c0) (h : api_Mark_44.f l0 = some r) :
    Calls Try.prog 44 #[.slice A0 l0.length c0] w fun e w' => ∃ v0_ : Value, e = .returned (v0_) ∧ Kd.R k71 71 w' w.heap.size (fun _ => True) v0_ r ∧ Below w.heap.size w w' := by
  unfold api_Mark_44.f at h
  by_cases hl : l0.length < 8796093022208
  · rw [if_pos hl] at h
    obtain rfl := Option.some.inj h
    exact api_Mark_44.calls0 A0 c0 l0 w hr0 hc0 hl
  · rw [if_neg hl] at h
    cases h

end Go.Proofs.Ytppniempndnghaa.PA
