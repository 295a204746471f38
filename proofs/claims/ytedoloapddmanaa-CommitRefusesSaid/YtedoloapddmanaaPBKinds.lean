/- What the cells of this seat's types say. -/
import Derived.Test.YtedoloapddmanaaOpen
import Derived.Test.YtedoloapddmanaaPBx0
namespace Go.Proofs.Ytedoloapddmanaa.PB
open Go.RowKit Go.ChangeShapes Go.WideShapes Go.Proofs.Ytedoloapddmanaa.Open Go.Proofs.YtedoloapddmanaaW.PrintWords
set_option linter.unusedVariables false
theorem list_1 {α : Type} (l : List α) (h : l.length = 1) : ∃ x0 : α, l = [x0] := by
  match l, h with
  | [x0], _ => exact ⟨x0, rfl⟩
theorem arr_1 (l : Array Value) (h : l.size = 1) : ∃ x0 : Value, l = #[x0] := by
  obtain ⟨l⟩ := l
  obtain ⟨x0, rfl⟩ := list_1 l h
  exact ⟨x0, rfl⟩
theorem list_2 {α : Type} (l : List α) (h : l.length = 2) : ∃ x0 x1 : α, l = [x0, x1] := by
  match l, h with
  | [x0, x1], _ => exact ⟨x0, x1, rfl⟩
theorem arr_2 (l : Array Value) (h : l.size = 2) : ∃ x0 x1 : Value, l = #[x0, x1] := by
  obtain ⟨l⟩ := l
  obtain ⟨x0, x1, rfl⟩ := list_2 l h
  exact ⟨x0, x1, rfl⟩
theorem list_4 {α : Type} (l : List α) (h : l.length = 4) : ∃ x0 x1 x2 x3 : α, l = [x0, x1, x2, x3] := by
  match l, h with
  | [x0, x1, x2, x3], _ => exact ⟨x0, x1, x2, x3, rfl⟩
theorem arr_4 (l : Array Value) (h : l.size = 4) : ∃ x0 x1 x2 x3 : Value, l = #[x0, x1, x2, x3] := by
  obtain ⟨l⟩ := l
  obtain ⟨x0, x1, x2, x3, rfl⟩ := list_4 l h
  exact ⟨x0, x1, x2, x3, rfl⟩
theorem list_5 {α : Type} (l : List α) (h : l.length = 5) : ∃ x0 x1 x2 x3 x4 : α, l = [x0, x1, x2, x3, x4] := by
  match l, h with
  | [x0, x1, x2, x3, x4], _ => exact ⟨x0, x1, x2, x3, x4, rfl⟩
theorem arr_5 (l : Array Value) (h : l.size = 5) : ∃ x0 x1 x2 x3 x4 : Value, l = #[x0, x1, x2, x3, x4] := by
  obtain ⟨l⟩ := l
  obtain ⟨x0, x1, x2, x3, x4, rfl⟩ := list_5 l h
  exact ⟨x0, x1, x2, x3, x4, rfl⟩
theorem list_8 {α : Type} (l : List α) (h : l.length = 8) : ∃ x0 x1 x2 x3 x4 x5 x6 x7 : α, l = [x0, x1, x2, x3, x4, x5, x6, x7] := by
  match l, h with
  | [x0, x1, x2, x3, x4, x5, x6, x7], _ => exact ⟨x0, x1, x2, x3, x4, x5, x6, x7, rfl⟩
theorem arr_8 (l : Array Value) (h : l.size = 8) : ∃ x0 x1 x2 x3 x4 x5 x6 x7 : Value, l = #[x0, x1, x2, x3, x4, x5, x6, x7] := by
  obtain ⟨l⟩ := l
  obtain ⟨x0, x1, x2, x3, x4, x5, x6, x7, rfl⟩ := list_8 l h
  exact ⟨x0, x1, x2, x3, x4, x5, x6, x7, rfl⟩
theorem list_11 {α : Type} (l : List α) (h : l.length = 11) : ∃ x0 x1 x2 x3 x4 x5 x6 x7 x8 x9 x10 : α, l = [x0, x1, x2, x3, x4, x5, x6, x7, x8, x9, x10] := by
  match l, h with
  | [x0, x1, x2, x3, x4, x5, x6, x7, x8, x9, x10], _ => exact ⟨x0, x1, x2, x3, x4, x5, x6, x7, x8, x9, x10, rfl⟩
theorem arr_11 (l : Array Value) (h : l.size = 11) : ∃ x0 x1 x2 x3 x4 x5 x6 x7 x8 x9 x10 : Value, l = #[x0, x1, x2, x3, x4, x5, x6, x7, x8, x9, x10] := by
  obtain ⟨l⟩ := l
  obtain ⟨x0, x1, x2, x3, x4, x5, x6, x7, x8, x9, x10, rfl⟩ := list_11 l h
  exact ⟨x0, x1, x2, x3, x4, x5, x6, x7, x8, x9, x10, rfl⟩
def G71 (x : S71) : Prop := (fun a => (Lit.int .u8 a).wf = true) x.f0 ∧ (fun a => (Lit.int .u8 a).wf = true) x.f1
set_option maxRecDepth 100000 in
theorem opens_T71 : Opens Try.prog 71 k71 G71 := by
  intro H enc w base spare held fuel cs x h
  obtain ⟨xs, n, -, -, hl, hlen, hg⟩ := DataW.trod_struct Try.underlying71 h
  replace hl : cs.length = 2 := hl.trans (by kernel_rfl)
  obtain ⟨y0, y1, rfl⟩ : ∃ y0 y1, xs = [y0, y1] := by
    match xs, hlen with
    | [y0, y1], _ => exact ⟨y0, y1, rfl⟩
  obtain ⟨c0, c1, rfl⟩ : ∃ c0 c1, cs = [c0, c1] := by
    match cs, hl with
    | [c0, c1], _ => exact ⟨c0, c1, rfl⟩
  have h0 := hg 0 _ rfl
  replace h0 : DataW.trod enc Try.prog w base spare held n 5 [c0] = some y0 := by rw [show Try.prog.cellsOf _ = 1 from by kernel_rfl] at h0; exact h0
  obtain ⟨a0, k0_, g0⟩ := (opens_int Try.underlying5) _ _ _ _ _ _ _ _ _ h0
  have h1 := hg 1 _ rfl
  replace h1 : DataW.trod enc Try.prog w base spare held n 5 [c1] = some y1 := by rw [show Try.prog.cellsOf _ = 1 from by kernel_rfl] at h1; exact h1
  obtain ⟨a1, k1_, g1⟩ := (opens_int Try.underlying5) _ _ _ _ _ _ _ _ _ h1
  exact ⟨⟨a0, a1⟩, ⟨_, _, rfl, k0_, k1_⟩, ⟨g0, g1⟩⟩
end Go.Proofs.Ytedoloapddmanaa.PB
