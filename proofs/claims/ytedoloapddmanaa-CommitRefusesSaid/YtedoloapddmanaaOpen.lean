/- A parameter's cells, read: whatever its type is. -/
import Derived.Test.YtedoloapddmanaaW0More
import Derived.Deep.Slices
import Derived.Deep.Fields
import Derived.ChangeSame
import Derived.ChangeSlices
import Derived.WideShapes
import Derived.ChangeArms
import Derived.KernelRfl
namespace Go.Proofs.Ytedoloapddmanaa.Open
open Go.RowKit Go.ChangeShapes Go.WideShapes Go.Proofs.YtedoloapddmanaaW.PrintWords
set_option linter.unusedVariables false
def Opens {α : Type} (P : Program) (t : TypeId) (d : Kd α) (G : α → Prop) : Prop :=
  ∀ (H : Type) (enc : TypeId × Value → H) (w : World) (base : Nat) (spare : Nat → Bool) (held : Bool) (fuel : Nat) (cs : List Value) (x : DataW H × List MemPlace), DataW.trod enc P w base spare held fuel t cs = some x → ∃ a : α, d.K w a cs ∧ G a
theorem opens_int {P : Program} {t : TypeId} {k : IntKind} (ht : P.underlying t = some (.int k)) : Opens P t (Kd.int k) (fun a => (Lit.int k a).wf = true) := by
  intro H enc w base spare held fuel cs x h
  obtain ⟨n, rfl, -, hw⟩ := DataW.trod_int ht h
  exact ⟨n, rfl, hw⟩
theorem opens_bool {P : Program} {t : TypeId} (ht : P.underlying t = some .bool) : Opens P t Kd.bool (fun _ => True) := by
  intro H enc w base spare held fuel cs x h
  obtain ⟨b, rfl, -⟩ := DataW.trod_bool ht h
  exact ⟨b, rfl, trivial⟩
theorem opens_slice {α : Type} {P : Program} {t e : TypeId} {d : Kd α} {G : α → Prop} (ht : P.underlying t = some (.slice e)) (hd : Opens P e d G) (hsz : P.cellsOf e = d.sz) :
    Opens P t (Kd.slice e d) (fun l => (∀ x ∈ l, G x) ∧ l.length ≤ maxLen) := by
  intro H enc w base spare held fuel cs x h
  rcases Go.Deep.open_slice ht h with ⟨rfl, -⟩ | ⟨a, len, cap, m, n, D, Pl, rfl, -, hl, hm, hmm, -, hi⟩
  · refine ⟨[], ⟨none, 0, rfl, Nat.le_refl _, rfl, by simp, fun h => absurd h (by simp)⟩, fun x hx => by simp at hx, by simp⟩
  · have hlm : len ≤ m := by rw [hmm]; split <;> omega
    have hx : ∀ i : Fin len, ∃ y : α, G y ∧ ∃ c, c.length = d.sz ∧ d.K w y c ∧ ∀ j u, c[j]? = some u → w.cell? (a.add (i.1 * d.sz + j)) = some u := by
      intro i
      obtain ⟨cs', hc, ht'⟩ := hi i.1 (Nat.lt_of_lt_of_le i.2 hlm)
      obtain ⟨y, hk, hg⟩ := hd _ _ _ _ _ _ _ _ _ ht'
      obtain ⟨-, hcl, hat⟩ := World.cells?_some hc
      refine ⟨y, hg, cs', d.K_len hk, hk, fun j u hj => ?_⟩
      have hjl : j < cs'.length := (List.getElem?_eq_some_iff.1 hj).1
      have := hat j (by omega)
      rw [← Go.Deep.add_add, ← hsz]
      exact this.trans hj
    let f : Fin len → α := fun i => Classical.choose (hx i)
    have hf : ∀ i : Fin len, G (f i) ∧ ∃ c, c.length = d.sz ∧ d.K w (f i) c ∧ ∀ j u, c[j]? = some u → w.cell? (a.add (i.1 * d.sz + j)) = some u := fun i => Classical.choose_spec (hx i)
    have hlen : (List.ofFn f).length = len := List.length_ofFn
    have hmax : len ≤ maxLen := Nat.le_trans hl hm
    refine ⟨List.ofFn f, ⟨some a, cap, by rw [hlen], by rw [hlen]; exact hl, by rw [hlen], by rw [hlen]; unfold maxLen at hmax; exact hmax, fun _ => ⟨a, rfl, fun j p hj => ?_⟩⟩, fun x hxm => ?_, by rw [hlen]; exact hmax⟩
    · obtain ⟨hjl, he⟩ := List.getElem?_eq_some_iff.1 hj
      rw [List.getElem_ofFn] at he
      subst he
      exact (hf ⟨j, by omega⟩).2
    · obtain ⟨i, hi', rfl⟩ := List.mem_iff_getElem.1 hxm
      rw [List.getElem_ofFn]
      exact (hf _).1
theorem slice_leaf {α : Type} {d : Kd α} {e : Nat} {w : World} {l : List α} {cs : List Value} (h : (Kd.slice e d).K w l cs) : ∃ A c, cs = [.slice A l.length c] ∧ l.length ≤ c ∧ d.C w A l.length l := h
end Go.Proofs.Ytedoloapddmanaa.Open
