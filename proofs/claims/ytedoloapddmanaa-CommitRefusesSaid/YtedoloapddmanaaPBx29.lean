-- Written by a program of this session (wip/tools) over the kit's print.
import Derived.Test.YtedoloapddmanaaPBx290
import Derived.Test.YtedoloapddmanaaPBx291
import Derived.Test.YtedoloapddmanaaPBx292
import Derived.Test.YtedoloapddmanaaPBx293
import Derived.Test.YtedoloapddmanaaPBx294
import Derived.Test.YtedoloapddmanaaPBx295
namespace Go.Proofs.Ytedoloapddmanaa.PB
open Go.RowKit Go.Proofs.YtedoloapddmanaaW.PrintWords Go.Proofs.YtedoloapddmanaaW.PrintLast Go.Proofs.YtedoloapddmanaaW.PrintMore
attribute [local go_sem] max2_int min2_int max_two min_two max_three min_three max_four min_four   -- for this text's walks alone
set_option linter.unusedVariables false
set_option linter.unusedSimpArgs false

/-! ### standbylaw32_step: function 38 -/
theorem standbylaw32_step.calls (k : Nat) (a0_0 : Int) (a0_1 : Int) (P0_2_ : Nat → Prop) (A0_2 : Option Addr) (c0_2 : Nat) (l0_2 : List Int) (a0_3 : Int) (a0_4 : Int) (a0_5 : Int) (a0_6 : Int) (a0_7 : Int) (a0_8 : Int) (P0_9_ : Nat → Prop) (u9000_ : Value) (l0_9 : List Int) (P0_10_ : Nat → Prop) (u9001_ : Value) (l0_10 : List (S53)) (a0_11 : Bool) (a1_0 : Int) (a1_1 : Int) (r1 : Int) (r2 : Int) (r3 : List Int) (r4 : Int) (r5 : Int) (r6 : Int) (r7 : Int) (r8 : Int) (r9 : Int) (r10 : List Int) (r11 : List (S53)) (r12 : Bool) (w0 w : World) (hB : Below w0.heap.size w0 w) (hs0_2 : Kd.V (Kd.int .i64) 3 w w0.heap.size (fun k_ => P0_2_ k_ ∧ some k_ ≠ (u9000_ : Value).ownBlock ∧ some k_ ≠ (u9001_ : Value).ownBlock) (.slice A0_2 l0_2.length c0_2) l0_2) (ho0_9 : Kd.R (Kd.int .i64) 3 w w0.heap.size P0_9_ u9000_ l0_9) (ho0_10 : Kd.R k53 53 w w0.heap.size P0_10_ u9001_ l0_10) (h : standbylaw32_step.f k a0_0 a0_1 l0_2 a0_3 a0_4 a0_5 a0_6 a0_7 a0_8 l0_9 l0_10 a0_11 a1_0 a1_1 = some (r1, r2, r3, r4, r5, r6, r7, r8, r9, r10, r11, r12)) :
  Calls Try.prog 38 #[.agg #[.int .i64 a0_0, .int .i64 a0_1, .slice A0_2 l0_2.length c0_2, .int .i64 a0_3, .int .i64 a0_4, .int .i64 a0_5, .int .i64 a0_6, .int .i64 a0_7, .int .i64 a0_8, u9000_, u9001_, .bool a0_11], .agg #[.int .u8 a1_0, .int .u8 a1_1]] w fun e w' => ∃ v2_ v9_ v10_ : Value, e = .returned (.agg #[.int .i64 r1, .int .i64 r2, v2_, .int .i64 r4, .int .i64 r5, .int .i64 r6, .int .i64 r7, .int .i64 r8, .int .i64 r9, v9_, v10_, .bool r12]) ∧ Kd.V (Kd.int .i64) 3 w' w0.heap.size (fun k_ => ((P0_9_ k_ ∨ P0_10_ k_ ∨ P0_2_ k_) ∨ w.heap.size ≤ k_) ∧ some k_ ≠ (v9_ : Value).ownBlock ∧ some k_ ≠ (v10_ : Value).ownBlock) v2_ r3 ∧ Kd.R (Kd.int .i64) 3 w' w0.heap.size (fun k_ => ((P0_9_ k_ ∨ P0_10_ k_) ∨ w.heap.size ≤ k_)) v9_ r10 ∧ Kd.R k53 53 w' w0.heap.size (fun k_ => ((P0_9_ k_ ∨ P0_10_ k_) ∨ w.heap.size ≤ k_)) v10_ r11 ∧ Below w0.heap.size w0 w' ∧ Kept w w' (fun k_ => P0_9_ k_ ∨ P0_10_ k_) := by
  by_cases q0 : Int.tmod a1_0 7 = 0
  · exact standbylaw32_step.calls0 k a0_0 a0_1 P0_2_ A0_2 c0_2 l0_2 a0_3 a0_4 a0_5 a0_6 a0_7 a0_8 P0_9_ u9000_ l0_9 P0_10_ u9001_ l0_10 a0_11 a1_0 a1_1 r1 r2 r3 r4 r5 r6 r7 r8 r9 r10 r11 r12 w0 w hB hs0_2 ho0_9 ho0_10 h ⟨q0⟩
  by_cases q1 : Int.tmod a1_0 7 = 1
  · exact standbylaw32_step.calls1 k a0_0 a0_1 P0_2_ A0_2 c0_2 l0_2 a0_3 a0_4 a0_5 a0_6 a0_7 a0_8 P0_9_ u9000_ l0_9 P0_10_ u9001_ l0_10 a0_11 a1_0 a1_1 r1 r2 r3 r4 r5 r6 r7 r8 r9 r10 r11 r12 w0 w hB hs0_2 ho0_9 ho0_10 h ⟨q1⟩
  by_cases q2 : Int.tmod a1_0 7 = 2
  · exact standbylaw32_step.calls2 k a0_0 a0_1 P0_2_ A0_2 c0_2 l0_2 a0_3 a0_4 a0_5 a0_6 a0_7 a0_8 P0_9_ u9000_ l0_9 P0_10_ u9001_ l0_10 a0_11 a1_0 a1_1 r1 r2 r3 r4 r5 r6 r7 r8 r9 r10 r11 r12 w0 w hB hs0_2 ho0_9 ho0_10 h ⟨q2⟩
  by_cases q3 : Int.tmod a1_0 7 = 3
  · exact standbylaw32_step.calls3 k a0_0 a0_1 P0_2_ A0_2 c0_2 l0_2 a0_3 a0_4 a0_5 a0_6 a0_7 a0_8 P0_9_ u9000_ l0_9 P0_10_ u9001_ l0_10 a0_11 a1_0 a1_1 r1 r2 r3 r4 r5 r6 r7 r8 r9 r10 r11 r12 w0 w hB hs0_2 ho0_9 ho0_10 h ⟨q3⟩
  by_cases q4 : Int.tmod a1_0 7 = 4
  · exact standbylaw32_step.calls4 k a0_0 a0_1 P0_2_ A0_2 c0_2 l0_2 a0_3 a0_4 a0_5 a0_6 a0_7 a0_8 P0_9_ u9000_ l0_9 P0_10_ u9001_ l0_10 a0_11 a1_0 a1_1 r1 r2 r3 r4 r5 r6 r7 r8 r9 r10 r11 r12 w0 w hB hs0_2 ho0_9 ho0_10 h ⟨q4⟩
  exact standbylaw32_step.calls5 k a0_0 a0_1 P0_2_ A0_2 c0_2 l0_2 a0_3 a0_4 a0_5 a0_6 a0_7 a0_8 P0_9_ u9000_ l0_9 P0_10_ u9001_ l0_10 a0_11 a1_0 a1_1 r1 r2 r3 r4 r5 r6 r7 r8 r9 r10 r11 r12 w0 w hB hs0_2 ho0_9 ho0_10 h ⟨⟨q0, q1, q2, q3, q4⟩⟩
end Go.Proofs.Ytedoloapddmanaa.PB
