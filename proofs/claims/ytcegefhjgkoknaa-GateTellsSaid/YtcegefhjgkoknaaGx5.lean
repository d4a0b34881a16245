-- Written by a program of this session (turned from the kit's print.py) out of the translation. Not trusted: Lean checks it.
import Derived.Test.YtcegefhjgkoknaaGy1
import Derived.Test.YtcegefhjgkoknaaGy2
namespace Go.Proofs.Ytcegefhjgkoknaa.G
open Go.RowKit Go.Proofs.YtcegefhjgkoknaaW.PrintWords Go.Proofs.YtcegefhjgkoknaaW.PrintLast Go.Proofs.YtcegefhjgkoknaaW.PrintMore
attribute [local go_sem] max2_int min2_int max_two min_two max_three min_three max_four min_four   -- for this text's walks alone
set_option linter.unusedVariables false
set_option linter.unusedSimpArgs false

attribute [local go_sem] fld23_0 fld23_1 fld23_2 fld25_0 fld25_1 fld27_0 fld27_1 fld27_2 fld27_3 fld37_0 fld37_1
attribute [local go_sem high] eqA37
theorem paternosterlaw14_GateTells.calls (k : Nat) (a0_0 : Int) (a0_1 : Int) (a0_2 : Int) (a1_0 : Int) (a1_1 : Int) (a2_0 : Int) (a2_1 : Int) (a3_0 : Int) (a3_1 : Int) (a4 : Bool) (a5 : Bool) (a6 : Bool) (a7 : Int) (a8 : Int) (r : Bool) (w : World) (hT : r = true) (h : paternosterlaw14_GateTells.f k a0_0 a0_1 a0_2 a1_0 a1_1 a2_0 a2_1 a3_0 a3_1 a4 a5 a6 a7 a8 = some r) :
  Calls Try.prog 7 #[.agg #[.int .i64 a0_0, .int .i64 a0_1, .int .i64 a0_2], .agg #[.int .i64 a1_0, .int .i64 a1_1], .agg #[.int .i64 a2_0, .int .i64 a2_1], .agg #[.int .i64 a3_0, .int .i64 a3_1], .bool a4, .bool a5, .bool a6, .int .u8 a7, .int .i64 a8] w fun e w' => e = .returned (.bool r) ∧ Below w.heap.size w w' := by
 cases hag : againB a1_0 a1_1 a3_1 a8 a6
 · exact paternosterlaw14_GateTells.callsF k a0_0 a0_1 a0_2 a1_0 a1_1 a2_0 a2_1 a3_0 a3_1 a4 a5 a6 a7 a8 r w hT hag h
 · exact paternosterlaw14_GateTells.callsT k a0_0 a0_1 a0_2 a1_0 a1_1 a2_0 a2_1 a3_0 a3_1 a4 a5 a6 a7 a8 r w hT hag h

/-- THE ONE PURE STATEMENT of paternosterlaw14_GateTells: yours. -/
def paternosterlaw14_GateTells.Pure : Prop := ∀ (a0_0 : Int) (a0_1 : Int) (a0_2 : Int) (a1_0 : Int) (a1_1 : Int) (a2_0 : Int) (a2_1 : Int) (a3_0 : Int) (a3_1 : Int) (a4 : Bool) (a5 : Bool) (a6 : Bool) (a7 : Int) (a8 : Int), (Lit.int .i64 a0_0).wf = true → (Lit.int .i64 a0_1).wf = true → (Lit.int .i64 a0_2).wf = true → (Lit.int .i64 a1_0).wf = true → (Lit.int .i64 a1_1).wf = true → (Lit.int .i64 a2_0).wf = true → (Lit.int .i64 a2_1).wf = true → (Lit.int .i64 a3_0).wf = true → (Lit.int .i64 a3_1).wf = true → (Lit.int .u8 a7).wf = true → (Lit.int .i64 a8).wf = true → ∃ k, paternosterlaw14_GateTells.f k a0_0 a0_1 a0_2 a1_0 a1_1 a2_0 a2_1 a3_0 a3_1 a4 a5 a6 a7 a8 = some true
theorem paternosterlaw14_GateTells.walk (P : paternosterlaw14_GateTells.Pure) (a0_0 : Int) (a0_1 : Int) (a0_2 : Int) (a1_0 : Int) (a1_1 : Int) (a2_0 : Int) (a2_1 : Int) (a3_0 : Int) (a3_1 : Int) (a4 : Bool) (a5 : Bool) (a6 : Bool) (a7 : Int) (a8 : Int) (w : World) (w0_0 : (Lit.int .i64 a0_0).wf = true) (w0_1 : (Lit.int .i64 a0_1).wf = true) (w0_2 : (Lit.int .i64 a0_2).wf = true) (w1_0 : (Lit.int .i64 a1_0).wf = true) (w1_1 : (Lit.int .i64 a1_1).wf = true) (w2_0 : (Lit.int .i64 a2_0).wf = true) (w2_1 : (Lit.int .i64 a2_1).wf = true) (w3_0 : (Lit.int .i64 a3_0).wf = true) (w3_1 : (Lit.int .i64 a3_1).wf = true) (w7 : (Lit.int .u8 a7).wf = true) (w8 : (Lit.int .i64 a8).wf = true) :
  Calls Try.prog 7 #[.agg #[.int .i64 a0_0, .int .i64 a0_1, .int .i64 a0_2], .agg #[.int .i64 a1_0, .int .i64 a1_1], .agg #[.int .i64 a2_0, .int .i64 a2_1], .agg #[.int .i64 a3_0, .int .i64 a3_1], .bool a4, .bool a5, .bool a6, .int .u8 a7, .int .i64 a8] w fun e w' => e = .returned (.bool true) ∧ Below w.heap.size w w' := by
 obtain ⟨k, h⟩ := P a0_0 a0_1 a0_2 a1_0 a1_1 a2_0 a2_1 a3_0 a3_1 a4 a5 a6 a7 a8 w0_0 w0_1 w0_2 w1_0 w1_1 w2_0 w2_1 w3_0 w3_1 w7 w8
 refine (paternosterlaw14_GateTells.calls k a0_0 a0_1 a0_2 a1_0 a1_1 a2_0 a2_1 a3_0 a3_1 a4 a5 a6 a7 a8 true w rfl h).mono ?_
 rintro e w' ⟨rfl, hd⟩
 exact ⟨rfl, hd⟩

end Go.Proofs.Ytcegefhjgkoknaa.G
