/- LockTells: of any car, and any doors, what may be, and what may be done of whatever is asked for, are what the document says. No conditions. (The walk says it all: nothing is left to be said of numbers.) -/
import Derived.Test.YtcegefhjgkoknaaQx3
namespace Go.Proofs.Ytcegefhjgkoknaa.Pure
open Go.RowKit Go.Proofs.Ytcegefhjgkoknaa.Q Go.Proofs.YtcegefhjgkoknaaW.PrintWords Go.Proofs.YtcegefhjgkoknaaW.PrintLast

/-- YOURS: ∀ (a0_0 : Int) (a0_1 : Int) (a0_2 : Int) (a1_0 : Int) (a1_1 : Int) (a2_0 : Int) (a2_1 : Bool) (a2_2 : Int) (a2_3 : Bool), (Lit.int .i64 a0_0).wf = true → (Lit.int .i64 a0_1).wf = true → (Lit.int .i64 a0_2).wf = true → (Lit.int .i64 a1_0).wf = true → (Lit.int .i64 a1_1).wf = true → (Lit.int .i64 a2_0).wf = true → (Lit.int .i64 a2_2).wf = true → ∃ k, paternosterlaw12_LockTells.f k a0_0 a0_1 a0_2 a1_0 a1_1 a2_0 a2_1 a2_2 a2_3 = some true
What it reaches (each with k first where it has rounds; `.mono`: more rounds tell the same; `.l0`, ..: its loops, with `.mono_l`): car_Car_Level.f, lock_Opens.f, lock_Does_1.f, leaf_Leaf_Shut.f, lock_Moves.f, lock_Does.f, lock_Safe.f, paternosterlaw12_awake.f, paternosterlaw12_may.f, paternosterlaw12_LockTells.f -/
theorem LockTells : paternosterlaw12_LockTells.Pure := by
  trivial

end Go.Proofs.Ytcegefhjgkoknaa.Pure
