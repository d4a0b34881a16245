/- PlanTells: the planner tells what the reference tells. No conditions. -/
import Derived.Test.YtmhgfghbbophlaaAidRef
namespace Go.Proofs.Ytmhgfghbbophlaa.Pure
open Go.RowKit Go.Proofs.Ytmhgfghbbophlaa.Q Go.Proofs.YtmhgfghbbophlaaW.PrintWords Go.Proofs.YtmhgfghbbophlaaW.PrintLast Aid
theorem PlanTells : paternosterlaw06_PlanTells.Pure := by
  intro a0 a1 a2 _ _ _
  obtain ⟨K, hK⟩ : ∃ K : Nat, 1100 ≤ K := ⟨1100, Nat.le_refl _⟩
  refine ⟨K, ?_⟩
  unfold paternosterlaw06_PlanTells.f
  rw [aw K (by omega), stop_any, ref_stop K (by omega), ticks_any K _ _ (by omega), ref_ticks K _ _ hK, next_same K (by omega), ref_next K (by omega)]
  simp
end Go.Proofs.Ytmhgfghbbophlaa.Pure
