/- CarAlone: what a car bears plays no part in how it goes; braked twice it is as braked once. No conditions. -/
import Derived.Test.YtgoagpjmnobjhaaQx12
namespace Go.Proofs.Ytgoagpjmnobjhaa.Pure
open Go.RowKit Go.Proofs.Ytgoagpjmnobjhaa.Q Go.Proofs.YtgoagpjmnobjhaaW.PrintWords Go.Proofs.YtgoagpjmnobjhaaW.PrintLast
theorem CarAlone : paternosterlaw07_CarAlone.Pure := by
  intro p v l l' x fl _ _ _ _ _ _
  refine ⟨5, ?_⟩
  have aw : paternosterlaw07_awake.f 5 = some true := by decide +kernel
  obtain ⟨b, hb⟩ : ∃ b, paternosterlaw07_may.f p v l = some b := by unfold paternosterlaw07_may.f; (repeat' split) <;> exact ⟨_, rfl⟩
  unfold paternosterlaw07_CarAlone.f
  rw [aw, hb]
  cases b
  · simp
  · simp [car_Car_Step.f, carPos, carVel]
end Go.Proofs.Ytgoagpjmnobjhaa.Pure
