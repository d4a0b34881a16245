/- PlanRest: at rest with nothing left it stays; with way left it starts; at full speed it keeps on while it can. No conditions. -/
import Derived.Test.YtmhgfghbbophlaaQx5
import Derived.Test.YtmhgfghbbophlaaAidMore
namespace Go.Proofs.Ytmhgfghbbophlaa.Pure
open Go.RowKit Go.Proofs.Ytmhgfghbbophlaa.Q Go.Proofs.YtmhgfghbbophlaaW.PrintWords Go.Proofs.YtmhgfghbbophlaaW.PrintLast Aid
theorem PlanRest : paternosterlaw06_PlanRest.Pure := by
  intro a0 a1 h0 h1
  obtain ⟨K, hK⟩ : ∃ K : Nat, 1100 ≤ K := ⟨1100, Nat.le_refl _⟩
  refine ⟨K, ?_⟩
  obtain ⟨L, hL, eL⟩ := rest a0 1001 (u16 h0).1 (by decide) (by decide)
  obtain ⟨M, hM1, hM, eM⟩ := rest1 a1 8 (u8 h1).1 (by decide) (by decide)
  unfold paternosterlaw06_PlanRest.f
  rw [aw K (by omega)]
  simp only [Option.bind_some, if_true, show ((1001 : Nat) : Int) = 1001 from rfl, show ((8 : Nat) : Int) = 8 from rfl] at eL eM ⊢
  rw [eL, eM]
  obtain ⟨r0, r1, r2⟩ := rest_small M (by omega) hM1
  have n0 : plan_Next.f 0 L M = some ((nx 0 L M : Nat) : Int) := next_f 0 L M (by omega) (by omega) hM hM1
  have n1 : plan_Next.f 1 L M = some ((nx 1 L M : Nat) : Int) := next_f 1 L M (by omega) (by omega) hM hM1
  have nm : plan_Next.f M L M = some ((nx M L M : Nat) : Int) := next_f M L M (by omega) (by omega) hM hM1
  have st : plan_Stop.f M = some ((stN M : Nat) : Int) := stop_f M hM
  rw [n0, n1, nm, st]
  simp only [Option.bind_some]
  rw [wrap64_id (x := (M : Int) + (stN M : Nat)) (by omega) (by omega)]
  by_cases hz : L = 0
  · subst hz
    simp [r0, r1]
  · have q := rest_step M (by omega) (min L 36) (by omega) ⟨hM1, by omega⟩
    rw [← nx_min _ _ _ hM] at q
    rw [if_neg (by omega), q, if_pos (by rfl)]
    by_cases hf : M + stN M ≤ L
    · have f := rest_full M (by omega) (min L 36) (by omega) ⟨hM1, by omega⟩
      rw [← nx_min _ _ _ hM] at f
      rw [if_neg (by omega), f, if_pos rfl, if_pos (by omega)]
    · have f := rest_less M (by omega) (min L 36) (by omega) ⟨hM1, by omega⟩
      rw [← nx_min _ _ _ hM] at f
      rw [if_pos (by omega), if_neg (by omega)]
      exact congrArg some (decide_eq_true (by omega))
end Go.Proofs.Ytmhgfghbbophlaa.Pure
