/- PlanLeast: a plan takes no fewer ticks than its way over its speed, and no more than its way. No conditions. -/
import Derived.Test.YtmhgfghbbophlaaQx5
import Derived.Test.YtmhgfghbbophlaaAidMore
namespace Go.Proofs.Ytmhgfghbbophlaa.Pure
open Go.RowKit Go.Proofs.Ytmhgfghbbophlaa.Q Go.Proofs.YtmhgfghbbophlaaW.PrintWords Go.Proofs.YtmhgfghbbophlaaW.PrintLast Aid
theorem PlanLeast : paternosterlaw06_PlanLeast.Pure := by
  intro a0 a1 h0 h1
  obtain ⟨K, hK⟩ : ∃ K : Nat, 1100 ≤ K := ⟨1100, Nat.le_refl _⟩
  refine ⟨K, ?_⟩
  obtain ⟨L, hL, eL⟩ := rest a0 1001 (u16 h0).1 (by decide) (by decide)
  obtain ⟨M, hM1, hM, eM⟩ := rest1 a1 8 (u8 h1).1 (by decide) (by decide)
  unfold paternosterlaw06_PlanLeast.f
  rw [aw K (by omega)]
  simp only [Option.bind_some, if_true, show ((1001 : Nat) : Int) = 1001 from rfl, show ((8 : Nat) : Int) = 8 from rfl] at eL eM ⊢
  rw [eL, eM]
  have t1 : plan_Ticks.f K L M = some ((tk L 0 L M : Nat) : Int) := ticks_f K L M (by omega) (by omega) hM hM1
  have t2 := ticks_f K L 1 (by omega) (by omega) (by omega) (by omega)
  have o : ((1 : Nat) : Int) = 1 := rfl
  rw [o] at t2
  have a := tk_le L 0 L M hM hM1 (ok0 L M)
  have b := tk_ge L 0 L M hM hM1 (ok0 L M) (Nat.le_refl _)
  have c := tk_le L 0 L 1 (by omega) (by omega) (ok0 L 1)
  have d := tk_ge L 0 L 1 (by omega) (by omega) (ok0 L 1) (Nat.le_refl _)
  have e : tk L 0 L M * M ≤ 8000 := Nat.le_trans (Nat.mul_le_mul (show tk L 0 L M ≤ 1000 by omega) hM) (by omega)
  generalize tk L 0 L M = t at t1 a b e
  generalize tk L 0 L 1 = u at t2 c d
  rw [t1, Option.bind_some, t2, Option.bind_some]
  have p : ((t : Nat) : Int) * (M : Int) = ((t * M : Nat) : Int) := by push_cast; rfl
  rw [p, wrap64_id (by omega) (by omega), if_pos (by omega), if_pos (by omega), if_pos (by omega)]
  refine congrArg some ?_
  have hb : ((L : Int) == 0) = ((t : Int) == 0) := by
    by_cases hz : L = 0
    · have ht : t = 0 := by omega
      rw [hz, ht]
    · have ht : t ≠ 0 := by
        intro q
        rw [q, Nat.zero_mul] at b
        omega
      rw [beq_eq_false_iff_ne.2 (show (L : Int) ≠ 0 by omega), beq_eq_false_iff_ne.2 (show (t : Int) ≠ 0 by omega)]
  rw [hb]
  exact beq_self_eq_true _
end Go.Proofs.Ytmhgfghbbophlaa.Pure
