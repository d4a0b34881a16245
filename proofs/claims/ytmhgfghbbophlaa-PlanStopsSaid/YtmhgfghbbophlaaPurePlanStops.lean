/- PlanStops: a plan comes to its end, at rest, in as many ticks as it tells. No conditions. -/
import Derived.Test.YtmhgfghbbophlaaQx3
import Derived.Test.YtmhgfghbbophlaaAidMore
namespace Go.Proofs.Ytmhgfghbbophlaa.Pure
open Go.RowKit Go.Proofs.Ytmhgfghbbophlaa.Q Go.Proofs.YtmhgfghbbophlaaW.PrintWords Go.Proofs.YtmhgfghbbophlaaW.PrintLast Aid
theorem loop : ∀ (k s l m L n K : Nat), m ≤ 8 → 1 ≤ m → ok s l m → L ≤ 1000 → l ≤ L → l ≤ k → n + l ≤ L → n + tk k s l m = tk L 0 L m →
    paternosterlaw06_PlanStops.l0 (2 * k + 2 + K + 1100) L m n s ((L - l : Nat) : Int) = some true
  | k, s, 0, m, L, n, K, hm, hm1, h, hL, hl, hk, hn, ht => by
    have hs : s ≤ 1 := by
      have : ∀ x : Nat, x < 9 → stN x ≤ 0 → x ≤ 1 := by decide
      exact this s (by have := h.1; omega) h.2
    have e : tk k s 0 m = 0 := by cases k <;> rfl
    rw [e] at ht
    rw [show 2 * k + 2 + K + 1100 = (2 * k + K + 1100) + 1 + 1 by omega, paternosterlaw06_PlanStops.l0]
    have fin : ∀ b : Bool, b = false → paternosterlaw06_PlanStops.j1 (2 * k + K + 1100 + 1) L m n s ((L - 0 : Nat) : Int) b = some true := by
      rintro _ rfl
      rw [paternosterlaw06_PlanStops.j1, if_neg (by decide), if_pos (by omega), if_pos (by omega)]
      have hz : plan_Next.f s 0 m = some ((nx s 0 m : Nat) : Int) := next_f s 0 m (by omega) (by omega) hm hm1
      have a := Aid.step s 0 m hm hm1 h
      rw [hz]
      simp only [Option.bind_some]
      rw [if_pos (by omega), ticks_f _ L m (by omega) hL hm hm1]
      simp only [Option.bind_some]
      rw [if_pos (by omega)]
      exact congrArg some (decide_eq_true (by omega))
    split
    · rw [if_neg (by omega)]
      exact fin _ (decide_eq_false (by omega))
    · exact fin _ rfl
  | 0, s, l + 1, m, L, n, K, _, _, _, _, _, hk, _, _ => absurd hk (by omega)
  | k + 1, s, l + 1, m, L, n, K, hm, hm1, h, hL, hl, hk, hn, ht => by
    have a := Aid.step s (l + 1) m hm hm1 h
    have b := step_ok s (l + 1) m hm hm1 h
    have hs8 : s ≤ 8 := by have := h.1; omega
    rw [show 2 * (k + 1) + 2 + K + 1100 = (2 * k + 2 + K + 1100) + 1 + 1 by omega, paternosterlaw06_PlanStops.l0, if_pos (by omega), if_pos (by omega), paternosterlaw06_PlanStops.j1, if_pos rfl]
    rw [wrap64_id (x := (L : Int) - ((L - (l + 1) : Nat) : Int)) (by omega) (by omega), show (L : Int) - ((L - (l + 1) : Nat) : Int) = ((l + 1 : Nat) : Int) by omega, next_f s (l + 1) m hs8 (by omega) hm hm1]
    simp only [Option.bind_some]
    rw [wrap64_id (x := (s : Int) + 1) (by omega) (by omega), wrap64_id (x := (s : Int) - 1) (by omega) (by omega), if_neg (by omega), if_neg (by omega), if_neg (by omega), if_neg (by omega), if_neg (by omega)]
    rw [wrap64_id (x := (n : Int) + 1) (by omega) (by omega), wrap64_id (by omega) (by omega)]
    have e2 : (((L - (l + 1) : Nat) : Int) + ((nx s (l + 1) m : Nat) : Int)) = ((L - (l + 1 - nx s (l + 1) m) : Nat) : Int) := by omega
    rw [e2]
    refine loop k (nx s (l + 1) m) (l + 1 - nx s (l + 1) m) m L (n + 1) K hm hm1 b hL (by omega) (by omega) (by omega) ?_
    rw [tk, if_neg (by omega)] at ht
    omega
theorem PlanStops : paternosterlaw06_PlanStops.Pure := by
  intro a0 a1 h0 h1
  obtain ⟨L, hL, eL⟩ := rest a0 1001 (u16 h0).1 (by decide) (by decide)
  obtain ⟨M, hM1, hM, eM⟩ := rest1 a1 8 (u8 h1).1 (by decide) (by decide)
  refine ⟨2 * L + 2 + 0 + 1100, ?_⟩
  unfold paternosterlaw06_PlanStops.f
  rw [aw _ (by omega)]
  simp only [Option.bind_some, if_true, show ((1001 : Nat) : Int) = 1001 from rfl, show ((8 : Nat) : Int) = 8 from rfl] at eL eM ⊢
  rw [eL, eM]
  have := loop L 0 L M L 0 0 hM hM1 (ok0 L M) (by omega) (by omega) (by omega) (by omega) (by omega)
  simpa using this
end Go.Proofs.Ytmhgfghbbophlaa.Pure
