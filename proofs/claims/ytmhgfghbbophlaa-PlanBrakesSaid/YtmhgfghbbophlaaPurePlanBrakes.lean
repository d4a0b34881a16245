/- PlanBrakes: the next speed lies within one of this, and can still halt in what is left. No conditions. -/
import Derived.Test.YtmhgfghbbophlaaQx4
import Derived.Test.YtmhgfghbbophlaaAidMore
namespace Go.Proofs.Ytmhgfghbbophlaa.Pure
open Go.RowKit Go.Proofs.Ytmhgfghbbophlaa.Q Go.Proofs.YtmhgfghbbophlaaW.PrintWords Go.Proofs.YtmhgfghbbophlaaW.PrintLast Aid
theorem PlanBrakes : paternosterlaw06_PlanBrakes.Pure := by
  intro a0 a1 a2 h0 h1 h2
  obtain ⟨K, hK⟩ : ∃ K : Nat, 1100 ≤ K := ⟨1100, Nat.le_refl _⟩
  refine ⟨K + 1, ?_⟩
  obtain ⟨S, hS, eS⟩ := rest a0 9 (u8 h0).1 (by decide) (by decide)
  obtain ⟨L, hL, eL⟩ := rest a1 1001 (u16 h1).1 (by decide) (by decide)
  obtain ⟨M, hM1, hM, eM⟩ := rest1 a2 8 (u8 h2).1 (by decide) (by decide)
  unfold paternosterlaw06_PlanBrakes.f
  rw [aw (K + 1) (by omega)]
  simp only [Option.bind_some, if_true, show ((1001 : Nat) : Int) = 1001 from rfl, show ((8 : Nat) : Int) = 8 from rfl, show ((9 : Nat) : Int) = 9 from rfl] at eS eL eM ⊢
  rw [eS, eL, eM, stop_f S (by omega)]
  simp only [Option.bind_some, paternosterlaw06_PlanBrakes.j0, if_true]
  by_cases c : (stN S : Int) > (L : Int)
  · rw [if_pos c]
  · rw [if_neg c]
    by_cases c2 : (S : Int) > (M : Int)
    · rw [decide_eq_true c2, if_pos rfl]
    · rw [decide_eq_false c2, if_neg (by decide)]
      have hok : ok S L M := ⟨by omega, by omega⟩
      have a := Aid.step S L M hM hM1 hok
      rw [next_f S L M (by omega) (by omega) hM hM1]
      simp only [Option.bind_some]
      rw [stop_f (nx S L M) (by omega)]
      simp only [Option.bind_some]
      rw [wrap64_id (by omega) (by omega), wrap64_id (by omega) (by omega), wrap64_id (by omega) (by omega), if_pos (by omega), if_pos (by omega), if_pos (by omega), if_pos (by omega), if_pos (by omega)]
      split
      · rfl
      · exact congrArg some (decide_eq_true (by omega))
end Go.Proofs.Ytmhgfghbbophlaa.Pure
