/- DriveHere: at the floor it is braked; elsewhere, standing, it begins to go there. No conditions. -/
import Derived.Test.YtmhgfghbbophlaaQx12
import Derived.Test.YtmhgfghbbophlaaAidDrive
namespace Go.Proofs.Ytmhgfghbbophlaa.Pure
open Go.RowKit Go.Proofs.Ytmhgfghbbophlaa.Q Go.Proofs.YtmhgfghbbophlaaW.PrintWords Go.Proofs.YtmhgfghbbophlaaW.PrintLast Aid
theorem nx_start (l m : Nat) (hl : 1 ≤ l) (hm1 : 1 ≤ m) (hm : m ≤ 8) : nx 0 l m = 1 := by
  rw [nx_min 0 l m hm]; exact rest_step m (by omega) _ (by omega) ⟨hm1, by omega⟩
theorem DriveHere : paternosterlaw13_DriveHere.Pure := by
  intro p v l a1 a2 _ _ _ h1 h2
  refine ⟨100, ?_⟩
  obtain ⟨f, hf, ef⟩ := rest a1 32 (u8 h1).1 (by decide) (by decide)
  obtain ⟨m, hm1, hm, em⟩ := rest1 a2 8 (u8 h2).1 (by decide) (by decide)
  unfold paternosterlaw13_DriveHere.f
  rw [aw13 100 (by omega), may_f]
  simp only [Option.bind_some, if_true, show ((32 : Nat) : Int) = 32 from rfl, show ((8 : Nat) : Int) = 8 from rfl] at ef em ⊢
  rw [ef, em]
  by_cases c : 0 ≤ p ∧ p ≤ 248 ∧ -8 ≤ v ∧ v ≤ 8
  · obtain ⟨c1, c2, c3, c4⟩ := c
    rw [if_pos (decide_eq_true ⟨c1, c2, c3, c4⟩), wrap64_id (x := 8 * (f : Int)) (by omega) (by omega)]
    rw [Vel_f 99 (8 * (f : Int)) v 0 f m true (by omega) (by omega) (by omega) (by omega) c3 c4 hm1 hm, Option.bind_some]
    rw [Vel_f 99 p 0 0 f m true c1 c2 (by omega) (by omega) (by omega) (by omega) hm1 hm, Option.bind_some]
    rw [Way_f p v l f c1 c2 (by omega) (by omega), Option.bind_some, There_f (8 * (f : Int)) v 0 f (by omega) (by omega) (by omega) (by omega), Option.bind_some]
    have e0 : velTo (8 * (f : Int) - 8 * (f : Int)) v m true = (0, true) := by unfold velTo; rw [if_pos (.inr (by omega))]
    have e1 : velTo (8 * (f : Int) - p) 0 m true = (sg (8 * (f : Int) - p), sg (8 * (f : Int) - p) == 0) := by
      generalize 8 * (f : Int) - p = D
      unfold velTo
      by_cases d : D = 0
      · subst d; simp [sg]
      · have hs := sg_bd D
        rw [if_neg (by simp [d]), if_neg (by rw [show sg 0 = 0 from rfl]; omega), show (0 : Int).natAbs = 0 from rfl, nx_start _ m (by omega) hm1 hm]
        have : (sg D == 0) = false := beq_eq_false_iff_ne.2 (by omega)
        rw [this]; simp
    rw [e0, e1]
    simp
  · rw [if_neg (by rw [decide_eq_false c]; decide)]
end Go.Proofs.Ytmhgfghbbophlaa.Pure
