/- DriveMirror: downwards a car is driven as upwards, the other way round. No conditions. -/
import Derived.Test.YtmhgfghbbophlaaQx11
import Derived.Test.YtmhgfghbbophlaaAidDrive
namespace Go.Proofs.Ytmhgfghbbophlaa.Pure
open Go.RowKit Go.Proofs.Ytmhgfghbbophlaa.Q Go.Proofs.YtmhgfghbbophlaaW.PrintWords Go.Proofs.YtmhgfghbbophlaaW.PrintLast Aid
theorem sg_neg (x : Int) : sg (-x) = -sg x := by unfold sg; (repeat' split) <;> omega
theorem vel_neg (D v : Int) (m : Nat) : velTo (-D) (-v) m true = (-(velTo D v m true).1, (velTo D v m true).2) := by
  unfold velTo
  rw [sg_neg, sg_neg, Int.natAbs_neg, Int.natAbs_neg]
  by_cases c : D = 0
  · simp [c]
  · rw [if_neg (show ¬(true = false ∨ -D = 0) by simp [c]), if_neg (show ¬(true = false ∨ D = 0) by simp [c])]
    by_cases d : sg v = -sg D
    · rw [if_pos (show -sg v = -(-sg D) by omega), if_pos d]
      exact Prod.ext (show -v - -sg v = -(v - sg v) by omega) rfl
    · rw [if_neg (show ¬(-sg v = -(-sg D)) by omega), if_neg d]
      exact Prod.ext (Int.neg_mul _ _) rfl
theorem vel_bd (D v : Int) (m : Nat) (hm : m ≤ 8) (q : -8 ≤ v) (q' : v ≤ 8) : -100 ≤ (velTo D v m true).1 ∧ (velTo D v m true).1 ≤ 100 := by
  have hle := nx_le v.natAbs D.natAbs m
  have hD := sg_bd D
  have hv := sg_bd v
  unfold velTo
  (repeat' split)
  · simp
  · simp; omega
  · rcases hD with ⟨d, _⟩ | ⟨d, _⟩ | ⟨d, _⟩ <;> rw [d] <;> simp <;> omega
theorem what_neg (v a : Int) (b : Bool) : whatTo (-v) (-a) b = whatTo v a b := by
  unfold whatTo; simp only [Int.natAbs_neg, Int.neg_eq_zero]
theorem DriveMirror : paternosterlaw13_DriveMirror.Pure := by
  intro a0 v a2 a3 h0 hv h2 h3
  refine ⟨101, ?_⟩
  obtain ⟨p, hp, ep⟩ := rest a0 249 (u8 h0).1 (by decide) (by decide)
  obtain ⟨f, hf, ef⟩ := rest a2 32 (u8 h2).1 (by decide) (by decide)
  obtain ⟨m, hm1, hm, em⟩ := rest1 a3 8 (u8 h3).1 (by decide) (by decide)
  unfold paternosterlaw13_DriveMirror.f
  rw [aw13 101 (by omega)]
  simp only [Option.bind_some, if_true, show ((32 : Nat) : Int) = 32 from rfl, show ((249 : Nat) : Int) = 249 from rfl, show ((8 : Nat) : Int) = 8 from rfl] at ef em ep ⊢
  by_cases c1 : v < -8
  · rw [if_pos c1]; simp [paternosterlaw13_DriveMirror.j0]
  · rw [if_neg c1]
    by_cases c2 : v > 8
    · rw [decide_eq_true c2]; simp [paternosterlaw13_DriveMirror.j0]
    · rw [decide_eq_false c2, paternosterlaw13_DriveMirror.j0, if_neg (by decide), ep, ef, em]
      rw [wrap64_id (x := 248 - (p : Int)) (by omega) (by omega), wrap64_id (x := -v) (by omega) (by omega), wrap64_id (x := 31 - (f : Int)) (by omega) (by omega)]
      have eD : 8 * (31 - (f : Int)) - (248 - (p : Int)) = -(8 * (f : Int) - (p : Int)) := by omega
      rw [Vel_f 99 p v 0 f m true (by omega) (by omega) (by omega) (by omega) (by omega) (by omega) hm1 hm, Option.bind_some]
      rw [Vel_f 99 (248 - (p : Int)) (-v) 0 (31 - (f : Int)) m true (by omega) (by omega) (by omega) (by omega) (by omega) (by omega) hm1 hm, Option.bind_some, eD, vel_neg]
      have hb := vel_bd (8 * (f : Int) - p) v m hm (by omega) (by omega)
      rw [Way_f p v 0 f (by omega) (by omega) (by omega) (by omega), Way_f (248 - (p : Int)) (-v) 0 (31 - (f : Int)) (by omega) (by omega) (by omega) (by omega), There_f p v 0 f (by omega) (by omega) (by omega) (by omega), There_f (248 - (p : Int)) (-v) 0 (31 - (f : Int)) (by omega) (by omega) (by omega) (by omega), eD, sg_neg]
      have hs := sg_bd (8 * (f : Int) - p)
      simp only [Option.bind_some]
      rw [What_f 99 p v 0 _ _ (by omega) (by omega) hb.1 hb.2, What_f 99 (248 - (p : Int)) (-v) 0 _ _ (by omega) (by omega) (by omega) (by omega), what_neg]
      generalize 8 * (f : Int) - (p : Int) = D at hb hs ⊢
      rw [wrap64_id (x := -(-(velTo D v m true).1)) (by omega) (by omega), wrap64_id (x := -(-sg D)) (by omega) (by omega)]
      simp only [Int.neg_neg, if_true, beq_self_eq_true, Option.bind_some]
      have hth : (D == 0 && v == 0) = (-D == 0 && -v == 0) := by
        have e1 : (D == 0) = (-D == 0) := by rw [Bool.eq_iff_iff, beq_iff_eq, beq_iff_eq]; omega
        have e2 : (v == 0) = (-v == 0) := by rw [Bool.eq_iff_iff, beq_iff_eq, beq_iff_eq]; omega
        rw [e1, e2]
      rw [hth]
      simp
end Go.Proofs.Ytmhgfghbbophlaa.Pure
