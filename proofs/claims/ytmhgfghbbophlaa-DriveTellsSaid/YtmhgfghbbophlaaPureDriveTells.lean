/- DriveTells: a car is driven as the reference drives it. No conditions. -/
import Derived.Test.YtmhgfghbbophlaaQx10
import Derived.Test.YtmhgfghbbophlaaAidRef
import Derived.Test.YtmhgfghbbophlaaAidDrive
namespace Go.Proofs.Ytmhgfghbbophlaa.Pure
open Go.RowKit Go.Proofs.Ytmhgfghbbophlaa.Q Go.Proofs.YtmhgfghbbophlaaW.PrintWords Go.Proofs.YtmhgfghbbophlaaW.PrintLast Aid
set_option linter.unusedVariables false
theorem size_f (a : Int) (h : -1000 ≤ a) (h' : a ≤ 1000) : paternosterref13_size.f a = some ((a.natAbs : Nat) : Int) := by
  unfold paternosterref13_size.f
  split
  · rw [wrap64_id (by omega) (by omega)]; congr 1; omega
  · congr 1; omega
theorem refWay_f (p v l f : Int) (h : 0 ≤ p) (h' : p ≤ 248) (g : 0 ≤ f) (g' : f ≤ 31) : paternosterref13_Way.f p v l f = some (sg (8 * f - p)) := by
  unfold paternosterref13_Way.f sg
  rw [wrap64_id (x := 8 * f) (by omega) (by omega)]
  by_cases a : 8 * f > p
  · rw [if_pos a, if_pos (show 8 * f - p > 0 by omega)]
  · rw [if_neg a, if_neg (show ¬ 8 * f - p > 0 by omega)]
    by_cases b : 8 * f < p
    · rw [if_pos b, if_pos (show 8 * f - p < 0 by omega)]
    · rw [if_neg b, if_neg (show ¬ 8 * f - p < 0 by omega)]
theorem refVel_f (k : Nat) (p v l f : Int) (m : Nat) (b : Bool) (h : 0 ≤ p) (h' : p ≤ 248) (g : 0 ≤ f) (g' : f ≤ 31) (q : -8 ≤ v) (q' : v ≤ 8) (hm : 1 ≤ m) (hm' : m ≤ 8) (hk : 30 ≤ k) :
    paternosterref13_Vel.f (k + 3) p v l f m b = some (velTo (8 * f - p) v m b) := by
  have hn : paternosterref06_Next.f k ((v.natAbs : Nat) : Int) (((8 * f - p).natAbs : Nat) : Int) m = some ((nx v.natAbs (8 * f - p).natAbs m : Nat) : Int) := by
    rw [← next_same k hk]; exact next_f _ _ m (by omega) (by omega) hm' hm
  have hle := nx_le v.natAbs (8 * f - p).natAbs m
  have hz : wrap64 (wrap64 (8 * f) - p) = 8 * f - p := by rw [wrap64_id (x := 8 * f) (by omega) (by omega), wrap64_id (by omega) (by omega)]
  have s1 := size_f v (by omega) (by omega)
  have s2 := size_f (8 * f - p) (by omega) (by omega)
  unfold paternosterref13_Vel.f velTo
  rw [refWay_f p v l f h h' g g', Option.bind_some]
  simp only [paternosterref13_Vel.j0, paternosterref13_Vel.j1, paternosterref13_Vel.j2, hz]
  generalize 8 * f - p = D at hn hle s2 ⊢
  have hsD := sg_bd D
  have hsv := sg_bd v
  cases b
  · simp
  · by_cases c : D = 0
    · subst c
      simp [sg]
    · have c1 : (sg D == 0) = false := beq_eq_false_iff_ne.2 (by omega)
      have c2 : ¬(true = false ∨ D = 0) := by simp [c]
      rw [if_neg c2]
      simp only [c1, if_true, Bool.false_eq_true, if_false]
      rw [s1, s2]
      simp only [Option.bind_some]
      rw [hn]
      simp only [Option.bind_some]
      have hw : wrap64 (sg D * ((nx v.natAbs D.natAbs m : Nat) : Int)) = sg D * ((nx v.natAbs D.natAbs m : Nat) : Int) := by
        rcases hsD with ⟨d, _⟩ | ⟨d, _⟩ | ⟨d, _⟩ <;> rw [d] <;> exact wrap64_id (by omega) (by omega)
      rw [hw, wrap64_id (x := v + 1) (by omega) (by omega), wrap64_id (x := v - 1) (by omega) (by omega)]
      by_cases up : sg D > 0
      · rw [if_pos up, if_neg (show ¬ sg D < 0 by omega)]
        by_cases w : v < 0
        · rw [decide_eq_true w, if_pos rfl, if_pos (show sg v = -sg D by omega), show v + 1 = v - sg v by omega]
        · rw [decide_eq_false w, if_neg (show ¬ sg v = -sg D by omega)]
          simp
      · rw [if_neg up, if_pos (show sg D < 0 by omega)]
        by_cases w : v > 0
        · rw [decide_eq_true w, if_pos (show sg v = -sg D by omega), show v - 1 = v - sg v by omega]
          simp
        · rw [decide_eq_false w, if_neg (show ¬ sg v = -sg D by omega)]
          simp
theorem refWhat_f (k : Nat) (p v l a : Int) (b : Bool) (q : -8 ≤ v) (q' : v ≤ 8) (r : -100 ≤ a) (r' : a ≤ 100) : paternosterref13_What.f (k + 1) p v l a b = some (whatTo v a b) := by
  unfold paternosterref13_What.f whatTo
  simp only [paternosterref13_What.j0]
  rw [size_f a (by omega) (by omega), size_f v (by omega) (by omega)]
  simp only [Option.bind_some]
  cases b
  · by_cases c : a = 0
    · subst c; simp
    · have c1 : (a == 0) = false := beq_eq_false_iff_ne.2 c
      rw [if_neg (show ¬ false = true by decide), c1, if_neg (show ¬ false = true by decide), if_neg (show ¬(false = true ∨ a = 0) by simp [c])]
      by_cases e : v.natAbs < a.natAbs
      · rw [if_pos (show ((a.natAbs : Nat) : Int) > ((v.natAbs : Nat) : Int) by omega), if_pos e]
      · rw [if_neg (show ¬ ((a.natAbs : Nat) : Int) > ((v.natAbs : Nat) : Int) by omega), if_neg e]
        by_cases e2 : a.natAbs < v.natAbs
        · rw [if_pos (show ((a.natAbs : Nat) : Int) < ((v.natAbs : Nat) : Int) by omega), if_pos e2]
        · rw [if_neg (show ¬ ((a.natAbs : Nat) : Int) < ((v.natAbs : Nat) : Int) by omega), if_neg e2]
  · simp
theorem DriveTells : paternosterlaw13_DriveTells.Pure := by
  intro p v l a1 a2 b a4 b5 _ _ _ h1 h2 _
  refine ⟨104, ?_⟩
  obtain ⟨f, hf, ef⟩ := rest a1 32 (u8 h1).1 (by decide) (by decide)
  obtain ⟨m, hm1, hm, em⟩ := rest1 a2 8 (u8 h2).1 (by decide) (by decide)
  unfold paternosterlaw13_DriveTells.f
  rw [aw13 104 (by omega), may_f]
  simp only [Option.bind_some, if_true, show ((32 : Nat) : Int) = 32 from rfl, show ((8 : Nat) : Int) = 8 from rfl] at ef em ⊢
  by_cases c : 0 ≤ p ∧ p ≤ 248 ∧ -8 ≤ v ∧ v ≤ 8
  · rw [if_pos (decide_eq_true c)]
    obtain ⟨c1, c2, c3, c4⟩ := c
    by_cases d : a4 > 100
    · rw [if_pos d]; simp [paternosterlaw13_DriveTells.j0]
    · rw [if_neg d]
      by_cases d2 : a4 < -100
      · rw [decide_eq_true d2]; simp [paternosterlaw13_DriveTells.j0]
      · rw [decide_eq_false d2, paternosterlaw13_DriveTells.j0, if_neg (by decide), ef, em]
        have r1 := Vel_f 102 p v l f m b c1 c2 (by omega) (by omega) c3 c4 hm1 hm
        have r2 := refVel_f 100 p v l f m b c1 c2 (by omega) (by omega) c3 c4 hm1 hm (by omega)
        have r3 := What_f 102 p v l a4 b5 c3 c4 (by omega) (by omega)
        have r4 := refWhat_f 102 p v l a4 b5 c3 c4 (by omega) (by omega)
        have r5 := Way_f p v l f c1 c2 (by omega) (by omega)
        have r6 := refWay_f p v l f c1 c2 (by omega) (by omega)
        generalize velTo (8 * (f : Int) - p) v m b = V at r1 r2
        generalize whatTo v a4 b5 = W at r3 r4
        generalize sg (8 * (f : Int) - p) = X at r5 r6
        have o : paternosterlaw13_of.f p v l = some (p, v, l) := rfl
        have r2' : paternosterref13_Vel.f 103 (p, v, l).1 (p, v, l).2.1 (p, v, l).2.2 f m b = some V := r2
        have r4' : paternosterref13_What.f 103 (p, v, l).1 (p, v, l).2.1 (p, v, l).2.2 a4 b5 = some W := r4
        have r6' : paternosterref13_Way.f (p, v, l).1 (p, v, l).2.1 (p, v, l).2.2 f = some X := r6
        rw [r1, Option.bind_some, o, Option.bind_some, r2', Option.bind_some, if_pos (Eq.refl V.1), if_pos (beq_self_eq_true V.2)]
        rw [r3, Option.bind_some, Option.bind_some, r4', Option.bind_some, if_pos (Eq.refl W)]
        rw [r5, Option.bind_some, Option.bind_some, r6', Option.bind_some, if_pos (Eq.refl X)]
        rw [There_f p v l f c1 c2 (by omega) (by omega), Option.bind_some, wrap64_id (x := 8 * (f : Int)) (by omega) (by omega)]
        have e : (8 * (f : Int) - p == 0) = (p == 8 * (f : Int)) := by rw [Bool.eq_iff_iff, beq_iff_eq, beq_iff_eq]; omega
        rw [e]
        split
        · rename_i hv
          simp [hv]
        · rename_i hv
          have : (v == 0) = false := beq_eq_false_iff_ne.2 hv
          simp [this]
  · rw [if_neg (by rw [decide_eq_false c]; decide)]; simp [paternosterlaw13_DriveTells.j0]
end Go.Proofs.Ytmhgfghbbophlaa.Pure
