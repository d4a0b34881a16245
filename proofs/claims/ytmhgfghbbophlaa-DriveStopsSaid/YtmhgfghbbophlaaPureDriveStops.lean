/- DriveStops: without leave a car is braked at once; one that goes the other way slows down first. No conditions. -/
import Derived.Test.YtmhgfghbbophlaaQx13
import Derived.Test.YtmhgfghbbophlaaAidDrive
namespace Go.Proofs.Ytmhgfghbbophlaa.Pure
open Go.RowKit Go.Proofs.Ytmhgfghbbophlaa.Q Go.Proofs.YtmhgfghbbophlaaW.PrintWords Go.Proofs.YtmhgfghbbophlaaW.PrintLast Aid
theorem less_up : ∀ n : Nat, n < 8 → ((n : Int)) * (n : Int) < ((n : Int) + 1) * ((n : Int) + 1) := by decide
theorem sq_bd (x : Int) (h : -8 ≤ x) (h' : x ≤ 8) : 0 ≤ x * x ∧ x * x ≤ 64 := by
  rcases Int.le_total 0 x with c | c
  · exact ⟨Int.mul_nonneg c c, Int.le_trans (Int.mul_le_mul h' h' c (by omega)) (by omega)⟩
  · have e : x * x = (-x) * (-x) := by rw [Int.neg_mul_neg]
    rw [e]
    exact ⟨Int.mul_nonneg (by omega) (by omega), Int.le_trans (Int.mul_le_mul (show -x ≤ 8 by omega) (show -x ≤ 8 by omega) (by omega) (by omega)) (by omega)⟩
theorem sq_less (v : Int) (h : 0 < v) : (v - 1) * (v - 1) < v * v := by
  have e : (v - 1) * (v - 1) = v * v - v - v + 1 := by rw [Int.sub_mul, Int.mul_sub, Int.mul_one, Int.one_mul]; omega
  omega
theorem sq_less' (v : Int) (h : v < 0) : (v + 1) * (v + 1) < v * v := by
  have e : (v + 1) * (v + 1) = v * v + v + v + 1 := by rw [Int.add_mul, Int.mul_add, Int.mul_one, Int.one_mul]; omega
  omega
/-- What is left to show, once braked without leave. -/
theorem stops_end (k : Nat) (D v p l : Int) (m : Nat) (hm : m ≤ 8) (q : -8 ≤ v) (q' : v ≤ 8) :
    paternosterlaw13_DriveStops.j0 (k + 1) (velTo D v m true).1 (velTo D v m true).2 (sg D) false p v l = some true := by
  have hle := nx_le v.natAbs D.natAbs m
  have hD := sg_bd D
  have hv := sg_bd v
  have hsq := sq_bd v q q'
  rw [paternosterlaw13_DriveStops.j0, if_neg (by decide)]
  rcases hD with ⟨d, hd⟩ | ⟨d, hd⟩ | ⟨d, hd⟩
  · have e : wrap64 (sg D * v) = v := by rw [d, Int.one_mul]; exact wrap64_id (by omega) (by omega)
    rw [e]
    by_cases c : v < 0
    · have w : velTo D v m true = (v + 1, false) := by
        unfold velTo
        rw [if_neg (show ¬(true = false ∨ D = 0) by simp; omega), if_pos (show sg v = -sg D by omega), show v - sg v = v + 1 by omega]
      have s := sq_less' v c
      have sb := sq_bd (v + 1) (by omega) (by omega)
      rw [w, if_pos c]
      simp only [Bool.false_eq_true, if_false]
      rw [d, Int.mul_one, wrap64_id (x := v + 1) (by omega) (by omega), if_pos (by omega), wrap64_id (x := (v + 1) * (v + 1)) (by omega) (by omega), wrap64_id (x := v * v) (by omega) (by omega)]
      exact congrArg some (decide_eq_true s)
    · have w : velTo D v m true = (((nx v.natAbs D.natAbs m : Nat) : Int), ((nx v.natAbs D.natAbs m : Nat) : Int) == 0) := by
        unfold velTo
        rw [if_neg (show ¬(true = false ∨ D = 0) by simp; omega), if_neg (show ¬ sg v = -sg D by omega), d, Int.one_mul]
      rw [w, if_neg c, d, Int.mul_one, wrap64_id (by omega) (by omega), if_pos (by omega), if_neg (by decide)]
  · have e : wrap64 (sg D * v) = -v := by rw [d, Int.neg_mul, Int.one_mul]; exact wrap64_id (by omega) (by omega)
    rw [e]
    by_cases c : -v < 0
    · have w : velTo D v m true = (v - 1, false) := by
        unfold velTo
        rw [if_neg (show ¬(true = false ∨ D = 0) by simp; omega), if_pos (show sg v = -sg D by omega), show v - sg v = v - 1 by omega]
      have s := sq_less v (by omega)
      have sb := sq_bd (v - 1) (by omega) (by omega)
      rw [w, if_pos c]
      simp only [Bool.false_eq_true, if_false]
      rw [d, Int.mul_neg, Int.mul_one, wrap64_id (x := -(v - 1)) (by omega) (by omega), if_pos (by omega), wrap64_id (x := (v - 1) * (v - 1)) (by omega) (by omega), wrap64_id (x := v * v) (by omega) (by omega)]
      exact congrArg some (decide_eq_true s)
    · have w : velTo D v m true = (-((nx v.natAbs D.natAbs m : Nat) : Int), ((nx v.natAbs D.natAbs m : Nat) : Int) == 0) := by
        unfold velTo
        rw [if_neg (show ¬(true = false ∨ D = 0) by simp; omega), if_neg (show ¬ sg v = -sg D by omega), d, Int.neg_mul, Int.one_mul]
      rw [w, if_neg c, d, Int.neg_mul_neg, Int.mul_one, wrap64_id (by omega) (by omega), if_pos (by omega), if_neg (by decide)]
  · have w : velTo D v m true = (0, true) := by
      unfold velTo
      rw [if_pos (.inr hd)]
    rw [w, d, Int.zero_mul, wrap64_id (x := 0) (by omega) (by omega)]
    simp [wrap64_id (x := 0) (by omega) (by omega)]
theorem DriveStops : paternosterlaw13_DriveStops.Pure := by
  intro p v l a1 a2 _ _ _ h1 h2
  refine ⟨101, ?_⟩
  obtain ⟨f, hf, ef⟩ := rest a1 32 (u8 h1).1 (by decide) (by decide)
  obtain ⟨m, hm1, hm, em⟩ := rest1 a2 8 (u8 h2).1 (by decide) (by decide)
  unfold paternosterlaw13_DriveStops.f
  rw [aw13 101 (by omega), may_f]
  simp only [Option.bind_some, if_true, show ((32 : Nat) : Int) = 32 from rfl, show ((8 : Nat) : Int) = 8 from rfl] at ef em ⊢
  rw [ef, em]
  by_cases c : 0 ≤ p ∧ p ≤ 248 ∧ -8 ≤ v ∧ v ≤ 8
  · rw [if_pos (decide_eq_true c)]
    obtain ⟨c1, c2, c3, c4⟩ := c
    have r1 := Vel_f 100 p v l f m false c1 c2 (by omega) (by omega) c3 c4 hm1 hm
    have r2 := Vel_f 100 p v l f m true c1 c2 (by omega) (by omega) c3 c4 hm1 hm
    have r3 := Way_f p v l f c1 c2 (by omega) (by omega)
    have e1 : velTo (8 * (f : Int) - p) v m false = (0, true) := by unfold velTo; rw [if_pos (.inl rfl)]
    rw [e1] at r1
    have r4 : car_Car_Step.f p v l (0, true).1 (0, true).2 32 = some (p, 0, l) := rfl
    have hend := stops_end 100 (8 * (f : Int) - p) v p l m hm c3 c4
    generalize velTo (8 * (f : Int) - p) v m true = V at r2 hend
    generalize sg (8 * (f : Int) - p) = X at r3 hend
    rw [r1, Option.bind_some, r2, Option.bind_some, r3, Option.bind_some, if_pos rfl, if_pos rfl, r4, Option.bind_some]
    exact hend
  · rw [if_neg (by rw [decide_eq_false c]; decide)]
end Go.Proofs.Ytmhgfghbbophlaa.Pure
