/- How a car is driven, told by its way and its speed. No conditions. -/
import Derived.Test.YtmhgfghbbophlaaQx7
import Derived.Test.YtmhgfghbbophlaaAidMore
namespace Go.Proofs.Ytmhgfghbbophlaa.Aid
open Go.RowKit Go.Proofs.Ytmhgfghbbophlaa.Q Go.Proofs.YtmhgfghbbophlaaW.PrintWords Go.Proofs.YtmhgfghbbophlaaW.PrintLast Plan
def sg (x : Int) : Int := if x > 0 then 1 else if x < 0 then -1 else 0
theorem sign_f (a : Int) (h : -1000 ≤ a) (h' : a ≤ 1000) : drive_sign_int.f a = some (sg a, ((a.natAbs : Nat) : Int)) := by
  unfold drive_sign_int.f sg
  (repeat' split)
  · rw [show ((a.natAbs : Nat) : Int) = a by omega]
  · rw [wrap64_id (by omega) (by omega), show ((a.natAbs : Nat) : Int) = -a by omega]
  · rw [show ((a.natAbs : Nat) : Int) = 0 by omega]
theorem way_f (p v l f : Int) (h : 0 ≤ p) (h' : p ≤ 248) (g : 0 ≤ f) (g' : f ≤ 31) : drive_way.f p v l f = some (8 * f - p) := by
  unfold drive_way.f
  rw [wrap64_id (x := f * 8) (by omega) (by omega), wrap64_id (by omega) (by omega), Int.mul_comm]
theorem Way_f (p v l f : Int) (h : 0 ≤ p) (h' : p ≤ 248) (g : 0 ≤ f) (g' : f ≤ 31) : drive_Way.f p v l f = some (sg (8 * f - p)) := by
  unfold drive_Way.f
  rw [way_f p v l f h h' g g', Option.bind_some, sign_f _ (by omega) (by omega), Option.bind_some]
theorem There_f (p v l f : Int) (h : 0 ≤ p) (h' : p ≤ 248) (g : 0 ≤ f) (g' : f ≤ 31) : drive_There.f p v l f = some (8 * f - p == 0 && v == 0) := by
  unfold drive_There.f
  rw [way_f p v l f h h' g g', Option.bind_some]
  by_cases c : 8 * f - p = 0
  · rw [if_pos c, c]; simp
  · rw [if_neg c, beq_eq_false_iff_ne.2 c]; simp
/-- How fast it should go, and whether it is braked. -/
def velTo (D v : Int) (m : Nat) (g : Bool) : Int × Bool :=
  if g = false ∨ D = 0 then (0, true) else if sg v = -sg D then (v - sg v, false) else (sg D * ((nx v.natAbs D.natAbs m : Nat) : Int), ((nx v.natAbs D.natAbs m : Nat) : Int) == 0)
theorem sg_bd (x : Int) : sg x = 1 ∧ 0 < x ∨ sg x = -1 ∧ x < 0 ∨ sg x = 0 ∧ x = 0 := by
  unfold sg; (repeat' split) <;> omega
theorem nx_le (s l m : Nat) : nx s l m ≤ m := by
  unfold nx; (repeat' split) <;> omega
theorem Vel_f (k : Nat) (p v l f : Int) (m : Nat) (b : Bool) (h : 0 ≤ p) (h' : p ≤ 248) (g : 0 ≤ f) (g' : f ≤ 31) (q : -8 ≤ v) (q' : v ≤ 8) (hm : 1 ≤ m) (hm' : m ≤ 8) :
    drive_Vel.f (k + 1) p v l f m b = some (velTo (8 * f - p) v m b) := by
  have hn : plan_Next.f ((v.natAbs : Nat) : Int) (((8 * f - p).natAbs : Nat) : Int) m = some ((nx v.natAbs (8 * f - p).natAbs m : Nat) : Int) := next_f _ _ m (by omega) (by omega) hm' hm
  have hle := nx_le v.natAbs (8 * f - p).natAbs m
  unfold drive_Vel.f velTo
  rw [way_f p v l f h h' g g', Option.bind_some, sign_f (8 * f - p) (by omega) (by omega), Option.bind_some, sign_f v (by omega) (by omega), Option.bind_some]
  generalize 8 * f - p = D at hn hle ⊢
  have hsD := sg_bd D
  have hsv := sg_bd v
  cases b
  · simp [drive_Vel.j0]
  · by_cases c : D = 0
    · subst c
      simp [drive_Vel.j0, sg]
    · have c1 : (sg D == 0) = false := beq_eq_false_iff_ne.2 (by omega)
      simp only [c1, if_true, drive_Vel.j0, Bool.false_eq_true, if_false, c, or_self, reduceCtorEq]
      rw [wrap64_id (x := -sg D) (by omega) (by omega)]
      by_cases e : sg v = -sg D
      · rw [if_pos e, if_pos e, wrap64_id (by omega) (by omega)]
      · rw [if_neg e, if_neg e, hn, Option.bind_some]
        have : wrap64 (sg D * ((nx v.natAbs D.natAbs m : Nat) : Int)) = sg D * ((nx v.natAbs D.natAbs m : Nat) : Int) := by
          rcases hsD with ⟨d, _⟩ | ⟨d, _⟩ | ⟨d, _⟩ <;> rw [d] <;> exact wrap64_id (by omega) (by omega)
        rw [this]
/-- What a car does, by how fast it should go. -/
def whatTo (v a : Int) (b : Bool) : Int := if b = true ∨ a = 0 then 0 else if v.natAbs < a.natAbs then 1 else if a.natAbs < v.natAbs then 3 else 2
theorem What_f (k : Nat) (p v l a : Int) (b : Bool) (q : -8 ≤ v) (q' : v ≤ 8) (r : -100 ≤ a) (r' : a ≤ 100) : drive_What.f (k + 1) p v l a b = some (whatTo v a b) := by
  unfold drive_What.f whatTo
  rw [sign_f v (by omega) (by omega), Option.bind_some, sign_f a (by omega) (by omega), Option.bind_some]
  cases b
  · by_cases c : a = 0
    · subst c; simp [drive_What.j0]
    · have c1 : (((a.natAbs : Nat) : Int) == 0) = false := beq_eq_false_iff_ne.2 (by omega)
      simp only [c1, drive_What.j0, Bool.false_eq_true, if_false, c, or_self]
      by_cases e : v.natAbs < a.natAbs
      · rw [if_pos (by omega), if_pos e]
      · rw [if_neg (by omega), if_neg e]
        by_cases e2 : a.natAbs < v.natAbs
        · rw [if_pos (by omega), if_pos e2]
        · rw [if_neg (by omega), if_neg e2]
  · simp [drive_What.j0]
theorem aw13 (k : Nat) (hk : 30 ≤ k) : paternosterlaw13_awake.f k = some true := by
  have h : paternosterlaw13_awake.f 30 = some true := by decide +kernel
  obtain ⟨d, rfl⟩ : ∃ d, k = 30 + d := ⟨k - 30, by omega⟩
  clear hk
  induction d with
  | zero => exact h
  | succ d ih => exact paternosterlaw13_awake.mono (30 + d) true ih
theorem may_f (p v l : Int) : paternosterlaw13_may.f p v l = some (decide (0 ≤ p ∧ p ≤ 248 ∧ -8 ≤ v ∧ v ≤ 8)) := by
  unfold paternosterlaw13_may.f
  (repeat' split) <;> refine congrArg some ?_
  · exact decide_eq_decide.2 (by omega)
  all_goals exact (decide_eq_false (by omega)).symm
end Go.Proofs.Ytmhgfghbbophlaa.Aid
