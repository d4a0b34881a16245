-- Written by a program of this session (turned from the kit's print.py) out of the translation. Not trusted: Lean checks it.
import Derived.Test.YtmhgfghbbophlaaQx0
import Derived.Test.YtmhgfghbbophlaaQx1
import Derived.Test.YtmhgfghbbophlaaQx6
import Derived.Test.YtmhgfghbbophlaaQx7
import Derived.Test.YtmhgfghbbophlaaQx13
namespace Go.Proofs.Ytmhgfghbbophlaa.Q
open Go.RowKit Go.Proofs.YtmhgfghbbophlaaW.PrintWords Go.Proofs.YtmhgfghbbophlaaW.PrintLast Go.Proofs.YtmhgfghbbophlaaW.PrintMore
attribute [local go_sem] max2_int min2_int max_two min_two max_three min_three max_four min_four   -- for this text's walks alone
set_option linter.unusedVariables false
set_option linter.unusedSimpArgs false

attribute [local go_sem] fld32_0 fld32_1 fld32_2 fld37_0 fld37_1 fld37_2
/-! ### paternosterlaw13_DriveComes: function 13 -/
mutual
def paternosterlaw13_DriveComes.j0 : Nat → Int → Int → Int → Int → Int → Int → Int → Int → Option (Bool)
  | 0, _, _, _, _, _, _, _, _ => none
  | k + 1, x10, x12, x13, x14, x15, x246000, x246001, x246002 => paternosterlaw13_DriveComes.l0 k x10 x12 x13 x14 x15 0 x246000 x246001 x246002
def paternosterlaw13_DriveComes.l0 : Nat → Int → Int → Int → Int → Int → Int → Int → Int → Int → Option (Bool)
  | 0, _, _, _, _, _, _, _, _, _ => none
  | k + 1, x10, x12, x13, x14, x15, x16, x246000, x246001, x246002 => if x16 ≤ (wrap64 (x15 + 1)) then ((drive_There.f x246000 x246001 x246002 x12).bind fun t247 => (paternosterlaw13_DriveComes.j2 k x10 x12 x13 x14 x15 x16 (!t247) x246000 x246001 x246002)) else (paternosterlaw13_DriveComes.j2 k x10 x12 x13 x14 x15 x16 false x246000 x246001 x246002)
def paternosterlaw13_DriveComes.j2 : Nat → Int → Int → Int → Int → Int → Int → Bool → Int → Int → Int → Option (Bool)
  | 0, _, _, _, _, _, _, _, _, _, _ => none
  | k + 1, x10, x12, x13, x14, x15, x16, x64, x246000, x246001, x246002 => if x64 = true then ((drive_Vel.f k x246000 x246001 x246002 x12 x13 true).bind fun bt250 => (if (wrap64 (bt250.1 * x14)) < 0 then (paternosterlaw13_DriveComes.j3 k x10 x12 x13 x14 x15 x16 bt250.1 bt250.2 true x246000 x246001 x246002) else (paternosterlaw13_DriveComes.j3 k x10 x12 x13 x14 x15 x16 bt250.1 bt250.2 (decide ((wrap64 (bt250.1 * x14)) > x13)) x246000 x246001 x246002))) else ((plan_Ticks.f k x15 x13).bind fun t248 => ((drive_There.f x246000 x246001 x246002 x12).bind fun t249 => (if t249 = true then (if x16 ≤ (wrap64 (t248 + 1)) then (if x16 ≥ t248 then (if x15 > 0 then (some true) else (some (x16 == 0))) else (some false)) else (some false)) else (some false))))
def paternosterlaw13_DriveComes.j3 : Nat → Int → Int → Int → Int → Int → Int → Int → Bool → Bool → Int → Int → Int → Option (Bool)
  | 0, _, _, _, _, _, _, _, _, _, _, _, _ => none
  | k + 1, x10, x12, x13, x14, x15, x16, x17, x18, x82, x246000, x246001, x246002 => if x82 = true then (some false) else ((car_Car_Step.f x246000 x246001 x246002 x17 x18 x10).bind fun bt253 => (if x18 = true then (if (wrap64 ((wrap64 (bt253.1 - x246000)) * x14)) < 0 then (some false) else (paternosterlaw13_DriveComes.l0 k x10 x12 x13 x14 x15 (wrap64 (x16 + 1)) bt253.1 bt253.2.1 bt253.2.2)) else (if bt253.2.1 = x17 then (if (wrap64 ((wrap64 (bt253.1 - x246000)) * x14)) < 0 then (some false) else (paternosterlaw13_DriveComes.l0 k x10 x12 x13 x14 x15 (wrap64 (x16 + 1)) bt253.1 bt253.2.1 bt253.2.2)) else (some false))))
end
def paternosterlaw13_DriveComes.f (k : Nat) (a0 : Int) (a1 : Int) (a2 : Int) (a3 : Int) : Option (Bool) := (paternosterlaw13_awake.f k).bind fun t244 => (if t244 = true then (if (wrap64 ((wrap64 (8 * (wrap64 ((wrap64 (Int.tmod a2 31)) + 2)))) - 7)) = 0 then (none) else (if (wrap64 ((wrap64 (Int.tmod a2 31)) + 2)) = 0 then (none) else ((drive_Way.f (Int.tmod (wrap64 (a0)) (wrap64 ((wrap64 (8 * (wrap64 ((wrap64 (Int.tmod a2 31)) + 2)))) - 7))) 0 0 (Int.tmod (wrap64 (a1)) (wrap64 ((wrap64 (Int.tmod a2 31)) + 2)))).bind fun t246 => (if (wrap64 ((wrap64 (8 * (Int.tmod (wrap64 (a1)) (wrap64 ((wrap64 (Int.tmod a2 31)) + 2))))) - (Int.tmod (wrap64 (a0)) (wrap64 ((wrap64 (8 * (wrap64 ((wrap64 (Int.tmod a2 31)) + 2)))) - 7))))) < 0 then (paternosterlaw13_DriveComes.j0 k (wrap64 ((wrap64 (Int.tmod a2 31)) + 2)) (Int.tmod (wrap64 (a1)) (wrap64 ((wrap64 (Int.tmod a2 31)) + 2))) (wrap64 ((wrap64 (Int.tmod a3 8)) + 1)) t246 (wrap64 (-(wrap64 ((wrap64 (8 * (Int.tmod (wrap64 (a1)) (wrap64 ((wrap64 (Int.tmod a2 31)) + 2))))) - (Int.tmod (wrap64 (a0)) (wrap64 ((wrap64 (8 * (wrap64 ((wrap64 (Int.tmod a2 31)) + 2)))) - 7))))))) (Int.tmod (wrap64 (a0)) (wrap64 ((wrap64 (8 * (wrap64 ((wrap64 (Int.tmod a2 31)) + 2)))) - 7))) 0 0) else (paternosterlaw13_DriveComes.j0 k (wrap64 ((wrap64 (Int.tmod a2 31)) + 2)) (Int.tmod (wrap64 (a1)) (wrap64 ((wrap64 (Int.tmod a2 31)) + 2))) (wrap64 ((wrap64 (Int.tmod a3 8)) + 1)) t246 (wrap64 ((wrap64 (8 * (Int.tmod (wrap64 (a1)) (wrap64 ((wrap64 (Int.tmod a2 31)) + 2))))) - (Int.tmod (wrap64 (a0)) (wrap64 ((wrap64 (8 * (wrap64 ((wrap64 (Int.tmod a2 31)) + 2)))) - 7))))) (Int.tmod (wrap64 (a0)) (wrap64 ((wrap64 (8 * (wrap64 ((wrap64 (Int.tmod a2 31)) + 2)))) - 7))) 0 0))))) else (some false))
theorem paternosterlaw13_DriveComes.mono_l : ∀ k, (∀ y0 y1 y2 y3 y4 y5 y6 y7, LeO (paternosterlaw13_DriveComes.j0 k y0 y1 y2 y3 y4 y5 y6 y7) (paternosterlaw13_DriveComes.j0 (k + 1) y0 y1 y2 y3 y4 y5 y6 y7)) ∧ (∀ y0 y1 y2 y3 y4 y5 y6 y7 y8, LeO (paternosterlaw13_DriveComes.l0 k y0 y1 y2 y3 y4 y5 y6 y7 y8) (paternosterlaw13_DriveComes.l0 (k + 1) y0 y1 y2 y3 y4 y5 y6 y7 y8)) ∧ (∀ y0 y1 y2 y3 y4 y5 y6 y7 y8 y9, LeO (paternosterlaw13_DriveComes.j2 k y0 y1 y2 y3 y4 y5 y6 y7 y8 y9) (paternosterlaw13_DriveComes.j2 (k + 1) y0 y1 y2 y3 y4 y5 y6 y7 y8 y9)) ∧ (∀ y0 y1 y2 y3 y4 y5 y6 y7 y8 y9 y10 y11, LeO (paternosterlaw13_DriveComes.j3 k y0 y1 y2 y3 y4 y5 y6 y7 y8 y9 y10 y11) (paternosterlaw13_DriveComes.j3 (k + 1) y0 y1 y2 y3 y4 y5 y6 y7 y8 y9 y10 y11))
  | 0 => ⟨fun _ _ _ _ _ _ _ _ r h => by simp [paternosterlaw13_DriveComes.j0] at h, fun _ _ _ _ _ _ _ _ _ r h => by simp [paternosterlaw13_DriveComes.l0] at h, fun _ _ _ _ _ _ _ _ _ _ r h => by simp [paternosterlaw13_DriveComes.j2] at h, fun _ _ _ _ _ _ _ _ _ _ _ _ r h => by simp [paternosterlaw13_DriveComes.j3] at h⟩
  | k + 1 => by
    obtain ⟨ih0, ih1, ih2, ih3⟩ := paternosterlaw13_DriveComes.mono_l k
    refine ⟨?_, ?_, ?_, ?_⟩
    · intro y0 y1 y2 y3 y4 y5 y6 y7
      unfold paternosterlaw13_DriveComes.j0
      repeat' first
      | (with_reducible exact ih0 _ _ _ _ _ _ _ _)
      | (with_reducible exact ih1 _ _ _ _ _ _ _ _ _)
      | (with_reducible exact ih2 _ _ _ _ _ _ _ _ _ _)
      | (with_reducible exact ih3 _ _ _ _ _ _ _ _ _ _ _ _)
      | (with_reducible exact drive_Vel.mono _ _ _ _ _ _ _)
      | (with_reducible exact paternosterlaw13_awake.mono _)
      | (with_reducible exact plan_Ticks.mono _ _ _)
      | (with_reducible exact LeO.refl _)
      | (with_reducible exact LeO.none _)
      | (with_reducible refine LeO.ite ?_ ?_)
      | (with_reducible refine LeO.bind ?_ (fun _ => ?_))
      | exact ih0 _ _ _ _ _ _ _ _
      | exact ih1 _ _ _ _ _ _ _ _ _
      | exact ih2 _ _ _ _ _ _ _ _ _ _
      | exact ih3 _ _ _ _ _ _ _ _ _ _ _ _
      | exact drive_Vel.mono _ _ _ _ _ _ _
      | exact paternosterlaw13_awake.mono _
      | exact plan_Ticks.mono _ _ _
      | exact LeO.none _
      | refine LeO.ite ?_ ?_
      | refine LeO.bind ?_ (fun _ => ?_)
    · intro y0 y1 y2 y3 y4 y5 y6 y7 y8
      unfold paternosterlaw13_DriveComes.l0
      repeat' first
      | (with_reducible exact ih0 _ _ _ _ _ _ _ _)
      | (with_reducible exact ih1 _ _ _ _ _ _ _ _ _)
      | (with_reducible exact ih2 _ _ _ _ _ _ _ _ _ _)
      | (with_reducible exact ih3 _ _ _ _ _ _ _ _ _ _ _ _)
      | (with_reducible exact drive_Vel.mono _ _ _ _ _ _ _)
      | (with_reducible exact paternosterlaw13_awake.mono _)
      | (with_reducible exact plan_Ticks.mono _ _ _)
      | (with_reducible exact LeO.refl _)
      | (with_reducible exact LeO.none _)
      | (with_reducible refine LeO.ite ?_ ?_)
      | (with_reducible refine LeO.bind ?_ (fun _ => ?_))
      | exact ih0 _ _ _ _ _ _ _ _
      | exact ih1 _ _ _ _ _ _ _ _ _
      | exact ih2 _ _ _ _ _ _ _ _ _ _
      | exact ih3 _ _ _ _ _ _ _ _ _ _ _ _
      | exact drive_Vel.mono _ _ _ _ _ _ _
      | exact paternosterlaw13_awake.mono _
      | exact plan_Ticks.mono _ _ _
      | exact LeO.none _
      | refine LeO.ite ?_ ?_
      | refine LeO.bind ?_ (fun _ => ?_)
    · intro y0 y1 y2 y3 y4 y5 y6 y7 y8 y9
      unfold paternosterlaw13_DriveComes.j2
      repeat' first
      | (with_reducible exact ih0 _ _ _ _ _ _ _ _)
      | (with_reducible exact ih1 _ _ _ _ _ _ _ _ _)
      | (with_reducible exact ih2 _ _ _ _ _ _ _ _ _ _)
      | (with_reducible exact ih3 _ _ _ _ _ _ _ _ _ _ _ _)
      | (with_reducible exact drive_Vel.mono _ _ _ _ _ _ _)
      | (with_reducible exact paternosterlaw13_awake.mono _)
      | (with_reducible exact plan_Ticks.mono _ _ _)
      | (with_reducible exact LeO.refl _)
      | (with_reducible exact LeO.none _)
      | (with_reducible refine LeO.ite ?_ ?_)
      | (with_reducible refine LeO.bind ?_ (fun _ => ?_))
      | exact ih0 _ _ _ _ _ _ _ _
      | exact ih1 _ _ _ _ _ _ _ _ _
      | exact ih2 _ _ _ _ _ _ _ _ _ _
      | exact ih3 _ _ _ _ _ _ _ _ _ _ _ _
      | exact drive_Vel.mono _ _ _ _ _ _ _
      | exact paternosterlaw13_awake.mono _
      | exact plan_Ticks.mono _ _ _
      | exact LeO.none _
      | refine LeO.ite ?_ ?_
      | refine LeO.bind ?_ (fun _ => ?_)
    · intro y0 y1 y2 y3 y4 y5 y6 y7 y8 y9 y10 y11
      unfold paternosterlaw13_DriveComes.j3
      repeat' first
      | (with_reducible exact ih0 _ _ _ _ _ _ _ _)
      | (with_reducible exact ih1 _ _ _ _ _ _ _ _ _)
      | (with_reducible exact ih2 _ _ _ _ _ _ _ _ _ _)
      | (with_reducible exact ih3 _ _ _ _ _ _ _ _ _ _ _ _)
      | (with_reducible exact drive_Vel.mono _ _ _ _ _ _ _)
      | (with_reducible exact paternosterlaw13_awake.mono _)
      | (with_reducible exact plan_Ticks.mono _ _ _)
      | (with_reducible exact LeO.refl _)
      | (with_reducible exact LeO.none _)
      | (with_reducible refine LeO.ite ?_ ?_)
      | (with_reducible refine LeO.bind ?_ (fun _ => ?_))
      | exact ih0 _ _ _ _ _ _ _ _
      | exact ih1 _ _ _ _ _ _ _ _ _
      | exact ih2 _ _ _ _ _ _ _ _ _ _
      | exact ih3 _ _ _ _ _ _ _ _ _ _ _ _
      | exact drive_Vel.mono _ _ _ _ _ _ _
      | exact paternosterlaw13_awake.mono _
      | exact plan_Ticks.mono _ _ _
      | exact LeO.none _
      | refine LeO.ite ?_ ?_
      | refine LeO.bind ?_ (fun _ => ?_)
theorem paternosterlaw13_DriveComes.mono : ∀ a0 a1 a2 a3 k, LeO (paternosterlaw13_DriveComes.f k a0 a1 a2 a3) (paternosterlaw13_DriveComes.f (k + 1) a0 a1 a2 a3) := by
  intro a0 a1 a2 a3 k
  obtain ⟨ih0, ih1, ih2, ih3⟩ := paternosterlaw13_DriveComes.mono_l k
  unfold paternosterlaw13_DriveComes.f
  repeat' first
      | (with_reducible exact ih0 _ _ _ _ _ _ _ _)
      | (with_reducible exact ih1 _ _ _ _ _ _ _ _ _)
      | (with_reducible exact ih2 _ _ _ _ _ _ _ _ _ _)
      | (with_reducible exact ih3 _ _ _ _ _ _ _ _ _ _ _ _)
      | (with_reducible exact drive_Vel.mono _ _ _ _ _ _ _)
      | (with_reducible exact paternosterlaw13_awake.mono _)
      | (with_reducible exact plan_Ticks.mono _ _ _)
      | (with_reducible exact LeO.refl _)
      | (with_reducible exact LeO.none _)
      | (with_reducible refine LeO.ite ?_ ?_)
      | (with_reducible refine LeO.bind ?_ (fun _ => ?_))
      | exact ih0 _ _ _ _ _ _ _ _
      | exact ih1 _ _ _ _ _ _ _ _ _
      | exact ih2 _ _ _ _ _ _ _ _ _ _
      | exact ih3 _ _ _ _ _ _ _ _ _ _ _ _
      | exact drive_Vel.mono _ _ _ _ _ _ _
      | exact paternosterlaw13_awake.mono _
      | exact plan_Ticks.mono _ _ _
      | exact LeO.none _
      | refine LeO.ite ?_ ?_
      | refine LeO.bind ?_ (fun _ => ?_)
set_option maxHeartbeats 8000000 in
set_option maxRecDepth 100000 in
theorem paternosterlaw13_DriveComes.calls (k : Nat) (a0 : Int) (a1 : Int) (a2 : Int) (a3 : Int) (r : Bool) (w : World) (hT : r = true) (h : paternosterlaw13_DriveComes.f k a0 a1 a2 a3 = some r) :
    Calls Try.prog 13 #[.int .u8 a0, .int .u8 a1, .int .u8 a2, .int .u8 a3] w fun e w' => e = .returned (.bool r) ∧ Below w.heap.size w w' := by
  have hu32 := Try.underlying32
  have HT := Aside0.mk hT
  clear hT
  have HB := Aside0.mk (Below.refl w.heap.size w)
  have H : ((paternosterlaw13_awake.f k).bind fun t244 => (if t244 = true then (if (wrap64 ((wrap64 (8 * (wrap64 ((wrap64 (Int.tmod a2 31)) + 2)))) - 7)) = 0 then (none) else (if (wrap64 ((wrap64 (Int.tmod a2 31)) + 2)) = 0 then (none) else ((drive_Way.f (Int.tmod (wrap64 (a0)) (wrap64 ((wrap64 (8 * (wrap64 ((wrap64 (Int.tmod a2 31)) + 2)))) - 7))) 0 0 (Int.tmod (wrap64 (a1)) (wrap64 ((wrap64 (Int.tmod a2 31)) + 2)))).bind fun t246 => (if (wrap64 ((wrap64 (8 * (Int.tmod (wrap64 (a1)) (wrap64 ((wrap64 (Int.tmod a2 31)) + 2))))) - (Int.tmod (wrap64 (a0)) (wrap64 ((wrap64 (8 * (wrap64 ((wrap64 (Int.tmod a2 31)) + 2)))) - 7))))) < 0 then (paternosterlaw13_DriveComes.j0 k (wrap64 ((wrap64 (Int.tmod a2 31)) + 2)) (Int.tmod (wrap64 (a1)) (wrap64 ((wrap64 (Int.tmod a2 31)) + 2))) (wrap64 ((wrap64 (Int.tmod a3 8)) + 1)) t246 (wrap64 (-(wrap64 ((wrap64 (8 * (Int.tmod (wrap64 (a1)) (wrap64 ((wrap64 (Int.tmod a2 31)) + 2))))) - (Int.tmod (wrap64 (a0)) (wrap64 ((wrap64 (8 * (wrap64 ((wrap64 (Int.tmod a2 31)) + 2)))) - 7))))))) (Int.tmod (wrap64 (a0)) (wrap64 ((wrap64 (8 * (wrap64 ((wrap64 (Int.tmod a2 31)) + 2)))) - 7))) 0 0) else (paternosterlaw13_DriveComes.j0 k (wrap64 ((wrap64 (Int.tmod a2 31)) + 2)) (Int.tmod (wrap64 (a1)) (wrap64 ((wrap64 (Int.tmod a2 31)) + 2))) (wrap64 ((wrap64 (Int.tmod a3 8)) + 1)) t246 (wrap64 ((wrap64 (8 * (Int.tmod (wrap64 (a1)) (wrap64 ((wrap64 (Int.tmod a2 31)) + 2))))) - (Int.tmod (wrap64 (a0)) (wrap64 ((wrap64 (8 * (wrap64 ((wrap64 (Int.tmod a2 31)) + 2)))) - 7))))) (Int.tmod (wrap64 (a0)) (wrap64 ((wrap64 (8 * (wrap64 ((wrap64 (Int.tmod a2 31)) + 2)))) - 7))) 0 0))))) else (some false))) = some r := h
  clear h
  replace H := Option.bind_eq_some_iff.mp H
  obtain ⟨t244, A50, H⟩ := H
  replace H : (if t244 = true then (if (wrap64 ((wrap64 (8 * (wrap64 ((wrap64 (Int.tmod a2 31)) + 2)))) - 7)) = 0 then (none) else (if (wrap64 ((wrap64 (Int.tmod a2 31)) + 2)) = 0 then (none) else ((drive_Way.f (Int.tmod (wrap64 (a0)) (wrap64 ((wrap64 (8 * (wrap64 ((wrap64 (Int.tmod a2 31)) + 2)))) - 7))) 0 0 (Int.tmod (wrap64 (a1)) (wrap64 ((wrap64 (Int.tmod a2 31)) + 2)))).bind fun t246 => (if (wrap64 ((wrap64 (8 * (Int.tmod (wrap64 (a1)) (wrap64 ((wrap64 (Int.tmod a2 31)) + 2))))) - (Int.tmod (wrap64 (a0)) (wrap64 ((wrap64 (8 * (wrap64 ((wrap64 (Int.tmod a2 31)) + 2)))) - 7))))) < 0 then (paternosterlaw13_DriveComes.j0 k (wrap64 ((wrap64 (Int.tmod a2 31)) + 2)) (Int.tmod (wrap64 (a1)) (wrap64 ((wrap64 (Int.tmod a2 31)) + 2))) (wrap64 ((wrap64 (Int.tmod a3 8)) + 1)) t246 (wrap64 (-(wrap64 ((wrap64 (8 * (Int.tmod (wrap64 (a1)) (wrap64 ((wrap64 (Int.tmod a2 31)) + 2))))) - (Int.tmod (wrap64 (a0)) (wrap64 ((wrap64 (8 * (wrap64 ((wrap64 (Int.tmod a2 31)) + 2)))) - 7))))))) (Int.tmod (wrap64 (a0)) (wrap64 ((wrap64 (8 * (wrap64 ((wrap64 (Int.tmod a2 31)) + 2)))) - 7))) 0 0) else (paternosterlaw13_DriveComes.j0 k (wrap64 ((wrap64 (Int.tmod a2 31)) + 2)) (Int.tmod (wrap64 (a1)) (wrap64 ((wrap64 (Int.tmod a2 31)) + 2))) (wrap64 ((wrap64 (Int.tmod a3 8)) + 1)) t246 (wrap64 ((wrap64 (8 * (Int.tmod (wrap64 (a1)) (wrap64 ((wrap64 (Int.tmod a2 31)) + 2))))) - (Int.tmod (wrap64 (a0)) (wrap64 ((wrap64 (8 * (wrap64 ((wrap64 (Int.tmod a2 31)) + 2)))) - 7))))) (Int.tmod (wrap64 (a0)) (wrap64 ((wrap64 (8 * (wrap64 ((wrap64 (Int.tmod a2 31)) + 2)))) - 7))) 0 0))))) else (some false)) = some r := H
  have A5 := Aside0.mk A50
  clear A50
  by_cases c6 : t244 = true
  · subst c6
    have H1 : (if (wrap64 ((wrap64 (8 * (wrap64 ((wrap64 (Int.tmod a2 31)) + 2)))) - 7)) = 0 then (none) else (if (wrap64 ((wrap64 (Int.tmod a2 31)) + 2)) = 0 then (none) else ((drive_Way.f (Int.tmod (wrap64 (a0)) (wrap64 ((wrap64 (8 * (wrap64 ((wrap64 (Int.tmod a2 31)) + 2)))) - 7))) 0 0 (Int.tmod (wrap64 (a1)) (wrap64 ((wrap64 (Int.tmod a2 31)) + 2)))).bind fun t246 => (if (wrap64 ((wrap64 (8 * (Int.tmod (wrap64 (a1)) (wrap64 ((wrap64 (Int.tmod a2 31)) + 2))))) - (Int.tmod (wrap64 (a0)) (wrap64 ((wrap64 (8 * (wrap64 ((wrap64 (Int.tmod a2 31)) + 2)))) - 7))))) < 0 then (paternosterlaw13_DriveComes.j0 k (wrap64 ((wrap64 (Int.tmod a2 31)) + 2)) (Int.tmod (wrap64 (a1)) (wrap64 ((wrap64 (Int.tmod a2 31)) + 2))) (wrap64 ((wrap64 (Int.tmod a3 8)) + 1)) t246 (wrap64 (-(wrap64 ((wrap64 (8 * (Int.tmod (wrap64 (a1)) (wrap64 ((wrap64 (Int.tmod a2 31)) + 2))))) - (Int.tmod (wrap64 (a0)) (wrap64 ((wrap64 (8 * (wrap64 ((wrap64 (Int.tmod a2 31)) + 2)))) - 7))))))) (Int.tmod (wrap64 (a0)) (wrap64 ((wrap64 (8 * (wrap64 ((wrap64 (Int.tmod a2 31)) + 2)))) - 7))) 0 0) else (paternosterlaw13_DriveComes.j0 k (wrap64 ((wrap64 (Int.tmod a2 31)) + 2)) (Int.tmod (wrap64 (a1)) (wrap64 ((wrap64 (Int.tmod a2 31)) + 2))) (wrap64 ((wrap64 (Int.tmod a3 8)) + 1)) t246 (wrap64 ((wrap64 (8 * (Int.tmod (wrap64 (a1)) (wrap64 ((wrap64 (Int.tmod a2 31)) + 2))))) - (Int.tmod (wrap64 (a0)) (wrap64 ((wrap64 (8 * (wrap64 ((wrap64 (Int.tmod a2 31)) + 2)))) - 7))))) (Int.tmod (wrap64 (a0)) (wrap64 ((wrap64 (8 * (wrap64 ((wrap64 (Int.tmod a2 31)) + 2)))) - 7))) 0 0))))) = some r := by rw [if_pos rfl] at H; exact H
    clear H
    have H := H1
    clear H1
    by_cases c7 : (wrap64 ((wrap64 (8 * (wrap64 ((wrap64 (Int.tmod a2 31)) + 2)))) - 7)) = 0
    · rw [if_pos c7] at H
      exact absurd H (by simp)
    · rw [if_neg c7] at H
      have c7b0 : ((wrap64 ((wrap64 (8 * (wrap64 ((wrap64 (Int.tmod a2 31)) + 2)))) - 7)) == 0) = false := beq_eq_false_iff_ne.mpr c7
      have c7b1 : ((wrap64 ((wrap64 (8 * (wrap64 ((wrap64 (Int.tmod a2 31)) + 2)))) - 7)) != 0) = true := bne_iff_ne.mpr c7
      by_cases c8 : (wrap64 ((wrap64 (Int.tmod a2 31)) + 2)) = 0
      · rw [if_pos c8] at H
        exact absurd H (by simp)
      · rw [if_neg c8] at H
        have c8b0 : ((wrap64 ((wrap64 (Int.tmod a2 31)) + 2)) == 0) = false := beq_eq_false_iff_ne.mpr c8
        have c8b1 : ((wrap64 ((wrap64 (Int.tmod a2 31)) + 2)) != 0) = true := bne_iff_ne.mpr c8
        replace H := Option.bind_eq_some_iff.mp H
        obtain ⟨t246, A90, H⟩ := H
        replace H : (if (wrap64 ((wrap64 (8 * (Int.tmod (wrap64 (a1)) (wrap64 ((wrap64 (Int.tmod a2 31)) + 2))))) - (Int.tmod (wrap64 (a0)) (wrap64 ((wrap64 (8 * (wrap64 ((wrap64 (Int.tmod a2 31)) + 2)))) - 7))))) < 0 then (paternosterlaw13_DriveComes.j0 k (wrap64 ((wrap64 (Int.tmod a2 31)) + 2)) (Int.tmod (wrap64 (a1)) (wrap64 ((wrap64 (Int.tmod a2 31)) + 2))) (wrap64 ((wrap64 (Int.tmod a3 8)) + 1)) t246 (wrap64 (-(wrap64 ((wrap64 (8 * (Int.tmod (wrap64 (a1)) (wrap64 ((wrap64 (Int.tmod a2 31)) + 2))))) - (Int.tmod (wrap64 (a0)) (wrap64 ((wrap64 (8 * (wrap64 ((wrap64 (Int.tmod a2 31)) + 2)))) - 7))))))) (Int.tmod (wrap64 (a0)) (wrap64 ((wrap64 (8 * (wrap64 ((wrap64 (Int.tmod a2 31)) + 2)))) - 7))) 0 0) else (paternosterlaw13_DriveComes.j0 k (wrap64 ((wrap64 (Int.tmod a2 31)) + 2)) (Int.tmod (wrap64 (a1)) (wrap64 ((wrap64 (Int.tmod a2 31)) + 2))) (wrap64 ((wrap64 (Int.tmod a3 8)) + 1)) t246 (wrap64 ((wrap64 (8 * (Int.tmod (wrap64 (a1)) (wrap64 ((wrap64 (Int.tmod a2 31)) + 2))))) - (Int.tmod (wrap64 (a0)) (wrap64 ((wrap64 (8 * (wrap64 ((wrap64 (Int.tmod a2 31)) + 2)))) - 7))))) (Int.tmod (wrap64 (a0)) (wrap64 ((wrap64 (8 * (wrap64 ((wrap64 (Int.tmod a2 31)) + 2)))) - 7))) 0 0)) = some r := H
        have A9 := Aside0.mk A90
        clear A90
        have HC10 := Aside0.mk H
        clear H
        go_enter Try.func13, Try.ntmps13
        go_upto_if 52 with (first | ((with_reducible refine gate_callee (f := 21) rfl ?_); refine goesL_ (some 21) rfl rfl Try.func21 (by kernel_rfl) rfl #[] rfl (by (try simp only [List.map_toArray, List.map_cons, List.map_nil]); first | done | rfl | (simp only [List.length_drop, List.length_take]; rfl)) ?_; (with_reducible refine (paternosterlaw13_awake.calls k  true _ A5.out).mono ?_); rintro e w11 ⟨rfl, hb⟩; refine ⟨_, rfl, ?_⟩; have n0_ := Aside0.mk (below_step (by repeat (first | (with_reducible first | exact HB.out | apply below_alloc | apply pw_below_drewN | apply below_drew1) | exact HB.out)) hb); clear HB; have HB := n0_; clear n0_; (try clear hb); (try clear hb2); (try clear hk); (try clear hi)) | ((with_reducible refine gate_dst (N := 11) rfl ?_); refine box_event ?hg (N := 11) ?hd (cs := #[.int .i64 0, .int .i64 0, .int .i64 0]) (t := 32) ?hr ?_; (case hd => rfl); (case hg => rfl); (case hr => first | (go_simp; done) | (go_simp; rfl)); intro gb245 hg w12 hbox hb; have n0_ := Aside0.mk (below_step (by repeat (first | (with_reducible first | exact HB.out | apply below_alloc | apply pw_below_drewN | apply below_drew1) | exact HB.out)) hb); have n1_ := Aside0.mk (hbox); have n2_ := Aside0.mk ((by rw [hg]; exact (below_size (by repeat (first | (with_reducible first | exact HB.out | apply below_alloc | apply pw_below_drewN | apply below_drew1) | exact HB.out))) : w.heap.size ≤ gb245)); have n3_ := Aside0.mk ((by rw [hg]; exact (below_size (by repeat (first | (with_reducible first | exact HB.out | apply below_alloc | apply pw_below_drewN | apply below_drew1) | exact HB.out))) : w.heap.size ≤ gb245)); clear HB; have HB := n0_; have BK245 := n1_; have GW245 := n2_; have GE245 := n3_; clear n0_ n1_ n2_ n3_; clear hb hbox hg; have hcz13_0 : w12.cell? ⟨gb245, 0, none⟩ = some (.int .i64 0) := (blk_cell BK245.out 0).trans rfl; have hcz13_1 : w12.cell? ⟨gb245, 1, none⟩ = some (.int .i64 0) := (blk_cell BK245.out 1).trans rfl; have hcz13_2 : w12.cell? ⟨gb245, 2, none⟩ = some (.int .i64 0) := (blk_cell BK245.out 2).trans rfl; have hfz13_0 := blk_frozen BK245.out 0; have hfz13_1 := blk_frozen BK245.out 1; have hfz13_2 := blk_frozen BK245.out 2) | ((with_reducible refine gate_callee (f := 28) rfl ?_); refine goesL_ (some 45) rfl rfl Try.func28 (by kernel_rfl) rfl #[.agg #[.int .i64 (Int.tmod (wrap64 (a0)) (wrap64 ((wrap64 (8 * (wrap64 ((wrap64 (Int.tmod a2 31)) + 2)))) - 7))), .int .i64 0, .int .i64 0], .int .i64 (Int.tmod (wrap64 (a1)) (wrap64 ((wrap64 (Int.tmod a2 31)) + 2)))] rfl (by (try simp only [List.map_toArray, List.map_cons, List.map_nil]); first | done | rfl | (simp only [List.length_drop, List.length_take]; rfl)) ?_; (with_reducible refine (drive_Way.calls (Int.tmod (wrap64 (a0)) (wrap64 ((wrap64 (8 * (wrap64 ((wrap64 (Int.tmod a2 31)) + 2)))) - 7))) 0 0 (Int.tmod (wrap64 (a1)) (wrap64 ((wrap64 (Int.tmod a2 31)) + 2))) t246 _ A9.out).mono ?_); rintro e w14 ⟨rfl, hb⟩; refine ⟨_, rfl, ?_⟩; have n0_ := Aside0.mk (blk_below (g := gb245) (o := .cells #[.int .i64 (Int.tmod (wrap64 (a0)) (wrap64 ((wrap64 (8 * (wrap64 ((wrap64 (Int.tmod a2 31)) + 2)))) - 7))), .int .i64 0, .int .i64 0] 32 (0, 0)) (by (with_reducible repeat (first | refine blk_drewN ?_ _ | refine blk_drew ?_ | refine blk_alloc ?_ _)); refine blk_put (cs := #[.int .i64 (Int.tmod (wrap64 (a0)) (wrap64 ((wrap64 (8 * (wrap64 ((wrap64 (Int.tmod a2 31)) + 2)))) - 7))), .int .i64 0, .int .i64 0]) ?_ 2 _ rfl; (with_reducible repeat (first | refine blk_drewN ?_ _ | refine blk_drew ?_ | refine blk_alloc ?_ _)); refine blk_put (cs := #[.int .i64 (Int.tmod (wrap64 (a0)) (wrap64 ((wrap64 (8 * (wrap64 ((wrap64 (Int.tmod a2 31)) + 2)))) - 7))), .int .i64 0, .int .i64 0]) ?_ 1 _ rfl; (with_reducible repeat (first | refine blk_drewN ?_ _ | refine blk_drew ?_ | refine blk_alloc ?_ _)); refine blk_put (cs := #[.int .i64 0, .int .i64 0, .int .i64 0]) ?_ 0 _ rfl; (with_reducible repeat (first | refine blk_drewN ?_ _ | refine blk_drew ?_ | refine blk_alloc ?_ _)); exact BK245.out) hb); have n1_ := Aside0.mk (below_step (by repeat (first | (with_reducible first | exact HB.out | apply below_alloc | apply pw_below_drewN | apply below_drew1 | refine below_set ?_ GE245.out) | exact HB.out)) hb); clear BK245; clear HB; have BK245 := n0_; have HB := n1_; clear n0_ n1_; (try clear hb); (try clear hb2); (try clear hk); (try clear hi); have hcz15_0 : w14.cell? ⟨gb245, 0, none⟩ = some (.int .i64 (Int.tmod (wrap64 (a0)) (wrap64 ((wrap64 (8 * (wrap64 ((wrap64 (Int.tmod a2 31)) + 2)))) - 7)))) := (blk_cell BK245.out 0).trans rfl; have hcz15_1 : w14.cell? ⟨gb245, 1, none⟩ = some (.int .i64 0) := (blk_cell BK245.out 1).trans rfl; have hcz15_2 : w14.cell? ⟨gb245, 2, none⟩ = some (.int .i64 0) := (blk_cell BK245.out 2).trans rfl; have hfz15_0 := blk_frozen BK245.out 0; have hfz15_1 := blk_frozen BK245.out 1; have hfz15_2 := blk_frozen BK245.out 2))
        (try simp only [Act.put, List.setIfInBounds_toArray, List.set_cons_zero, List.set_cons_succ])
        go_cut [15] (fun v15 wc => ∃ (kq : Nat) (x15_9 : Int), v15 = .int .i64 x15_9 ∧ Aside0 (paternosterlaw13_DriveComes.j0 kq (wrap64 ((wrap64 (Int.tmod a2 31)) + 2)) (Int.tmod (wrap64 (a1)) (wrap64 ((wrap64 (Int.tmod a2 31)) + 2))) (wrap64 ((wrap64 (Int.tmod a3 8)) + 1)) t246 x15_9 (Int.tmod (wrap64 (a0)) (wrap64 ((wrap64 (8 * (wrap64 ((wrap64 (Int.tmod a2 31)) + 2)))) - 7))) 0 0 = some r) ∧ Aside0 (kq ≤ k) ∧ Aside0 (wc.heap[gb245]? = some (.cells #[.int .i64 (Int.tmod (wrap64 (a0)) (wrap64 ((wrap64 (8 * (wrap64 ((wrap64 (Int.tmod a2 31)) + 2)))) - 7))), .int .i64 0, .int .i64 0] 32 (0, 0))) ∧ Aside0 (Below w.heap.size w wc))
        case first =>
          have H := HC10.out
          clear HC10
          by_cases c16 : (wrap64 ((wrap64 (8 * (Int.tmod (wrap64 (a1)) (wrap64 ((wrap64 (Int.tmod a2 31)) + 2))))) - (Int.tmod (wrap64 (a0)) (wrap64 ((wrap64 (8 * (wrap64 ((wrap64 (Int.tmod a2 31)) + 2)))) - 7))))) < 0
          · rw [if_pos c16] at H
            have c16b0 : decide ((wrap64 ((wrap64 (8 * (Int.tmod (wrap64 (a1)) (wrap64 ((wrap64 (Int.tmod a2 31)) + 2))))) - (Int.tmod (wrap64 (a0)) (wrap64 ((wrap64 (8 * (wrap64 ((wrap64 (Int.tmod a2 31)) + 2)))) - 7))))) < 0) = true := decide_eq_true c16
            clear c16
            (first | rw [c16b0] | (simp only [i64_w, i32_w]; rw [c16b0]) | skip)
            have H' := Aside0.mk H
            clear H
            go_wp2
            go_meet
            case rel => exact ⟨_, (wrap64 (-(wrap64 ((wrap64 (8 * (Int.tmod (wrap64 (a1)) (wrap64 ((wrap64 (Int.tmod a2 31)) + 2))))) - (Int.tmod (wrap64 (a0)) (wrap64 ((wrap64 (8 * (wrap64 ((wrap64 (Int.tmod a2 31)) + 2)))) - 7))))))), (by first | rfl | (simp; done) | (simp [*]; done)), H', ⟨by first | omega | exact Nat.le_refl _⟩, ⟨by (with_reducible repeat (first | refine blk_drewN ?_ _ | refine blk_drew ?_ | refine blk_alloc ?_ _)); exact BK245.out⟩, ⟨by repeat (first | (with_reducible first | exact HB.out | apply below_alloc | apply pw_below_drewN | apply below_drew1 | refine below_set ?_ GE245.out) | exact HB.out)⟩⟩
          · rw [if_neg c16] at H
            have c16b0 : decide ((wrap64 ((wrap64 (8 * (Int.tmod (wrap64 (a1)) (wrap64 ((wrap64 (Int.tmod a2 31)) + 2))))) - (Int.tmod (wrap64 (a0)) (wrap64 ((wrap64 (8 * (wrap64 ((wrap64 (Int.tmod a2 31)) + 2)))) - 7))))) < 0) = false := decide_eq_false c16
            clear c16
            (first | rw [c16b0] | (simp only [i64_w, i32_w]; rw [c16b0]) | skip)
            have H' := Aside0.mk H
            clear H
            go_wp2
            go_meet
            case rel => exact ⟨_, (wrap64 ((wrap64 (8 * (Int.tmod (wrap64 (a1)) (wrap64 ((wrap64 (Int.tmod a2 31)) + 2))))) - (Int.tmod (wrap64 (a0)) (wrap64 ((wrap64 (8 * (wrap64 ((wrap64 (Int.tmod a2 31)) + 2)))) - 7))))), (by first | rfl | (simp; done) | (simp [*]; done)), H', ⟨by first | omega | exact Nat.le_refl _⟩, ⟨by (with_reducible repeat (first | refine blk_drewN ?_ _ | refine blk_drew ?_ | refine blk_alloc ?_ _)); exact BK245.out⟩, ⟨by repeat (first | (with_reducible first | exact HB.out | apply below_alloc | apply pw_below_drewN | apply below_drew1 | refine below_set ?_ GE245.out) | exact HB.out)⟩⟩
        case rest =>
          clear HC10
          try clear c1
          try clear c2
          try clear p2
          try clear c6
          try clear p6
          try clear c7
          try clear c7b0
          try clear c7b1
          try clear c8
          try clear c8b0
          try clear c8b1
          try clear c13
          try clear c16
          try clear c16b0
          try clear hcz13_0
          try clear hcz13_1
          try clear hcz13_2
          try clear hcz15_0
          try clear hcz15_1
          try clear hcz15_2
          try clear hfz13_0
          try clear hfz13_1
          try clear hfz13_2
          try clear hfz15_0
          try clear hfz15_1
          try clear hfz15_2
          obtain ⟨kq, x15_9, rfl, HA, HJ9, BK245, HB⟩ := hcut
          cases kq with
          | zero => exact absurd HA.out (by simp [paternosterlaw13_DriveComes.j0])
          | succ kj9 =>
            have H := HA.out
            clear HA
            simp only [paternosterlaw13_DriveComes.j0] at H
            have H' := Aside0.mk H
            clear H
            go_wp2
            go_loopg [16] kj9 (fun kq v16 w' => ∃ (x16_2 : Int) (x246000_2 : Int) (x246001_2 : Int) (x246002_2 : Int), v16 = .int .i64 x16_2 ∧ Aside0 (paternosterlaw13_DriveComes.l0 kq (wrap64 ((wrap64 (Int.tmod a2 31)) + 2)) (Int.tmod (wrap64 (a1)) (wrap64 ((wrap64 (Int.tmod a2 31)) + 2))) (wrap64 ((wrap64 (Int.tmod a3 8)) + 1)) t246 x15_9 x16_2 x246000_2 x246001_2 x246002_2 = some r) ∧ Aside0 (kq ≤ kj9) ∧ Aside0 (w'.heap[gb245]? = some (.cells #[.int .i64 x246000_2, .int .i64 x246001_2, .int .i64 x246002_2] 32 (0, 0))) ∧ Aside0 (Below w.heap.size w w'))
            case atStart => exact ⟨(0), ((Int.tmod (wrap64 (a0)) (wrap64 ((wrap64 (8 * (wrap64 ((wrap64 (Int.tmod a2 31)) + 2)))) - 7)))), (0), (0), (by first | rfl | (simp; done) | (simp [*]; done)), H', ⟨Nat.le_refl _⟩, ⟨by (with_reducible repeat (first | refine blk_drewN ?_ _ | refine blk_drew ?_ | refine blk_alloc ?_ _)); exact BK245.out⟩, ⟨by repeat (first | (with_reducible first | exact HB.out | apply below_alloc | apply pw_below_drewN | apply below_drew1 | refine below_set ?_ GE245.out) | exact HB.out)⟩⟩
            case round =>
              clear H'
              try clear c1
              try clear c2
              try clear p2
              try clear c6
              try clear p6
              try clear c7
              try clear c7b0
              try clear c7b1
              try clear c8
              try clear c8b0
              try clear c8b1
              try clear c13
              try clear c16
              try clear c16b0
              try clear hcz13_0
              try clear hcz13_1
              try clear hcz13_2
              try clear hcz15_0
              try clear hcz15_1
              try clear hcz15_2
              try clear hfz13_0
              try clear hfz13_1
              try clear hfz13_2
              try clear hfz15_0
              try clear hfz15_1
              try clear hfz15_2
              try clear p2
              try clear p6
              obtain ⟨x16_2, x246000_2, x246001_2, x246002_2, rfl, HA, HK2, BK245, HB⟩ := hrel
              cases gk with
              | zero => exact absurd HA.out (by simp [paternosterlaw13_DriveComes.l0])
              | succ k2 =>
                have H := HA.out
                clear HA
                simp only [paternosterlaw13_DriveComes.l0] at H
                have HC17 := Aside0.mk H
                clear H
                go_upto_region 13 with (fail)
                go_cut [64] (fun v64 wc => ∃ (kq : Nat) (x64_16 : Bool), v64 = .bool x64_16 ∧ Aside0 (paternosterlaw13_DriveComes.j2 kq (wrap64 ((wrap64 (Int.tmod a2 31)) + 2)) (Int.tmod (wrap64 (a1)) (wrap64 ((wrap64 (Int.tmod a2 31)) + 2))) (wrap64 ((wrap64 (Int.tmod a3 8)) + 1)) t246 x15_9 x16_2 x64_16 x246000_2 x246001_2 x246002_2 = some r) ∧ Aside0 (kq ≤ k2) ∧ Aside0 (wc.heap[gb245]? = some (.cells #[.int .i64 x246000_2, .int .i64 x246001_2, .int .i64 x246002_2] 32 (0, 0))) ∧ Aside0 (Below w.heap.size w wc))
                case first =>
                  have H := HC17.out
                  clear HC17
                  by_cases c18 : x16_2 ≤ (wrap64 (x15_9 + 1))
                  · rw [if_pos c18] at H
                    have c18b0 : decide (x16_2 ≤ (wrap64 (x15_9 + 1))) = true := decide_eq_true c18
                    clear c18
                    (first | rw [c18b0] | (simp only [i64_w, i32_w]; rw [c18b0]) | skip)
                    replace H := Option.bind_eq_some_iff.mp H
                    obtain ⟨t247, A190, H⟩ := H
                    replace H : (paternosterlaw13_DriveComes.j2 k2 (wrap64 ((wrap64 (Int.tmod a2 31)) + 2)) (Int.tmod (wrap64 (a1)) (wrap64 ((wrap64 (Int.tmod a2 31)) + 2))) (wrap64 ((wrap64 (Int.tmod a3 8)) + 1)) t246 x15_9 x16_2 (!t247) x246000_2 x246001_2 x246002_2) = some r := H
                    have A19 := Aside0.mk A190
                    clear A190
                    have H' := Aside0.mk H
                    clear H
                    have hcz20_0 : wr.cell? ⟨gb245, 0, none⟩ = some (.int .i64 x246000_2) := (blk_cell BK245.out 0).trans rfl
                    have hcz20_1 : wr.cell? ⟨gb245, 1, none⟩ = some (.int .i64 x246001_2) := (blk_cell BK245.out 1).trans rfl
                    have hcz20_2 : wr.cell? ⟨gb245, 2, none⟩ = some (.int .i64 x246002_2) := (blk_cell BK245.out 2).trans rfl
                    have hfz20_0 := blk_frozen BK245.out 0
                    have hfz20_1 := blk_frozen BK245.out 1
                    have hfz20_2 := blk_frozen BK245.out 2
                    go_wp2_with (first | (go_at_call 30; (with_reducible refine (drive_There.calls x246000_2 x246001_2 x246002_2 (Int.tmod (wrap64 (a1)) (wrap64 ((wrap64 (Int.tmod a2 31)) + 2))) t247 _ A19.out).mono ?_); rintro e w21 ⟨rfl, hb⟩; have n0_ := Aside0.mk (blk_below (g := gb245) (o := .cells #[.int .i64 x246000_2, .int .i64 x246001_2, .int .i64 x246002_2] 32 (0, 0)) (by (with_reducible repeat (first | refine blk_drewN ?_ _ | refine blk_drew ?_ | refine blk_alloc ?_ _)); exact BK245.out) hb); have n1_ := Aside0.mk (below_step (by repeat (first | (with_reducible first | exact HB.out | apply below_alloc | apply pw_below_drewN | apply below_drew1 | refine below_set ?_ GE245.out) | exact HB.out)) hb); clear BK245; clear HB; have BK245 := n0_; have HB := n1_; clear n0_ n1_; (try clear hb); (try clear hb2); (try clear hk); (try clear hi)))
                    go_meet
                    case rel => exact ⟨_, (!t247), (by first | rfl | (simp; done) | (simp [*]; done)), H', ⟨by have := HJ9.out; have := HK2.out; first | omega | exact Nat.le_refl _⟩, ⟨by (with_reducible repeat (first | refine blk_drewN ?_ _ | refine blk_drew ?_ | refine blk_alloc ?_ _)); exact BK245.out⟩, ⟨by repeat (first | (with_reducible first | exact HB.out | apply below_alloc | apply pw_below_drewN | apply below_drew1 | refine below_set ?_ GE245.out) | exact HB.out)⟩⟩
                  · rw [if_neg c18] at H
                    have c18b0 : decide (x16_2 ≤ (wrap64 (x15_9 + 1))) = false := decide_eq_false c18
                    clear c18
                    (first | rw [c18b0] | (simp only [i64_w, i32_w]; rw [c18b0]) | skip)
                    have H' := Aside0.mk H
                    clear H
                    go_wp2
                    go_meet
                    case rel => exact ⟨_, (false), (by first | rfl | (simp; done) | (simp [*]; done)), H', ⟨by have := HJ9.out; have := HK2.out; first | omega | exact Nat.le_refl _⟩, ⟨by (with_reducible repeat (first | refine blk_drewN ?_ _ | refine blk_drew ?_ | refine blk_alloc ?_ _)); exact BK245.out⟩, ⟨by repeat (first | (with_reducible first | exact HB.out | apply below_alloc | apply pw_below_drewN | apply below_drew1 | refine below_set ?_ GE245.out) | exact HB.out)⟩⟩
                case rest =>
                  clear HC17
                  try clear c1
                  try clear c2
                  try clear p2
                  try clear c6
                  try clear p6
                  try clear c7
                  try clear c7b0
                  try clear c7b1
                  try clear c8
                  try clear c8b0
                  try clear c8b1
                  try clear c13
                  try clear c16
                  try clear c16b0
                  try clear c18
                  try clear c18b0
                  try clear c21
                  try clear hcz13_0
                  try clear hcz13_1
                  try clear hcz13_2
                  try clear hcz15_0
                  try clear hcz15_1
                  try clear hcz15_2
                  try clear hcz20_0
                  try clear hcz20_1
                  try clear hcz20_2
                  try clear hfz13_0
                  try clear hfz13_1
                  try clear hfz13_2
                  try clear hfz15_0
                  try clear hfz15_1
                  try clear hfz15_2
                  try clear hfz20_0
                  try clear hfz20_1
                  try clear hfz20_2
                  try clear p2
                  try clear p6
                  obtain ⟨kq, x64_16, rfl, HA, HJ16, BK245, HB⟩ := hcut
                  cases kq with
                  | zero => exact absurd HA.out (by simp [paternosterlaw13_DriveComes.j2])
                  | succ kj16 =>
                    have H := HA.out
                    clear HA
                    simp only [paternosterlaw13_DriveComes.j2] at H
                    by_cases c22 : x64_16 = true
                    · subst c22
                      have H1 : ((drive_Vel.f kj16 x246000_2 x246001_2 x246002_2 (Int.tmod (wrap64 (a1)) (wrap64 ((wrap64 (Int.tmod a2 31)) + 2))) (wrap64 ((wrap64 (Int.tmod a3 8)) + 1)) true).bind fun bt250 => (if (wrap64 (bt250.1 * t246)) < 0 then (paternosterlaw13_DriveComes.j3 kj16 (wrap64 ((wrap64 (Int.tmod a2 31)) + 2)) (Int.tmod (wrap64 (a1)) (wrap64 ((wrap64 (Int.tmod a2 31)) + 2))) (wrap64 ((wrap64 (Int.tmod a3 8)) + 1)) t246 x15_9 x16_2 bt250.1 bt250.2 true x246000_2 x246001_2 x246002_2) else (paternosterlaw13_DriveComes.j3 kj16 (wrap64 ((wrap64 (Int.tmod a2 31)) + 2)) (Int.tmod (wrap64 (a1)) (wrap64 ((wrap64 (Int.tmod a2 31)) + 2))) (wrap64 ((wrap64 (Int.tmod a3 8)) + 1)) t246 x15_9 x16_2 bt250.1 bt250.2 (decide ((wrap64 (bt250.1 * t246)) > (wrap64 ((wrap64 (Int.tmod a3 8)) + 1)))) x246000_2 x246001_2 x246002_2))) = some r := by rw [if_pos rfl] at H; exact H
                      clear H
                      have H := H1
                      clear H1
                      replace H := Option.bind_eq_some_iff.mp H
                      obtain ⟨⟨t250, t251⟩, A230, H⟩ := H
                      replace H : (if (wrap64 (t250 * t246)) < 0 then (paternosterlaw13_DriveComes.j3 kj16 (wrap64 ((wrap64 (Int.tmod a2 31)) + 2)) (Int.tmod (wrap64 (a1)) (wrap64 ((wrap64 (Int.tmod a2 31)) + 2))) (wrap64 ((wrap64 (Int.tmod a3 8)) + 1)) t246 x15_9 x16_2 t250 t251 true x246000_2 x246001_2 x246002_2) else (paternosterlaw13_DriveComes.j3 kj16 (wrap64 ((wrap64 (Int.tmod a2 31)) + 2)) (Int.tmod (wrap64 (a1)) (wrap64 ((wrap64 (Int.tmod a2 31)) + 2))) (wrap64 ((wrap64 (Int.tmod a3 8)) + 1)) t246 x15_9 x16_2 t250 t251 (decide ((wrap64 (t250 * t246)) > (wrap64 ((wrap64 (Int.tmod a3 8)) + 1)))) x246000_2 x246001_2 x246002_2)) = some r := H
                      have A23 := Aside0.mk A230
                      clear A230
                      have HC24 := Aside0.mk H
                      clear H
                      have hcz25_0 : wc.cell? ⟨gb245, 0, none⟩ = some (.int .i64 x246000_2) := (blk_cell BK245.out 0).trans rfl
                      have hcz25_1 : wc.cell? ⟨gb245, 1, none⟩ = some (.int .i64 x246001_2) := (blk_cell BK245.out 1).trans rfl
                      have hcz25_2 : wc.cell? ⟨gb245, 2, none⟩ = some (.int .i64 x246002_2) := (blk_cell BK245.out 2).trans rfl
                      have hfz25_0 := blk_frozen BK245.out 0
                      have hfz25_1 := blk_frozen BK245.out 1
                      have hfz25_2 := blk_frozen BK245.out 2
                      go_upto_region 15 with (first | ((with_reducible refine gate_callee (f := 23) rfl ?_); refine goesL_ (some 69) rfl rfl Try.func23 (by kernel_rfl) rfl #[.agg #[.int .i64 x246000_2, .int .i64 x246001_2, .int .i64 x246002_2], .int .i64 (Int.tmod (wrap64 (a1)) (wrap64 ((wrap64 (Int.tmod a2 31)) + 2))), .int .i64 (wrap64 ((wrap64 (Int.tmod a3 8)) + 1)), .bool true] rfl (by (try simp only [List.map_toArray, List.map_cons, List.map_nil]); first | done | rfl | (simp only [List.length_drop, List.length_take]; rfl)) ?_; (with_reducible refine (drive_Vel.calls kj16 x246000_2 x246001_2 x246002_2 (Int.tmod (wrap64 (a1)) (wrap64 ((wrap64 (Int.tmod a2 31)) + 2))) (wrap64 ((wrap64 (Int.tmod a3 8)) + 1)) true t250 t251 _ A23.out).mono ?_); rintro e w26 ⟨rfl, hb⟩; refine ⟨_, rfl, ?_⟩; have n0_ := Aside0.mk (blk_below (g := gb245) (o := .cells #[.int .i64 x246000_2, .int .i64 x246001_2, .int .i64 x246002_2] 32 (0, 0)) (by (with_reducible repeat (first | refine blk_drewN ?_ _ | refine blk_drew ?_ | refine blk_alloc ?_ _)); exact BK245.out) hb); have n1_ := Aside0.mk (below_step (by repeat (first | (with_reducible first | exact HB.out | apply below_alloc | apply pw_below_drewN | apply below_drew1 | refine below_set ?_ GE245.out) | exact HB.out)) hb); clear BK245; clear HB; have BK245 := n0_; have HB := n1_; clear n0_ n1_; (try clear hb); (try clear hb2); (try clear hk); (try clear hi)))
                      (try simp only [Act.put, List.setIfInBounds_toArray, List.set_cons_zero, List.set_cons_succ])
                      go_cut [82] (fun v82 wc => ∃ (kq : Nat) (x82_23 : Bool), v82 = .bool x82_23 ∧ Aside0 (paternosterlaw13_DriveComes.j3 kq (wrap64 ((wrap64 (Int.tmod a2 31)) + 2)) (Int.tmod (wrap64 (a1)) (wrap64 ((wrap64 (Int.tmod a2 31)) + 2))) (wrap64 ((wrap64 (Int.tmod a3 8)) + 1)) t246 x15_9 x16_2 t250 t251 x82_23 x246000_2 x246001_2 x246002_2 = some r) ∧ Aside0 (kq ≤ kj16) ∧ Aside0 (wc.heap[gb245]? = some (.cells #[.int .i64 x246000_2, .int .i64 x246001_2, .int .i64 x246002_2] 32 (0, 0))) ∧ Aside0 (Below w.heap.size w wc))
                      case first =>
                        have H := HC24.out
                        clear HC24
                        by_cases c27 : (wrap64 (t250 * t246)) < 0
                        · rw [if_pos c27] at H
                          have c27b0 : decide ((wrap64 (t250 * t246)) < 0) = true := decide_eq_true c27
                          clear c27
                          (first | rw [c27b0] | (simp only [i64_w, i32_w]; rw [c27b0]) | skip)
                          have H' := Aside0.mk H
                          clear H
                          go_wp2
                          go_meet
                          case rel => exact ⟨_, (true), (by first | rfl | (simp; done) | (simp [*]; done)), H', ⟨by have := HJ9.out; have := HK2.out; have := HJ16.out; first | omega | exact Nat.le_refl _⟩, ⟨by (with_reducible repeat (first | refine blk_drewN ?_ _ | refine blk_drew ?_ | refine blk_alloc ?_ _)); exact BK245.out⟩, ⟨by repeat (first | (with_reducible first | exact HB.out | apply below_alloc | apply pw_below_drewN | apply below_drew1 | refine below_set ?_ GE245.out) | exact HB.out)⟩⟩
                        · rw [if_neg c27] at H
                          have c27b0 : decide ((wrap64 (t250 * t246)) < 0) = false := decide_eq_false c27
                          clear c27
                          (first | rw [c27b0] | (simp only [i64_w, i32_w]; rw [c27b0]) | skip)
                          have H' := Aside0.mk H
                          clear H
                          go_wp2
                          go_meet
                          case rel => exact ⟨_, (decide ((wrap64 (t250 * t246)) > (wrap64 ((wrap64 (Int.tmod a3 8)) + 1)))), (by first | rfl | (simp; done) | (simp [*]; done)), H', ⟨by have := HJ9.out; have := HK2.out; have := HJ16.out; first | omega | exact Nat.le_refl _⟩, ⟨by (with_reducible repeat (first | refine blk_drewN ?_ _ | refine blk_drew ?_ | refine blk_alloc ?_ _)); exact BK245.out⟩, ⟨by repeat (first | (with_reducible first | exact HB.out | apply below_alloc | apply pw_below_drewN | apply below_drew1 | refine below_set ?_ GE245.out) | exact HB.out)⟩⟩
                      case rest =>
                        clear HC24
                        try clear c1
                        try clear c2
                        try clear p2
                        try clear c6
                        try clear p6
                        try clear c7
                        try clear c7b0
                        try clear c7b1
                        try clear c8
                        try clear c8b0
                        try clear c8b1
                        try clear c13
                        try clear c16
                        try clear c16b0
                        try clear c18
                        try clear c18b0
                        try clear c21
                        try clear c22
                        try clear c23
                        try clear c27
                        try clear c27b0
                        try clear hcz13_0
                        try clear hcz13_1
                        try clear hcz13_2
                        try clear hcz15_0
                        try clear hcz15_1
                        try clear hcz15_2
                        try clear hcz20_0
                        try clear hcz20_1
                        try clear hcz20_2
                        try clear hcz25_0
                        try clear hcz25_1
                        try clear hcz25_2
                        try clear hfz13_0
                        try clear hfz13_1
                        try clear hfz13_2
                        try clear hfz15_0
                        try clear hfz15_1
                        try clear hfz15_2
                        try clear hfz20_0
                        try clear hfz20_1
                        try clear hfz20_2
                        try clear hfz25_0
                        try clear hfz25_1
                        try clear hfz25_2
                        try clear p2
                        try clear p6
                        obtain ⟨kq, x82_23, rfl, HA, HJ23, BK245, HB⟩ := hcut
                        cases kq with
                        | zero => exact absurd HA.out (by simp [paternosterlaw13_DriveComes.j3])
                        | succ kj23 =>
                          have H := HA.out
                          clear HA
                          simp only [paternosterlaw13_DriveComes.j3] at H
                          by_cases c28 : x82_23 = true
                          · subst c28
                            have H1 : (some false) = some r := by rw [if_pos rfl] at H; exact H
                            clear H
                            have H := H1
                            clear H1
                            exact absurd (Option.some.inj H) (by rw [HT.out]; decide)
                          · replace c28 := Bool.eq_false_iff.mpr c28
                            subst c28
                            have H1 : ((car_Car_Step.f x246000_2 x246001_2 x246002_2 t250 t251 (wrap64 ((wrap64 (Int.tmod a2 31)) + 2))).bind fun bt253 => (if t251 = true then (if (wrap64 ((wrap64 (bt253.1 - x246000_2)) * t246)) < 0 then (some false) else (paternosterlaw13_DriveComes.l0 kj23 (wrap64 ((wrap64 (Int.tmod a2 31)) + 2)) (Int.tmod (wrap64 (a1)) (wrap64 ((wrap64 (Int.tmod a2 31)) + 2))) (wrap64 ((wrap64 (Int.tmod a3 8)) + 1)) t246 x15_9 (wrap64 (x16_2 + 1)) bt253.1 bt253.2.1 bt253.2.2)) else (if bt253.2.1 = t250 then (if (wrap64 ((wrap64 (bt253.1 - x246000_2)) * t246)) < 0 then (some false) else (paternosterlaw13_DriveComes.l0 kj23 (wrap64 ((wrap64 (Int.tmod a2 31)) + 2)) (Int.tmod (wrap64 (a1)) (wrap64 ((wrap64 (Int.tmod a2 31)) + 2))) (wrap64 ((wrap64 (Int.tmod a3 8)) + 1)) t246 x15_9 (wrap64 (x16_2 + 1)) bt253.1 bt253.2.1 bt253.2.2)) else (some false)))) = some r := by rw [if_neg (show ¬ (false = true) by decide)] at H; exact H
                            clear H
                            have H := H1
                            clear H1
                            replace H := Option.bind_eq_some_iff.mp H
                            obtain ⟨⟨t253, t254, t255⟩, A290, H⟩ := H
                            replace H : (if t251 = true then (if (wrap64 ((wrap64 (t253 - x246000_2)) * t246)) < 0 then (some false) else (paternosterlaw13_DriveComes.l0 kj23 (wrap64 ((wrap64 (Int.tmod a2 31)) + 2)) (Int.tmod (wrap64 (a1)) (wrap64 ((wrap64 (Int.tmod a2 31)) + 2))) (wrap64 ((wrap64 (Int.tmod a3 8)) + 1)) t246 x15_9 (wrap64 (x16_2 + 1)) t253 t254 t255)) else (if t254 = t250 then (if (wrap64 ((wrap64 (t253 - x246000_2)) * t246)) < 0 then (some false) else (paternosterlaw13_DriveComes.l0 kj23 (wrap64 ((wrap64 (Int.tmod a2 31)) + 2)) (Int.tmod (wrap64 (a1)) (wrap64 ((wrap64 (Int.tmod a2 31)) + 2))) (wrap64 ((wrap64 (Int.tmod a3 8)) + 1)) t246 x15_9 (wrap64 (x16_2 + 1)) t253 t254 t255)) else (some false))) = some r := H
                            have A29 := Aside0.mk A290
                            clear A290
                            by_cases c30 : t251 = true
                            · subst c30
                              have H1 : (if (wrap64 ((wrap64 (t253 - x246000_2)) * t246)) < 0 then (some false) else (paternosterlaw13_DriveComes.l0 kj23 (wrap64 ((wrap64 (Int.tmod a2 31)) + 2)) (Int.tmod (wrap64 (a1)) (wrap64 ((wrap64 (Int.tmod a2 31)) + 2))) (wrap64 ((wrap64 (Int.tmod a3 8)) + 1)) t246 x15_9 (wrap64 (x16_2 + 1)) t253 t254 t255)) = some r := by rw [if_pos rfl] at H; exact H
                              clear H
                              have H := H1
                              clear H1
                              by_cases c31 : (wrap64 ((wrap64 (t253 - x246000_2)) * t246)) < 0
                              · rw [if_pos c31] at H
                                have c31b0 : decide ((wrap64 ((wrap64 (t253 - x246000_2)) * t246)) < 0) = true := decide_eq_true c31
                                clear c31
                                exact absurd (Option.some.inj H) (by rw [HT.out]; decide)
                              · rw [if_neg c31] at H
                                have c31b0 : decide ((wrap64 ((wrap64 (t253 - x246000_2)) * t246)) < 0) = false := decide_eq_false c31
                                clear c31
                                have H' := Aside0.mk H
                                clear H
                                have hcz32_0 : wc.cell? ⟨gb245, 0, none⟩ = some (.int .i64 x246000_2) := (blk_cell BK245.out 0).trans rfl
                                have hcz32_1 : wc.cell? ⟨gb245, 1, none⟩ = some (.int .i64 x246001_2) := (blk_cell BK245.out 1).trans rfl
                                have hcz32_2 : wc.cell? ⟨gb245, 2, none⟩ = some (.int .i64 x246002_2) := (blk_cell BK245.out 2).trans rfl
                                have hfz32_0 := blk_frozen BK245.out 0
                                have hfz32_1 := blk_frozen BK245.out 1
                                have hfz32_2 := blk_frozen BK245.out 2
                                go_wp2_with (first | ((with_reducible refine gate_dst (N := 19) rfl ?_); refine box_event ?hg (N := 19) ?hd (cs := #[.int .i64 0, .int .i64 0, .int .i64 0]) (t := 32) ?hr ?_; (case hd => rfl); (case hg => rfl); (case hr => first | (go_simp; done) | (go_simp; rfl)); intro gb252 hg w33 hbox hb; have n0_ := Aside0.mk (blk_below (g := gb245) (o := .cells #[.int .i64 x246000_2, .int .i64 x246001_2, .int .i64 x246002_2] 32 (0, 0)) (by (with_reducible repeat (first | refine blk_drewN ?_ _ | refine blk_drew ?_ | refine blk_alloc ?_ _)); exact BK245.out) hb); have n1_ := Aside0.mk (below_step (by repeat (first | (with_reducible first | exact HB.out | apply below_alloc | apply pw_below_drewN | apply below_drew1 | refine below_set ?_ GE245.out) | exact HB.out)) hb); have n2_ := Aside0.mk (hbox); have n3_ := Aside0.mk ((by rw [hg]; exact (below_size (by repeat (first | (with_reducible first | exact HB.out | apply below_alloc | apply pw_below_drewN | apply below_drew1 | refine below_set ?_ GE245.out) | exact HB.out))) : w.heap.size ≤ gb252)); have n4_ := Aside0.mk ((by rw [hg]; exact (below_size (by repeat (first | (with_reducible first | exact HB.out | apply below_alloc | apply pw_below_drewN | apply below_drew1 | refine below_set ?_ GE245.out) | exact HB.out))) : w.heap.size ≤ gb252)); have n5_ := Aside0.mk ((by rw [hg]; exact Nat.ne_of_lt (blk_lt (g := gb245) (o := .cells #[.int .i64 x246000_2, .int .i64 x246001_2, .int .i64 x246002_2] 32 (0, 0)) (by (with_reducible repeat (first | refine blk_drewN ?_ _ | refine blk_drew ?_ | refine blk_alloc ?_ _)); exact BK245.out)) : gb245 ≠ gb252)); have n6_ := Aside0.mk ((by rw [hg]; exact Nat.ne_of_gt (blk_lt (g := gb245) (o := .cells #[.int .i64 x246000_2, .int .i64 x246001_2, .int .i64 x246002_2] 32 (0, 0)) (by (with_reducible repeat (first | refine blk_drewN ?_ _ | refine blk_drew ?_ | refine blk_alloc ?_ _)); exact BK245.out)) : gb252 ≠ gb245)); clear BK245; clear HB; have BK245 := n0_; have HB := n1_; have BK252 := n2_; have GW252 := n3_; have GE252 := n4_; have NB245_252 := n5_; have NB252_245 := n6_; clear n0_ n1_ n2_ n3_ n4_ n5_ n6_; clear hb hbox hg; have hnb34 := NB252_245.out; have hnc34 := NB245_252.out; have hcz35_0 : w33.cell? ⟨gb252, 0, none⟩ = some (.int .i64 0) := (blk_cell BK252.out 0).trans rfl; have hcz35_1 : w33.cell? ⟨gb252, 1, none⟩ = some (.int .i64 0) := (blk_cell BK252.out 1).trans rfl; have hcz35_2 : w33.cell? ⟨gb252, 2, none⟩ = some (.int .i64 0) := (blk_cell BK252.out 2).trans rfl; have hfz35_0 := blk_frozen BK252.out 0; have hfz35_1 := blk_frozen BK252.out 1; have hfz35_2 := blk_frozen BK252.out 2; have hcz36_0 : w33.cell? ⟨gb245, 0, none⟩ = some (.int .i64 x246000_2) := (blk_cell BK245.out 0).trans rfl; have hcz36_1 : w33.cell? ⟨gb245, 1, none⟩ = some (.int .i64 x246001_2) := (blk_cell BK245.out 1).trans rfl; have hcz36_2 : w33.cell? ⟨gb245, 2, none⟩ = some (.int .i64 x246002_2) := (blk_cell BK245.out 2).trans rfl; have hfz36_0 := blk_frozen BK245.out 0; have hfz36_1 := blk_frozen BK245.out 1; have hfz36_2 := blk_frozen BK245.out 2) | ((with_reducible refine gate_callee (f := 31) rfl ?_); refine goesL_ (some 88) rfl rfl Try.func31 (by kernel_rfl) rfl #[.agg #[.int .i64 x246000_2, .int .i64 x246001_2, .int .i64 x246002_2], .int .i64 t250, .bool true, .int .i64 (wrap64 ((wrap64 (Int.tmod a2 31)) + 2))] rfl (by (try simp only [List.map_toArray, List.map_cons, List.map_nil]); first | done | rfl | (simp only [List.length_drop, List.length_take]; rfl)) ?_; (with_reducible refine (car_Car_Step.calls x246000_2 x246001_2 x246002_2 t250 true (wrap64 ((wrap64 (Int.tmod a2 31)) + 2)) t253 t254 t255 _ A29.out).mono ?_); rintro e w37 ⟨rfl, hb⟩; refine ⟨_, rfl, ?_⟩; have n0_ := Aside0.mk (blk_below (g := gb245) (o := .cells #[.int .i64 x246000_2, .int .i64 x246001_2, .int .i64 x246002_2] 32 (0, 0)) (by (with_reducible repeat (first | refine blk_drewN ?_ _ | refine blk_drew ?_ | refine blk_alloc ?_ _)); refine blk_far ?_ NB245_252.out _; (with_reducible repeat (first | refine blk_drewN ?_ _ | refine blk_drew ?_ | refine blk_alloc ?_ _)); refine blk_far ?_ NB245_252.out _; (with_reducible repeat (first | refine blk_drewN ?_ _ | refine blk_drew ?_ | refine blk_alloc ?_ _)); refine blk_far ?_ NB245_252.out _; (with_reducible repeat (first | refine blk_drewN ?_ _ | refine blk_drew ?_ | refine blk_alloc ?_ _)); exact BK245.out) hb); have n1_ := Aside0.mk (blk_below (g := gb252) (o := .cells #[.int .i64 x246000_2, .int .i64 x246001_2, .int .i64 x246002_2] 32 (0, 0)) (by (with_reducible repeat (first | refine blk_drewN ?_ _ | refine blk_drew ?_ | refine blk_alloc ?_ _)); refine blk_put (cs := #[.int .i64 x246000_2, .int .i64 x246001_2, .int .i64 0]) ?_ 2 _ rfl; (with_reducible repeat (first | refine blk_drewN ?_ _ | refine blk_drew ?_ | refine blk_alloc ?_ _)); refine blk_put (cs := #[.int .i64 x246000_2, .int .i64 0, .int .i64 0]) ?_ 1 _ rfl; (with_reducible repeat (first | refine blk_drewN ?_ _ | refine blk_drew ?_ | refine blk_alloc ?_ _)); refine blk_put (cs := #[.int .i64 0, .int .i64 0, .int .i64 0]) ?_ 0 _ rfl; (with_reducible repeat (first | refine blk_drewN ?_ _ | refine blk_drew ?_ | refine blk_alloc ?_ _)); exact BK252.out) hb); have n2_ := Aside0.mk (below_step (by repeat (first | (with_reducible first | exact HB.out | apply below_alloc | apply pw_below_drewN | apply below_drew1 | refine below_set ?_ GE245.out | refine below_set ?_ GE252.out) | exact HB.out)) hb); clear BK245; clear BK252; clear HB; have BK245 := n0_; have BK252 := n1_; have HB := n2_; clear n0_ n1_ n2_; (try clear hb); (try clear hb2); (try clear hk); (try clear hi); have hcz38_0 : w37.cell? ⟨gb245, 0, none⟩ = some (.int .i64 x246000_2) := (blk_cell BK245.out 0).trans rfl; have hcz38_1 : w37.cell? ⟨gb245, 1, none⟩ = some (.int .i64 x246001_2) := (blk_cell BK245.out 1).trans rfl; have hcz38_2 : w37.cell? ⟨gb245, 2, none⟩ = some (.int .i64 x246002_2) := (blk_cell BK245.out 2).trans rfl; have hfz38_0 := blk_frozen BK245.out 0; have hfz38_1 := blk_frozen BK245.out 1; have hfz38_2 := blk_frozen BK245.out 2; have hcz39_0 : w37.cell? ⟨gb252, 0, none⟩ = some (.int .i64 x246000_2) := (blk_cell BK252.out 0).trans rfl; have hcz39_1 : w37.cell? ⟨gb252, 1, none⟩ = some (.int .i64 x246001_2) := (blk_cell BK252.out 1).trans rfl; have hcz39_2 : w37.cell? ⟨gb252, 2, none⟩ = some (.int .i64 x246002_2) := (blk_cell BK252.out 2).trans rfl; have hfz39_0 := blk_frozen BK252.out 0; have hfz39_1 := blk_frozen BK252.out 1; have hfz39_2 := blk_frozen BK252.out 2))
                                go_roundg kj23
                                case measure => have := HJ9.out; have := HK2.out; have := HJ16.out; have := HJ23.out; omega
                                case rel => exact ⟨(wrap64 (x16_2 + 1)), (t253), (t254), (t255), (by first | rfl | (simp; done) | (simp [*]; done)), H', ⟨by have := HJ9.out; have := HK2.out; have := HJ16.out; have := HJ23.out; omega⟩, ⟨by (with_reducible repeat (first | refine blk_drewN ?_ _ | refine blk_drew ?_ | refine blk_alloc ?_ _)); refine blk_put (cs := #[.int .i64 t253, .int .i64 t254, .int .i64 x246002_2]) ?_ 2 _ rfl; (with_reducible repeat (first | refine blk_drewN ?_ _ | refine blk_drew ?_ | refine blk_alloc ?_ _)); refine blk_put (cs := #[.int .i64 t253, .int .i64 x246001_2, .int .i64 x246002_2]) ?_ 1 _ rfl; (with_reducible repeat (first | refine blk_drewN ?_ _ | refine blk_drew ?_ | refine blk_alloc ?_ _)); refine blk_put (cs := #[.int .i64 x246000_2, .int .i64 x246001_2, .int .i64 x246002_2]) ?_ 0 _ rfl; (with_reducible repeat (first | refine blk_drewN ?_ _ | refine blk_drew ?_ | refine blk_alloc ?_ _)); exact BK245.out⟩, ⟨by repeat (first | (with_reducible first | exact HB.out | apply below_alloc | apply pw_below_drewN | apply below_drew1 | refine below_set ?_ GE245.out | refine below_set ?_ GE252.out) | exact HB.out)⟩⟩
                            · replace c30 := Bool.eq_false_iff.mpr c30
                              subst c30
                              have H1 : (if t254 = t250 then (if (wrap64 ((wrap64 (t253 - x246000_2)) * t246)) < 0 then (some false) else (paternosterlaw13_DriveComes.l0 kj23 (wrap64 ((wrap64 (Int.tmod a2 31)) + 2)) (Int.tmod (wrap64 (a1)) (wrap64 ((wrap64 (Int.tmod a2 31)) + 2))) (wrap64 ((wrap64 (Int.tmod a3 8)) + 1)) t246 x15_9 (wrap64 (x16_2 + 1)) t253 t254 t255)) else (some false)) = some r := by rw [if_neg (show ¬ (false = true) by decide)] at H; exact H
                              clear H
                              have H := H1
                              clear H1
                              by_cases c40 : t254 = t250
                              · rw [if_pos c40] at H
                                have c40b0 : (t254 == t250) = true := beq_iff_eq.mpr c40
                                have c40b1 : (t254 != t250) = false := bne_eq_false_iff_eq.mpr c40
                                clear c40
                                by_cases c41 : (wrap64 ((wrap64 (t253 - x246000_2)) * t246)) < 0
                                · rw [if_pos c41] at H
                                  have c41b0 : decide ((wrap64 ((wrap64 (t253 - x246000_2)) * t246)) < 0) = true := decide_eq_true c41
                                  clear c41
                                  exact absurd (Option.some.inj H) (by rw [HT.out]; decide)
                                · rw [if_neg c41] at H
                                  have c41b0 : decide ((wrap64 ((wrap64 (t253 - x246000_2)) * t246)) < 0) = false := decide_eq_false c41
                                  clear c41
                                  have H' := Aside0.mk H
                                  clear H
                                  have hcz42_0 : wc.cell? ⟨gb245, 0, none⟩ = some (.int .i64 x246000_2) := (blk_cell BK245.out 0).trans rfl
                                  have hcz42_1 : wc.cell? ⟨gb245, 1, none⟩ = some (.int .i64 x246001_2) := (blk_cell BK245.out 1).trans rfl
                                  have hcz42_2 : wc.cell? ⟨gb245, 2, none⟩ = some (.int .i64 x246002_2) := (blk_cell BK245.out 2).trans rfl
                                  have hfz42_0 := blk_frozen BK245.out 0
                                  have hfz42_1 := blk_frozen BK245.out 1
                                  have hfz42_2 := blk_frozen BK245.out 2
                                  go_wp2_with (first | ((with_reducible refine gate_dst (N := 19) rfl ?_); refine box_event ?hg (N := 19) ?hd (cs := #[.int .i64 0, .int .i64 0, .int .i64 0]) (t := 32) ?hr ?_; (case hd => rfl); (case hg => rfl); (case hr => first | (go_simp; done) | (go_simp; rfl)); intro gb252 hg w43 hbox hb; have n0_ := Aside0.mk (blk_below (g := gb245) (o := .cells #[.int .i64 x246000_2, .int .i64 x246001_2, .int .i64 x246002_2] 32 (0, 0)) (by (with_reducible repeat (first | refine blk_drewN ?_ _ | refine blk_drew ?_ | refine blk_alloc ?_ _)); exact BK245.out) hb); have n1_ := Aside0.mk (below_step (by repeat (first | (with_reducible first | exact HB.out | apply below_alloc | apply pw_below_drewN | apply below_drew1 | refine below_set ?_ GE245.out) | exact HB.out)) hb); have n2_ := Aside0.mk (hbox); have n3_ := Aside0.mk ((by rw [hg]; exact (below_size (by repeat (first | (with_reducible first | exact HB.out | apply below_alloc | apply pw_below_drewN | apply below_drew1 | refine below_set ?_ GE245.out) | exact HB.out))) : w.heap.size ≤ gb252)); have n4_ := Aside0.mk ((by rw [hg]; exact (below_size (by repeat (first | (with_reducible first | exact HB.out | apply below_alloc | apply pw_below_drewN | apply below_drew1 | refine below_set ?_ GE245.out) | exact HB.out))) : w.heap.size ≤ gb252)); have n5_ := Aside0.mk ((by rw [hg]; exact Nat.ne_of_lt (blk_lt (g := gb245) (o := .cells #[.int .i64 x246000_2, .int .i64 x246001_2, .int .i64 x246002_2] 32 (0, 0)) (by (with_reducible repeat (first | refine blk_drewN ?_ _ | refine blk_drew ?_ | refine blk_alloc ?_ _)); exact BK245.out)) : gb245 ≠ gb252)); have n6_ := Aside0.mk ((by rw [hg]; exact Nat.ne_of_gt (blk_lt (g := gb245) (o := .cells #[.int .i64 x246000_2, .int .i64 x246001_2, .int .i64 x246002_2] 32 (0, 0)) (by (with_reducible repeat (first | refine blk_drewN ?_ _ | refine blk_drew ?_ | refine blk_alloc ?_ _)); exact BK245.out)) : gb252 ≠ gb245)); clear BK245; clear HB; have BK245 := n0_; have HB := n1_; have BK252 := n2_; have GW252 := n3_; have GE252 := n4_; have NB245_252 := n5_; have NB252_245 := n6_; clear n0_ n1_ n2_ n3_ n4_ n5_ n6_; clear hb hbox hg; have hnb44 := NB252_245.out; have hnc44 := NB245_252.out; have hcz45_0 : w43.cell? ⟨gb252, 0, none⟩ = some (.int .i64 0) := (blk_cell BK252.out 0).trans rfl; have hcz45_1 : w43.cell? ⟨gb252, 1, none⟩ = some (.int .i64 0) := (blk_cell BK252.out 1).trans rfl; have hcz45_2 : w43.cell? ⟨gb252, 2, none⟩ = some (.int .i64 0) := (blk_cell BK252.out 2).trans rfl; have hfz45_0 := blk_frozen BK252.out 0; have hfz45_1 := blk_frozen BK252.out 1; have hfz45_2 := blk_frozen BK252.out 2; have hcz46_0 : w43.cell? ⟨gb245, 0, none⟩ = some (.int .i64 x246000_2) := (blk_cell BK245.out 0).trans rfl; have hcz46_1 : w43.cell? ⟨gb245, 1, none⟩ = some (.int .i64 x246001_2) := (blk_cell BK245.out 1).trans rfl; have hcz46_2 : w43.cell? ⟨gb245, 2, none⟩ = some (.int .i64 x246002_2) := (blk_cell BK245.out 2).trans rfl; have hfz46_0 := blk_frozen BK245.out 0; have hfz46_1 := blk_frozen BK245.out 1; have hfz46_2 := blk_frozen BK245.out 2) | ((with_reducible refine gate_callee (f := 31) rfl ?_); refine goesL_ (some 88) rfl rfl Try.func31 (by kernel_rfl) rfl #[.agg #[.int .i64 x246000_2, .int .i64 x246001_2, .int .i64 x246002_2], .int .i64 t250, .bool false, .int .i64 (wrap64 ((wrap64 (Int.tmod a2 31)) + 2))] rfl (by (try simp only [List.map_toArray, List.map_cons, List.map_nil]); first | done | rfl | (simp only [List.length_drop, List.length_take]; rfl)) ?_; (with_reducible refine (car_Car_Step.calls x246000_2 x246001_2 x246002_2 t250 false (wrap64 ((wrap64 (Int.tmod a2 31)) + 2)) t253 t254 t255 _ A29.out).mono ?_); rintro e w47 ⟨rfl, hb⟩; refine ⟨_, rfl, ?_⟩; have n0_ := Aside0.mk (blk_below (g := gb245) (o := .cells #[.int .i64 x246000_2, .int .i64 x246001_2, .int .i64 x246002_2] 32 (0, 0)) (by (with_reducible repeat (first | refine blk_drewN ?_ _ | refine blk_drew ?_ | refine blk_alloc ?_ _)); refine blk_far ?_ NB245_252.out _; (with_reducible repeat (first | refine blk_drewN ?_ _ | refine blk_drew ?_ | refine blk_alloc ?_ _)); refine blk_far ?_ NB245_252.out _; (with_reducible repeat (first | refine blk_drewN ?_ _ | refine blk_drew ?_ | refine blk_alloc ?_ _)); refine blk_far ?_ NB245_252.out _; (with_reducible repeat (first | refine blk_drewN ?_ _ | refine blk_drew ?_ | refine blk_alloc ?_ _)); exact BK245.out) hb); have n1_ := Aside0.mk (blk_below (g := gb252) (o := .cells #[.int .i64 x246000_2, .int .i64 x246001_2, .int .i64 x246002_2] 32 (0, 0)) (by (with_reducible repeat (first | refine blk_drewN ?_ _ | refine blk_drew ?_ | refine blk_alloc ?_ _)); refine blk_put (cs := #[.int .i64 x246000_2, .int .i64 x246001_2, .int .i64 0]) ?_ 2 _ rfl; (with_reducible repeat (first | refine blk_drewN ?_ _ | refine blk_drew ?_ | refine blk_alloc ?_ _)); refine blk_put (cs := #[.int .i64 x246000_2, .int .i64 0, .int .i64 0]) ?_ 1 _ rfl; (with_reducible repeat (first | refine blk_drewN ?_ _ | refine blk_drew ?_ | refine blk_alloc ?_ _)); refine blk_put (cs := #[.int .i64 0, .int .i64 0, .int .i64 0]) ?_ 0 _ rfl; (with_reducible repeat (first | refine blk_drewN ?_ _ | refine blk_drew ?_ | refine blk_alloc ?_ _)); exact BK252.out) hb); have n2_ := Aside0.mk (below_step (by repeat (first | (with_reducible first | exact HB.out | apply below_alloc | apply pw_below_drewN | apply below_drew1 | refine below_set ?_ GE245.out | refine below_set ?_ GE252.out) | exact HB.out)) hb); clear BK245; clear BK252; clear HB; have BK245 := n0_; have BK252 := n1_; have HB := n2_; clear n0_ n1_ n2_; (try clear hb); (try clear hb2); (try clear hk); (try clear hi); have hcz48_0 : w47.cell? ⟨gb245, 0, none⟩ = some (.int .i64 x246000_2) := (blk_cell BK245.out 0).trans rfl; have hcz48_1 : w47.cell? ⟨gb245, 1, none⟩ = some (.int .i64 x246001_2) := (blk_cell BK245.out 1).trans rfl; have hcz48_2 : w47.cell? ⟨gb245, 2, none⟩ = some (.int .i64 x246002_2) := (blk_cell BK245.out 2).trans rfl; have hfz48_0 := blk_frozen BK245.out 0; have hfz48_1 := blk_frozen BK245.out 1; have hfz48_2 := blk_frozen BK245.out 2; have hcz49_0 : w47.cell? ⟨gb252, 0, none⟩ = some (.int .i64 x246000_2) := (blk_cell BK252.out 0).trans rfl; have hcz49_1 : w47.cell? ⟨gb252, 1, none⟩ = some (.int .i64 x246001_2) := (blk_cell BK252.out 1).trans rfl; have hcz49_2 : w47.cell? ⟨gb252, 2, none⟩ = some (.int .i64 x246002_2) := (blk_cell BK252.out 2).trans rfl; have hfz49_0 := blk_frozen BK252.out 0; have hfz49_1 := blk_frozen BK252.out 1; have hfz49_2 := blk_frozen BK252.out 2))
                                  go_roundg kj23
                                  case measure => have := HJ9.out; have := HK2.out; have := HJ16.out; have := HJ23.out; omega
                                  case rel => exact ⟨(wrap64 (x16_2 + 1)), (t253), (t254), (t255), (by first | rfl | (simp; done) | (simp [*]; done)), H', ⟨by have := HJ9.out; have := HK2.out; have := HJ16.out; have := HJ23.out; omega⟩, ⟨by (with_reducible repeat (first | refine blk_drewN ?_ _ | refine blk_drew ?_ | refine blk_alloc ?_ _)); refine blk_put (cs := #[.int .i64 t253, .int .i64 t254, .int .i64 x246002_2]) ?_ 2 _ rfl; (with_reducible repeat (first | refine blk_drewN ?_ _ | refine blk_drew ?_ | refine blk_alloc ?_ _)); refine blk_put (cs := #[.int .i64 t253, .int .i64 x246001_2, .int .i64 x246002_2]) ?_ 1 _ rfl; (with_reducible repeat (first | refine blk_drewN ?_ _ | refine blk_drew ?_ | refine blk_alloc ?_ _)); refine blk_put (cs := #[.int .i64 x246000_2, .int .i64 x246001_2, .int .i64 x246002_2]) ?_ 0 _ rfl; (with_reducible repeat (first | refine blk_drewN ?_ _ | refine blk_drew ?_ | refine blk_alloc ?_ _)); exact BK245.out⟩, ⟨by repeat (first | (with_reducible first | exact HB.out | apply below_alloc | apply pw_below_drewN | apply below_drew1 | refine below_set ?_ GE245.out | refine below_set ?_ GE252.out) | exact HB.out)⟩⟩
                              · rw [if_neg c40] at H
                                have c40b0 : (t254 == t250) = false := beq_eq_false_iff_ne.mpr c40
                                have c40b1 : (t254 != t250) = true := bne_iff_ne.mpr c40
                                exact absurd (Option.some.inj H) (by rw [HT.out]; decide)
                    · replace c22 := Bool.eq_false_iff.mpr c22
                      subst c22
                      have H1 : ((plan_Ticks.f kj16 x15_9 (wrap64 ((wrap64 (Int.tmod a3 8)) + 1))).bind fun t248 => ((drive_There.f x246000_2 x246001_2 x246002_2 (Int.tmod (wrap64 (a1)) (wrap64 ((wrap64 (Int.tmod a2 31)) + 2)))).bind fun t249 => (if t249 = true then (if x16_2 ≤ (wrap64 (t248 + 1)) then (if x16_2 ≥ t248 then (if x15_9 > 0 then (some true) else (some (x16_2 == 0))) else (some false)) else (some false)) else (some false)))) = some r := by rw [if_neg (show ¬ (false = true) by decide)] at H; exact H
                      clear H
                      have H := H1
                      clear H1
                      replace H := Option.bind_eq_some_iff.mp H
                      obtain ⟨t248, A500, H⟩ := H
                      replace H : ((drive_There.f x246000_2 x246001_2 x246002_2 (Int.tmod (wrap64 (a1)) (wrap64 ((wrap64 (Int.tmod a2 31)) + 2)))).bind fun t249 => (if t249 = true then (if x16_2 ≤ (wrap64 (t248 + 1)) then (if x16_2 ≥ t248 then (if x15_9 > 0 then (some true) else (some (x16_2 == 0))) else (some false)) else (some false)) else (some false))) = some r := H
                      have A50 := Aside0.mk A500
                      clear A500
                      replace H := Option.bind_eq_some_iff.mp H
                      obtain ⟨t249, A510, H⟩ := H
                      replace H : (if t249 = true then (if x16_2 ≤ (wrap64 (t248 + 1)) then (if x16_2 ≥ t248 then (if x15_9 > 0 then (some true) else (some (x16_2 == 0))) else (some false)) else (some false)) else (some false)) = some r := H
                      have A51 := Aside0.mk A510
                      clear A510
                      by_cases c52 : t249 = true
                      · subst c52
                        have H1 : (if x16_2 ≤ (wrap64 (t248 + 1)) then (if x16_2 ≥ t248 then (if x15_9 > 0 then (some true) else (some (x16_2 == 0))) else (some false)) else (some false)) = some r := by rw [if_pos rfl] at H; exact H
                        clear H
                        have H := H1
                        clear H1
                        by_cases c53 : x16_2 ≤ (wrap64 (t248 + 1))
                        · rw [if_pos c53] at H
                          have c53b0 : decide (x16_2 ≤ (wrap64 (t248 + 1))) = true := decide_eq_true c53
                          clear c53
                          by_cases c54 : x16_2 ≥ t248
                          · rw [if_pos c54] at H
                            have c54b0 : decide (t248 ≤ x16_2) = true := decide_eq_true c54
                            clear c54
                            by_cases c55 : x15_9 > 0
                            · rw [if_pos c55] at H
                              have c55b0 : decide (0 < x15_9) = true := decide_eq_true c55
                              clear c55
                              obtain rfl := Option.some.inj H
                              go_wp2_with (first | ((with_reducible refine gate_callee (f := 19) rfl ?_); refine goesL_ (some 111) rfl rfl Try.func19 (by kernel_rfl) rfl #[.int .i64 x15_9, .int .i64 (wrap64 ((wrap64 (Int.tmod a3 8)) + 1))] rfl (by (try simp only [List.map_toArray, List.map_cons, List.map_nil]); first | done | rfl | (simp only [List.length_drop, List.length_take]; rfl)) ?_; (with_reducible refine (plan_Ticks.calls kj16 x15_9 (wrap64 ((wrap64 (Int.tmod a3 8)) + 1)) t248 _ A50.out).mono ?_); rintro e w56 ⟨rfl, hb⟩; refine ⟨_, rfl, ?_⟩; have n0_ := Aside0.mk (blk_below (g := gb245) (o := .cells #[.int .i64 x246000_2, .int .i64 x246001_2, .int .i64 x246002_2] 32 (0, 0)) (by (with_reducible repeat (first | refine blk_drewN ?_ _ | refine blk_drew ?_ | refine blk_alloc ?_ _)); exact BK245.out) hb); have n1_ := Aside0.mk (below_step (by repeat (first | (with_reducible first | exact HB.out | apply below_alloc | apply pw_below_drewN | apply below_drew1 | refine below_set ?_ GE245.out) | exact HB.out)) hb); clear BK245; clear HB; have BK245 := n0_; have HB := n1_; clear n0_ n1_; (try clear hb); (try clear hb2); (try clear hk); (try clear hi); have hcz57_0 : w56.cell? ⟨gb245, 0, none⟩ = some (.int .i64 x246000_2) := (blk_cell BK245.out 0).trans rfl; have hcz57_1 : w56.cell? ⟨gb245, 1, none⟩ = some (.int .i64 x246001_2) := (blk_cell BK245.out 1).trans rfl; have hcz57_2 : w56.cell? ⟨gb245, 2, none⟩ = some (.int .i64 x246002_2) := (blk_cell BK245.out 2).trans rfl; have hfz57_0 := blk_frozen BK245.out 0; have hfz57_1 := blk_frozen BK245.out 1; have hfz57_2 := blk_frozen BK245.out 2) | ((with_reducible refine gate_callee (f := 30) rfl ?_); refine goesL_ (some 114) rfl rfl Try.func30 (by kernel_rfl) rfl #[.agg #[.int .i64 x246000_2, .int .i64 x246001_2, .int .i64 x246002_2], .int .i64 (Int.tmod (wrap64 (a1)) (wrap64 ((wrap64 (Int.tmod a2 31)) + 2)))] rfl (by (try simp only [List.map_toArray, List.map_cons, List.map_nil]); first | done | rfl | (simp only [List.length_drop, List.length_take]; rfl)) ?_; (with_reducible refine (drive_There.calls x246000_2 x246001_2 x246002_2 (Int.tmod (wrap64 (a1)) (wrap64 ((wrap64 (Int.tmod a2 31)) + 2))) true _ A51.out).mono ?_); rintro e w58 ⟨rfl, hb⟩; refine ⟨_, rfl, ?_⟩; have n0_ := Aside0.mk (blk_below (g := gb245) (o := .cells #[.int .i64 x246000_2, .int .i64 x246001_2, .int .i64 x246002_2] 32 (0, 0)) (by (with_reducible repeat (first | refine blk_drewN ?_ _ | refine blk_drew ?_ | refine blk_alloc ?_ _)); exact BK245.out) hb); have n1_ := Aside0.mk (below_step (by repeat (first | (with_reducible first | exact HB.out | apply below_alloc | apply pw_below_drewN | apply below_drew1 | refine below_set ?_ GE245.out) | exact HB.out)) hb); clear BK245; clear HB; have BK245 := n0_; have HB := n1_; clear n0_ n1_; (try clear hb); (try clear hb2); (try clear hk); (try clear hi)))
                              go_ret
                              exact ⟨by first | rfl | (simp [errW_none, errW_some] <;> rfl) | (simp [*, errW_none, errW_some] <;> rfl), by repeat (first | (with_reducible first | exact HB.out | apply below_alloc | apply pw_below_drewN | apply below_drew1 | refine below_set ?_ GE245.out) | exact HB.out)⟩
                            · rw [if_neg c55] at H
                              have c55b0 : decide (0 < x15_9) = false := decide_eq_false c55
                              clear c55
                              obtain rfl := Option.some.inj H
                              go_wp2_with (first | ((with_reducible refine gate_callee (f := 19) rfl ?_); refine goesL_ (some 111) rfl rfl Try.func19 (by kernel_rfl) rfl #[.int .i64 x15_9, .int .i64 (wrap64 ((wrap64 (Int.tmod a3 8)) + 1))] rfl (by (try simp only [List.map_toArray, List.map_cons, List.map_nil]); first | done | rfl | (simp only [List.length_drop, List.length_take]; rfl)) ?_; (with_reducible refine (plan_Ticks.calls kj16 x15_9 (wrap64 ((wrap64 (Int.tmod a3 8)) + 1)) t248 _ A50.out).mono ?_); rintro e w59 ⟨rfl, hb⟩; refine ⟨_, rfl, ?_⟩; have n0_ := Aside0.mk (blk_below (g := gb245) (o := .cells #[.int .i64 x246000_2, .int .i64 x246001_2, .int .i64 x246002_2] 32 (0, 0)) (by (with_reducible repeat (first | refine blk_drewN ?_ _ | refine blk_drew ?_ | refine blk_alloc ?_ _)); exact BK245.out) hb); have n1_ := Aside0.mk (below_step (by repeat (first | (with_reducible first | exact HB.out | apply below_alloc | apply pw_below_drewN | apply below_drew1 | refine below_set ?_ GE245.out) | exact HB.out)) hb); clear BK245; clear HB; have BK245 := n0_; have HB := n1_; clear n0_ n1_; (try clear hb); (try clear hb2); (try clear hk); (try clear hi); have hcz60_0 : w59.cell? ⟨gb245, 0, none⟩ = some (.int .i64 x246000_2) := (blk_cell BK245.out 0).trans rfl; have hcz60_1 : w59.cell? ⟨gb245, 1, none⟩ = some (.int .i64 x246001_2) := (blk_cell BK245.out 1).trans rfl; have hcz60_2 : w59.cell? ⟨gb245, 2, none⟩ = some (.int .i64 x246002_2) := (blk_cell BK245.out 2).trans rfl; have hfz60_0 := blk_frozen BK245.out 0; have hfz60_1 := blk_frozen BK245.out 1; have hfz60_2 := blk_frozen BK245.out 2) | ((with_reducible refine gate_callee (f := 30) rfl ?_); refine goesL_ (some 114) rfl rfl Try.func30 (by kernel_rfl) rfl #[.agg #[.int .i64 x246000_2, .int .i64 x246001_2, .int .i64 x246002_2], .int .i64 (Int.tmod (wrap64 (a1)) (wrap64 ((wrap64 (Int.tmod a2 31)) + 2)))] rfl (by (try simp only [List.map_toArray, List.map_cons, List.map_nil]); first | done | rfl | (simp only [List.length_drop, List.length_take]; rfl)) ?_; (with_reducible refine (drive_There.calls x246000_2 x246001_2 x246002_2 (Int.tmod (wrap64 (a1)) (wrap64 ((wrap64 (Int.tmod a2 31)) + 2))) true _ A51.out).mono ?_); rintro e w61 ⟨rfl, hb⟩; refine ⟨_, rfl, ?_⟩; have n0_ := Aside0.mk (blk_below (g := gb245) (o := .cells #[.int .i64 x246000_2, .int .i64 x246001_2, .int .i64 x246002_2] 32 (0, 0)) (by (with_reducible repeat (first | refine blk_drewN ?_ _ | refine blk_drew ?_ | refine blk_alloc ?_ _)); exact BK245.out) hb); have n1_ := Aside0.mk (below_step (by repeat (first | (with_reducible first | exact HB.out | apply below_alloc | apply pw_below_drewN | apply below_drew1 | refine below_set ?_ GE245.out) | exact HB.out)) hb); clear BK245; clear HB; have BK245 := n0_; have HB := n1_; clear n0_ n1_; (try clear hb); (try clear hb2); (try clear hk); (try clear hi)))
                              go_ret
                              exact ⟨by first | rfl | (simp [errW_none, errW_some] <;> rfl) | (simp [*, errW_none, errW_some] <;> rfl), by repeat (first | (with_reducible first | exact HB.out | apply below_alloc | apply pw_below_drewN | apply below_drew1 | refine below_set ?_ GE245.out) | exact HB.out)⟩
                          · rw [if_neg c54] at H
                            have c54b0 : decide (t248 ≤ x16_2) = false := decide_eq_false c54
                            clear c54
                            exact absurd (Option.some.inj H) (by rw [HT.out]; decide)
                        · rw [if_neg c53] at H
                          have c53b0 : decide (x16_2 ≤ (wrap64 (t248 + 1))) = false := decide_eq_false c53
                          clear c53
                          exact absurd (Option.some.inj H) (by rw [HT.out]; decide)
                      · replace c52 := Bool.eq_false_iff.mpr c52
                        subst c52
                        have H1 : (some false) = some r := by rw [if_neg (show ¬ (false = true) by decide)] at H; exact H
                        clear H
                        have H := H1
                        clear H1
                        exact absurd (Option.some.inj H) (by rw [HT.out]; decide)
  · replace c6 := Bool.eq_false_iff.mpr c6
    subst c6
    have H1 : (some false) = some r := by rw [if_neg (show ¬ (false = true) by decide)] at H; exact H
    clear H
    have H := H1
    clear H1
    exact absurd (Option.some.inj H) (by rw [HT.out]; decide)

/-- THE ONE PURE STATEMENT of paternosterlaw13_DriveComes: yours. -/
def paternosterlaw13_DriveComes.Pure : Prop := ∀ (a0 : Int) (a1 : Int) (a2 : Int) (a3 : Int), (Lit.int .u8 a0).wf = true → (Lit.int .u8 a1).wf = true → (Lit.int .u8 a2).wf = true → (Lit.int .u8 a3).wf = true → ∃ k, paternosterlaw13_DriveComes.f k a0 a1 a2 a3 = some true
theorem paternosterlaw13_DriveComes.walk (P : paternosterlaw13_DriveComes.Pure) (a0 : Int) (a1 : Int) (a2 : Int) (a3 : Int) (w : World) (w0 : (Lit.int .u8 a0).wf = true) (w1 : (Lit.int .u8 a1).wf = true) (w2 : (Lit.int .u8 a2).wf = true) (w3 : (Lit.int .u8 a3).wf = true) :
    Calls Try.prog 13 #[.int .u8 a0, .int .u8 a1, .int .u8 a2, .int .u8 a3] w fun e w' => e = .returned (.bool true) ∧ Below w.heap.size w w' := by
  obtain ⟨k, h⟩ := P a0 a1 a2 a3 w0 w1 w2 w3
  refine (paternosterlaw13_DriveComes.calls k a0 a1 a2 a3 true w rfl h).mono ?_
  rintro e w' ⟨rfl, hd⟩
  exact ⟨rfl, hd⟩

end Go.Proofs.Ytmhgfghbbophlaa.Q
