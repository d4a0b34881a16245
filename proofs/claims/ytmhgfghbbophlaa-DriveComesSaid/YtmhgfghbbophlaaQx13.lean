-- Written by a program of this session (turned from the kit's print.py) out of the translation. Not trusted: Lean checks it.
import Derived.Test.YtmhgfghbbophlaaQx0
import Derived.Test.YtmhgfghbbophlaaQx6
import Derived.Test.YtmhgfghbbophlaaQx7
namespace Go.Proofs.Ytmhgfghbbophlaa.Q
open Go.RowKit Go.Proofs.YtmhgfghbbophlaaW.PrintWords Go.Proofs.YtmhgfghbbophlaaW.PrintLast Go.Proofs.YtmhgfghbbophlaaW.PrintMore
attribute [local go_sem] max2_int min2_int max_two min_two max_three min_three max_four min_four   -- for this text's walks alone
set_option linter.unusedVariables false
set_option linter.unusedSimpArgs false

attribute [local go_sem] fld32_0 fld32_1 fld32_2 fld37_0 fld37_1 fld37_2
/-! ### car_within: function 39 -/
def inn (x lo hi : Int) : Int := if hi < (if x < lo then lo else x) then hi else (if x < lo then lo else x)
theorem car_within.walks (x lo hi : Int) (w : World) : Calls Try.prog 39 #[.int .i64 x, .int .i64 lo, .int .i64 hi] w fun e w' => e = .returned (.int .i64 (inn x lo hi)) ∧ w' = w := by
  go_enter Try.func39, Try.ntmps39
  go_wp2
  all_goals
    go_ret
    refine ⟨?_, rfl⟩
    simp [inn, *] <;> omega
theorem inn_bd {x lo hi : Int} (h : lo ≤ hi) : lo ≤ inn x lo hi ∧ inn x lo hi ≤ hi := by unfold inn; (repeat' split) <;> omega
def car_within.f (a0 : Int) (a1 : Int) (a2 : Int) : Option (Int) := some (inn a0 a1 a2)
theorem car_within.calls (a0 : Int) (a1 : Int) (a2 : Int) (r : Int) (w : World) (h : car_within.f a0 a1 a2 = some r) :
    Calls Try.prog 39 #[.int .i64 a0, .int .i64 a1, .int .i64 a2] w fun e w' => e = .returned (.int .i64 r) ∧ Below w.heap.size w w' := by
  obtain rfl := Option.some.inj h
  exact (car_within.walks a0 a1 a2 w).mono fun _ _ ⟨he, hw⟩ => ⟨he, hw ▸ Below.refl _ _⟩

/-! ### car_Top: function 40 -/
def topTo (floors : Int) : Int := (inn floors 2 32 - 1) * 8
theorem car_Top.walks (x : Int) (w : World) : Calls Try.prog 40 #[.int .i64 x] w fun e w' => e = .returned (.int .i64 (topTo x)) ∧ w' = w := by
  have hb := inn_bd (x := x) (lo := 2) (hi := 32) (by decide)
  obtain ⟨h1, h2⟩ := hb
  go_enter Try.func40, Try.ntmps40
  go_wp2_with (go_at_call 39; refine (car_within.walks _ _ _ _).mono ?_; rintro e w' ⟨rfl, rfl⟩)
  go_ret
  exact ⟨rfl, rfl⟩
def car_Top.f (a0 : Int) : Option (Int) := some (topTo a0)
theorem car_Top.calls (a0 : Int) (r : Int) (w : World) (h : car_Top.f a0 = some r) :
    Calls Try.prog 40 #[.int .i64 a0] w fun e w' => e = .returned (.int .i64 r) ∧ Below w.heap.size w w' := by
  obtain rfl := Option.some.inj h
  exact (car_Top.walks a0 w).mono fun _ _ ⟨he, hw⟩ => ⟨he, hw ▸ Below.refl _ _⟩

/-! ### car_Car_may: function 38 -/
def mayTo (v x : Int) : Int := inn (inn x (-8) 8) (inn (wrap64 (v - 1)) (-8) 8) (inn (wrap64 (v + 1)) (-8) 8)
theorem car_Car_may.walks (p v l x : Int) (w : World) : Calls Try.prog 38 #[.agg #[.int .i64 p, .int .i64 v, .int .i64 l], .int .i64 x] w fun e w' => e = .returned (.int .i64 (mayTo v x)) ∧ ∃ n, w' = (w.alloc (.cells #[.int .i64 p, .int .i64 v, .int .i64 l] 32)).drewN n := by
  have hb0 := Below.refl w.heap.size w
  go_enter Try.func38, Try.ntmps38
  go_wp2_with (go_at_call 39; refine (car_within.walks _ _ _ _).mono ?_; rintro e w' ⟨rfl, rfl⟩)
  go_quiet ((go_at_call 39; exact Calls.quiet_of_same (car_within.walks _ _ _ _)))
  go_wp2
  go_ret
  exact ⟨rfl, _, rfl⟩

/-! ### car_Car_Step: function 31 -/
theorem setCell_drewN' (w : World) (n : Nat) (a : Addr) (v : Value) : (w.drewN n).setCell a v = (w.setCell a v).drewN n := rfl
attribute [local go_sem] setCell_drewN'
def stepPos (p v x fl : Int) : Int := inn (wrap64 (p + mayTo v x)) 0 (topTo fl)
def carPos (p v x fl : Int) (b : Bool) : Int := if b = true then p else stepPos p v x fl
def carVel (p v x fl : Int) (b : Bool) : Int := if b = true then 0 else if stepPos p v x fl = wrap64 (p + mayTo v x) then mayTo v x else 0
theorem car_Car_Step.walks (p v l x fl : Int) (b : Bool) (w : World) : Calls Try.prog 31 #[.agg #[.int .i64 p, .int .i64 v, .int .i64 l], .int .i64 x, .bool b, .int .i64 fl] w fun e w' => e = .returned (.agg #[.int .i64 (carPos p v x fl b), .int .i64 (carVel p v x fl b), .int .i64 l]) ∧ Below w.heap.size w w' := by
  have hb0 := Below.refl w.heap.size w
  have hmf : ∀ (fn : Fn) (first cap : Array Value) (w : World), (Instr.makeFunc fn first cap).run Try.prog w = .ok (.func fn first cap) w := fun _ _ _ _ => rfl
  cases b
  · go_enter Try.func31, Try.ntmps31
    go_wp2_with (first | (go_at_call 39; refine (car_within.walks _ _ _ _).mono ?_; rintro e w' ⟨rfl, rfl⟩) | (go_at_call 40; refine (car_Top.walks _ _).mono ?_; rintro e w' ⟨rfl, rfl⟩) | (go_at_call 38; refine (car_Car_may.walks _ _ _ _ _).mono ?_; rintro e w' ⟨rfl, n, rfl⟩))
    · have hne : ¬ inn (wrap64 (p + mayTo v x)) 0 (topTo fl) = wrap64 (p + mayTo v x) := by simpa using ‹(inn (wrap64 (p + mayTo v x)) 0 (topTo fl) != wrap64 (p + mayTo v x)) = true›
      refine bodyPost_ret (v := .agg #[.int .i64 (carPos p v x fl false), .int .i64 (carVel p v x fl false), .int .i64 l]) (by simp [results, Try.results31, go_sem, carPos, carVel, stepPos, hne]) rfl ⟨rfl, by repeat (first | exact hb0 | apply below_alloc | apply pw_below_drewN)⟩
    · have hne : inn (wrap64 (p + mayTo v x)) 0 (topTo fl) = wrap64 (p + mayTo v x) := by simpa using ‹(inn (wrap64 (p + mayTo v x)) 0 (topTo fl) != wrap64 (p + mayTo v x)) = false›
      refine bodyPost_ret (v := .agg #[.int .i64 (carPos p v x fl false), .int .i64 (carVel p v x fl false), .int .i64 l]) (by simp [results, Try.results31, go_sem, carPos, carVel, stepPos, hne]) rfl ⟨rfl, by repeat (first | exact hb0 | apply below_alloc | apply pw_below_drewN)⟩
  · go_enter Try.func31, Try.ntmps31
    go_wp2
    refine bodyPost_ret (v := .agg #[.int .i64 (carPos p v x fl true), .int .i64 (carVel p v x fl true), .int .i64 l]) (by simp [results, Try.results31, go_sem, carPos, carVel]) rfl ⟨rfl, by repeat (first | exact hb0 | apply below_alloc | apply pw_below_drewN)⟩
def car_Car_Step.f (a0_0 : Int) (a0_1 : Int) (a0_2 : Int) (a1 : Int) (a2 : Bool) (a3 : Int) : Option (Int × Int × Int) := some (carPos a0_0 a0_1 a1 a3 a2, carVel a0_0 a0_1 a1 a3 a2, a0_2)
theorem car_Car_Step.calls (a0_0 : Int) (a0_1 : Int) (a0_2 : Int) (a1 : Int) (a2 : Bool) (a3 : Int) (r1 : Int) (r2 : Int) (r3 : Int) (w : World) (h : car_Car_Step.f a0_0 a0_1 a0_2 a1 a2 a3 = some (r1, r2, r3)) :
    Calls Try.prog 31 #[.agg #[.int .i64 a0_0, .int .i64 a0_1, .int .i64 a0_2], .int .i64 a1, .bool a2, .int .i64 a3] w fun e w' => e = .returned (.agg #[.int .i64 r1, .int .i64 r2, .int .i64 r3]) ∧ Below w.heap.size w w' := by
  simp only [car_Car_Step.f, Option.some.injEq, Prod.mk.injEq] at h
  obtain ⟨rfl, rfl, rfl⟩ := h
  exact car_Car_Step.walks a0_0 a0_1 a0_2 a1 a3 a2 w

/-! ### paternosterlaw13_DriveStops: function 12 -/
def paternosterlaw13_DriveStops.j0 : Nat → Int → Bool → Int → Bool → Int → Int → Int → Option (Bool)
  | 0, _, _, _, _, _, _, _ => none
  | k + 1, x13, x14, x15, x60, x234000, x234001, x234002 => if x60 = true then (some false) else (if (wrap64 (x15 * x234001)) < 0 then (if x14 = true then (some false) else (if (wrap64 (x13 * x15)) ≤ 0 then (some (decide ((wrap64 (x13 * x13)) < (wrap64 (x234001 * x234001))))) else (some false))) else (if (wrap64 (x13 * x15)) ≥ 0 then (if x15 = 0 then (some x14) else (some true)) else (some false)))
def paternosterlaw13_DriveStops.f (k : Nat) (a0_0 : Int) (a0_1 : Int) (a0_2 : Int) (a1 : Int) (a2 : Int) : Option (Bool) := (paternosterlaw13_awake.f k).bind fun t234 => (if t234 = true then ((paternosterlaw13_may.f a0_0 a0_1 a0_2).bind fun t235 => (if t235 = true then ((drive_Vel.f k a0_0 a0_1 a0_2 (wrap64 (Int.tmod a1 32)) (wrap64 ((wrap64 (Int.tmod a2 8)) + 1)) false).bind fun bt236 => ((drive_Vel.f k a0_0 a0_1 a0_2 (wrap64 (Int.tmod a1 32)) (wrap64 ((wrap64 (Int.tmod a2 8)) + 1)) true).bind fun bt238 => ((drive_Way.f a0_0 a0_1 a0_2 (wrap64 (Int.tmod a1 32))).bind fun t240 => (if bt236.1 = 0 then (if bt236.2 = true then ((car_Car_Step.f a0_0 a0_1 a0_2 bt236.1 bt236.2 32).bind fun bt241 => (paternosterlaw13_DriveStops.j0 k bt238.1 bt238.2 t240 (bt241.2.1 != 0) a0_0 a0_1 a0_2)) else (paternosterlaw13_DriveStops.j0 k bt238.1 bt238.2 t240 true a0_0 a0_1 a0_2)) else (paternosterlaw13_DriveStops.j0 k bt238.1 bt238.2 t240 true a0_0 a0_1 a0_2))))) else (some true))) else (some false))
theorem paternosterlaw13_DriveStops.mono_l : ∀ k, (∀ y0 y1 y2 y3 y4 y5 y6, LeO (paternosterlaw13_DriveStops.j0 k y0 y1 y2 y3 y4 y5 y6) (paternosterlaw13_DriveStops.j0 (k + 1) y0 y1 y2 y3 y4 y5 y6))
  | 0 => fun _ _ _ _ _ _ _ r h => by simp [paternosterlaw13_DriveStops.j0] at h
  | k + 1 => by
    have ih0 := paternosterlaw13_DriveStops.mono_l k
    · intro y0 y1 y2 y3 y4 y5 y6
      unfold paternosterlaw13_DriveStops.j0
      repeat' first
      | (with_reducible exact ih0 _ _ _ _ _ _ _)
      | (with_reducible exact drive_Vel.mono _ _ _ _ _ _ _)
      | (with_reducible exact paternosterlaw13_awake.mono _)
      | (with_reducible exact LeO.refl _)
      | (with_reducible exact LeO.none _)
      | (with_reducible refine LeO.ite ?_ ?_)
      | (with_reducible refine LeO.bind ?_ (fun _ => ?_))
      | exact ih0 _ _ _ _ _ _ _
      | exact drive_Vel.mono _ _ _ _ _ _ _
      | exact paternosterlaw13_awake.mono _
      | exact LeO.none _
      | refine LeO.ite ?_ ?_
      | refine LeO.bind ?_ (fun _ => ?_)
theorem paternosterlaw13_DriveStops.mono : ∀ a0 a1 a2 a3 a4 k, LeO (paternosterlaw13_DriveStops.f k a0 a1 a2 a3 a4) (paternosterlaw13_DriveStops.f (k + 1) a0 a1 a2 a3 a4) := by
  intro a0 a1 a2 a3 a4 k
  have ih0 := paternosterlaw13_DriveStops.mono_l k
  unfold paternosterlaw13_DriveStops.f
  repeat' first
      | (with_reducible exact ih0 _ _ _ _ _ _ _)
      | (with_reducible exact drive_Vel.mono _ _ _ _ _ _ _)
      | (with_reducible exact paternosterlaw13_awake.mono _)
      | (with_reducible exact LeO.refl _)
      | (with_reducible exact LeO.none _)
      | (with_reducible refine LeO.ite ?_ ?_)
      | (with_reducible refine LeO.bind ?_ (fun _ => ?_))
      | exact ih0 _ _ _ _ _ _ _
      | exact drive_Vel.mono _ _ _ _ _ _ _
      | exact paternosterlaw13_awake.mono _
      | exact LeO.none _
      | refine LeO.ite ?_ ?_
      | refine LeO.bind ?_ (fun _ => ?_)
set_option maxHeartbeats 8000000 in
set_option maxRecDepth 100000 in
theorem paternosterlaw13_DriveStops.calls (k : Nat) (a0_0 : Int) (a0_1 : Int) (a0_2 : Int) (a1 : Int) (a2 : Int) (r : Bool) (w : World) (hT : r = true) (h : paternosterlaw13_DriveStops.f k a0_0 a0_1 a0_2 a1 a2 = some r) :
    Calls Try.prog 12 #[.agg #[.int .i64 a0_0, .int .i64 a0_1, .int .i64 a0_2], .int .u8 a1, .int .u8 a2] w fun e w' => e = .returned (.bool r) ∧ Below w.heap.size w w' := by
  have hu32 := Try.underlying32
  have HT := Aside0.mk hT
  clear hT
  have HB := Aside0.mk (Below.refl w.heap.size w)
  have H : ((paternosterlaw13_awake.f k).bind fun t234 => (if t234 = true then ((paternosterlaw13_may.f a0_0 a0_1 a0_2).bind fun t235 => (if t235 = true then ((drive_Vel.f k a0_0 a0_1 a0_2 (wrap64 (Int.tmod a1 32)) (wrap64 ((wrap64 (Int.tmod a2 8)) + 1)) false).bind fun bt236 => ((drive_Vel.f k a0_0 a0_1 a0_2 (wrap64 (Int.tmod a1 32)) (wrap64 ((wrap64 (Int.tmod a2 8)) + 1)) true).bind fun bt238 => ((drive_Way.f a0_0 a0_1 a0_2 (wrap64 (Int.tmod a1 32))).bind fun t240 => (if bt236.1 = 0 then (if bt236.2 = true then ((car_Car_Step.f a0_0 a0_1 a0_2 bt236.1 bt236.2 32).bind fun bt241 => (paternosterlaw13_DriveStops.j0 k bt238.1 bt238.2 t240 (bt241.2.1 != 0) a0_0 a0_1 a0_2)) else (paternosterlaw13_DriveStops.j0 k bt238.1 bt238.2 t240 true a0_0 a0_1 a0_2)) else (paternosterlaw13_DriveStops.j0 k bt238.1 bt238.2 t240 true a0_0 a0_1 a0_2))))) else (some true))) else (some false))) = some r := h
  clear h
  replace H := Option.bind_eq_some_iff.mp H
  obtain ⟨t234, A40, H⟩ := H
  replace H : (if t234 = true then ((paternosterlaw13_may.f a0_0 a0_1 a0_2).bind fun t235 => (if t235 = true then ((drive_Vel.f k a0_0 a0_1 a0_2 (wrap64 (Int.tmod a1 32)) (wrap64 ((wrap64 (Int.tmod a2 8)) + 1)) false).bind fun bt236 => ((drive_Vel.f k a0_0 a0_1 a0_2 (wrap64 (Int.tmod a1 32)) (wrap64 ((wrap64 (Int.tmod a2 8)) + 1)) true).bind fun bt238 => ((drive_Way.f a0_0 a0_1 a0_2 (wrap64 (Int.tmod a1 32))).bind fun t240 => (if bt236.1 = 0 then (if bt236.2 = true then ((car_Car_Step.f a0_0 a0_1 a0_2 bt236.1 bt236.2 32).bind fun bt241 => (paternosterlaw13_DriveStops.j0 k bt238.1 bt238.2 t240 (bt241.2.1 != 0) a0_0 a0_1 a0_2)) else (paternosterlaw13_DriveStops.j0 k bt238.1 bt238.2 t240 true a0_0 a0_1 a0_2)) else (paternosterlaw13_DriveStops.j0 k bt238.1 bt238.2 t240 true a0_0 a0_1 a0_2))))) else (some true))) else (some false)) = some r := H
  have A4 := Aside0.mk A40
  clear A40
  by_cases c5 : t234 = true
  · subst c5
    have H1 : ((paternosterlaw13_may.f a0_0 a0_1 a0_2).bind fun t235 => (if t235 = true then ((drive_Vel.f k a0_0 a0_1 a0_2 (wrap64 (Int.tmod a1 32)) (wrap64 ((wrap64 (Int.tmod a2 8)) + 1)) false).bind fun bt236 => ((drive_Vel.f k a0_0 a0_1 a0_2 (wrap64 (Int.tmod a1 32)) (wrap64 ((wrap64 (Int.tmod a2 8)) + 1)) true).bind fun bt238 => ((drive_Way.f a0_0 a0_1 a0_2 (wrap64 (Int.tmod a1 32))).bind fun t240 => (if bt236.1 = 0 then (if bt236.2 = true then ((car_Car_Step.f a0_0 a0_1 a0_2 bt236.1 bt236.2 32).bind fun bt241 => (paternosterlaw13_DriveStops.j0 k bt238.1 bt238.2 t240 (bt241.2.1 != 0) a0_0 a0_1 a0_2)) else (paternosterlaw13_DriveStops.j0 k bt238.1 bt238.2 t240 true a0_0 a0_1 a0_2)) else (paternosterlaw13_DriveStops.j0 k bt238.1 bt238.2 t240 true a0_0 a0_1 a0_2))))) else (some true))) = some r := by rw [if_pos rfl] at H; exact H
    clear H
    have H := H1
    clear H1
    replace H := Option.bind_eq_some_iff.mp H
    obtain ⟨t235, A60, H⟩ := H
    replace H : (if t235 = true then ((drive_Vel.f k a0_0 a0_1 a0_2 (wrap64 (Int.tmod a1 32)) (wrap64 ((wrap64 (Int.tmod a2 8)) + 1)) false).bind fun bt236 => ((drive_Vel.f k a0_0 a0_1 a0_2 (wrap64 (Int.tmod a1 32)) (wrap64 ((wrap64 (Int.tmod a2 8)) + 1)) true).bind fun bt238 => ((drive_Way.f a0_0 a0_1 a0_2 (wrap64 (Int.tmod a1 32))).bind fun t240 => (if bt236.1 = 0 then (if bt236.2 = true then ((car_Car_Step.f a0_0 a0_1 a0_2 bt236.1 bt236.2 32).bind fun bt241 => (paternosterlaw13_DriveStops.j0 k bt238.1 bt238.2 t240 (bt241.2.1 != 0) a0_0 a0_1 a0_2)) else (paternosterlaw13_DriveStops.j0 k bt238.1 bt238.2 t240 true a0_0 a0_1 a0_2)) else (paternosterlaw13_DriveStops.j0 k bt238.1 bt238.2 t240 true a0_0 a0_1 a0_2))))) else (some true)) = some r := H
    have A6 := Aside0.mk A60
    clear A60
    by_cases c7 : t235 = true
    · subst c7
      have H1 : ((drive_Vel.f k a0_0 a0_1 a0_2 (wrap64 (Int.tmod a1 32)) (wrap64 ((wrap64 (Int.tmod a2 8)) + 1)) false).bind fun bt236 => ((drive_Vel.f k a0_0 a0_1 a0_2 (wrap64 (Int.tmod a1 32)) (wrap64 ((wrap64 (Int.tmod a2 8)) + 1)) true).bind fun bt238 => ((drive_Way.f a0_0 a0_1 a0_2 (wrap64 (Int.tmod a1 32))).bind fun t240 => (if bt236.1 = 0 then (if bt236.2 = true then ((car_Car_Step.f a0_0 a0_1 a0_2 bt236.1 bt236.2 32).bind fun bt241 => (paternosterlaw13_DriveStops.j0 k bt238.1 bt238.2 t240 (bt241.2.1 != 0) a0_0 a0_1 a0_2)) else (paternosterlaw13_DriveStops.j0 k bt238.1 bt238.2 t240 true a0_0 a0_1 a0_2)) else (paternosterlaw13_DriveStops.j0 k bt238.1 bt238.2 t240 true a0_0 a0_1 a0_2))))) = some r := by rw [if_pos rfl] at H; exact H
      clear H
      have H := H1
      clear H1
      replace H := Option.bind_eq_some_iff.mp H
      obtain ⟨⟨t236, t237⟩, A80, H⟩ := H
      replace H : ((drive_Vel.f k a0_0 a0_1 a0_2 (wrap64 (Int.tmod a1 32)) (wrap64 ((wrap64 (Int.tmod a2 8)) + 1)) true).bind fun bt238 => ((drive_Way.f a0_0 a0_1 a0_2 (wrap64 (Int.tmod a1 32))).bind fun t240 => (if t236 = 0 then (if t237 = true then ((car_Car_Step.f a0_0 a0_1 a0_2 t236 t237 32).bind fun bt241 => (paternosterlaw13_DriveStops.j0 k bt238.1 bt238.2 t240 (bt241.2.1 != 0) a0_0 a0_1 a0_2)) else (paternosterlaw13_DriveStops.j0 k bt238.1 bt238.2 t240 true a0_0 a0_1 a0_2)) else (paternosterlaw13_DriveStops.j0 k bt238.1 bt238.2 t240 true a0_0 a0_1 a0_2)))) = some r := H
      have A8 := Aside0.mk A80
      clear A80
      replace H := Option.bind_eq_some_iff.mp H
      obtain ⟨⟨t238, t239⟩, A90, H⟩ := H
      replace H : ((drive_Way.f a0_0 a0_1 a0_2 (wrap64 (Int.tmod a1 32))).bind fun t240 => (if t236 = 0 then (if t237 = true then ((car_Car_Step.f a0_0 a0_1 a0_2 t236 t237 32).bind fun bt241 => (paternosterlaw13_DriveStops.j0 k t238 t239 t240 (bt241.2.1 != 0) a0_0 a0_1 a0_2)) else (paternosterlaw13_DriveStops.j0 k t238 t239 t240 true a0_0 a0_1 a0_2)) else (paternosterlaw13_DriveStops.j0 k t238 t239 t240 true a0_0 a0_1 a0_2))) = some r := H
      have A9 := Aside0.mk A90
      clear A90
      replace H := Option.bind_eq_some_iff.mp H
      obtain ⟨t240, A100, H⟩ := H
      replace H : (if t236 = 0 then (if t237 = true then ((car_Car_Step.f a0_0 a0_1 a0_2 t236 t237 32).bind fun bt241 => (paternosterlaw13_DriveStops.j0 k t238 t239 t240 (bt241.2.1 != 0) a0_0 a0_1 a0_2)) else (paternosterlaw13_DriveStops.j0 k t238 t239 t240 true a0_0 a0_1 a0_2)) else (paternosterlaw13_DriveStops.j0 k t238 t239 t240 true a0_0 a0_1 a0_2)) = some r := H
      have A10 := Aside0.mk A100
      clear A100
      have HC11 := Aside0.mk H
      clear H
      go_enter Try.func12, Try.ntmps12
      go_upto_region 12 with (first | ((with_reducible refine gate_dst (N := 3) rfl ?_); refine box_event ?hg (N := 3) ?hd (cs := #[.int .i64 a0_0, .int .i64 a0_1, .int .i64 a0_2]) (t := 32) ?hr ?_; (case hd => rfl); (case hg => rfl); (case hr => first | (go_simp; done) | (go_simp; rfl)); intro gb233 hg w12 hbox hb; have n0_ := Aside0.mk (below_step (by repeat (first | (with_reducible first | exact HB.out | apply below_alloc | apply pw_below_drewN | apply below_drew1) | exact HB.out)) hb); have n1_ := Aside0.mk (hbox); have n2_ := Aside0.mk ((by rw [hg]; exact (below_size (by repeat (first | (with_reducible first | exact HB.out | apply below_alloc | apply pw_below_drewN | apply below_drew1) | exact HB.out))) : w.heap.size ≤ gb233)); have n3_ := Aside0.mk ((by rw [hg]; exact (below_size (by repeat (first | (with_reducible first | exact HB.out | apply below_alloc | apply pw_below_drewN | apply below_drew1) | exact HB.out))) : w.heap.size ≤ gb233)); clear HB; have HB := n0_; have BK233 := n1_; have GW233 := n2_; have GE233 := n3_; clear n0_ n1_ n2_ n3_; clear hb hbox hg) | ((with_reducible refine gate_callee (f := 21) rfl ?_); refine goesL_ (some 16) rfl rfl Try.func21 (by kernel_rfl) rfl #[] rfl (by (try simp only [List.map_toArray, List.map_cons, List.map_nil]); first | done | rfl | (simp only [List.length_drop, List.length_take]; rfl)) ?_; (with_reducible refine (paternosterlaw13_awake.calls k  true _ A4.out).mono ?_); rintro e w13 ⟨rfl, hb⟩; refine ⟨_, rfl, ?_⟩; have n0_ := Aside0.mk (blk_below (g := gb233) (o := .cells #[.int .i64 a0_0, .int .i64 a0_1, .int .i64 a0_2] 32 (0, 0)) (by (with_reducible repeat (first | refine blk_drewN ?_ _ | refine blk_drew ?_ | refine blk_alloc ?_ _)); exact BK233.out) hb); have n1_ := Aside0.mk (below_step (by repeat (first | (with_reducible first | exact HB.out | apply below_alloc | apply pw_below_drewN | apply below_drew1 | refine below_set ?_ GE233.out) | exact HB.out)) hb); clear BK233; clear HB; have BK233 := n0_; have HB := n1_; clear n0_ n1_; (try clear hb); (try clear hb2); (try clear hk); (try clear hi); have hcz14_0 : w13.cell? ⟨gb233, 0, none⟩ = some (.int .i64 a0_0) := (blk_cell BK233.out 0).trans rfl; have hcz14_1 : w13.cell? ⟨gb233, 1, none⟩ = some (.int .i64 a0_1) := (blk_cell BK233.out 1).trans rfl; have hcz14_2 : w13.cell? ⟨gb233, 2, none⟩ = some (.int .i64 a0_2) := (blk_cell BK233.out 2).trans rfl; have hfz14_0 := blk_frozen BK233.out 0; have hfz14_1 := blk_frozen BK233.out 1; have hfz14_2 := blk_frozen BK233.out 2) | ((with_reducible refine gate_callee (f := 22) rfl ?_); refine goesL_ (some 20) rfl rfl Try.func22 (by kernel_rfl) rfl #[.agg #[.int .i64 a0_0, .int .i64 a0_1, .int .i64 a0_2]] rfl (by (try simp only [List.map_toArray, List.map_cons, List.map_nil]); first | done | rfl | (simp only [List.length_drop, List.length_take]; rfl)) ?_; (with_reducible refine (paternosterlaw13_may.calls a0_0 a0_1 a0_2 true _ A6.out).mono ?_); rintro e w15 ⟨rfl, hb⟩; refine ⟨_, rfl, ?_⟩; have n0_ := Aside0.mk (blk_below (g := gb233) (o := .cells #[.int .i64 a0_0, .int .i64 a0_1, .int .i64 a0_2] 32 (0, 0)) (by (with_reducible repeat (first | refine blk_drewN ?_ _ | refine blk_drew ?_ | refine blk_alloc ?_ _)); exact BK233.out) hb); have n1_ := Aside0.mk (below_step (by repeat (first | (with_reducible first | exact HB.out | apply below_alloc | apply pw_below_drewN | apply below_drew1 | refine below_set ?_ GE233.out) | exact HB.out)) hb); clear BK233; clear HB; have BK233 := n0_; have HB := n1_; clear n0_ n1_; (try clear hb); (try clear hb2); (try clear hk); (try clear hi); have hcz16_0 : w15.cell? ⟨gb233, 0, none⟩ = some (.int .i64 a0_0) := (blk_cell BK233.out 0).trans rfl; have hcz16_1 : w15.cell? ⟨gb233, 1, none⟩ = some (.int .i64 a0_1) := (blk_cell BK233.out 1).trans rfl; have hcz16_2 : w15.cell? ⟨gb233, 2, none⟩ = some (.int .i64 a0_2) := (blk_cell BK233.out 2).trans rfl; have hfz16_0 := blk_frozen BK233.out 0; have hfz16_1 := blk_frozen BK233.out 1; have hfz16_2 := blk_frozen BK233.out 2) | ((with_reducible refine gate_callee (f := 23) rfl ?_); refine goesL_ (some 34) rfl rfl Try.func23 (by kernel_rfl) rfl #[.agg #[.int .i64 a0_0, .int .i64 a0_1, .int .i64 a0_2], .int .i64 (wrap64 (Int.tmod a1 32)), .int .i64 (wrap64 ((wrap64 (Int.tmod a2 8)) + 1)), .bool false] rfl (by (try simp only [List.map_toArray, List.map_cons, List.map_nil]); first | done | rfl | (simp only [List.length_drop, List.length_take]; rfl)) ?_; (with_reducible refine (drive_Vel.calls k a0_0 a0_1 a0_2 (wrap64 (Int.tmod a1 32)) (wrap64 ((wrap64 (Int.tmod a2 8)) + 1)) false t236 t237 _ A8.out).mono ?_); rintro e w17 ⟨rfl, hb⟩; clear A8; refine ⟨_, rfl, ?_⟩; have n0_ := Aside0.mk (blk_below (g := gb233) (o := .cells #[.int .i64 a0_0, .int .i64 a0_1, .int .i64 a0_2] 32 (0, 0)) (by (with_reducible repeat (first | refine blk_drewN ?_ _ | refine blk_drew ?_ | refine blk_alloc ?_ _)); exact BK233.out) hb); have n1_ := Aside0.mk (below_step (by repeat (first | (with_reducible first | exact HB.out | apply below_alloc | apply pw_below_drewN | apply below_drew1 | refine below_set ?_ GE233.out) | exact HB.out)) hb); clear BK233; clear HB; have BK233 := n0_; have HB := n1_; clear n0_ n1_; (try clear hb); (try clear hb2); (try clear hk); (try clear hi); have hcz18_0 : w17.cell? ⟨gb233, 0, none⟩ = some (.int .i64 a0_0) := (blk_cell BK233.out 0).trans rfl; have hcz18_1 : w17.cell? ⟨gb233, 1, none⟩ = some (.int .i64 a0_1) := (blk_cell BK233.out 1).trans rfl; have hcz18_2 : w17.cell? ⟨gb233, 2, none⟩ = some (.int .i64 a0_2) := (blk_cell BK233.out 2).trans rfl; have hfz18_0 := blk_frozen BK233.out 0; have hfz18_1 := blk_frozen BK233.out 1; have hfz18_2 := blk_frozen BK233.out 2) | ((with_reducible refine gate_callee (f := 23) rfl ?_); refine goesL_ (some 41) rfl rfl Try.func23 (by kernel_rfl) rfl #[.agg #[.int .i64 a0_0, .int .i64 a0_1, .int .i64 a0_2], .int .i64 (wrap64 (Int.tmod a1 32)), .int .i64 (wrap64 ((wrap64 (Int.tmod a2 8)) + 1)), .bool true] rfl (by (try simp only [List.map_toArray, List.map_cons, List.map_nil]); first | done | rfl | (simp only [List.length_drop, List.length_take]; rfl)) ?_; (with_reducible refine (drive_Vel.calls k a0_0 a0_1 a0_2 (wrap64 (Int.tmod a1 32)) (wrap64 ((wrap64 (Int.tmod a2 8)) + 1)) true t238 t239 _ A9.out).mono ?_); rintro e w19 ⟨rfl, hb⟩; clear A9; refine ⟨_, rfl, ?_⟩; have n0_ := Aside0.mk (blk_below (g := gb233) (o := .cells #[.int .i64 a0_0, .int .i64 a0_1, .int .i64 a0_2] 32 (0, 0)) (by (with_reducible repeat (first | refine blk_drewN ?_ _ | refine blk_drew ?_ | refine blk_alloc ?_ _)); exact BK233.out) hb); have n1_ := Aside0.mk (below_step (by repeat (first | (with_reducible first | exact HB.out | apply below_alloc | apply pw_below_drewN | apply below_drew1 | refine below_set ?_ GE233.out) | exact HB.out)) hb); clear BK233; clear HB; have BK233 := n0_; have HB := n1_; clear n0_ n1_; (try clear hb); (try clear hb2); (try clear hk); (try clear hi); have hcz20_0 : w19.cell? ⟨gb233, 0, none⟩ = some (.int .i64 a0_0) := (blk_cell BK233.out 0).trans rfl; have hcz20_1 : w19.cell? ⟨gb233, 1, none⟩ = some (.int .i64 a0_1) := (blk_cell BK233.out 1).trans rfl; have hcz20_2 : w19.cell? ⟨gb233, 2, none⟩ = some (.int .i64 a0_2) := (blk_cell BK233.out 2).trans rfl; have hfz20_0 := blk_frozen BK233.out 0; have hfz20_1 := blk_frozen BK233.out 1; have hfz20_2 := blk_frozen BK233.out 2) | ((with_reducible refine gate_callee (f := 28) rfl ?_); refine goesL_ (some 46) rfl rfl Try.func28 (by kernel_rfl) rfl #[.agg #[.int .i64 a0_0, .int .i64 a0_1, .int .i64 a0_2], .int .i64 (wrap64 (Int.tmod a1 32))] rfl (by (try simp only [List.map_toArray, List.map_cons, List.map_nil]); first | done | rfl | (simp only [List.length_drop, List.length_take]; rfl)) ?_; (with_reducible refine (drive_Way.calls a0_0 a0_1 a0_2 (wrap64 (Int.tmod a1 32)) t240 _ A10.out).mono ?_); rintro e w21 ⟨rfl, hb⟩; refine ⟨_, rfl, ?_⟩; have n0_ := Aside0.mk (blk_below (g := gb233) (o := .cells #[.int .i64 a0_0, .int .i64 a0_1, .int .i64 a0_2] 32 (0, 0)) (by (with_reducible repeat (first | refine blk_drewN ?_ _ | refine blk_drew ?_ | refine blk_alloc ?_ _)); exact BK233.out) hb); have n1_ := Aside0.mk (below_step (by repeat (first | (with_reducible first | exact HB.out | apply below_alloc | apply pw_below_drewN | apply below_drew1 | refine below_set ?_ GE233.out) | exact HB.out)) hb); clear BK233; clear HB; have BK233 := n0_; have HB := n1_; clear n0_ n1_; (try clear hb); (try clear hb2); (try clear hk); (try clear hi)))
      (try simp only [Act.put, List.setIfInBounds_toArray, List.set_cons_zero, List.set_cons_succ])
      go_cut [60] (fun v60 wc => ∃ (kq : Nat) (x60_10 : Bool), v60 = .bool x60_10 ∧ Aside0 (paternosterlaw13_DriveStops.j0 kq t238 t239 t240 x60_10 a0_0 a0_1 a0_2 = some r) ∧ Aside0 (kq ≤ k) ∧ Aside0 (wc.heap[gb233]? = some (.cells #[.int .i64 a0_0, .int .i64 a0_1, .int .i64 a0_2] 32 (0, 0))) ∧ Aside0 (Below w.heap.size w wc))
      case first =>
        have H := HC11.out
        clear HC11
        by_cases c22 : t236 = 0
        · rw [if_pos c22] at H
          have c22b0 : (t236 == 0) = true := beq_iff_eq.mpr c22
          have c22b1 : (t236 != 0) = false := bne_eq_false_iff_eq.mpr c22
          clear c22
          (first | rw [c22b0] | (simp only [i64_w, i32_w]; rw [c22b0]) | skip)
          by_cases c23 : t237 = true
          · subst c23
            have H1 : ((car_Car_Step.f a0_0 a0_1 a0_2 t236 true 32).bind fun bt241 => (paternosterlaw13_DriveStops.j0 k t238 t239 t240 (bt241.2.1 != 0) a0_0 a0_1 a0_2)) = some r := by rw [if_pos rfl] at H; exact H
            clear H
            have H := H1
            clear H1
            replace H := Option.bind_eq_some_iff.mp H
            obtain ⟨⟨t241, t242, t243⟩, A240, H⟩ := H
            replace H : (paternosterlaw13_DriveStops.j0 k t238 t239 t240 (t242 != 0) a0_0 a0_1 a0_2) = some r := H
            have A24 := Aside0.mk A240
            clear A240
            have H' := Aside0.mk H
            clear H
            have hcz25_0 : w21.cell? ⟨gb233, 0, none⟩ = some (.int .i64 a0_0) := (blk_cell BK233.out 0).trans rfl
            have hcz25_1 : w21.cell? ⟨gb233, 1, none⟩ = some (.int .i64 a0_1) := (blk_cell BK233.out 1).trans rfl
            have hcz25_2 : w21.cell? ⟨gb233, 2, none⟩ = some (.int .i64 a0_2) := (blk_cell BK233.out 2).trans rfl
            have hfz25_0 := blk_frozen BK233.out 0
            have hfz25_1 := blk_frozen BK233.out 1
            have hfz25_2 := blk_frozen BK233.out 2
            go_wp2_with (first | (go_at_call 31; (with_reducible refine (car_Car_Step.calls a0_0 a0_1 a0_2 t236 true 32 t241 t242 t243 _ A24.out).mono ?_); rintro e w26 ⟨rfl, hb⟩; have n0_ := Aside0.mk (blk_below (g := gb233) (o := .cells #[.int .i64 a0_0, .int .i64 a0_1, .int .i64 a0_2] 32 (0, 0)) (by (with_reducible repeat (first | refine blk_drewN ?_ _ | refine blk_drew ?_ | refine blk_alloc ?_ _)); exact BK233.out) hb); have n1_ := Aside0.mk (below_step (by repeat (first | (with_reducible first | exact HB.out | apply below_alloc | apply pw_below_drewN | apply below_drew1 | refine below_set ?_ GE233.out) | exact HB.out)) hb); clear BK233; clear HB; have BK233 := n0_; have HB := n1_; clear n0_ n1_; (try clear hb); (try clear hb2); (try clear hk); (try clear hi)))
            go_meet
            case rel => exact ⟨_, ((t242 != 0)), (by first | rfl | (simp; done) | (simp [*]; done)), H', ⟨by first | omega | exact Nat.le_refl _⟩, ⟨by (with_reducible repeat (first | refine blk_drewN ?_ _ | refine blk_drew ?_ | refine blk_alloc ?_ _)); exact BK233.out⟩, ⟨by repeat (first | (with_reducible first | exact HB.out | apply below_alloc | apply pw_below_drewN | apply below_drew1 | refine below_set ?_ GE233.out) | exact HB.out)⟩⟩
          · replace c23 := Bool.eq_false_iff.mpr c23
            subst c23
            have H1 : (paternosterlaw13_DriveStops.j0 k t238 t239 t240 true a0_0 a0_1 a0_2) = some r := by rw [if_neg (show ¬ (false = true) by decide)] at H; exact H
            clear H
            have H := H1
            clear H1
            have H' := Aside0.mk H
            clear H
            go_wp2
            go_meet
            case rel => exact ⟨_, (true), (by first | rfl | (simp; done) | (simp [*]; done)), H', ⟨by first | omega | exact Nat.le_refl _⟩, ⟨by (with_reducible repeat (first | refine blk_drewN ?_ _ | refine blk_drew ?_ | refine blk_alloc ?_ _)); exact BK233.out⟩, ⟨by repeat (first | (with_reducible first | exact HB.out | apply below_alloc | apply pw_below_drewN | apply below_drew1 | refine below_set ?_ GE233.out) | exact HB.out)⟩⟩
        · rw [if_neg c22] at H
          have c22b0 : (t236 == 0) = false := beq_eq_false_iff_ne.mpr c22
          have c22b1 : (t236 != 0) = true := bne_iff_ne.mpr c22
          (first | rw [c22b0] | (simp only [i64_w, i32_w]; rw [c22b0]) | skip)
          have H' := Aside0.mk H
          clear H
          go_wp2
          go_meet
          case rel => exact ⟨_, (true), (by first | rfl | (simp; done) | (simp [*]; done)), H', ⟨by first | omega | exact Nat.le_refl _⟩, ⟨by (with_reducible repeat (first | refine blk_drewN ?_ _ | refine blk_drew ?_ | refine blk_alloc ?_ _)); exact BK233.out⟩, ⟨by repeat (first | (with_reducible first | exact HB.out | apply below_alloc | apply pw_below_drewN | apply below_drew1 | refine below_set ?_ GE233.out) | exact HB.out)⟩⟩
      case rest =>
        clear HC11
        try clear c1
        try clear c2
        try clear p2
        try clear c5
        try clear p6
        try clear c7
        try clear c12
        try clear c21
        try clear c22
        try clear c22b0
        try clear c22b1
        try clear c23
        try clear hcz14_0
        try clear hcz14_1
        try clear hcz14_2
        try clear hcz16_0
        try clear hcz16_1
        try clear hcz16_2
        try clear hcz18_0
        try clear hcz18_1
        try clear hcz18_2
        try clear hcz20_0
        try clear hcz20_1
        try clear hcz20_2
        try clear hcz25_0
        try clear hcz25_1
        try clear hcz25_2
        try clear hfz14_0
        try clear hfz14_1
        try clear hfz14_2
        try clear hfz16_0
        try clear hfz16_1
        try clear hfz16_2
        try clear hfz18_0
        try clear hfz18_1
        try clear hfz18_2
        try clear hfz20_0
        try clear hfz20_1
        try clear hfz20_2
        try clear hfz25_0
        try clear hfz25_1
        try clear hfz25_2
        obtain ⟨kq, x60_10, rfl, HA, HJ10, BK233, HB⟩ := hcut
        cases kq with
        | zero => exact absurd HA.out (by simp [paternosterlaw13_DriveStops.j0])
        | succ kj10 =>
          have H := HA.out
          clear HA
          simp only [paternosterlaw13_DriveStops.j0] at H
          by_cases c27 : x60_10 = true
          · subst c27
            have H1 : (some false) = some r := by rw [if_pos rfl] at H; exact H
            clear H
            have H := H1
            clear H1
            exact absurd (Option.some.inj H) (by rw [HT.out]; decide)
          · replace c27 := Bool.eq_false_iff.mpr c27
            subst c27
            have H1 : (if (wrap64 (t240 * a0_1)) < 0 then (if t239 = true then (some false) else (if (wrap64 (t238 * t240)) ≤ 0 then (some (decide ((wrap64 (t238 * t238)) < (wrap64 (a0_1 * a0_1))))) else (some false))) else (if (wrap64 (t238 * t240)) ≥ 0 then (if t240 = 0 then (some t239) else (some true)) else (some false))) = some r := by rw [if_neg (show ¬ (false = true) by decide)] at H; exact H
            clear H
            have H := H1
            clear H1
            by_cases c28 : (wrap64 (t240 * a0_1)) < 0
            · rw [if_pos c28] at H
              have c28b0 : decide ((wrap64 (t240 * a0_1)) < 0) = true := decide_eq_true c28
              clear c28
              by_cases c29 : t239 = true
              · subst c29
                have H1 : (some false) = some r := by rw [if_pos rfl] at H; exact H
                clear H
                have H := H1
                clear H1
                exact absurd (Option.some.inj H) (by rw [HT.out]; decide)
              · replace c29 := Bool.eq_false_iff.mpr c29
                subst c29
                have H1 : (if (wrap64 (t238 * t240)) ≤ 0 then (some (decide ((wrap64 (t238 * t238)) < (wrap64 (a0_1 * a0_1))))) else (some false)) = some r := by rw [if_neg (show ¬ (false = true) by decide)] at H; exact H
                clear H
                have H := H1
                clear H1
                by_cases c30 : (wrap64 (t238 * t240)) ≤ 0
                · rw [if_pos c30] at H
                  have c30b0 : decide ((wrap64 (t238 * t240)) ≤ 0) = true := decide_eq_true c30
                  clear c30
                  obtain rfl := Option.some.inj H
                  have hcz31_0 : wc.cell? ⟨gb233, 0, none⟩ = some (.int .i64 a0_0) := (blk_cell BK233.out 0).trans rfl
                  have hcz31_1 : wc.cell? ⟨gb233, 1, none⟩ = some (.int .i64 a0_1) := (blk_cell BK233.out 1).trans rfl
                  have hcz31_2 : wc.cell? ⟨gb233, 2, none⟩ = some (.int .i64 a0_2) := (blk_cell BK233.out 2).trans rfl
                  have hfz31_0 := blk_frozen BK233.out 0
                  have hfz31_1 := blk_frozen BK233.out 1
                  have hfz31_2 := blk_frozen BK233.out 2
                  go_wp2
                  go_ret
                  exact ⟨by first | rfl | (simp [errW_none, errW_some] <;> rfl) | (simp [*, errW_none, errW_some] <;> rfl), by repeat (first | (with_reducible first | exact HB.out | apply below_alloc | apply pw_below_drewN | apply below_drew1 | refine below_set ?_ GE233.out) | exact HB.out)⟩
                · rw [if_neg c30] at H
                  have c30b0 : decide ((wrap64 (t238 * t240)) ≤ 0) = false := decide_eq_false c30
                  clear c30
                  exact absurd (Option.some.inj H) (by rw [HT.out]; decide)
            · rw [if_neg c28] at H
              have c28b0 : decide ((wrap64 (t240 * a0_1)) < 0) = false := decide_eq_false c28
              clear c28
              by_cases c32 : (wrap64 (t238 * t240)) ≥ 0
              · rw [if_pos c32] at H
                have c32b0 : decide (0 ≤ (wrap64 (t238 * t240))) = true := decide_eq_true c32
                clear c32
                by_cases c33 : t240 = 0
                · rw [if_pos c33] at H
                  have c33b0 : (t240 == 0) = true := beq_iff_eq.mpr c33
                  have c33b1 : (t240 != 0) = false := bne_eq_false_iff_eq.mpr c33
                  clear c33
                  obtain rfl := Option.some.inj H
                  have hcz34_0 : wc.cell? ⟨gb233, 0, none⟩ = some (.int .i64 a0_0) := (blk_cell BK233.out 0).trans rfl
                  have hcz34_1 : wc.cell? ⟨gb233, 1, none⟩ = some (.int .i64 a0_1) := (blk_cell BK233.out 1).trans rfl
                  have hcz34_2 : wc.cell? ⟨gb233, 2, none⟩ = some (.int .i64 a0_2) := (blk_cell BK233.out 2).trans rfl
                  have hfz34_0 := blk_frozen BK233.out 0
                  have hfz34_1 := blk_frozen BK233.out 1
                  have hfz34_2 := blk_frozen BK233.out 2
                  go_wp2
                  go_ret
                  exact ⟨by first | rfl | (simp [errW_none, errW_some] <;> rfl) | (simp [*, errW_none, errW_some] <;> rfl), by repeat (first | (with_reducible first | exact HB.out | apply below_alloc | apply pw_below_drewN | apply below_drew1 | refine below_set ?_ GE233.out) | exact HB.out)⟩
                · rw [if_neg c33] at H
                  have c33b0 : (t240 == 0) = false := beq_eq_false_iff_ne.mpr c33
                  have c33b1 : (t240 != 0) = true := bne_iff_ne.mpr c33
                  obtain rfl := Option.some.inj H
                  have hcz35_0 : wc.cell? ⟨gb233, 0, none⟩ = some (.int .i64 a0_0) := (blk_cell BK233.out 0).trans rfl
                  have hcz35_1 : wc.cell? ⟨gb233, 1, none⟩ = some (.int .i64 a0_1) := (blk_cell BK233.out 1).trans rfl
                  have hcz35_2 : wc.cell? ⟨gb233, 2, none⟩ = some (.int .i64 a0_2) := (blk_cell BK233.out 2).trans rfl
                  have hfz35_0 := blk_frozen BK233.out 0
                  have hfz35_1 := blk_frozen BK233.out 1
                  have hfz35_2 := blk_frozen BK233.out 2
                  go_wp2
                  go_ret
                  exact ⟨by first | rfl | (simp [errW_none, errW_some] <;> rfl) | (simp [*, errW_none, errW_some] <;> rfl), by repeat (first | (with_reducible first | exact HB.out | apply below_alloc | apply pw_below_drewN | apply below_drew1 | refine below_set ?_ GE233.out) | exact HB.out)⟩
              · rw [if_neg c32] at H
                have c32b0 : decide (0 ≤ (wrap64 (t238 * t240))) = false := decide_eq_false c32
                clear c32
                exact absurd (Option.some.inj H) (by rw [HT.out]; decide)
    · replace c7 := Bool.eq_false_iff.mpr c7
      subst c7
      have H1 : (some true) = some r := by rw [if_neg (show ¬ (false = true) by decide)] at H; exact H
      clear H
      have H := H1
      clear H1
      obtain rfl := Option.some.inj H
      go_enter Try.func12, Try.ntmps12
      go_wp2_with (first | ((with_reducible refine gate_dst (N := 3) rfl ?_); refine box_event ?hg (N := 3) ?hd (cs := #[.int .i64 a0_0, .int .i64 a0_1, .int .i64 a0_2]) (t := 32) ?hr ?_; (case hd => rfl); (case hg => rfl); (case hr => first | (go_simp; done) | (go_simp; rfl)); intro gb233 hg w36 hbox hb; have n0_ := Aside0.mk (below_step (by repeat (first | (with_reducible first | exact HB.out | apply below_alloc | apply pw_below_drewN | apply below_drew1) | exact HB.out)) hb); have n1_ := Aside0.mk (hbox); have n2_ := Aside0.mk ((by rw [hg]; exact (below_size (by repeat (first | (with_reducible first | exact HB.out | apply below_alloc | apply pw_below_drewN | apply below_drew1) | exact HB.out))) : w.heap.size ≤ gb233)); have n3_ := Aside0.mk ((by rw [hg]; exact (below_size (by repeat (first | (with_reducible first | exact HB.out | apply below_alloc | apply pw_below_drewN | apply below_drew1) | exact HB.out))) : w.heap.size ≤ gb233)); clear HB; have HB := n0_; have BK233 := n1_; have GW233 := n2_; have GE233 := n3_; clear n0_ n1_ n2_ n3_; clear hb hbox hg) | ((with_reducible refine gate_callee (f := 21) rfl ?_); refine goesL_ (some 16) rfl rfl Try.func21 (by kernel_rfl) rfl #[] rfl (by (try simp only [List.map_toArray, List.map_cons, List.map_nil]); first | done | rfl | (simp only [List.length_drop, List.length_take]; rfl)) ?_; (with_reducible refine (paternosterlaw13_awake.calls k  true _ A4.out).mono ?_); rintro e w37 ⟨rfl, hb⟩; refine ⟨_, rfl, ?_⟩; have n0_ := Aside0.mk (blk_below (g := gb233) (o := .cells #[.int .i64 a0_0, .int .i64 a0_1, .int .i64 a0_2] 32 (0, 0)) (by (with_reducible repeat (first | refine blk_drewN ?_ _ | refine blk_drew ?_ | refine blk_alloc ?_ _)); exact BK233.out) hb); have n1_ := Aside0.mk (below_step (by repeat (first | (with_reducible first | exact HB.out | apply below_alloc | apply pw_below_drewN | apply below_drew1 | refine below_set ?_ GE233.out) | exact HB.out)) hb); clear BK233; clear HB; have BK233 := n0_; have HB := n1_; clear n0_ n1_; (try clear hb); (try clear hb2); (try clear hk); (try clear hi); have hcz38_0 : w37.cell? ⟨gb233, 0, none⟩ = some (.int .i64 a0_0) := (blk_cell BK233.out 0).trans rfl; have hcz38_1 : w37.cell? ⟨gb233, 1, none⟩ = some (.int .i64 a0_1) := (blk_cell BK233.out 1).trans rfl; have hcz38_2 : w37.cell? ⟨gb233, 2, none⟩ = some (.int .i64 a0_2) := (blk_cell BK233.out 2).trans rfl; have hfz38_0 := blk_frozen BK233.out 0; have hfz38_1 := blk_frozen BK233.out 1; have hfz38_2 := blk_frozen BK233.out 2) | ((with_reducible refine gate_callee (f := 22) rfl ?_); refine goesL_ (some 20) rfl rfl Try.func22 (by kernel_rfl) rfl #[.agg #[.int .i64 a0_0, .int .i64 a0_1, .int .i64 a0_2]] rfl (by (try simp only [List.map_toArray, List.map_cons, List.map_nil]); first | done | rfl | (simp only [List.length_drop, List.length_take]; rfl)) ?_; (with_reducible refine (paternosterlaw13_may.calls a0_0 a0_1 a0_2 false _ A6.out).mono ?_); rintro e w39 ⟨rfl, hb⟩; refine ⟨_, rfl, ?_⟩; have n0_ := Aside0.mk (blk_below (g := gb233) (o := .cells #[.int .i64 a0_0, .int .i64 a0_1, .int .i64 a0_2] 32 (0, 0)) (by (with_reducible repeat (first | refine blk_drewN ?_ _ | refine blk_drew ?_ | refine blk_alloc ?_ _)); exact BK233.out) hb); have n1_ := Aside0.mk (below_step (by repeat (first | (with_reducible first | exact HB.out | apply below_alloc | apply pw_below_drewN | apply below_drew1 | refine below_set ?_ GE233.out) | exact HB.out)) hb); clear BK233; clear HB; have BK233 := n0_; have HB := n1_; clear n0_ n1_; (try clear hb); (try clear hb2); (try clear hk); (try clear hi)))
      go_ret
      exact ⟨by first | rfl | (simp [errW_none, errW_some] <;> rfl) | (simp [*, errW_none, errW_some] <;> rfl), by repeat (first | (with_reducible first | exact HB.out | apply below_alloc | apply pw_below_drewN | apply below_drew1 | refine below_set ?_ GE233.out) | exact HB.out)⟩
  · replace c5 := Bool.eq_false_iff.mpr c5
    subst c5
    have H1 : (some false) = some r := by rw [if_neg (show ¬ (false = true) by decide)] at H; exact H
    clear H
    have H := H1
    clear H1
    exact absurd (Option.some.inj H) (by rw [HT.out]; decide)

/-- THE ONE PURE STATEMENT of paternosterlaw13_DriveStops: yours. -/
def paternosterlaw13_DriveStops.Pure : Prop := ∀ (a0_0 : Int) (a0_1 : Int) (a0_2 : Int) (a1 : Int) (a2 : Int), (Lit.int .i64 a0_0).wf = true → (Lit.int .i64 a0_1).wf = true → (Lit.int .i64 a0_2).wf = true → (Lit.int .u8 a1).wf = true → (Lit.int .u8 a2).wf = true → ∃ k, paternosterlaw13_DriveStops.f k a0_0 a0_1 a0_2 a1 a2 = some true
theorem paternosterlaw13_DriveStops.walk (P : paternosterlaw13_DriveStops.Pure) (a0_0 : Int) (a0_1 : Int) (a0_2 : Int) (a1 : Int) (a2 : Int) (w : World) (w0_0 : (Lit.int .i64 a0_0).wf = true) (w0_1 : (Lit.int .i64 a0_1).wf = true) (w0_2 : (Lit.int .i64 a0_2).wf = true) (w1 : (Lit.int .u8 a1).wf = true) (w2 : (Lit.int .u8 a2).wf = true) :
    Calls Try.prog 12 #[.agg #[.int .i64 a0_0, .int .i64 a0_1, .int .i64 a0_2], .int .u8 a1, .int .u8 a2] w fun e w' => e = .returned (.bool true) ∧ Below w.heap.size w w' := by
  obtain ⟨k, h⟩ := P a0_0 a0_1 a0_2 a1 a2 w0_0 w0_1 w0_2 w1 w2
  refine (paternosterlaw13_DriveStops.calls k a0_0 a0_1 a0_2 a1 a2 true w rfl h).mono ?_
  rintro e w' ⟨rfl, hd⟩
  exact ⟨rfl, hd⟩

end Go.Proofs.Ytmhgfghbbophlaa.Q
