-- Written by a program of this session (turned from the kit's print.py) out of the translation. Not trusted: Lean checks it.
import Derived.Test.YtcegefhjgkoknaaQx0
namespace Go.Proofs.Ytcegefhjgkoknaa.Q
open Go.RowKit Go.Proofs.YtcegefhjgkoknaaW.PrintWords Go.Proofs.YtcegefhjgkoknaaW.PrintLast Go.Proofs.YtcegefhjgkoknaaW.PrintMore
attribute [local go_sem] max2_int min2_int max_two min_two max_three min_three max_four min_four   -- for this text's walks alone
set_option linter.unusedVariables false
set_option linter.unusedSimpArgs false

attribute [local go_sem] fld23_0 fld23_1 fld23_2 fld25_0 fld25_1 fld27_0 fld27_1 fld27_2 fld27_3 fld37_0 fld37_1
/-! ### car_within: function 32 -/
def inn (x lo hi : Int) : Int := if hi < (if x < lo then lo else x) then hi else (if x < lo then lo else x)
theorem car_within.walks (x lo hi : Int) (w : World) : Calls Try.prog 32 #[.int .i64 x, .int .i64 lo, .int .i64 hi] w fun e w' => e = .returned (.int .i64 (inn x lo hi)) ∧ w' = w := by
  go_enter Try.func32, Try.ntmps32
  go_wp2
  all_goals
    go_ret
    refine ⟨?_, rfl⟩
    simp [inn, *] <;> omega
theorem inn_bd {x lo hi : Int} (h : lo ≤ hi) : lo ≤ inn x lo hi ∧ inn x lo hi ≤ hi := by unfold inn; (repeat' split) <;> omega
def car_within.f (a0 : Int) (a1 : Int) (a2 : Int) : Option (Int) := some (inn a0 a1 a2)
theorem car_within.calls (a0 : Int) (a1 : Int) (a2 : Int) (r : Int) (w : World) (h : car_within.f a0 a1 a2 = some r) :
    Calls Try.prog 32 #[.int .i64 a0, .int .i64 a1, .int .i64 a2] w fun e w' => e = .returned (.int .i64 r) ∧ Below w.heap.size w w' := by
  obtain rfl := Option.some.inj h
  exact (car_within.walks a0 a1 a2 w).mono fun _ _ ⟨he, hw⟩ => ⟨he, hw ▸ Below.refl _ _⟩

/-! ### car_Top: function 33 -/
def topTo (floors : Int) : Int := (inn floors 2 32 - 1) * 8
theorem car_Top.walks (x : Int) (w : World) : Calls Try.prog 33 #[.int .i64 x] w fun e w' => e = .returned (.int .i64 (topTo x)) ∧ w' = w := by
  have hb := inn_bd (x := x) (lo := 2) (hi := 32) (by decide)
  obtain ⟨h1, h2⟩ := hb
  go_enter Try.func33, Try.ntmps33
  go_wp2_with (go_at_call 32; refine (car_within.walks _ _ _ _).mono ?_; rintro e w' ⟨rfl, rfl⟩)
  go_ret
  exact ⟨rfl, rfl⟩
def car_Top.f (a0 : Int) : Option (Int) := some (topTo a0)
theorem car_Top.calls (a0 : Int) (r : Int) (w : World) (h : car_Top.f a0 = some r) :
    Calls Try.prog 33 #[.int .i64 a0] w fun e w' => e = .returned (.int .i64 r) ∧ Below w.heap.size w w' := by
  obtain rfl := Option.some.inj h
  exact (car_Top.walks a0 w).mono fun _ _ ⟨he, hw⟩ => ⟨he, hw ▸ Below.refl _ _⟩

/-! ### car_Car_may: function 31 -/
def mayTo (v x : Int) : Int := inn (inn x (-8) 8) (inn (wrap64 (v - 1)) (-8) 8) (inn (wrap64 (v + 1)) (-8) 8)
theorem car_Car_may.walks (p v l x : Int) (w : World) : Calls Try.prog 31 #[.agg #[.int .i64 p, .int .i64 v, .int .i64 l], .int .i64 x] w fun e w' => e = .returned (.int .i64 (mayTo v x)) ∧ ∃ n, w' = (w.alloc (.cells #[.int .i64 p, .int .i64 v, .int .i64 l] 23)).drewN n := by
  have hb0 := Below.refl w.heap.size w
  go_enter Try.func31, Try.ntmps31
  go_wp2_with (go_at_call 32; refine (car_within.walks _ _ _ _).mono ?_; rintro e w' ⟨rfl, rfl⟩)
  go_quiet ((go_at_call 32; exact Calls.quiet_of_same (car_within.walks _ _ _ _)))
  go_wp2
  go_ret
  exact ⟨rfl, _, rfl⟩

/-! ### car_Car_Step: function 28 -/
theorem setCell_drewN' (w : World) (n : Nat) (a : Addr) (v : Value) : (w.drewN n).setCell a v = (w.setCell a v).drewN n := rfl
attribute [local go_sem] setCell_drewN'
def stepPos (p v x fl : Int) : Int := inn (wrap64 (p + mayTo v x)) 0 (topTo fl)
def carPos (p v x fl : Int) (b : Bool) : Int := if b = true then p else stepPos p v x fl
def carVel (p v x fl : Int) (b : Bool) : Int := if b = true then 0 else if stepPos p v x fl = wrap64 (p + mayTo v x) then mayTo v x else 0
theorem car_Car_Step.walks (p v l x fl : Int) (b : Bool) (w : World) : Calls Try.prog 28 #[.agg #[.int .i64 p, .int .i64 v, .int .i64 l], .int .i64 x, .bool b, .int .i64 fl] w fun e w' => e = .returned (.agg #[.int .i64 (carPos p v x fl b), .int .i64 (carVel p v x fl b), .int .i64 l]) ∧ Below w.heap.size w w' := by
  have hb0 := Below.refl w.heap.size w
  have hmf : ∀ (fn : Fn) (first cap : Array Value) (w : World), (Instr.makeFunc fn first cap).run Try.prog w = .ok (.func fn first cap) w := fun _ _ _ _ => rfl
  cases b
  · go_enter Try.func28, Try.ntmps28
    go_wp2_with (first | (go_at_call 32; refine (car_within.walks _ _ _ _).mono ?_; rintro e w' ⟨rfl, rfl⟩) | (go_at_call 33; refine (car_Top.walks _ _).mono ?_; rintro e w' ⟨rfl, rfl⟩) | (go_at_call 31; refine (car_Car_may.walks _ _ _ _ _).mono ?_; rintro e w' ⟨rfl, n, rfl⟩))
    · have hne : ¬ inn (wrap64 (p + mayTo v x)) 0 (topTo fl) = wrap64 (p + mayTo v x) := by simpa using ‹(inn (wrap64 (p + mayTo v x)) 0 (topTo fl) != wrap64 (p + mayTo v x)) = true›
      refine bodyPost_ret (v := .agg #[.int .i64 (carPos p v x fl false), .int .i64 (carVel p v x fl false), .int .i64 l]) (by simp [results, Try.results28, go_sem, carPos, carVel, stepPos, hne]) rfl ⟨rfl, by repeat (first | exact hb0 | apply below_alloc | apply pw_below_drewN)⟩
    · have hne : inn (wrap64 (p + mayTo v x)) 0 (topTo fl) = wrap64 (p + mayTo v x) := by simpa using ‹(inn (wrap64 (p + mayTo v x)) 0 (topTo fl) != wrap64 (p + mayTo v x)) = false›
      refine bodyPost_ret (v := .agg #[.int .i64 (carPos p v x fl false), .int .i64 (carVel p v x fl false), .int .i64 l]) (by simp [results, Try.results28, go_sem, carPos, carVel, stepPos, hne]) rfl ⟨rfl, by repeat (first | exact hb0 | apply below_alloc | apply pw_below_drewN)⟩
  · go_enter Try.func28, Try.ntmps28
    go_wp2
    refine bodyPost_ret (v := .agg #[.int .i64 (carPos p v x fl true), .int .i64 (carVel p v x fl true), .int .i64 l]) (by simp [results, Try.results28, go_sem, carPos, carVel]) rfl ⟨rfl, by repeat (first | exact hb0 | apply below_alloc | apply pw_below_drewN)⟩
def car_Car_Step.f (a0_0 : Int) (a0_1 : Int) (a0_2 : Int) (a1 : Int) (a2 : Bool) (a3 : Int) : Option (Int × Int × Int) := some (carPos a0_0 a0_1 a1 a3 a2, carVel a0_0 a0_1 a1 a3 a2, a0_2)
theorem car_Car_Step.calls (a0_0 : Int) (a0_1 : Int) (a0_2 : Int) (a1 : Int) (a2 : Bool) (a3 : Int) (r1 : Int) (r2 : Int) (r3 : Int) (w : World) (h : car_Car_Step.f a0_0 a0_1 a0_2 a1 a2 a3 = some (r1, r2, r3)) :
    Calls Try.prog 28 #[.agg #[.int .i64 a0_0, .int .i64 a0_1, .int .i64 a0_2], .int .i64 a1, .bool a2, .int .i64 a3] w fun e w' => e = .returned (.agg #[.int .i64 r1, .int .i64 r2, .int .i64 r3]) ∧ Below w.heap.size w w' := by
  simp only [car_Car_Step.f, Option.some.injEq, Prod.mk.injEq] at h
  obtain ⟨rfl, rfl, rfl⟩ := h
  exact car_Car_Step.walks a0_0 a0_1 a0_2 a1 a3 a2 w

end Go.Proofs.Ytcegefhjgkoknaa.Q
