-- Written by a program of this session (turned from the kit's print.py) out of the translation. Not trusted: Lean checks it.
import Derived.Test.YtcegefhjgkoknaaQx0
import Derived.Test.YtcegefhjgkoknaaQx1
import Derived.Test.YtcegefhjgkoknaaQx2
import Derived.Test.YtcegefhjgkoknaaQx4
import Derived.Test.YtcegefhjgkoknaaQx5
import Derived.Test.YtcegefhjgkoknaaQx6
import Derived.Test.YtcegefhjgkoknaaQx8
namespace Go.Proofs.Ytcegefhjgkoknaa.Q
open Go.RowKit Go.Proofs.YtcegefhjgkoknaaW.PrintWords Go.Proofs.YtcegefhjgkoknaaW.PrintLast Go.Proofs.YtcegefhjgkoknaaW.PrintMore
attribute [local go_sem] max2_int min2_int max_two min_two max_three min_three max_four min_four   -- for this text's walks alone
set_option linter.unusedVariables false
set_option linter.unusedSimpArgs false

attribute [local go_sem] fld23_0 fld23_1 fld23_2 fld25_0 fld25_1 fld27_0 fld27_1 fld27_2 fld27_3 fld37_0 fld37_1
attribute [local go_sem high] eqA25
/-! ### paternosterlaw14_GateHolds: function 9 -/
def paternosterlaw14_GateHolds.j0 : Nat → Bool → Bool → Int → Int → Int → Int → Int → Int → Int → Option (Bool)
  | 0, _, _, _, _, _, _, _, _, _ => none
  | k + 1, x2, x60, x229000, x229001, x229002, x230000, x230001, x237000, x237001 => if x60 = true then (some false) else (if x2 = true then (if x237000 = (mn (wrap64 (x230000 + 1)) x230001) then (some true) else ((car_Car_Level.f x229000 x229001 x229002).bind fun t240 => (if t240 = true then (some false) else (some (x237000 == x230000 && (x237001 == x230001)))))) else (some (x237000 == (mx (wrap64 (x230000 - 1)) 0))))
def paternosterlaw14_GateHolds.f (k : Nat) (a0_0 : Int) (a0_1 : Int) (a0_2 : Int) (a1_0 : Int) (a1_1 : Int) (a2 : Bool) : Option (Bool) := (paternosterlaw14_awake.f).bind fun t230 => (if t230 = true then ((paternosterlaw14_may.f a0_0 a0_1 a0_2 a1_0 a1_1).bind fun t231 => (if t231 = true then ((gate_What.f a0_0 a0_1 a0_2 a1_0 a1_1 a2 false).bind fun t232 => ((gate_What.f a0_0 a0_1 a0_2 a1_0 a1_1 a2 true).bind fun t233 => ((leaf_Leaf_Step.f a1_0 a1_1 t233 false).bind fun bt234 => (if t232 = 0 then (if t233 = 1 then ((car_Car_Level.f a0_0 a0_1 a0_2).bind fun t237 => (if t237 = true then (if a2 = true then ((leaf_Leaf_Wide.f a1_0 a1_1).bind fun t238 => (if t238 = true then (paternosterlaw14_GateHolds.j0 k a2 true a0_0 a0_1 a0_2 a1_0 a1_1 bt234.1 bt234.2) else (if t233 = 2 then (paternosterlaw14_GateHolds.j0 k a2 true a0_0 a0_1 a0_2 a1_0 a1_1 bt234.1 bt234.2) else (paternosterlaw14_GateHolds.j0 k a2 false a0_0 a0_1 a0_2 a1_0 a1_1 bt234.1 bt234.2)))) else (paternosterlaw14_GateHolds.j0 k a2 true a0_0 a0_1 a0_2 a1_0 a1_1 bt234.1 bt234.2)) else (paternosterlaw14_GateHolds.j0 k a2 true a0_0 a0_1 a0_2 a1_0 a1_1 bt234.1 bt234.2))) else (if t233 = 2 then (if a2 = true then (paternosterlaw14_GateHolds.j0 k a2 true a0_0 a0_1 a0_2 a1_0 a1_1 bt234.1 bt234.2) else ((leaf_Leaf_Shut.f a1_0 a1_1).bind fun t239 => (paternosterlaw14_GateHolds.j0 k a2 t239 a0_0 a0_1 a0_2 a1_0 a1_1 bt234.1 bt234.2))) else (paternosterlaw14_GateHolds.j0 k a2 false a0_0 a0_1 a0_2 a1_0 a1_1 bt234.1 bt234.2))) else (paternosterlaw14_GateHolds.j0 k a2 true a0_0 a0_1 a0_2 a1_0 a1_1 bt234.1 bt234.2))))) else (some true))) else (some false))
theorem paternosterlaw14_GateHolds.mono_l : ∀ k, (∀ y0 y1 y2 y3 y4 y5 y6 y7 y8, LeO (paternosterlaw14_GateHolds.j0 k y0 y1 y2 y3 y4 y5 y6 y7 y8) (paternosterlaw14_GateHolds.j0 (k + 1) y0 y1 y2 y3 y4 y5 y6 y7 y8))
  | 0 => fun _ _ _ _ _ _ _ _ _ r h => by simp [paternosterlaw14_GateHolds.j0] at h
  | k + 1 => by
    have ih0 := paternosterlaw14_GateHolds.mono_l k
    · intro y0 y1 y2 y3 y4 y5 y6 y7 y8
      unfold paternosterlaw14_GateHolds.j0
      repeat' first
      | (with_reducible exact ih0 _ _ _ _ _ _ _ _ _)
      | (with_reducible exact LeO.refl _)
      | (with_reducible exact LeO.none _)
      | (with_reducible refine LeO.ite ?_ ?_)
      | (with_reducible refine LeO.bind ?_ (fun _ => ?_))
      | exact ih0 _ _ _ _ _ _ _ _ _
      | exact LeO.none _
      | refine LeO.ite ?_ ?_
      | refine LeO.bind ?_ (fun _ => ?_)
theorem paternosterlaw14_GateHolds.mono : ∀ a0 a1 a2 a3 a4 a5 k, LeO (paternosterlaw14_GateHolds.f k a0 a1 a2 a3 a4 a5) (paternosterlaw14_GateHolds.f (k + 1) a0 a1 a2 a3 a4 a5) := by
  intro a0 a1 a2 a3 a4 a5 k
  have ih0 := paternosterlaw14_GateHolds.mono_l k
  unfold paternosterlaw14_GateHolds.f
  repeat' first
      | (with_reducible exact ih0 _ _ _ _ _ _ _ _ _)
      | (with_reducible exact LeO.refl _)
      | (with_reducible exact LeO.none _)
      | (with_reducible refine LeO.ite ?_ ?_)
      | (with_reducible refine LeO.bind ?_ (fun _ => ?_))
      | exact ih0 _ _ _ _ _ _ _ _ _
      | exact LeO.none _
      | refine LeO.ite ?_ ?_
      | refine LeO.bind ?_ (fun _ => ?_)
set_option maxHeartbeats 8000000 in
set_option maxRecDepth 100000 in
theorem paternosterlaw14_GateHolds.calls (k : Nat) (a0_0 : Int) (a0_1 : Int) (a0_2 : Int) (a1_0 : Int) (a1_1 : Int) (a2 : Bool) (r : Bool) (w : World) (hT : r = true) (h : paternosterlaw14_GateHolds.f k a0_0 a0_1 a0_2 a1_0 a1_1 a2 = some r) :
    Calls Try.prog 9 #[.agg #[.int .i64 a0_0, .int .i64 a0_1, .int .i64 a0_2], .agg #[.int .i64 a1_0, .int .i64 a1_1], .bool a2] w fun e w' => e = .returned (.bool r) ∧ Below w.heap.size w w' := by
  have hu23 := Try.underlying23
  have hu25 := Try.underlying25
  have HT := Aside0.mk hT
  clear hT
  have HB := Aside0.mk (Below.refl w.heap.size w)
  have H : ((paternosterlaw14_awake.f).bind fun t230 => (if t230 = true then ((paternosterlaw14_may.f a0_0 a0_1 a0_2 a1_0 a1_1).bind fun t231 => (if t231 = true then ((gate_What.f a0_0 a0_1 a0_2 a1_0 a1_1 a2 false).bind fun t232 => ((gate_What.f a0_0 a0_1 a0_2 a1_0 a1_1 a2 true).bind fun t233 => ((leaf_Leaf_Step.f a1_0 a1_1 t233 false).bind fun bt234 => (if t232 = 0 then (if t233 = 1 then ((car_Car_Level.f a0_0 a0_1 a0_2).bind fun t237 => (if t237 = true then (if a2 = true then ((leaf_Leaf_Wide.f a1_0 a1_1).bind fun t238 => (if t238 = true then (paternosterlaw14_GateHolds.j0 k a2 true a0_0 a0_1 a0_2 a1_0 a1_1 bt234.1 bt234.2) else (if t233 = 2 then (paternosterlaw14_GateHolds.j0 k a2 true a0_0 a0_1 a0_2 a1_0 a1_1 bt234.1 bt234.2) else (paternosterlaw14_GateHolds.j0 k a2 false a0_0 a0_1 a0_2 a1_0 a1_1 bt234.1 bt234.2)))) else (paternosterlaw14_GateHolds.j0 k a2 true a0_0 a0_1 a0_2 a1_0 a1_1 bt234.1 bt234.2)) else (paternosterlaw14_GateHolds.j0 k a2 true a0_0 a0_1 a0_2 a1_0 a1_1 bt234.1 bt234.2))) else (if t233 = 2 then (if a2 = true then (paternosterlaw14_GateHolds.j0 k a2 true a0_0 a0_1 a0_2 a1_0 a1_1 bt234.1 bt234.2) else ((leaf_Leaf_Shut.f a1_0 a1_1).bind fun t239 => (paternosterlaw14_GateHolds.j0 k a2 t239 a0_0 a0_1 a0_2 a1_0 a1_1 bt234.1 bt234.2))) else (paternosterlaw14_GateHolds.j0 k a2 false a0_0 a0_1 a0_2 a1_0 a1_1 bt234.1 bt234.2))) else (paternosterlaw14_GateHolds.j0 k a2 true a0_0 a0_1 a0_2 a1_0 a1_1 bt234.1 bt234.2))))) else (some true))) else (some false))) = some r := h
  clear h
  replace H := Option.bind_eq_some_iff.mp H
  obtain ⟨t230, A40, H⟩ := H
  replace H : (if t230 = true then ((paternosterlaw14_may.f a0_0 a0_1 a0_2 a1_0 a1_1).bind fun t231 => (if t231 = true then ((gate_What.f a0_0 a0_1 a0_2 a1_0 a1_1 a2 false).bind fun t232 => ((gate_What.f a0_0 a0_1 a0_2 a1_0 a1_1 a2 true).bind fun t233 => ((leaf_Leaf_Step.f a1_0 a1_1 t233 false).bind fun bt234 => (if t232 = 0 then (if t233 = 1 then ((car_Car_Level.f a0_0 a0_1 a0_2).bind fun t237 => (if t237 = true then (if a2 = true then ((leaf_Leaf_Wide.f a1_0 a1_1).bind fun t238 => (if t238 = true then (paternosterlaw14_GateHolds.j0 k a2 true a0_0 a0_1 a0_2 a1_0 a1_1 bt234.1 bt234.2) else (if t233 = 2 then (paternosterlaw14_GateHolds.j0 k a2 true a0_0 a0_1 a0_2 a1_0 a1_1 bt234.1 bt234.2) else (paternosterlaw14_GateHolds.j0 k a2 false a0_0 a0_1 a0_2 a1_0 a1_1 bt234.1 bt234.2)))) else (paternosterlaw14_GateHolds.j0 k a2 true a0_0 a0_1 a0_2 a1_0 a1_1 bt234.1 bt234.2)) else (paternosterlaw14_GateHolds.j0 k a2 true a0_0 a0_1 a0_2 a1_0 a1_1 bt234.1 bt234.2))) else (if t233 = 2 then (if a2 = true then (paternosterlaw14_GateHolds.j0 k a2 true a0_0 a0_1 a0_2 a1_0 a1_1 bt234.1 bt234.2) else ((leaf_Leaf_Shut.f a1_0 a1_1).bind fun t239 => (paternosterlaw14_GateHolds.j0 k a2 t239 a0_0 a0_1 a0_2 a1_0 a1_1 bt234.1 bt234.2))) else (paternosterlaw14_GateHolds.j0 k a2 false a0_0 a0_1 a0_2 a1_0 a1_1 bt234.1 bt234.2))) else (paternosterlaw14_GateHolds.j0 k a2 true a0_0 a0_1 a0_2 a1_0 a1_1 bt234.1 bt234.2))))) else (some true))) else (some false)) = some r := H
  have A4 := Aside0.mk A40
  clear A40
  by_cases c5 : t230 = true
  · subst c5
    have H1 : ((paternosterlaw14_may.f a0_0 a0_1 a0_2 a1_0 a1_1).bind fun t231 => (if t231 = true then ((gate_What.f a0_0 a0_1 a0_2 a1_0 a1_1 a2 false).bind fun t232 => ((gate_What.f a0_0 a0_1 a0_2 a1_0 a1_1 a2 true).bind fun t233 => ((leaf_Leaf_Step.f a1_0 a1_1 t233 false).bind fun bt234 => (if t232 = 0 then (if t233 = 1 then ((car_Car_Level.f a0_0 a0_1 a0_2).bind fun t237 => (if t237 = true then (if a2 = true then ((leaf_Leaf_Wide.f a1_0 a1_1).bind fun t238 => (if t238 = true then (paternosterlaw14_GateHolds.j0 k a2 true a0_0 a0_1 a0_2 a1_0 a1_1 bt234.1 bt234.2) else (if t233 = 2 then (paternosterlaw14_GateHolds.j0 k a2 true a0_0 a0_1 a0_2 a1_0 a1_1 bt234.1 bt234.2) else (paternosterlaw14_GateHolds.j0 k a2 false a0_0 a0_1 a0_2 a1_0 a1_1 bt234.1 bt234.2)))) else (paternosterlaw14_GateHolds.j0 k a2 true a0_0 a0_1 a0_2 a1_0 a1_1 bt234.1 bt234.2)) else (paternosterlaw14_GateHolds.j0 k a2 true a0_0 a0_1 a0_2 a1_0 a1_1 bt234.1 bt234.2))) else (if t233 = 2 then (if a2 = true then (paternosterlaw14_GateHolds.j0 k a2 true a0_0 a0_1 a0_2 a1_0 a1_1 bt234.1 bt234.2) else ((leaf_Leaf_Shut.f a1_0 a1_1).bind fun t239 => (paternosterlaw14_GateHolds.j0 k a2 t239 a0_0 a0_1 a0_2 a1_0 a1_1 bt234.1 bt234.2))) else (paternosterlaw14_GateHolds.j0 k a2 false a0_0 a0_1 a0_2 a1_0 a1_1 bt234.1 bt234.2))) else (paternosterlaw14_GateHolds.j0 k a2 true a0_0 a0_1 a0_2 a1_0 a1_1 bt234.1 bt234.2))))) else (some true))) = some r := by rw [if_pos rfl] at H; exact H
    clear H
    have H := H1
    clear H1
    replace H := Option.bind_eq_some_iff.mp H
    obtain ⟨t231, A60, H⟩ := H
    replace H : (if t231 = true then ((gate_What.f a0_0 a0_1 a0_2 a1_0 a1_1 a2 false).bind fun t232 => ((gate_What.f a0_0 a0_1 a0_2 a1_0 a1_1 a2 true).bind fun t233 => ((leaf_Leaf_Step.f a1_0 a1_1 t233 false).bind fun bt234 => (if t232 = 0 then (if t233 = 1 then ((car_Car_Level.f a0_0 a0_1 a0_2).bind fun t237 => (if t237 = true then (if a2 = true then ((leaf_Leaf_Wide.f a1_0 a1_1).bind fun t238 => (if t238 = true then (paternosterlaw14_GateHolds.j0 k a2 true a0_0 a0_1 a0_2 a1_0 a1_1 bt234.1 bt234.2) else (if t233 = 2 then (paternosterlaw14_GateHolds.j0 k a2 true a0_0 a0_1 a0_2 a1_0 a1_1 bt234.1 bt234.2) else (paternosterlaw14_GateHolds.j0 k a2 false a0_0 a0_1 a0_2 a1_0 a1_1 bt234.1 bt234.2)))) else (paternosterlaw14_GateHolds.j0 k a2 true a0_0 a0_1 a0_2 a1_0 a1_1 bt234.1 bt234.2)) else (paternosterlaw14_GateHolds.j0 k a2 true a0_0 a0_1 a0_2 a1_0 a1_1 bt234.1 bt234.2))) else (if t233 = 2 then (if a2 = true then (paternosterlaw14_GateHolds.j0 k a2 true a0_0 a0_1 a0_2 a1_0 a1_1 bt234.1 bt234.2) else ((leaf_Leaf_Shut.f a1_0 a1_1).bind fun t239 => (paternosterlaw14_GateHolds.j0 k a2 t239 a0_0 a0_1 a0_2 a1_0 a1_1 bt234.1 bt234.2))) else (paternosterlaw14_GateHolds.j0 k a2 false a0_0 a0_1 a0_2 a1_0 a1_1 bt234.1 bt234.2))) else (paternosterlaw14_GateHolds.j0 k a2 true a0_0 a0_1 a0_2 a1_0 a1_1 bt234.1 bt234.2))))) else (some true)) = some r := H
    have A6 := Aside0.mk A60
    clear A60
    by_cases c7 : t231 = true
    · subst c7
      have H1 : ((gate_What.f a0_0 a0_1 a0_2 a1_0 a1_1 a2 false).bind fun t232 => ((gate_What.f a0_0 a0_1 a0_2 a1_0 a1_1 a2 true).bind fun t233 => ((leaf_Leaf_Step.f a1_0 a1_1 t233 false).bind fun bt234 => (if t232 = 0 then (if t233 = 1 then ((car_Car_Level.f a0_0 a0_1 a0_2).bind fun t237 => (if t237 = true then (if a2 = true then ((leaf_Leaf_Wide.f a1_0 a1_1).bind fun t238 => (if t238 = true then (paternosterlaw14_GateHolds.j0 k a2 true a0_0 a0_1 a0_2 a1_0 a1_1 bt234.1 bt234.2) else (if t233 = 2 then (paternosterlaw14_GateHolds.j0 k a2 true a0_0 a0_1 a0_2 a1_0 a1_1 bt234.1 bt234.2) else (paternosterlaw14_GateHolds.j0 k a2 false a0_0 a0_1 a0_2 a1_0 a1_1 bt234.1 bt234.2)))) else (paternosterlaw14_GateHolds.j0 k a2 true a0_0 a0_1 a0_2 a1_0 a1_1 bt234.1 bt234.2)) else (paternosterlaw14_GateHolds.j0 k a2 true a0_0 a0_1 a0_2 a1_0 a1_1 bt234.1 bt234.2))) else (if t233 = 2 then (if a2 = true then (paternosterlaw14_GateHolds.j0 k a2 true a0_0 a0_1 a0_2 a1_0 a1_1 bt234.1 bt234.2) else ((leaf_Leaf_Shut.f a1_0 a1_1).bind fun t239 => (paternosterlaw14_GateHolds.j0 k a2 t239 a0_0 a0_1 a0_2 a1_0 a1_1 bt234.1 bt234.2))) else (paternosterlaw14_GateHolds.j0 k a2 false a0_0 a0_1 a0_2 a1_0 a1_1 bt234.1 bt234.2))) else (paternosterlaw14_GateHolds.j0 k a2 true a0_0 a0_1 a0_2 a1_0 a1_1 bt234.1 bt234.2))))) = some r := by rw [if_pos rfl] at H; exact H
      clear H
      have H := H1
      clear H1
      replace H := Option.bind_eq_some_iff.mp H
      obtain ⟨t232, A80, H⟩ := H
      replace H : ((gate_What.f a0_0 a0_1 a0_2 a1_0 a1_1 a2 true).bind fun t233 => ((leaf_Leaf_Step.f a1_0 a1_1 t233 false).bind fun bt234 => (if t232 = 0 then (if t233 = 1 then ((car_Car_Level.f a0_0 a0_1 a0_2).bind fun t237 => (if t237 = true then (if a2 = true then ((leaf_Leaf_Wide.f a1_0 a1_1).bind fun t238 => (if t238 = true then (paternosterlaw14_GateHolds.j0 k a2 true a0_0 a0_1 a0_2 a1_0 a1_1 bt234.1 bt234.2) else (if t233 = 2 then (paternosterlaw14_GateHolds.j0 k a2 true a0_0 a0_1 a0_2 a1_0 a1_1 bt234.1 bt234.2) else (paternosterlaw14_GateHolds.j0 k a2 false a0_0 a0_1 a0_2 a1_0 a1_1 bt234.1 bt234.2)))) else (paternosterlaw14_GateHolds.j0 k a2 true a0_0 a0_1 a0_2 a1_0 a1_1 bt234.1 bt234.2)) else (paternosterlaw14_GateHolds.j0 k a2 true a0_0 a0_1 a0_2 a1_0 a1_1 bt234.1 bt234.2))) else (if t233 = 2 then (if a2 = true then (paternosterlaw14_GateHolds.j0 k a2 true a0_0 a0_1 a0_2 a1_0 a1_1 bt234.1 bt234.2) else ((leaf_Leaf_Shut.f a1_0 a1_1).bind fun t239 => (paternosterlaw14_GateHolds.j0 k a2 t239 a0_0 a0_1 a0_2 a1_0 a1_1 bt234.1 bt234.2))) else (paternosterlaw14_GateHolds.j0 k a2 false a0_0 a0_1 a0_2 a1_0 a1_1 bt234.1 bt234.2))) else (paternosterlaw14_GateHolds.j0 k a2 true a0_0 a0_1 a0_2 a1_0 a1_1 bt234.1 bt234.2)))) = some r := H
      have A8 := Aside0.mk A80
      clear A80
      replace H := Option.bind_eq_some_iff.mp H
      obtain ⟨t233, A90, H⟩ := H
      replace H : ((leaf_Leaf_Step.f a1_0 a1_1 t233 false).bind fun bt234 => (if t232 = 0 then (if t233 = 1 then ((car_Car_Level.f a0_0 a0_1 a0_2).bind fun t237 => (if t237 = true then (if a2 = true then ((leaf_Leaf_Wide.f a1_0 a1_1).bind fun t238 => (if t238 = true then (paternosterlaw14_GateHolds.j0 k a2 true a0_0 a0_1 a0_2 a1_0 a1_1 bt234.1 bt234.2) else (if t233 = 2 then (paternosterlaw14_GateHolds.j0 k a2 true a0_0 a0_1 a0_2 a1_0 a1_1 bt234.1 bt234.2) else (paternosterlaw14_GateHolds.j0 k a2 false a0_0 a0_1 a0_2 a1_0 a1_1 bt234.1 bt234.2)))) else (paternosterlaw14_GateHolds.j0 k a2 true a0_0 a0_1 a0_2 a1_0 a1_1 bt234.1 bt234.2)) else (paternosterlaw14_GateHolds.j0 k a2 true a0_0 a0_1 a0_2 a1_0 a1_1 bt234.1 bt234.2))) else (if t233 = 2 then (if a2 = true then (paternosterlaw14_GateHolds.j0 k a2 true a0_0 a0_1 a0_2 a1_0 a1_1 bt234.1 bt234.2) else ((leaf_Leaf_Shut.f a1_0 a1_1).bind fun t239 => (paternosterlaw14_GateHolds.j0 k a2 t239 a0_0 a0_1 a0_2 a1_0 a1_1 bt234.1 bt234.2))) else (paternosterlaw14_GateHolds.j0 k a2 false a0_0 a0_1 a0_2 a1_0 a1_1 bt234.1 bt234.2))) else (paternosterlaw14_GateHolds.j0 k a2 true a0_0 a0_1 a0_2 a1_0 a1_1 bt234.1 bt234.2))) = some r := H
      have A9 := Aside0.mk A90
      clear A90
      replace H := Option.bind_eq_some_iff.mp H
      obtain ⟨⟨t234, t235⟩, A100, H⟩ := H
      replace H : (if t232 = 0 then (if t233 = 1 then ((car_Car_Level.f a0_0 a0_1 a0_2).bind fun t237 => (if t237 = true then (if a2 = true then ((leaf_Leaf_Wide.f a1_0 a1_1).bind fun t238 => (if t238 = true then (paternosterlaw14_GateHolds.j0 k a2 true a0_0 a0_1 a0_2 a1_0 a1_1 t234 t235) else (if t233 = 2 then (paternosterlaw14_GateHolds.j0 k a2 true a0_0 a0_1 a0_2 a1_0 a1_1 t234 t235) else (paternosterlaw14_GateHolds.j0 k a2 false a0_0 a0_1 a0_2 a1_0 a1_1 t234 t235)))) else (paternosterlaw14_GateHolds.j0 k a2 true a0_0 a0_1 a0_2 a1_0 a1_1 t234 t235)) else (paternosterlaw14_GateHolds.j0 k a2 true a0_0 a0_1 a0_2 a1_0 a1_1 t234 t235))) else (if t233 = 2 then (if a2 = true then (paternosterlaw14_GateHolds.j0 k a2 true a0_0 a0_1 a0_2 a1_0 a1_1 t234 t235) else ((leaf_Leaf_Shut.f a1_0 a1_1).bind fun t239 => (paternosterlaw14_GateHolds.j0 k a2 t239 a0_0 a0_1 a0_2 a1_0 a1_1 t234 t235))) else (paternosterlaw14_GateHolds.j0 k a2 false a0_0 a0_1 a0_2 a1_0 a1_1 t234 t235))) else (paternosterlaw14_GateHolds.j0 k a2 true a0_0 a0_1 a0_2 a1_0 a1_1 t234 t235)) = some r := H
      have A10 := Aside0.mk A100
      clear A100
      have HC11 := Aside0.mk H
      clear H
      go_enter Try.func9, Try.ntmps9
      go_upto_region 10 with (first | ((with_reducible refine gate_dst (N := 3) rfl ?_); refine box_event ?hg (N := 3) ?hd (cs := #[.int .i64 a0_0, .int .i64 a0_1, .int .i64 a0_2]) (t := 23) ?hr ?_; (case hd => rfl); (case hg => rfl); (case hr => first | (go_simp; done) | (go_simp; rfl)); intro gb228 hg w12 hbox hb; have n0_ := Aside0.mk (below_step (by repeat (first | (with_reducible first | exact HB.out | apply below_alloc | apply pw_below_drewN | apply below_drew1) | exact HB.out)) hb); have n1_ := Aside0.mk (hbox); have n2_ := Aside0.mk ((by rw [hg]; exact (below_size (by repeat (first | (with_reducible first | exact HB.out | apply below_alloc | apply pw_below_drewN | apply below_drew1) | exact HB.out))) : w.heap.size ≤ gb228)); have n3_ := Aside0.mk ((by rw [hg]; exact (below_size (by repeat (first | (with_reducible first | exact HB.out | apply below_alloc | apply pw_below_drewN | apply below_drew1) | exact HB.out))) : w.heap.size ≤ gb228)); clear HB; have HB := n0_; have BK228 := n1_; have GW228 := n2_; have GE228 := n3_; clear n0_ n1_ n2_ n3_; clear hb hbox hg) | ((with_reducible refine gate_dst (N := 4) rfl ?_); refine box_event ?hg (N := 4) ?hd (cs := #[.int .i64 a1_0, .int .i64 a1_1]) (t := 25) ?hr ?_; (case hd => rfl); (case hg => rfl); (case hr => first | (go_simp; done) | (go_simp; rfl)); intro gb229 hg w13 hbox hb; have n0_ := Aside0.mk (blk_below (g := gb228) (o := .cells #[.int .i64 a0_0, .int .i64 a0_1, .int .i64 a0_2] 23 (0, 0)) (by (with_reducible repeat (first | refine blk_drewN ?_ _ | refine blk_drew ?_ | refine blk_alloc ?_ _)); exact BK228.out) hb); have n1_ := Aside0.mk (below_step (by repeat (first | (with_reducible first | exact HB.out | apply below_alloc | apply pw_below_drewN | apply below_drew1 | refine below_set ?_ GE228.out) | exact HB.out)) hb); have n2_ := Aside0.mk (hbox); have n3_ := Aside0.mk ((by rw [hg]; exact (below_size (by repeat (first | (with_reducible first | exact HB.out | apply below_alloc | apply pw_below_drewN | apply below_drew1 | refine below_set ?_ GE228.out) | exact HB.out))) : w.heap.size ≤ gb229)); have n4_ := Aside0.mk ((by rw [hg]; exact (below_size (by repeat (first | (with_reducible first | exact HB.out | apply below_alloc | apply pw_below_drewN | apply below_drew1 | refine below_set ?_ GE228.out) | exact HB.out))) : w.heap.size ≤ gb229)); have n5_ := Aside0.mk ((by rw [hg]; exact Nat.ne_of_lt (blk_lt (g := gb228) (o := .cells #[.int .i64 a0_0, .int .i64 a0_1, .int .i64 a0_2] 23 (0, 0)) (by (with_reducible repeat (first | refine blk_drewN ?_ _ | refine blk_drew ?_ | refine blk_alloc ?_ _)); exact BK228.out)) : gb228 ≠ gb229)); have n6_ := Aside0.mk ((by rw [hg]; exact Nat.ne_of_gt (blk_lt (g := gb228) (o := .cells #[.int .i64 a0_0, .int .i64 a0_1, .int .i64 a0_2] 23 (0, 0)) (by (with_reducible repeat (first | refine blk_drewN ?_ _ | refine blk_drew ?_ | refine blk_alloc ?_ _)); exact BK228.out)) : gb229 ≠ gb228)); clear BK228; clear HB; have BK228 := n0_; have HB := n1_; have BK229 := n2_; have GW229 := n3_; have GE229 := n4_; have NB228_229 := n5_; have NB229_228 := n6_; clear n0_ n1_ n2_ n3_ n4_ n5_ n6_; clear hb hbox hg) | ((with_reducible refine gate_callee (f := 18) rfl ?_); refine goesL_ (some 12) rfl rfl Try.func18 (by kernel_rfl) rfl #[] rfl (by (try simp only [List.map_toArray, List.map_cons, List.map_nil]); first | done | rfl | (simp only [List.length_drop, List.length_take]; rfl)) ?_; (with_reducible refine (paternosterlaw14_awake.calls  true _ A4.out).mono ?_); rintro e w14 ⟨rfl, hb⟩; refine ⟨_, rfl, ?_⟩; have n0_ := Aside0.mk (blk_below (g := gb228) (o := .cells #[.int .i64 a0_0, .int .i64 a0_1, .int .i64 a0_2] 23 (0, 0)) (by (with_reducible repeat (first | refine blk_drewN ?_ _ | refine blk_drew ?_ | refine blk_alloc ?_ _)); exact BK228.out) hb); have n1_ := Aside0.mk (blk_below (g := gb229) (o := .cells #[.int .i64 a1_0, .int .i64 a1_1] 25 (0, 0)) (by (with_reducible repeat (first | refine blk_drewN ?_ _ | refine blk_drew ?_ | refine blk_alloc ?_ _)); exact BK229.out) hb); have n2_ := Aside0.mk (below_step (by repeat (first | (with_reducible first | exact HB.out | apply below_alloc | apply pw_below_drewN | apply below_drew1 | refine below_set ?_ GE228.out | refine below_set ?_ GE229.out) | exact HB.out)) hb); clear BK228; clear BK229; clear HB; have BK228 := n0_; have BK229 := n1_; have HB := n2_; clear n0_ n1_ n2_; (try clear hb); (try clear hb2); (try clear hk); (try clear hi); have hnb15 := NB228_229.out; have hnc15 := NB229_228.out; have hcz16_0 : w14.cell? ⟨gb228, 0, none⟩ = some (.int .i64 a0_0) := (blk_cell BK228.out 0).trans rfl; have hcz16_1 : w14.cell? ⟨gb228, 1, none⟩ = some (.int .i64 a0_1) := (blk_cell BK228.out 1).trans rfl; have hcz16_2 : w14.cell? ⟨gb228, 2, none⟩ = some (.int .i64 a0_2) := (blk_cell BK228.out 2).trans rfl; have hfz16_0 := blk_frozen BK228.out 0; have hfz16_1 := blk_frozen BK228.out 1; have hfz16_2 := blk_frozen BK228.out 2; have hcz17_0 : w14.cell? ⟨gb229, 0, none⟩ = some (.int .i64 a1_0) := (blk_cell BK229.out 0).trans rfl; have hcz17_1 : w14.cell? ⟨gb229, 1, none⟩ = some (.int .i64 a1_1) := (blk_cell BK229.out 1).trans rfl; have hfz17_0 := blk_frozen BK229.out 0; have hfz17_1 := blk_frozen BK229.out 1) | ((with_reducible refine gate_callee (f := 22) rfl ?_); refine goesL_ (some 17) rfl rfl Try.func22 (by kernel_rfl) rfl #[.agg #[.int .i64 a0_0, .int .i64 a0_1, .int .i64 a0_2], .agg #[.int .i64 a1_0, .int .i64 a1_1]] rfl (by (try simp only [List.map_toArray, List.map_cons, List.map_nil]); first | done | rfl | (simp only [List.length_drop, List.length_take]; rfl)) ?_; (with_reducible refine (paternosterlaw14_may.calls a0_0 a0_1 a0_2 a1_0 a1_1 true _ A6.out).mono ?_); rintro e w18 ⟨rfl, hb⟩; refine ⟨_, rfl, ?_⟩; have n0_ := Aside0.mk (blk_below (g := gb228) (o := .cells #[.int .i64 a0_0, .int .i64 a0_1, .int .i64 a0_2] 23 (0, 0)) (by (with_reducible repeat (first | refine blk_drewN ?_ _ | refine blk_drew ?_ | refine blk_alloc ?_ _)); exact BK228.out) hb); have n1_ := Aside0.mk (blk_below (g := gb229) (o := .cells #[.int .i64 a1_0, .int .i64 a1_1] 25 (0, 0)) (by (with_reducible repeat (first | refine blk_drewN ?_ _ | refine blk_drew ?_ | refine blk_alloc ?_ _)); exact BK229.out) hb); have n2_ := Aside0.mk (below_step (by repeat (first | (with_reducible first | exact HB.out | apply below_alloc | apply pw_below_drewN | apply below_drew1 | refine below_set ?_ GE228.out | refine below_set ?_ GE229.out) | exact HB.out)) hb); clear BK228; clear BK229; clear HB; have BK228 := n0_; have BK229 := n1_; have HB := n2_; clear n0_ n1_ n2_; (try clear hb); (try clear hb2); (try clear hk); (try clear hi); have hcz19_0 : w18.cell? ⟨gb228, 0, none⟩ = some (.int .i64 a0_0) := (blk_cell BK228.out 0).trans rfl; have hcz19_1 : w18.cell? ⟨gb228, 1, none⟩ = some (.int .i64 a0_1) := (blk_cell BK228.out 1).trans rfl; have hcz19_2 : w18.cell? ⟨gb228, 2, none⟩ = some (.int .i64 a0_2) := (blk_cell BK228.out 2).trans rfl; have hfz19_0 := blk_frozen BK228.out 0; have hfz19_1 := blk_frozen BK228.out 1; have hfz19_2 := blk_frozen BK228.out 2; have hcz20_0 : w18.cell? ⟨gb229, 0, none⟩ = some (.int .i64 a1_0) := (blk_cell BK229.out 0).trans rfl; have hcz20_1 : w18.cell? ⟨gb229, 1, none⟩ = some (.int .i64 a1_1) := (blk_cell BK229.out 1).trans rfl; have hfz20_0 := blk_frozen BK229.out 0; have hfz20_1 := blk_frozen BK229.out 1) | ((with_reducible refine gate_callee (f := 24) rfl ?_); refine goesL_ (some 23) rfl rfl Try.func24 (by kernel_rfl) rfl #[.agg #[.int .i64 a0_0, .int .i64 a0_1, .int .i64 a0_2], .agg #[.int .i64 a1_0, .int .i64 a1_1], .bool a2, .bool false] rfl (by (try simp only [List.map_toArray, List.map_cons, List.map_nil]); first | done | rfl | (simp only [List.length_drop, List.length_take]; rfl)) ?_; (with_reducible refine (gate_What.calls a0_0 a0_1 a0_2 a1_0 a1_1 a2 false t232 _ A8.out).mono ?_); rintro e w21 ⟨rfl, hb⟩; clear A8; refine ⟨_, rfl, ?_⟩; have n0_ := Aside0.mk (blk_below (g := gb228) (o := .cells #[.int .i64 a0_0, .int .i64 a0_1, .int .i64 a0_2] 23 (0, 0)) (by (with_reducible repeat (first | refine blk_drewN ?_ _ | refine blk_drew ?_ | refine blk_alloc ?_ _)); exact BK228.out) hb); have n1_ := Aside0.mk (blk_below (g := gb229) (o := .cells #[.int .i64 a1_0, .int .i64 a1_1] 25 (0, 0)) (by (with_reducible repeat (first | refine blk_drewN ?_ _ | refine blk_drew ?_ | refine blk_alloc ?_ _)); exact BK229.out) hb); have n2_ := Aside0.mk (below_step (by repeat (first | (with_reducible first | exact HB.out | apply below_alloc | apply pw_below_drewN | apply below_drew1 | refine below_set ?_ GE228.out | refine below_set ?_ GE229.out) | exact HB.out)) hb); clear BK228; clear BK229; clear HB; have BK228 := n0_; have BK229 := n1_; have HB := n2_; clear n0_ n1_ n2_; (try clear hb); (try clear hb2); (try clear hk); (try clear hi); have hcz22_0 : w21.cell? ⟨gb228, 0, none⟩ = some (.int .i64 a0_0) := (blk_cell BK228.out 0).trans rfl; have hcz22_1 : w21.cell? ⟨gb228, 1, none⟩ = some (.int .i64 a0_1) := (blk_cell BK228.out 1).trans rfl; have hcz22_2 : w21.cell? ⟨gb228, 2, none⟩ = some (.int .i64 a0_2) := (blk_cell BK228.out 2).trans rfl; have hfz22_0 := blk_frozen BK228.out 0; have hfz22_1 := blk_frozen BK228.out 1; have hfz22_2 := blk_frozen BK228.out 2; have hcz23_0 : w21.cell? ⟨gb229, 0, none⟩ = some (.int .i64 a1_0) := (blk_cell BK229.out 0).trans rfl; have hcz23_1 : w21.cell? ⟨gb229, 1, none⟩ = some (.int .i64 a1_1) := (blk_cell BK229.out 1).trans rfl; have hfz23_0 := blk_frozen BK229.out 0; have hfz23_1 := blk_frozen BK229.out 1) | ((with_reducible refine gate_callee (f := 24) rfl ?_); refine goesL_ (some 27) rfl rfl Try.func24 (by kernel_rfl) rfl #[.agg #[.int .i64 a0_0, .int .i64 a0_1, .int .i64 a0_2], .agg #[.int .i64 a1_0, .int .i64 a1_1], .bool a2, .bool true] rfl (by (try simp only [List.map_toArray, List.map_cons, List.map_nil]); first | done | rfl | (simp only [List.length_drop, List.length_take]; rfl)) ?_; (with_reducible refine (gate_What.calls a0_0 a0_1 a0_2 a1_0 a1_1 a2 true t233 _ A9.out).mono ?_); rintro e w24 ⟨rfl, hb⟩; clear A9; refine ⟨_, rfl, ?_⟩; have n0_ := Aside0.mk (blk_below (g := gb228) (o := .cells #[.int .i64 a0_0, .int .i64 a0_1, .int .i64 a0_2] 23 (0, 0)) (by (with_reducible repeat (first | refine blk_drewN ?_ _ | refine blk_drew ?_ | refine blk_alloc ?_ _)); exact BK228.out) hb); have n1_ := Aside0.mk (blk_below (g := gb229) (o := .cells #[.int .i64 a1_0, .int .i64 a1_1] 25 (0, 0)) (by (with_reducible repeat (first | refine blk_drewN ?_ _ | refine blk_drew ?_ | refine blk_alloc ?_ _)); exact BK229.out) hb); have n2_ := Aside0.mk (below_step (by repeat (first | (with_reducible first | exact HB.out | apply below_alloc | apply pw_below_drewN | apply below_drew1 | refine below_set ?_ GE228.out | refine below_set ?_ GE229.out) | exact HB.out)) hb); clear BK228; clear BK229; clear HB; have BK228 := n0_; have BK229 := n1_; have HB := n2_; clear n0_ n1_ n2_; (try clear hb); (try clear hb2); (try clear hk); (try clear hi); have hcz25_0 : w24.cell? ⟨gb229, 0, none⟩ = some (.int .i64 a1_0) := (blk_cell BK229.out 0).trans rfl; have hcz25_1 : w24.cell? ⟨gb229, 1, none⟩ = some (.int .i64 a1_1) := (blk_cell BK229.out 1).trans rfl; have hfz25_0 := blk_frozen BK229.out 0; have hfz25_1 := blk_frozen BK229.out 1) | ((with_reducible refine gate_callee (f := 25) rfl ?_); refine goesL_ (some 30) rfl rfl Try.func25 (by kernel_rfl) rfl #[.agg #[.int .i64 a1_0, .int .i64 a1_1], .int .i64 t233, .bool false] rfl (by (try simp only [List.map_toArray, List.map_cons, List.map_nil]); first | done | rfl | (simp only [List.length_drop, List.length_take]; rfl)) ?_; (with_reducible refine (leaf_Leaf_Step.calls a1_0 a1_1 t233 false t234 t235 _ A10.out).mono ?_); rintro e w26 ⟨rfl, hb⟩; refine ⟨_, rfl, ?_⟩; have n0_ := Aside0.mk (blk_below (g := gb228) (o := .cells #[.int .i64 a0_0, .int .i64 a0_1, .int .i64 a0_2] 23 (0, 0)) (by (with_reducible repeat (first | refine blk_drewN ?_ _ | refine blk_drew ?_ | refine blk_alloc ?_ _)); exact BK228.out) hb); have n1_ := Aside0.mk (blk_below (g := gb229) (o := .cells #[.int .i64 a1_0, .int .i64 a1_1] 25 (0, 0)) (by (with_reducible repeat (first | refine blk_drewN ?_ _ | refine blk_drew ?_ | refine blk_alloc ?_ _)); exact BK229.out) hb); have n2_ := Aside0.mk (below_step (by repeat (first | (with_reducible first | exact HB.out | apply below_alloc | apply pw_below_drewN | apply below_drew1 | refine below_set ?_ GE228.out | refine below_set ?_ GE229.out) | exact HB.out)) hb); clear BK228; clear BK229; clear HB; have BK228 := n0_; have BK229 := n1_; have HB := n2_; clear n0_ n1_ n2_; (try clear hb); (try clear hb2); (try clear hk); (try clear hi)) | ((with_reducible refine gate_dst (N := 11) rfl ?_); refine box_event ?hg (N := 11) ?hd (cs := #[.int .i64 0, .int .i64 0]) (t := 25) ?hr ?_; (case hd => rfl); (case hg => rfl); (case hr => first | (go_simp; done) | (go_simp; rfl)); intro gb236 hg w27 hbox hb; have n0_ := Aside0.mk (blk_below (g := gb228) (o := .cells #[.int .i64 a0_0, .int .i64 a0_1, .int .i64 a0_2] 23 (0, 0)) (by (with_reducible repeat (first | refine blk_drewN ?_ _ | refine blk_drew ?_ | refine blk_alloc ?_ _)); exact BK228.out) hb); have n1_ := Aside0.mk (blk_below (g := gb229) (o := .cells #[.int .i64 a1_0, .int .i64 a1_1] 25 (0, 0)) (by (with_reducible repeat (first | refine blk_drewN ?_ _ | refine blk_drew ?_ | refine blk_alloc ?_ _)); exact BK229.out) hb); have n2_ := Aside0.mk (below_step (by repeat (first | (with_reducible first | exact HB.out | apply below_alloc | apply pw_below_drewN | apply below_drew1 | refine below_set ?_ GE228.out | refine below_set ?_ GE229.out) | exact HB.out)) hb); have n3_ := Aside0.mk (hbox); have n4_ := Aside0.mk ((by rw [hg]; exact (below_size (by repeat (first | (with_reducible first | exact HB.out | apply below_alloc | apply pw_below_drewN | apply below_drew1 | refine below_set ?_ GE228.out | refine below_set ?_ GE229.out) | exact HB.out))) : w.heap.size ≤ gb236)); have n5_ := Aside0.mk ((by rw [hg]; exact (below_size (by repeat (first | (with_reducible first | exact HB.out | apply below_alloc | apply pw_below_drewN | apply below_drew1 | refine below_set ?_ GE228.out | refine below_set ?_ GE229.out) | exact HB.out))) : w.heap.size ≤ gb236)); have n6_ := Aside0.mk ((by rw [hg]; exact Nat.ne_of_lt (blk_lt (g := gb228) (o := .cells #[.int .i64 a0_0, .int .i64 a0_1, .int .i64 a0_2] 23 (0, 0)) (by (with_reducible repeat (first | refine blk_drewN ?_ _ | refine blk_drew ?_ | refine blk_alloc ?_ _)); exact BK228.out)) : gb228 ≠ gb236)); have n7_ := Aside0.mk ((by rw [hg]; exact Nat.ne_of_gt (blk_lt (g := gb228) (o := .cells #[.int .i64 a0_0, .int .i64 a0_1, .int .i64 a0_2] 23 (0, 0)) (by (with_reducible repeat (first | refine blk_drewN ?_ _ | refine blk_drew ?_ | refine blk_alloc ?_ _)); exact BK228.out)) : gb236 ≠ gb228)); have n8_ := Aside0.mk ((by rw [hg]; exact Nat.ne_of_lt (blk_lt (g := gb229) (o := .cells #[.int .i64 a1_0, .int .i64 a1_1] 25 (0, 0)) (by (with_reducible repeat (first | refine blk_drewN ?_ _ | refine blk_drew ?_ | refine blk_alloc ?_ _)); exact BK229.out)) : gb229 ≠ gb236)); have n9_ := Aside0.mk ((by rw [hg]; exact Nat.ne_of_gt (blk_lt (g := gb229) (o := .cells #[.int .i64 a1_0, .int .i64 a1_1] 25 (0, 0)) (by (with_reducible repeat (first | refine blk_drewN ?_ _ | refine blk_drew ?_ | refine blk_alloc ?_ _)); exact BK229.out)) : gb236 ≠ gb229)); clear BK228; clear BK229; clear HB; have BK228 := n0_; have BK229 := n1_; have HB := n2_; have BK236 := n3_; have GW236 := n4_; have GE236 := n5_; have NB228_236 := n6_; have NB236_228 := n7_; have NB229_236 := n8_; have NB236_229 := n9_; clear n0_ n1_ n2_ n3_ n4_ n5_ n6_ n7_ n8_ n9_; clear hb hbox hg; have hnb28 := NB236_228.out; have hnc28 := NB228_236.out; have hnb29 := NB236_229.out; have hnc29 := NB229_236.out; have hcz30_0 : w27.cell? ⟨gb236, 0, none⟩ = some (.int .i64 0) := (blk_cell BK236.out 0).trans rfl; have hcz30_1 : w27.cell? ⟨gb236, 1, none⟩ = some (.int .i64 0) := (blk_cell BK236.out 1).trans rfl; have hfz30_0 := blk_frozen BK236.out 0; have hfz30_1 := blk_frozen BK236.out 1))
      (try simp only [Act.put, List.setIfInBounds_toArray, List.set_cons_zero, List.set_cons_succ])
      go_cut [60] (fun v60 wc => ∃ (kq : Nat) (x60_10 : Bool), v60 = .bool x60_10 ∧ Aside0 (paternosterlaw14_GateHolds.j0 kq a2 x60_10 a0_0 a0_1 a0_2 a1_0 a1_1 t234 t235 = some r) ∧ Aside0 (kq ≤ k) ∧ Aside0 (wc.heap[gb228]? = some (.cells #[.int .i64 a0_0, .int .i64 a0_1, .int .i64 a0_2] 23 (0, 0))) ∧ Aside0 (wc.heap[gb229]? = some (.cells #[.int .i64 a1_0, .int .i64 a1_1] 25 (0, 0))) ∧ Aside0 (wc.heap[gb236]? = some (.cells #[.int .i64 t234, .int .i64 t235] 25 (0, 0))) ∧ Aside0 (Below w.heap.size w wc))
      case first =>
        have H := HC11.out
        clear HC11
        by_cases c31 : t232 = 0
        · rw [if_pos c31] at H
          have c31b0 : (t232 == 0) = true := beq_iff_eq.mpr c31
          have c31b1 : (t232 != 0) = false := bne_eq_false_iff_eq.mpr c31
          clear c31
          (first | rw [c31b0] | (simp only [i64_w, i32_w]; rw [c31b0]) | skip)
          by_cases c32 : t233 = 1
          · rw [if_pos c32] at H
            have c32b0 : (t233 == 1) = true := beq_iff_eq.mpr c32
            have c32b1 : (t233 != 1) = false := bne_eq_false_iff_eq.mpr c32
            clear c32
            replace H := Option.bind_eq_some_iff.mp H
            obtain ⟨t237, A330, H⟩ := H
            replace H : (if t237 = true then (if a2 = true then ((leaf_Leaf_Wide.f a1_0 a1_1).bind fun t238 => (if t238 = true then (paternosterlaw14_GateHolds.j0 k a2 true a0_0 a0_1 a0_2 a1_0 a1_1 t234 t235) else (if t233 = 2 then (paternosterlaw14_GateHolds.j0 k a2 true a0_0 a0_1 a0_2 a1_0 a1_1 t234 t235) else (paternosterlaw14_GateHolds.j0 k a2 false a0_0 a0_1 a0_2 a1_0 a1_1 t234 t235)))) else (paternosterlaw14_GateHolds.j0 k a2 true a0_0 a0_1 a0_2 a1_0 a1_1 t234 t235)) else (paternosterlaw14_GateHolds.j0 k a2 true a0_0 a0_1 a0_2 a1_0 a1_1 t234 t235)) = some r := H
            have A33 := Aside0.mk A330
            clear A330
            by_cases c34 : t237 = true
            · subst c34
              have H1 : (if a2 = true then ((leaf_Leaf_Wide.f a1_0 a1_1).bind fun t238 => (if t238 = true then (paternosterlaw14_GateHolds.j0 k a2 true a0_0 a0_1 a0_2 a1_0 a1_1 t234 t235) else (if t233 = 2 then (paternosterlaw14_GateHolds.j0 k a2 true a0_0 a0_1 a0_2 a1_0 a1_1 t234 t235) else (paternosterlaw14_GateHolds.j0 k a2 false a0_0 a0_1 a0_2 a1_0 a1_1 t234 t235)))) else (paternosterlaw14_GateHolds.j0 k a2 true a0_0 a0_1 a0_2 a1_0 a1_1 t234 t235)) = some r := by rw [if_pos rfl] at H; exact H
              clear H
              have H := H1
              clear H1
              by_cases c35 : a2 = true
              · subst c35
                have H1 : ((leaf_Leaf_Wide.f a1_0 a1_1).bind fun t238 => (if t238 = true then (paternosterlaw14_GateHolds.j0 k true true a0_0 a0_1 a0_2 a1_0 a1_1 t234 t235) else (if t233 = 2 then (paternosterlaw14_GateHolds.j0 k true true a0_0 a0_1 a0_2 a1_0 a1_1 t234 t235) else (paternosterlaw14_GateHolds.j0 k true false a0_0 a0_1 a0_2 a1_0 a1_1 t234 t235)))) = some r := by rw [if_pos rfl] at H; exact H
                clear H
                have H := H1
                clear H1
                replace H := Option.bind_eq_some_iff.mp H
                obtain ⟨t238, A360, H⟩ := H
                replace H : (if t238 = true then (paternosterlaw14_GateHolds.j0 k true true a0_0 a0_1 a0_2 a1_0 a1_1 t234 t235) else (if t233 = 2 then (paternosterlaw14_GateHolds.j0 k true true a0_0 a0_1 a0_2 a1_0 a1_1 t234 t235) else (paternosterlaw14_GateHolds.j0 k true false a0_0 a0_1 a0_2 a1_0 a1_1 t234 t235))) = some r := H
                have A36 := Aside0.mk A360
                clear A360
                by_cases c37 : t238 = true
                · subst c37
                  have H1 : (paternosterlaw14_GateHolds.j0 k true true a0_0 a0_1 a0_2 a1_0 a1_1 t234 t235) = some r := by rw [if_pos rfl] at H; exact H
                  clear H
                  have H := H1
                  clear H1
                  have H' := Aside0.mk H
                  clear H
                  have hnb38 := NB228_229.out
                  have hnc38 := NB229_228.out
                  have hnb39 := NB228_236.out
                  have hnc39 := NB236_228.out
                  have hcz40_0 : w27.cell? ⟨gb228, 0, none⟩ = some (.int .i64 a0_0) := (blk_cell BK228.out 0).trans rfl
                  have hcz40_1 : w27.cell? ⟨gb228, 1, none⟩ = some (.int .i64 a0_1) := (blk_cell BK228.out 1).trans rfl
                  have hcz40_2 : w27.cell? ⟨gb228, 2, none⟩ = some (.int .i64 a0_2) := (blk_cell BK228.out 2).trans rfl
                  have hfz40_0 := blk_frozen BK228.out 0
                  have hfz40_1 := blk_frozen BK228.out 1
                  have hfz40_2 := blk_frozen BK228.out 2
                  go_wp2_with (first | (go_at_call 26; (with_reducible refine (car_Car_Level.calls a0_0 a0_1 a0_2 true _ A33.out).mono ?_); rintro e w41 ⟨rfl, hb⟩; have n0_ := Aside0.mk (blk_below (g := gb228) (o := .cells #[.int .i64 a0_0, .int .i64 a0_1, .int .i64 a0_2] 23 (0, 0)) (by (with_reducible repeat (first | refine blk_drewN ?_ _ | refine blk_drew ?_ | refine blk_alloc ?_ _)); refine blk_far ?_ NB228_236.out _; (with_reducible repeat (first | refine blk_drewN ?_ _ | refine blk_drew ?_ | refine blk_alloc ?_ _)); refine blk_far ?_ NB228_236.out _; (with_reducible repeat (first | refine blk_drewN ?_ _ | refine blk_drew ?_ | refine blk_alloc ?_ _)); exact BK228.out) hb); have n1_ := Aside0.mk (blk_below (g := gb229) (o := .cells #[.int .i64 a1_0, .int .i64 a1_1] 25 (0, 0)) (by (with_reducible repeat (first | refine blk_drewN ?_ _ | refine blk_drew ?_ | refine blk_alloc ?_ _)); refine blk_far ?_ NB229_236.out _; (with_reducible repeat (first | refine blk_drewN ?_ _ | refine blk_drew ?_ | refine blk_alloc ?_ _)); refine blk_far ?_ NB229_236.out _; (with_reducible repeat (first | refine blk_drewN ?_ _ | refine blk_drew ?_ | refine blk_alloc ?_ _)); exact BK229.out) hb); have n2_ := Aside0.mk (blk_below (g := gb236) (o := .cells #[.int .i64 t234, .int .i64 t235] 25 (0, 0)) (by (with_reducible repeat (first | refine blk_drewN ?_ _ | refine blk_drew ?_ | refine blk_alloc ?_ _)); refine blk_put (cs := #[.int .i64 t234, .int .i64 0]) ?_ 1 _ rfl; (with_reducible repeat (first | refine blk_drewN ?_ _ | refine blk_drew ?_ | refine blk_alloc ?_ _)); refine blk_put (cs := #[.int .i64 0, .int .i64 0]) ?_ 0 _ rfl; (with_reducible repeat (first | refine blk_drewN ?_ _ | refine blk_drew ?_ | refine blk_alloc ?_ _)); exact BK236.out) hb); have n3_ := Aside0.mk (below_step (by repeat (first | (with_reducible first | exact HB.out | apply below_alloc | apply pw_below_drewN | apply below_drew1 | refine below_set ?_ GE228.out | refine below_set ?_ GE229.out | refine below_set ?_ GE236.out) | exact HB.out)) hb); clear BK228; clear BK229; clear BK236; clear HB; have BK228 := n0_; have BK229 := n1_; have BK236 := n2_; have HB := n3_; clear n0_ n1_ n2_ n3_; (try clear hb); (try clear hb2); (try clear hk); (try clear hi); have hnb42 := NB229_236.out; have hnc42 := NB236_229.out; have hcz43_0 : w41.cell? ⟨gb229, 0, none⟩ = some (.int .i64 a1_0) := (blk_cell BK229.out 0).trans rfl; have hcz43_1 : w41.cell? ⟨gb229, 1, none⟩ = some (.int .i64 a1_1) := (blk_cell BK229.out 1).trans rfl; have hfz43_0 := blk_frozen BK229.out 0; have hfz43_1 := blk_frozen BK229.out 1) | (go_at_call 21; (with_reducible refine (leaf_Leaf_Wide.calls a1_0 a1_1 true _ A36.out).mono ?_); rintro e w44 ⟨rfl, hb⟩; have n0_ := Aside0.mk (blk_below (g := gb228) (o := .cells #[.int .i64 a0_0, .int .i64 a0_1, .int .i64 a0_2] 23 (0, 0)) (by (with_reducible repeat (first | refine blk_drewN ?_ _ | refine blk_drew ?_ | refine blk_alloc ?_ _)); exact BK228.out) hb); have n1_ := Aside0.mk (blk_below (g := gb229) (o := .cells #[.int .i64 a1_0, .int .i64 a1_1] 25 (0, 0)) (by (with_reducible repeat (first | refine blk_drewN ?_ _ | refine blk_drew ?_ | refine blk_alloc ?_ _)); exact BK229.out) hb); have n2_ := Aside0.mk (blk_below (g := gb236) (o := .cells #[.int .i64 t234, .int .i64 t235] 25 (0, 0)) (by (with_reducible repeat (first | refine blk_drewN ?_ _ | refine blk_drew ?_ | refine blk_alloc ?_ _)); exact BK236.out) hb); have n3_ := Aside0.mk (below_step (by repeat (first | (with_reducible first | exact HB.out | apply below_alloc | apply pw_below_drewN | apply below_drew1 | refine below_set ?_ GE228.out | refine below_set ?_ GE229.out | refine below_set ?_ GE236.out) | exact HB.out)) hb); clear BK228; clear BK229; clear BK236; clear HB; have BK228 := n0_; have BK229 := n1_; have BK236 := n2_; have HB := n3_; clear n0_ n1_ n2_ n3_; (try clear hb); (try clear hb2); (try clear hk); (try clear hi)))
                  go_meet
                  case rel => exact ⟨_, (true), (by first | rfl | (simp; done) | (simp [*]; done)), H', ⟨by first | omega | exact Nat.le_refl _⟩, ⟨by (with_reducible repeat (first | refine blk_drewN ?_ _ | refine blk_drew ?_ | refine blk_alloc ?_ _)); exact BK228.out⟩, ⟨by (with_reducible repeat (first | refine blk_drewN ?_ _ | refine blk_drew ?_ | refine blk_alloc ?_ _)); exact BK229.out⟩, ⟨by (with_reducible repeat (first | refine blk_drewN ?_ _ | refine blk_drew ?_ | refine blk_alloc ?_ _)); exact BK236.out⟩, ⟨by repeat (first | (with_reducible first | exact HB.out | apply below_alloc | apply pw_below_drewN | apply below_drew1 | refine below_set ?_ GE228.out | refine below_set ?_ GE229.out | refine below_set ?_ GE236.out) | exact HB.out)⟩⟩
                · replace c37 := Bool.eq_false_iff.mpr c37
                  subst c37
                  have H1 : (if t233 = 2 then (paternosterlaw14_GateHolds.j0 k true true a0_0 a0_1 a0_2 a1_0 a1_1 t234 t235) else (paternosterlaw14_GateHolds.j0 k true false a0_0 a0_1 a0_2 a1_0 a1_1 t234 t235)) = some r := by rw [if_neg (show ¬ (false = true) by decide)] at H; exact H
                  clear H
                  have H := H1
                  clear H1
                  by_cases c45 : t233 = 2
                  · rw [if_pos c45] at H
                    have c45b0 : (t233 == 2) = true := beq_iff_eq.mpr c45
                    have c45b1 : (t233 != 2) = false := bne_eq_false_iff_eq.mpr c45
                    clear c45
                    have H' := Aside0.mk H
                    clear H
                    have hnb46 := NB228_229.out
                    have hnc46 := NB229_228.out
                    have hnb47 := NB228_236.out
                    have hnc47 := NB236_228.out
                    have hcz48_0 : w27.cell? ⟨gb228, 0, none⟩ = some (.int .i64 a0_0) := (blk_cell BK228.out 0).trans rfl
                    have hcz48_1 : w27.cell? ⟨gb228, 1, none⟩ = some (.int .i64 a0_1) := (blk_cell BK228.out 1).trans rfl
                    have hcz48_2 : w27.cell? ⟨gb228, 2, none⟩ = some (.int .i64 a0_2) := (blk_cell BK228.out 2).trans rfl
                    have hfz48_0 := blk_frozen BK228.out 0
                    have hfz48_1 := blk_frozen BK228.out 1
                    have hfz48_2 := blk_frozen BK228.out 2
                    go_wp2_with (first | (go_at_call 26; (with_reducible refine (car_Car_Level.calls a0_0 a0_1 a0_2 true _ A33.out).mono ?_); rintro e w49 ⟨rfl, hb⟩; have n0_ := Aside0.mk (blk_below (g := gb228) (o := .cells #[.int .i64 a0_0, .int .i64 a0_1, .int .i64 a0_2] 23 (0, 0)) (by (with_reducible repeat (first | refine blk_drewN ?_ _ | refine blk_drew ?_ | refine blk_alloc ?_ _)); refine blk_far ?_ NB228_236.out _; (with_reducible repeat (first | refine blk_drewN ?_ _ | refine blk_drew ?_ | refine blk_alloc ?_ _)); refine blk_far ?_ NB228_236.out _; (with_reducible repeat (first | refine blk_drewN ?_ _ | refine blk_drew ?_ | refine blk_alloc ?_ _)); exact BK228.out) hb); have n1_ := Aside0.mk (blk_below (g := gb229) (o := .cells #[.int .i64 a1_0, .int .i64 a1_1] 25 (0, 0)) (by (with_reducible repeat (first | refine blk_drewN ?_ _ | refine blk_drew ?_ | refine blk_alloc ?_ _)); refine blk_far ?_ NB229_236.out _; (with_reducible repeat (first | refine blk_drewN ?_ _ | refine blk_drew ?_ | refine blk_alloc ?_ _)); refine blk_far ?_ NB229_236.out _; (with_reducible repeat (first | refine blk_drewN ?_ _ | refine blk_drew ?_ | refine blk_alloc ?_ _)); exact BK229.out) hb); have n2_ := Aside0.mk (blk_below (g := gb236) (o := .cells #[.int .i64 t234, .int .i64 t235] 25 (0, 0)) (by (with_reducible repeat (first | refine blk_drewN ?_ _ | refine blk_drew ?_ | refine blk_alloc ?_ _)); refine blk_put (cs := #[.int .i64 t234, .int .i64 0]) ?_ 1 _ rfl; (with_reducible repeat (first | refine blk_drewN ?_ _ | refine blk_drew ?_ | refine blk_alloc ?_ _)); refine blk_put (cs := #[.int .i64 0, .int .i64 0]) ?_ 0 _ rfl; (with_reducible repeat (first | refine blk_drewN ?_ _ | refine blk_drew ?_ | refine blk_alloc ?_ _)); exact BK236.out) hb); have n3_ := Aside0.mk (below_step (by repeat (first | (with_reducible first | exact HB.out | apply below_alloc | apply pw_below_drewN | apply below_drew1 | refine below_set ?_ GE228.out | refine below_set ?_ GE229.out | refine below_set ?_ GE236.out) | exact HB.out)) hb); clear BK228; clear BK229; clear BK236; clear HB; have BK228 := n0_; have BK229 := n1_; have BK236 := n2_; have HB := n3_; clear n0_ n1_ n2_ n3_; (try clear hb); (try clear hb2); (try clear hk); (try clear hi); have hnb50 := NB229_236.out; have hnc50 := NB236_229.out; have hcz51_0 : w49.cell? ⟨gb229, 0, none⟩ = some (.int .i64 a1_0) := (blk_cell BK229.out 0).trans rfl; have hcz51_1 : w49.cell? ⟨gb229, 1, none⟩ = some (.int .i64 a1_1) := (blk_cell BK229.out 1).trans rfl; have hfz51_0 := blk_frozen BK229.out 0; have hfz51_1 := blk_frozen BK229.out 1) | (go_at_call 21; (with_reducible refine (leaf_Leaf_Wide.calls a1_0 a1_1 false _ A36.out).mono ?_); rintro e w52 ⟨rfl, hb⟩; have n0_ := Aside0.mk (blk_below (g := gb228) (o := .cells #[.int .i64 a0_0, .int .i64 a0_1, .int .i64 a0_2] 23 (0, 0)) (by (with_reducible repeat (first | refine blk_drewN ?_ _ | refine blk_drew ?_ | refine blk_alloc ?_ _)); exact BK228.out) hb); have n1_ := Aside0.mk (blk_below (g := gb229) (o := .cells #[.int .i64 a1_0, .int .i64 a1_1] 25 (0, 0)) (by (with_reducible repeat (first | refine blk_drewN ?_ _ | refine blk_drew ?_ | refine blk_alloc ?_ _)); exact BK229.out) hb); have n2_ := Aside0.mk (blk_below (g := gb236) (o := .cells #[.int .i64 t234, .int .i64 t235] 25 (0, 0)) (by (with_reducible repeat (first | refine blk_drewN ?_ _ | refine blk_drew ?_ | refine blk_alloc ?_ _)); exact BK236.out) hb); have n3_ := Aside0.mk (below_step (by repeat (first | (with_reducible first | exact HB.out | apply below_alloc | apply pw_below_drewN | apply below_drew1 | refine below_set ?_ GE228.out | refine below_set ?_ GE229.out | refine below_set ?_ GE236.out) | exact HB.out)) hb); clear BK228; clear BK229; clear BK236; clear HB; have BK228 := n0_; have BK229 := n1_; have BK236 := n2_; have HB := n3_; clear n0_ n1_ n2_ n3_; (try clear hb); (try clear hb2); (try clear hk); (try clear hi)))
                    go_meet
                    case rel => exact ⟨_, (true), (by first | rfl | (simp; done) | (simp [*]; done)), H', ⟨by first | omega | exact Nat.le_refl _⟩, ⟨by (with_reducible repeat (first | refine blk_drewN ?_ _ | refine blk_drew ?_ | refine blk_alloc ?_ _)); exact BK228.out⟩, ⟨by (with_reducible repeat (first | refine blk_drewN ?_ _ | refine blk_drew ?_ | refine blk_alloc ?_ _)); exact BK229.out⟩, ⟨by (with_reducible repeat (first | refine blk_drewN ?_ _ | refine blk_drew ?_ | refine blk_alloc ?_ _)); exact BK236.out⟩, ⟨by repeat (first | (with_reducible first | exact HB.out | apply below_alloc | apply pw_below_drewN | apply below_drew1 | refine below_set ?_ GE228.out | refine below_set ?_ GE229.out | refine below_set ?_ GE236.out) | exact HB.out)⟩⟩
                  · rw [if_neg c45] at H
                    have c45b0 : (t233 == 2) = false := beq_eq_false_iff_ne.mpr c45
                    have c45b1 : (t233 != 2) = true := bne_iff_ne.mpr c45
                    have H' := Aside0.mk H
                    clear H
                    have hnb53 := NB228_229.out
                    have hnc53 := NB229_228.out
                    have hnb54 := NB228_236.out
                    have hnc54 := NB236_228.out
                    have hcz55_0 : w27.cell? ⟨gb228, 0, none⟩ = some (.int .i64 a0_0) := (blk_cell BK228.out 0).trans rfl
                    have hcz55_1 : w27.cell? ⟨gb228, 1, none⟩ = some (.int .i64 a0_1) := (blk_cell BK228.out 1).trans rfl
                    have hcz55_2 : w27.cell? ⟨gb228, 2, none⟩ = some (.int .i64 a0_2) := (blk_cell BK228.out 2).trans rfl
                    have hfz55_0 := blk_frozen BK228.out 0
                    have hfz55_1 := blk_frozen BK228.out 1
                    have hfz55_2 := blk_frozen BK228.out 2
                    go_wp2_with (first | (go_at_call 26; (with_reducible refine (car_Car_Level.calls a0_0 a0_1 a0_2 true _ A33.out).mono ?_); rintro e w56 ⟨rfl, hb⟩; have n0_ := Aside0.mk (blk_below (g := gb228) (o := .cells #[.int .i64 a0_0, .int .i64 a0_1, .int .i64 a0_2] 23 (0, 0)) (by (with_reducible repeat (first | refine blk_drewN ?_ _ | refine blk_drew ?_ | refine blk_alloc ?_ _)); refine blk_far ?_ NB228_236.out _; (with_reducible repeat (first | refine blk_drewN ?_ _ | refine blk_drew ?_ | refine blk_alloc ?_ _)); refine blk_far ?_ NB228_236.out _; (with_reducible repeat (first | refine blk_drewN ?_ _ | refine blk_drew ?_ | refine blk_alloc ?_ _)); exact BK228.out) hb); have n1_ := Aside0.mk (blk_below (g := gb229) (o := .cells #[.int .i64 a1_0, .int .i64 a1_1] 25 (0, 0)) (by (with_reducible repeat (first | refine blk_drewN ?_ _ | refine blk_drew ?_ | refine blk_alloc ?_ _)); refine blk_far ?_ NB229_236.out _; (with_reducible repeat (first | refine blk_drewN ?_ _ | refine blk_drew ?_ | refine blk_alloc ?_ _)); refine blk_far ?_ NB229_236.out _; (with_reducible repeat (first | refine blk_drewN ?_ _ | refine blk_drew ?_ | refine blk_alloc ?_ _)); exact BK229.out) hb); have n2_ := Aside0.mk (blk_below (g := gb236) (o := .cells #[.int .i64 t234, .int .i64 t235] 25 (0, 0)) (by (with_reducible repeat (first | refine blk_drewN ?_ _ | refine blk_drew ?_ | refine blk_alloc ?_ _)); refine blk_put (cs := #[.int .i64 t234, .int .i64 0]) ?_ 1 _ rfl; (with_reducible repeat (first | refine blk_drewN ?_ _ | refine blk_drew ?_ | refine blk_alloc ?_ _)); refine blk_put (cs := #[.int .i64 0, .int .i64 0]) ?_ 0 _ rfl; (with_reducible repeat (first | refine blk_drewN ?_ _ | refine blk_drew ?_ | refine blk_alloc ?_ _)); exact BK236.out) hb); have n3_ := Aside0.mk (below_step (by repeat (first | (with_reducible first | exact HB.out | apply below_alloc | apply pw_below_drewN | apply below_drew1 | refine below_set ?_ GE228.out | refine below_set ?_ GE229.out | refine below_set ?_ GE236.out) | exact HB.out)) hb); clear BK228; clear BK229; clear BK236; clear HB; have BK228 := n0_; have BK229 := n1_; have BK236 := n2_; have HB := n3_; clear n0_ n1_ n2_ n3_; (try clear hb); (try clear hb2); (try clear hk); (try clear hi); have hnb57 := NB229_236.out; have hnc57 := NB236_229.out; have hcz58_0 : w56.cell? ⟨gb229, 0, none⟩ = some (.int .i64 a1_0) := (blk_cell BK229.out 0).trans rfl; have hcz58_1 : w56.cell? ⟨gb229, 1, none⟩ = some (.int .i64 a1_1) := (blk_cell BK229.out 1).trans rfl; have hfz58_0 := blk_frozen BK229.out 0; have hfz58_1 := blk_frozen BK229.out 1) | (go_at_call 21; (with_reducible refine (leaf_Leaf_Wide.calls a1_0 a1_1 false _ A36.out).mono ?_); rintro e w59 ⟨rfl, hb⟩; have n0_ := Aside0.mk (blk_below (g := gb228) (o := .cells #[.int .i64 a0_0, .int .i64 a0_1, .int .i64 a0_2] 23 (0, 0)) (by (with_reducible repeat (first | refine blk_drewN ?_ _ | refine blk_drew ?_ | refine blk_alloc ?_ _)); exact BK228.out) hb); have n1_ := Aside0.mk (blk_below (g := gb229) (o := .cells #[.int .i64 a1_0, .int .i64 a1_1] 25 (0, 0)) (by (with_reducible repeat (first | refine blk_drewN ?_ _ | refine blk_drew ?_ | refine blk_alloc ?_ _)); exact BK229.out) hb); have n2_ := Aside0.mk (blk_below (g := gb236) (o := .cells #[.int .i64 t234, .int .i64 t235] 25 (0, 0)) (by (with_reducible repeat (first | refine blk_drewN ?_ _ | refine blk_drew ?_ | refine blk_alloc ?_ _)); exact BK236.out) hb); have n3_ := Aside0.mk (below_step (by repeat (first | (with_reducible first | exact HB.out | apply below_alloc | apply pw_below_drewN | apply below_drew1 | refine below_set ?_ GE228.out | refine below_set ?_ GE229.out | refine below_set ?_ GE236.out) | exact HB.out)) hb); clear BK228; clear BK229; clear BK236; clear HB; have BK228 := n0_; have BK229 := n1_; have BK236 := n2_; have HB := n3_; clear n0_ n1_ n2_ n3_; (try clear hb); (try clear hb2); (try clear hk); (try clear hi)))
                    go_meet
                    case rel => exact ⟨_, (false), (by first | rfl | (simp; done) | (simp [*]; done)), H', ⟨by first | omega | exact Nat.le_refl _⟩, ⟨by (with_reducible repeat (first | refine blk_drewN ?_ _ | refine blk_drew ?_ | refine blk_alloc ?_ _)); exact BK228.out⟩, ⟨by (with_reducible repeat (first | refine blk_drewN ?_ _ | refine blk_drew ?_ | refine blk_alloc ?_ _)); exact BK229.out⟩, ⟨by (with_reducible repeat (first | refine blk_drewN ?_ _ | refine blk_drew ?_ | refine blk_alloc ?_ _)); exact BK236.out⟩, ⟨by repeat (first | (with_reducible first | exact HB.out | apply below_alloc | apply pw_below_drewN | apply below_drew1 | refine below_set ?_ GE228.out | refine below_set ?_ GE229.out | refine below_set ?_ GE236.out) | exact HB.out)⟩⟩
              · replace c35 := Bool.eq_false_iff.mpr c35
                subst c35
                have H1 : (paternosterlaw14_GateHolds.j0 k false true a0_0 a0_1 a0_2 a1_0 a1_1 t234 t235) = some r := by rw [if_neg (show ¬ (false = true) by decide)] at H; exact H
                clear H
                have H := H1
                clear H1
                have H' := Aside0.mk H
                clear H
                have hnb60 := NB228_229.out
                have hnc60 := NB229_228.out
                have hnb61 := NB228_236.out
                have hnc61 := NB236_228.out
                have hcz62_0 : w27.cell? ⟨gb228, 0, none⟩ = some (.int .i64 a0_0) := (blk_cell BK228.out 0).trans rfl
                have hcz62_1 : w27.cell? ⟨gb228, 1, none⟩ = some (.int .i64 a0_1) := (blk_cell BK228.out 1).trans rfl
                have hcz62_2 : w27.cell? ⟨gb228, 2, none⟩ = some (.int .i64 a0_2) := (blk_cell BK228.out 2).trans rfl
                have hfz62_0 := blk_frozen BK228.out 0
                have hfz62_1 := blk_frozen BK228.out 1
                have hfz62_2 := blk_frozen BK228.out 2
                go_wp2_with (first | (go_at_call 26; (with_reducible refine (car_Car_Level.calls a0_0 a0_1 a0_2 true _ A33.out).mono ?_); rintro e w63 ⟨rfl, hb⟩; have n0_ := Aside0.mk (blk_below (g := gb228) (o := .cells #[.int .i64 a0_0, .int .i64 a0_1, .int .i64 a0_2] 23 (0, 0)) (by (with_reducible repeat (first | refine blk_drewN ?_ _ | refine blk_drew ?_ | refine blk_alloc ?_ _)); refine blk_far ?_ NB228_236.out _; (with_reducible repeat (first | refine blk_drewN ?_ _ | refine blk_drew ?_ | refine blk_alloc ?_ _)); refine blk_far ?_ NB228_236.out _; (with_reducible repeat (first | refine blk_drewN ?_ _ | refine blk_drew ?_ | refine blk_alloc ?_ _)); exact BK228.out) hb); have n1_ := Aside0.mk (blk_below (g := gb229) (o := .cells #[.int .i64 a1_0, .int .i64 a1_1] 25 (0, 0)) (by (with_reducible repeat (first | refine blk_drewN ?_ _ | refine blk_drew ?_ | refine blk_alloc ?_ _)); refine blk_far ?_ NB229_236.out _; (with_reducible repeat (first | refine blk_drewN ?_ _ | refine blk_drew ?_ | refine blk_alloc ?_ _)); refine blk_far ?_ NB229_236.out _; (with_reducible repeat (first | refine blk_drewN ?_ _ | refine blk_drew ?_ | refine blk_alloc ?_ _)); exact BK229.out) hb); have n2_ := Aside0.mk (blk_below (g := gb236) (o := .cells #[.int .i64 t234, .int .i64 t235] 25 (0, 0)) (by (with_reducible repeat (first | refine blk_drewN ?_ _ | refine blk_drew ?_ | refine blk_alloc ?_ _)); refine blk_put (cs := #[.int .i64 t234, .int .i64 0]) ?_ 1 _ rfl; (with_reducible repeat (first | refine blk_drewN ?_ _ | refine blk_drew ?_ | refine blk_alloc ?_ _)); refine blk_put (cs := #[.int .i64 0, .int .i64 0]) ?_ 0 _ rfl; (with_reducible repeat (first | refine blk_drewN ?_ _ | refine blk_drew ?_ | refine blk_alloc ?_ _)); exact BK236.out) hb); have n3_ := Aside0.mk (below_step (by repeat (first | (with_reducible first | exact HB.out | apply below_alloc | apply pw_below_drewN | apply below_drew1 | refine below_set ?_ GE228.out | refine below_set ?_ GE229.out | refine below_set ?_ GE236.out) | exact HB.out)) hb); clear BK228; clear BK229; clear BK236; clear HB; have BK228 := n0_; have BK229 := n1_; have BK236 := n2_; have HB := n3_; clear n0_ n1_ n2_ n3_; (try clear hb); (try clear hb2); (try clear hk); (try clear hi)))
                go_meet
                case rel => exact ⟨_, (true), (by first | rfl | (simp; done) | (simp [*]; done)), H', ⟨by first | omega | exact Nat.le_refl _⟩, ⟨by (with_reducible repeat (first | refine blk_drewN ?_ _ | refine blk_drew ?_ | refine blk_alloc ?_ _)); exact BK228.out⟩, ⟨by (with_reducible repeat (first | refine blk_drewN ?_ _ | refine blk_drew ?_ | refine blk_alloc ?_ _)); exact BK229.out⟩, ⟨by (with_reducible repeat (first | refine blk_drewN ?_ _ | refine blk_drew ?_ | refine blk_alloc ?_ _)); exact BK236.out⟩, ⟨by repeat (first | (with_reducible first | exact HB.out | apply below_alloc | apply pw_below_drewN | apply below_drew1 | refine below_set ?_ GE228.out | refine below_set ?_ GE229.out | refine below_set ?_ GE236.out) | exact HB.out)⟩⟩
            · replace c34 := Bool.eq_false_iff.mpr c34
              subst c34
              have H1 : (paternosterlaw14_GateHolds.j0 k a2 true a0_0 a0_1 a0_2 a1_0 a1_1 t234 t235) = some r := by rw [if_neg (show ¬ (false = true) by decide)] at H; exact H
              clear H
              have H := H1
              clear H1
              have H' := Aside0.mk H
              clear H
              have hnb64 := NB228_229.out
              have hnc64 := NB229_228.out
              have hnb65 := NB228_236.out
              have hnc65 := NB236_228.out
              have hcz66_0 : w27.cell? ⟨gb228, 0, none⟩ = some (.int .i64 a0_0) := (blk_cell BK228.out 0).trans rfl
              have hcz66_1 : w27.cell? ⟨gb228, 1, none⟩ = some (.int .i64 a0_1) := (blk_cell BK228.out 1).trans rfl
              have hcz66_2 : w27.cell? ⟨gb228, 2, none⟩ = some (.int .i64 a0_2) := (blk_cell BK228.out 2).trans rfl
              have hfz66_0 := blk_frozen BK228.out 0
              have hfz66_1 := blk_frozen BK228.out 1
              have hfz66_2 := blk_frozen BK228.out 2
              go_wp2_with (first | (go_at_call 26; (with_reducible refine (car_Car_Level.calls a0_0 a0_1 a0_2 false _ A33.out).mono ?_); rintro e w67 ⟨rfl, hb⟩; have n0_ := Aside0.mk (blk_below (g := gb228) (o := .cells #[.int .i64 a0_0, .int .i64 a0_1, .int .i64 a0_2] 23 (0, 0)) (by (with_reducible repeat (first | refine blk_drewN ?_ _ | refine blk_drew ?_ | refine blk_alloc ?_ _)); refine blk_far ?_ NB228_236.out _; (with_reducible repeat (first | refine blk_drewN ?_ _ | refine blk_drew ?_ | refine blk_alloc ?_ _)); refine blk_far ?_ NB228_236.out _; (with_reducible repeat (first | refine blk_drewN ?_ _ | refine blk_drew ?_ | refine blk_alloc ?_ _)); exact BK228.out) hb); have n1_ := Aside0.mk (blk_below (g := gb229) (o := .cells #[.int .i64 a1_0, .int .i64 a1_1] 25 (0, 0)) (by (with_reducible repeat (first | refine blk_drewN ?_ _ | refine blk_drew ?_ | refine blk_alloc ?_ _)); refine blk_far ?_ NB229_236.out _; (with_reducible repeat (first | refine blk_drewN ?_ _ | refine blk_drew ?_ | refine blk_alloc ?_ _)); refine blk_far ?_ NB229_236.out _; (with_reducible repeat (first | refine blk_drewN ?_ _ | refine blk_drew ?_ | refine blk_alloc ?_ _)); exact BK229.out) hb); have n2_ := Aside0.mk (blk_below (g := gb236) (o := .cells #[.int .i64 t234, .int .i64 t235] 25 (0, 0)) (by (with_reducible repeat (first | refine blk_drewN ?_ _ | refine blk_drew ?_ | refine blk_alloc ?_ _)); refine blk_put (cs := #[.int .i64 t234, .int .i64 0]) ?_ 1 _ rfl; (with_reducible repeat (first | refine blk_drewN ?_ _ | refine blk_drew ?_ | refine blk_alloc ?_ _)); refine blk_put (cs := #[.int .i64 0, .int .i64 0]) ?_ 0 _ rfl; (with_reducible repeat (first | refine blk_drewN ?_ _ | refine blk_drew ?_ | refine blk_alloc ?_ _)); exact BK236.out) hb); have n3_ := Aside0.mk (below_step (by repeat (first | (with_reducible first | exact HB.out | apply below_alloc | apply pw_below_drewN | apply below_drew1 | refine below_set ?_ GE228.out | refine below_set ?_ GE229.out | refine below_set ?_ GE236.out) | exact HB.out)) hb); clear BK228; clear BK229; clear BK236; clear HB; have BK228 := n0_; have BK229 := n1_; have BK236 := n2_; have HB := n3_; clear n0_ n1_ n2_ n3_; (try clear hb); (try clear hb2); (try clear hk); (try clear hi)))
              go_meet
              case rel => exact ⟨_, (true), (by first | rfl | (simp; done) | (simp [*]; done)), H', ⟨by first | omega | exact Nat.le_refl _⟩, ⟨by (with_reducible repeat (first | refine blk_drewN ?_ _ | refine blk_drew ?_ | refine blk_alloc ?_ _)); exact BK228.out⟩, ⟨by (with_reducible repeat (first | refine blk_drewN ?_ _ | refine blk_drew ?_ | refine blk_alloc ?_ _)); exact BK229.out⟩, ⟨by (with_reducible repeat (first | refine blk_drewN ?_ _ | refine blk_drew ?_ | refine blk_alloc ?_ _)); exact BK236.out⟩, ⟨by repeat (first | (with_reducible first | exact HB.out | apply below_alloc | apply pw_below_drewN | apply below_drew1 | refine below_set ?_ GE228.out | refine below_set ?_ GE229.out | refine below_set ?_ GE236.out) | exact HB.out)⟩⟩
          · rw [if_neg c32] at H
            have c32b0 : (t233 == 1) = false := beq_eq_false_iff_ne.mpr c32
            have c32b1 : (t233 != 1) = true := bne_iff_ne.mpr c32
            by_cases c68 : t233 = 2
            · rw [if_pos c68] at H
              have c68b0 : (t233 == 2) = true := beq_iff_eq.mpr c68
              have c68b1 : (t233 != 2) = false := bne_eq_false_iff_eq.mpr c68
              clear c68
              by_cases c69 : a2 = true
              · subst c69
                have H1 : (paternosterlaw14_GateHolds.j0 k true true a0_0 a0_1 a0_2 a1_0 a1_1 t234 t235) = some r := by rw [if_pos rfl] at H; exact H
                clear H
                have H := H1
                clear H1
                have H' := Aside0.mk H
                clear H
                go_wp2
                go_meet
                case rel => exact ⟨_, (true), (by first | rfl | (simp; done) | (simp [*]; done)), H', ⟨by first | omega | exact Nat.le_refl _⟩, ⟨by (with_reducible repeat (first | refine blk_drewN ?_ _ | refine blk_drew ?_ | refine blk_alloc ?_ _)); refine blk_far ?_ NB228_236.out _; (with_reducible repeat (first | refine blk_drewN ?_ _ | refine blk_drew ?_ | refine blk_alloc ?_ _)); refine blk_far ?_ NB228_236.out _; (with_reducible repeat (first | refine blk_drewN ?_ _ | refine blk_drew ?_ | refine blk_alloc ?_ _)); exact BK228.out⟩, ⟨by (with_reducible repeat (first | refine blk_drewN ?_ _ | refine blk_drew ?_ | refine blk_alloc ?_ _)); refine blk_far ?_ NB229_236.out _; (with_reducible repeat (first | refine blk_drewN ?_ _ | refine blk_drew ?_ | refine blk_alloc ?_ _)); refine blk_far ?_ NB229_236.out _; (with_reducible repeat (first | refine blk_drewN ?_ _ | refine blk_drew ?_ | refine blk_alloc ?_ _)); exact BK229.out⟩, ⟨by (with_reducible repeat (first | refine blk_drewN ?_ _ | refine blk_drew ?_ | refine blk_alloc ?_ _)); refine blk_put (cs := #[.int .i64 t234, .int .i64 0]) ?_ 1 _ rfl; (with_reducible repeat (first | refine blk_drewN ?_ _ | refine blk_drew ?_ | refine blk_alloc ?_ _)); refine blk_put (cs := #[.int .i64 0, .int .i64 0]) ?_ 0 _ rfl; (with_reducible repeat (first | refine blk_drewN ?_ _ | refine blk_drew ?_ | refine blk_alloc ?_ _)); exact BK236.out⟩, ⟨by repeat (first | (with_reducible first | exact HB.out | apply below_alloc | apply pw_below_drewN | apply below_drew1 | refine below_set ?_ GE228.out | refine below_set ?_ GE229.out | refine below_set ?_ GE236.out) | exact HB.out)⟩⟩
              · replace c69 := Bool.eq_false_iff.mpr c69
                subst c69
                have H1 : ((leaf_Leaf_Shut.f a1_0 a1_1).bind fun t239 => (paternosterlaw14_GateHolds.j0 k false t239 a0_0 a0_1 a0_2 a1_0 a1_1 t234 t235)) = some r := by rw [if_neg (show ¬ (false = true) by decide)] at H; exact H
                clear H
                have H := H1
                clear H1
                replace H := Option.bind_eq_some_iff.mp H
                obtain ⟨t239, A700, H⟩ := H
                replace H : (paternosterlaw14_GateHolds.j0 k false t239 a0_0 a0_1 a0_2 a1_0 a1_1 t234 t235) = some r := H
                have A70 := Aside0.mk A700
                clear A700
                have H' := Aside0.mk H
                clear H
                have hnb71 := NB229_228.out
                have hnc71 := NB228_229.out
                have hnb72 := NB229_236.out
                have hnc72 := NB236_229.out
                have hcz73_0 : w27.cell? ⟨gb229, 0, none⟩ = some (.int .i64 a1_0) := (blk_cell BK229.out 0).trans rfl
                have hcz73_1 : w27.cell? ⟨gb229, 1, none⟩ = some (.int .i64 a1_1) := (blk_cell BK229.out 1).trans rfl
                have hfz73_0 := blk_frozen BK229.out 0
                have hfz73_1 := blk_frozen BK229.out 1
                go_wp2_with (first | (go_at_call 27; (with_reducible refine (leaf_Leaf_Shut.calls a1_0 a1_1 t239 _ A70.out).mono ?_); rintro e w74 ⟨rfl, hb⟩; have n0_ := Aside0.mk (blk_below (g := gb228) (o := .cells #[.int .i64 a0_0, .int .i64 a0_1, .int .i64 a0_2] 23 (0, 0)) (by (with_reducible repeat (first | refine blk_drewN ?_ _ | refine blk_drew ?_ | refine blk_alloc ?_ _)); refine blk_far ?_ NB228_236.out _; (with_reducible repeat (first | refine blk_drewN ?_ _ | refine blk_drew ?_ | refine blk_alloc ?_ _)); refine blk_far ?_ NB228_236.out _; (with_reducible repeat (first | refine blk_drewN ?_ _ | refine blk_drew ?_ | refine blk_alloc ?_ _)); exact BK228.out) hb); have n1_ := Aside0.mk (blk_below (g := gb229) (o := .cells #[.int .i64 a1_0, .int .i64 a1_1] 25 (0, 0)) (by (with_reducible repeat (first | refine blk_drewN ?_ _ | refine blk_drew ?_ | refine blk_alloc ?_ _)); refine blk_far ?_ NB229_236.out _; (with_reducible repeat (first | refine blk_drewN ?_ _ | refine blk_drew ?_ | refine blk_alloc ?_ _)); refine blk_far ?_ NB229_236.out _; (with_reducible repeat (first | refine blk_drewN ?_ _ | refine blk_drew ?_ | refine blk_alloc ?_ _)); exact BK229.out) hb); have n2_ := Aside0.mk (blk_below (g := gb236) (o := .cells #[.int .i64 t234, .int .i64 t235] 25 (0, 0)) (by (with_reducible repeat (first | refine blk_drewN ?_ _ | refine blk_drew ?_ | refine blk_alloc ?_ _)); refine blk_put (cs := #[.int .i64 t234, .int .i64 0]) ?_ 1 _ rfl; (with_reducible repeat (first | refine blk_drewN ?_ _ | refine blk_drew ?_ | refine blk_alloc ?_ _)); refine blk_put (cs := #[.int .i64 0, .int .i64 0]) ?_ 0 _ rfl; (with_reducible repeat (first | refine blk_drewN ?_ _ | refine blk_drew ?_ | refine blk_alloc ?_ _)); exact BK236.out) hb); have n3_ := Aside0.mk (below_step (by repeat (first | (with_reducible first | exact HB.out | apply below_alloc | apply pw_below_drewN | apply below_drew1 | refine below_set ?_ GE228.out | refine below_set ?_ GE229.out | refine below_set ?_ GE236.out) | exact HB.out)) hb); clear BK228; clear BK229; clear BK236; clear HB; have BK228 := n0_; have BK229 := n1_; have BK236 := n2_; have HB := n3_; clear n0_ n1_ n2_ n3_; (try clear hb); (try clear hb2); (try clear hk); (try clear hi)))
                go_meet
                case rel => exact ⟨_, (t239), (by first | rfl | (simp; done) | (simp [*]; done)), H', ⟨by first | omega | exact Nat.le_refl _⟩, ⟨by (with_reducible repeat (first | refine blk_drewN ?_ _ | refine blk_drew ?_ | refine blk_alloc ?_ _)); exact BK228.out⟩, ⟨by (with_reducible repeat (first | refine blk_drewN ?_ _ | refine blk_drew ?_ | refine blk_alloc ?_ _)); exact BK229.out⟩, ⟨by (with_reducible repeat (first | refine blk_drewN ?_ _ | refine blk_drew ?_ | refine blk_alloc ?_ _)); exact BK236.out⟩, ⟨by repeat (first | (with_reducible first | exact HB.out | apply below_alloc | apply pw_below_drewN | apply below_drew1 | refine below_set ?_ GE228.out | refine below_set ?_ GE229.out | refine below_set ?_ GE236.out) | exact HB.out)⟩⟩
            · rw [if_neg c68] at H
              have c68b0 : (t233 == 2) = false := beq_eq_false_iff_ne.mpr c68
              have c68b1 : (t233 != 2) = true := bne_iff_ne.mpr c68
              have H' := Aside0.mk H
              clear H
              go_wp2
              go_meet
              case rel => exact ⟨_, (false), (by first | rfl | (simp; done) | (simp [*]; done)), H', ⟨by first | omega | exact Nat.le_refl _⟩, ⟨by (with_reducible repeat (first | refine blk_drewN ?_ _ | refine blk_drew ?_ | refine blk_alloc ?_ _)); refine blk_far ?_ NB228_236.out _; (with_reducible repeat (first | refine blk_drewN ?_ _ | refine blk_drew ?_ | refine blk_alloc ?_ _)); refine blk_far ?_ NB228_236.out _; (with_reducible repeat (first | refine blk_drewN ?_ _ | refine blk_drew ?_ | refine blk_alloc ?_ _)); exact BK228.out⟩, ⟨by (with_reducible repeat (first | refine blk_drewN ?_ _ | refine blk_drew ?_ | refine blk_alloc ?_ _)); refine blk_far ?_ NB229_236.out _; (with_reducible repeat (first | refine blk_drewN ?_ _ | refine blk_drew ?_ | refine blk_alloc ?_ _)); refine blk_far ?_ NB229_236.out _; (with_reducible repeat (first | refine blk_drewN ?_ _ | refine blk_drew ?_ | refine blk_alloc ?_ _)); exact BK229.out⟩, ⟨by (with_reducible repeat (first | refine blk_drewN ?_ _ | refine blk_drew ?_ | refine blk_alloc ?_ _)); refine blk_put (cs := #[.int .i64 t234, .int .i64 0]) ?_ 1 _ rfl; (with_reducible repeat (first | refine blk_drewN ?_ _ | refine blk_drew ?_ | refine blk_alloc ?_ _)); refine blk_put (cs := #[.int .i64 0, .int .i64 0]) ?_ 0 _ rfl; (with_reducible repeat (first | refine blk_drewN ?_ _ | refine blk_drew ?_ | refine blk_alloc ?_ _)); exact BK236.out⟩, ⟨by repeat (first | (with_reducible first | exact HB.out | apply below_alloc | apply pw_below_drewN | apply below_drew1 | refine below_set ?_ GE228.out | refine below_set ?_ GE229.out | refine below_set ?_ GE236.out) | exact HB.out)⟩⟩
        · rw [if_neg c31] at H
          have c31b0 : (t232 == 0) = false := beq_eq_false_iff_ne.mpr c31
          have c31b1 : (t232 != 0) = true := bne_iff_ne.mpr c31
          (first | rw [c31b0] | (simp only [i64_w, i32_w]; rw [c31b0]) | skip)
          have H' := Aside0.mk H
          clear H
          go_wp2
          go_meet
          case rel => exact ⟨_, (true), (by first | rfl | (simp; done) | (simp [*]; done)), H', ⟨by first | omega | exact Nat.le_refl _⟩, ⟨by (with_reducible repeat (first | refine blk_drewN ?_ _ | refine blk_drew ?_ | refine blk_alloc ?_ _)); refine blk_far ?_ NB228_236.out _; (with_reducible repeat (first | refine blk_drewN ?_ _ | refine blk_drew ?_ | refine blk_alloc ?_ _)); refine blk_far ?_ NB228_236.out _; (with_reducible repeat (first | refine blk_drewN ?_ _ | refine blk_drew ?_ | refine blk_alloc ?_ _)); exact BK228.out⟩, ⟨by (with_reducible repeat (first | refine blk_drewN ?_ _ | refine blk_drew ?_ | refine blk_alloc ?_ _)); refine blk_far ?_ NB229_236.out _; (with_reducible repeat (first | refine blk_drewN ?_ _ | refine blk_drew ?_ | refine blk_alloc ?_ _)); refine blk_far ?_ NB229_236.out _; (with_reducible repeat (first | refine blk_drewN ?_ _ | refine blk_drew ?_ | refine blk_alloc ?_ _)); exact BK229.out⟩, ⟨by (with_reducible repeat (first | refine blk_drewN ?_ _ | refine blk_drew ?_ | refine blk_alloc ?_ _)); refine blk_put (cs := #[.int .i64 t234, .int .i64 0]) ?_ 1 _ rfl; (with_reducible repeat (first | refine blk_drewN ?_ _ | refine blk_drew ?_ | refine blk_alloc ?_ _)); refine blk_put (cs := #[.int .i64 0, .int .i64 0]) ?_ 0 _ rfl; (with_reducible repeat (first | refine blk_drewN ?_ _ | refine blk_drew ?_ | refine blk_alloc ?_ _)); exact BK236.out⟩, ⟨by repeat (first | (with_reducible first | exact HB.out | apply below_alloc | apply pw_below_drewN | apply below_drew1 | refine below_set ?_ GE228.out | refine below_set ?_ GE229.out | refine below_set ?_ GE236.out) | exact HB.out)⟩⟩
      case rest =>
        clear HC11
        try clear c1
        try clear c2
        try clear p2
        try clear c3
        try clear c4
        try clear c5
        try clear c6
        try clear c7
        try clear c9
        try clear c15
        try clear c18
        try clear c22
        try clear c24
        try clear c25
        try clear c28
        try clear c29
        try clear c31
        try clear c31b0
        try clear c31b1
        try clear c32
        try clear c32b0
        try clear c32b1
        try clear c34
        try clear c35
        try clear c37
        try clear c38
        try clear c39
        try clear c42
        try clear c45
        try clear c45b0
        try clear c45b1
        try clear c46
        try clear c47
        try clear c50
        try clear c53
        try clear c54
        try clear c57
        try clear c60
        try clear c61
        try clear c64
        try clear c65
        try clear c68
        try clear c68b0
        try clear c68b1
        try clear c69
        try clear c71
        try clear c72
        try clear hcz16_0
        try clear hcz16_1
        try clear hcz16_2
        try clear hcz17_0
        try clear hcz17_1
        try clear hcz19_0
        try clear hcz19_1
        try clear hcz19_2
        try clear hcz20_0
        try clear hcz20_1
        try clear hcz22_0
        try clear hcz22_1
        try clear hcz22_2
        try clear hcz23_0
        try clear hcz23_1
        try clear hcz25_0
        try clear hcz25_1
        try clear hcz30_0
        try clear hcz30_1
        try clear hcz40_0
        try clear hcz40_1
        try clear hcz40_2
        try clear hcz43_0
        try clear hcz43_1
        try clear hcz48_0
        try clear hcz48_1
        try clear hcz48_2
        try clear hcz51_0
        try clear hcz51_1
        try clear hcz55_0
        try clear hcz55_1
        try clear hcz55_2
        try clear hcz58_0
        try clear hcz58_1
        try clear hcz62_0
        try clear hcz62_1
        try clear hcz62_2
        try clear hcz66_0
        try clear hcz66_1
        try clear hcz66_2
        try clear hcz73_0
        try clear hcz73_1
        try clear hfz16_0
        try clear hfz16_1
        try clear hfz16_2
        try clear hfz17_0
        try clear hfz17_1
        try clear hfz19_0
        try clear hfz19_1
        try clear hfz19_2
        try clear hfz20_0
        try clear hfz20_1
        try clear hfz22_0
        try clear hfz22_1
        try clear hfz22_2
        try clear hfz23_0
        try clear hfz23_1
        try clear hfz25_0
        try clear hfz25_1
        try clear hfz30_0
        try clear hfz30_1
        try clear hfz40_0
        try clear hfz40_1
        try clear hfz40_2
        try clear hfz43_0
        try clear hfz43_1
        try clear hfz48_0
        try clear hfz48_1
        try clear hfz48_2
        try clear hfz51_0
        try clear hfz51_1
        try clear hfz55_0
        try clear hfz55_1
        try clear hfz55_2
        try clear hfz58_0
        try clear hfz58_1
        try clear hfz62_0
        try clear hfz62_1
        try clear hfz62_2
        try clear hfz66_0
        try clear hfz66_1
        try clear hfz66_2
        try clear hfz73_0
        try clear hfz73_1
        obtain ⟨kq, x60_10, rfl, HA, HJ10, BK228, BK229, BK236, HB⟩ := hcut
        cases kq with
        | zero => exact absurd HA.out (by simp [paternosterlaw14_GateHolds.j0])
        | succ kj10 =>
          have H := HA.out
          clear HA
          simp only [paternosterlaw14_GateHolds.j0] at H
          by_cases c75 : x60_10 = true
          · subst c75
            have H1 : (some false) = some r := by rw [if_pos rfl] at H; exact H
            clear H
            have H := H1
            clear H1
            exact absurd (Option.some.inj H) (by rw [HT.out]; decide)
          · replace c75 := Bool.eq_false_iff.mpr c75
            subst c75
            have H1 : (if a2 = true then (if t234 = (mn (wrap64 (a1_0 + 1)) a1_1) then (some true) else ((car_Car_Level.f a0_0 a0_1 a0_2).bind fun t240 => (if t240 = true then (some false) else (some (t234 == a1_0 && (t235 == a1_1)))))) else (some (t234 == (mx (wrap64 (a1_0 - 1)) 0)))) = some r := by rw [if_neg (show ¬ (false = true) by decide)] at H; exact H
            clear H
            have H := H1
            clear H1
            by_cases c76 : a2 = true
            · subst c76
              have H1 : (if t234 = (mn (wrap64 (a1_0 + 1)) a1_1) then (some true) else ((car_Car_Level.f a0_0 a0_1 a0_2).bind fun t240 => (if t240 = true then (some false) else (some (t234 == a1_0 && (t235 == a1_1)))))) = some r := by rw [if_pos rfl] at H; exact H
              clear H
              have H := H1
              clear H1
              obtain ⟨ji77, hji77⟩ : ∃ j_ : Int, (mn (wrap64 (a1_0 + 1)) a1_1) = j_ := ⟨_, rfl⟩
              replace H : (if t234 = (ji77) then (some true) else ((car_Car_Level.f a0_0 a0_1 a0_2).bind fun t240 => (if t240 = true then (some false) else (some (t234 == a1_0 && (t235 == a1_1)))))) = some r := by first | (rw [hji77] at H; exact H) | (simp only [hji77] at H ⊢; exact H)
              have hji77_ : (if a1_1 < (wrap64 (a1_0 + 1)) then a1_1 else (wrap64 (a1_0 + 1))) = ji77 := hji77
              by_cases c78 : t234 = (ji77)
              · rw [if_pos c78] at H
                have c78b0 : (t234 == (ji77)) = true := beq_iff_eq.mpr c78
                have c78b1 : (t234 != (ji77)) = false := bne_eq_false_iff_eq.mpr c78
                clear c78
                obtain rfl := Option.some.inj H
                have hnb79 := NB236_228.out
                have hnc79 := NB228_236.out
                have hnb80 := NB236_229.out
                have hnc80 := NB229_236.out
                have hcz81_0 : wc.cell? ⟨gb236, 0, none⟩ = some (.int .i64 t234) := (blk_cell BK236.out 0).trans rfl
                have hcz81_1 : wc.cell? ⟨gb236, 1, none⟩ = some (.int .i64 t235) := (blk_cell BK236.out 1).trans rfl
                have hfz81_0 := blk_frozen BK236.out 0
                have hfz81_1 := blk_frozen BK236.out 1
                have hnb82 := NB229_228.out
                have hnc82 := NB228_229.out
                have hcz83_0 : wc.cell? ⟨gb229, 0, none⟩ = some (.int .i64 a1_0) := (blk_cell BK229.out 0).trans rfl
                have hcz83_1 : wc.cell? ⟨gb229, 1, none⟩ = some (.int .i64 a1_1) := (blk_cell BK229.out 1).trans rfl
                have hfz83_0 := blk_frozen BK229.out 0
                have hfz83_1 := blk_frozen BK229.out 1
                go_wp2
                go_ret
                exact ⟨by first | rfl | (simp [errW_none, errW_some] <;> rfl) | (simp only [← hji77]; first | rfl | (simp [errW_none, errW_some] <;> rfl)) | (simp [*, errW_none, errW_some] <;> rfl), by repeat (first | (with_reducible first | exact HB.out | apply below_alloc | apply pw_below_drewN | apply below_drew1 | refine below_set ?_ GE228.out | refine below_set ?_ GE229.out | refine below_set ?_ GE236.out) | exact HB.out)⟩
              · rw [if_neg c78] at H
                have c78b0 : (t234 == (ji77)) = false := beq_eq_false_iff_ne.mpr c78
                have c78b1 : (t234 != (ji77)) = true := bne_iff_ne.mpr c78
                replace H := Option.bind_eq_some_iff.mp H
                obtain ⟨t240, A840, H⟩ := H
                replace H : (if t240 = true then (some false) else (some (t234 == a1_0 && (t235 == a1_1)))) = some r := H
                have A84 := Aside0.mk A840
                clear A840
                by_cases c85 : t240 = true
                · subst c85
                  have H1 : (some false) = some r := by rw [if_pos rfl] at H; exact H
                  clear H
                  have H := H1
                  clear H1
                  exact absurd (Option.some.inj H) (by rw [HT.out]; decide)
                · replace c85 := Bool.eq_false_iff.mpr c85
                  subst c85
                  have H1 : (some (t234 == a1_0 && (t235 == a1_1))) = some r := by rw [if_neg (show ¬ (false = true) by decide)] at H; exact H
                  clear H
                  have H := H1
                  clear H1
                  obtain rfl := Option.some.inj H
                  have hnb86 := NB236_228.out
                  have hnc86 := NB228_236.out
                  have hnb87 := NB236_229.out
                  have hnc87 := NB229_236.out
                  have hcz88_0 : wc.cell? ⟨gb236, 0, none⟩ = some (.int .i64 t234) := (blk_cell BK236.out 0).trans rfl
                  have hcz88_1 : wc.cell? ⟨gb236, 1, none⟩ = some (.int .i64 t235) := (blk_cell BK236.out 1).trans rfl
                  have hfz88_0 := blk_frozen BK236.out 0
                  have hfz88_1 := blk_frozen BK236.out 1
                  have hnb89 := NB229_228.out
                  have hnc89 := NB228_229.out
                  have hcz90_0 : wc.cell? ⟨gb229, 0, none⟩ = some (.int .i64 a1_0) := (blk_cell BK229.out 0).trans rfl
                  have hcz90_1 : wc.cell? ⟨gb229, 1, none⟩ = some (.int .i64 a1_1) := (blk_cell BK229.out 1).trans rfl
                  have hfz90_0 := blk_frozen BK229.out 0
                  have hfz90_1 := blk_frozen BK229.out 1
                  have hcz91_0 : wc.cell? ⟨gb228, 0, none⟩ = some (.int .i64 a0_0) := (blk_cell BK228.out 0).trans rfl
                  have hcz91_1 : wc.cell? ⟨gb228, 1, none⟩ = some (.int .i64 a0_1) := (blk_cell BK228.out 1).trans rfl
                  have hcz91_2 : wc.cell? ⟨gb228, 2, none⟩ = some (.int .i64 a0_2) := (blk_cell BK228.out 2).trans rfl
                  have hfz91_0 := blk_frozen BK228.out 0
                  have hfz91_1 := blk_frozen BK228.out 1
                  have hfz91_2 := blk_frozen BK228.out 2
                  go_wp2_with (first | (go_at_call 26; (with_reducible refine (car_Car_Level.calls a0_0 a0_1 a0_2 false _ A84.out).mono ?_); rintro e w92 ⟨rfl, hb⟩; have n0_ := Aside0.mk (blk_below (g := gb228) (o := .cells #[.int .i64 a0_0, .int .i64 a0_1, .int .i64 a0_2] 23 (0, 0)) (by (with_reducible repeat (first | refine blk_drewN ?_ _ | refine blk_drew ?_ | refine blk_alloc ?_ _)); exact BK228.out) hb); have n1_ := Aside0.mk (blk_below (g := gb229) (o := .cells #[.int .i64 a1_0, .int .i64 a1_1] 25 (0, 0)) (by (with_reducible repeat (first | refine blk_drewN ?_ _ | refine blk_drew ?_ | refine blk_alloc ?_ _)); exact BK229.out) hb); have n2_ := Aside0.mk (blk_below (g := gb236) (o := .cells #[.int .i64 t234, .int .i64 t235] 25 (0, 0)) (by (with_reducible repeat (first | refine blk_drewN ?_ _ | refine blk_drew ?_ | refine blk_alloc ?_ _)); exact BK236.out) hb); have n3_ := Aside0.mk (below_step (by repeat (first | (with_reducible first | exact HB.out | apply below_alloc | apply pw_below_drewN | apply below_drew1 | refine below_set ?_ GE228.out | refine below_set ?_ GE229.out | refine below_set ?_ GE236.out) | exact HB.out)) hb); clear BK228; clear BK229; clear BK236; clear HB; have BK228 := n0_; have BK229 := n1_; have BK236 := n2_; have HB := n3_; clear n0_ n1_ n2_ n3_; (try clear hb); (try clear hb2); (try clear hk); (try clear hi); have hcz93_0 : w92.cell? ⟨gb236, 0, none⟩ = some (.int .i64 t234) := (blk_cell BK236.out 0).trans rfl; have hcz93_1 : w92.cell? ⟨gb236, 1, none⟩ = some (.int .i64 t235) := (blk_cell BK236.out 1).trans rfl; have hfz93_0 := blk_frozen BK236.out 0; have hfz93_1 := blk_frozen BK236.out 1; have hcz94_0 : w92.cell? ⟨gb229, 0, none⟩ = some (.int .i64 a1_0) := (blk_cell BK229.out 0).trans rfl; have hcz94_1 : w92.cell? ⟨gb229, 1, none⟩ = some (.int .i64 a1_1) := (blk_cell BK229.out 1).trans rfl; have hfz94_0 := blk_frozen BK229.out 0; have hfz94_1 := blk_frozen BK229.out 1))
                  go_ret
                  exact ⟨by first | rfl | (simp [errW_none, errW_some] <;> rfl) | (simp only [← hji77]; first | rfl | (simp [errW_none, errW_some] <;> rfl)) | (simp [*, errW_none, errW_some] <;> rfl), by repeat (first | (with_reducible first | exact HB.out | apply below_alloc | apply pw_below_drewN | apply below_drew1 | refine below_set ?_ GE228.out | refine below_set ?_ GE229.out | refine below_set ?_ GE236.out) | exact HB.out)⟩
            · replace c76 := Bool.eq_false_iff.mpr c76
              subst c76
              have H1 : (some (t234 == (mx (wrap64 (a1_0 - 1)) 0))) = some r := by rw [if_neg (show ¬ (false = true) by decide)] at H; exact H
              clear H
              have H := H1
              clear H1
              obtain ⟨ji95, hji95⟩ : ∃ j_ : Int, (mx (wrap64 (a1_0 - 1)) 0) = j_ := ⟨_, rfl⟩
              replace H : (some (t234 == (ji95))) = some r := by first | (rw [hji95] at H; exact H) | (simp only [hji95] at H ⊢; exact H)
              have hji95_ : (if (wrap64 (a1_0 - 1)) < 0 then 0 else (wrap64 (a1_0 - 1))) = ji95 := hji95
              obtain rfl := Option.some.inj H
              have hnb96 := NB236_228.out
              have hnc96 := NB228_236.out
              have hnb97 := NB236_229.out
              have hnc97 := NB229_236.out
              have hcz98_0 : wc.cell? ⟨gb236, 0, none⟩ = some (.int .i64 t234) := (blk_cell BK236.out 0).trans rfl
              have hcz98_1 : wc.cell? ⟨gb236, 1, none⟩ = some (.int .i64 t235) := (blk_cell BK236.out 1).trans rfl
              have hfz98_0 := blk_frozen BK236.out 0
              have hfz98_1 := blk_frozen BK236.out 1
              have hnb99 := NB229_228.out
              have hnc99 := NB228_229.out
              have hcz100_0 : wc.cell? ⟨gb229, 0, none⟩ = some (.int .i64 a1_0) := (blk_cell BK229.out 0).trans rfl
              have hcz100_1 : wc.cell? ⟨gb229, 1, none⟩ = some (.int .i64 a1_1) := (blk_cell BK229.out 1).trans rfl
              have hfz100_0 := blk_frozen BK229.out 0
              have hfz100_1 := blk_frozen BK229.out 1
              go_wp2
              go_ret
              exact ⟨by first | rfl | (simp [errW_none, errW_some] <;> rfl) | (simp only [← hji95]; first | rfl | (simp [errW_none, errW_some] <;> rfl)) | (simp [*, errW_none, errW_some] <;> rfl), by repeat (first | (with_reducible first | exact HB.out | apply below_alloc | apply pw_below_drewN | apply below_drew1 | refine below_set ?_ GE228.out | refine below_set ?_ GE229.out | refine below_set ?_ GE236.out) | exact HB.out)⟩
    · replace c7 := Bool.eq_false_iff.mpr c7
      subst c7
      have H1 : (some true) = some r := by rw [if_neg (show ¬ (false = true) by decide)] at H; exact H
      clear H
      have H := H1
      clear H1
      obtain rfl := Option.some.inj H
      go_enter Try.func9, Try.ntmps9
      go_wp2_with (first | ((with_reducible refine gate_dst (N := 3) rfl ?_); refine box_event ?hg (N := 3) ?hd (cs := #[.int .i64 a0_0, .int .i64 a0_1, .int .i64 a0_2]) (t := 23) ?hr ?_; (case hd => rfl); (case hg => rfl); (case hr => first | (go_simp; done) | (go_simp; rfl)); intro gb228 hg w101 hbox hb; have n0_ := Aside0.mk (below_step (by repeat (first | (with_reducible first | exact HB.out | apply below_alloc | apply pw_below_drewN | apply below_drew1) | exact HB.out)) hb); have n1_ := Aside0.mk (hbox); have n2_ := Aside0.mk ((by rw [hg]; exact (below_size (by repeat (first | (with_reducible first | exact HB.out | apply below_alloc | apply pw_below_drewN | apply below_drew1) | exact HB.out))) : w.heap.size ≤ gb228)); have n3_ := Aside0.mk ((by rw [hg]; exact (below_size (by repeat (first | (with_reducible first | exact HB.out | apply below_alloc | apply pw_below_drewN | apply below_drew1) | exact HB.out))) : w.heap.size ≤ gb228)); clear HB; have HB := n0_; have BK228 := n1_; have GW228 := n2_; have GE228 := n3_; clear n0_ n1_ n2_ n3_; clear hb hbox hg) | ((with_reducible refine gate_dst (N := 4) rfl ?_); refine box_event ?hg (N := 4) ?hd (cs := #[.int .i64 a1_0, .int .i64 a1_1]) (t := 25) ?hr ?_; (case hd => rfl); (case hg => rfl); (case hr => first | (go_simp; done) | (go_simp; rfl)); intro gb229 hg w102 hbox hb; have n0_ := Aside0.mk (blk_below (g := gb228) (o := .cells #[.int .i64 a0_0, .int .i64 a0_1, .int .i64 a0_2] 23 (0, 0)) (by (with_reducible repeat (first | refine blk_drewN ?_ _ | refine blk_drew ?_ | refine blk_alloc ?_ _)); exact BK228.out) hb); have n1_ := Aside0.mk (below_step (by repeat (first | (with_reducible first | exact HB.out | apply below_alloc | apply pw_below_drewN | apply below_drew1 | refine below_set ?_ GE228.out) | exact HB.out)) hb); have n2_ := Aside0.mk (hbox); have n3_ := Aside0.mk ((by rw [hg]; exact (below_size (by repeat (first | (with_reducible first | exact HB.out | apply below_alloc | apply pw_below_drewN | apply below_drew1 | refine below_set ?_ GE228.out) | exact HB.out))) : w.heap.size ≤ gb229)); have n4_ := Aside0.mk ((by rw [hg]; exact (below_size (by repeat (first | (with_reducible first | exact HB.out | apply below_alloc | apply pw_below_drewN | apply below_drew1 | refine below_set ?_ GE228.out) | exact HB.out))) : w.heap.size ≤ gb229)); have n5_ := Aside0.mk ((by rw [hg]; exact Nat.ne_of_lt (blk_lt (g := gb228) (o := .cells #[.int .i64 a0_0, .int .i64 a0_1, .int .i64 a0_2] 23 (0, 0)) (by (with_reducible repeat (first | refine blk_drewN ?_ _ | refine blk_drew ?_ | refine blk_alloc ?_ _)); exact BK228.out)) : gb228 ≠ gb229)); have n6_ := Aside0.mk ((by rw [hg]; exact Nat.ne_of_gt (blk_lt (g := gb228) (o := .cells #[.int .i64 a0_0, .int .i64 a0_1, .int .i64 a0_2] 23 (0, 0)) (by (with_reducible repeat (first | refine blk_drewN ?_ _ | refine blk_drew ?_ | refine blk_alloc ?_ _)); exact BK228.out)) : gb229 ≠ gb228)); clear BK228; clear HB; have BK228 := n0_; have HB := n1_; have BK229 := n2_; have GW229 := n3_; have GE229 := n4_; have NB228_229 := n5_; have NB229_228 := n6_; clear n0_ n1_ n2_ n3_ n4_ n5_ n6_; clear hb hbox hg) | ((with_reducible refine gate_callee (f := 18) rfl ?_); refine goesL_ (some 12) rfl rfl Try.func18 (by kernel_rfl) rfl #[] rfl (by (try simp only [List.map_toArray, List.map_cons, List.map_nil]); first | done | rfl | (simp only [List.length_drop, List.length_take]; rfl)) ?_; (with_reducible refine (paternosterlaw14_awake.calls  true _ A4.out).mono ?_); rintro e w103 ⟨rfl, hb⟩; refine ⟨_, rfl, ?_⟩; have n0_ := Aside0.mk (blk_below (g := gb228) (o := .cells #[.int .i64 a0_0, .int .i64 a0_1, .int .i64 a0_2] 23 (0, 0)) (by (with_reducible repeat (first | refine blk_drewN ?_ _ | refine blk_drew ?_ | refine blk_alloc ?_ _)); exact BK228.out) hb); have n1_ := Aside0.mk (blk_below (g := gb229) (o := .cells #[.int .i64 a1_0, .int .i64 a1_1] 25 (0, 0)) (by (with_reducible repeat (first | refine blk_drewN ?_ _ | refine blk_drew ?_ | refine blk_alloc ?_ _)); exact BK229.out) hb); have n2_ := Aside0.mk (below_step (by repeat (first | (with_reducible first | exact HB.out | apply below_alloc | apply pw_below_drewN | apply below_drew1 | refine below_set ?_ GE228.out | refine below_set ?_ GE229.out) | exact HB.out)) hb); clear BK228; clear BK229; clear HB; have BK228 := n0_; have BK229 := n1_; have HB := n2_; clear n0_ n1_ n2_; (try clear hb); (try clear hb2); (try clear hk); (try clear hi); have hnb104 := NB228_229.out; have hnc104 := NB229_228.out; have hcz105_0 : w103.cell? ⟨gb228, 0, none⟩ = some (.int .i64 a0_0) := (blk_cell BK228.out 0).trans rfl; have hcz105_1 : w103.cell? ⟨gb228, 1, none⟩ = some (.int .i64 a0_1) := (blk_cell BK228.out 1).trans rfl; have hcz105_2 : w103.cell? ⟨gb228, 2, none⟩ = some (.int .i64 a0_2) := (blk_cell BK228.out 2).trans rfl; have hfz105_0 := blk_frozen BK228.out 0; have hfz105_1 := blk_frozen BK228.out 1; have hfz105_2 := blk_frozen BK228.out 2; have hcz106_0 : w103.cell? ⟨gb229, 0, none⟩ = some (.int .i64 a1_0) := (blk_cell BK229.out 0).trans rfl; have hcz106_1 : w103.cell? ⟨gb229, 1, none⟩ = some (.int .i64 a1_1) := (blk_cell BK229.out 1).trans rfl; have hfz106_0 := blk_frozen BK229.out 0; have hfz106_1 := blk_frozen BK229.out 1) | ((with_reducible refine gate_callee (f := 22) rfl ?_); refine goesL_ (some 17) rfl rfl Try.func22 (by kernel_rfl) rfl #[.agg #[.int .i64 a0_0, .int .i64 a0_1, .int .i64 a0_2], .agg #[.int .i64 a1_0, .int .i64 a1_1]] rfl (by (try simp only [List.map_toArray, List.map_cons, List.map_nil]); first | done | rfl | (simp only [List.length_drop, List.length_take]; rfl)) ?_; (with_reducible refine (paternosterlaw14_may.calls a0_0 a0_1 a0_2 a1_0 a1_1 false _ A6.out).mono ?_); rintro e w107 ⟨rfl, hb⟩; refine ⟨_, rfl, ?_⟩; have n0_ := Aside0.mk (blk_below (g := gb228) (o := .cells #[.int .i64 a0_0, .int .i64 a0_1, .int .i64 a0_2] 23 (0, 0)) (by (with_reducible repeat (first | refine blk_drewN ?_ _ | refine blk_drew ?_ | refine blk_alloc ?_ _)); exact BK228.out) hb); have n1_ := Aside0.mk (blk_below (g := gb229) (o := .cells #[.int .i64 a1_0, .int .i64 a1_1] 25 (0, 0)) (by (with_reducible repeat (first | refine blk_drewN ?_ _ | refine blk_drew ?_ | refine blk_alloc ?_ _)); exact BK229.out) hb); have n2_ := Aside0.mk (below_step (by repeat (first | (with_reducible first | exact HB.out | apply below_alloc | apply pw_below_drewN | apply below_drew1 | refine below_set ?_ GE228.out | refine below_set ?_ GE229.out) | exact HB.out)) hb); clear BK228; clear BK229; clear HB; have BK228 := n0_; have BK229 := n1_; have HB := n2_; clear n0_ n1_ n2_; (try clear hb); (try clear hb2); (try clear hk); (try clear hi)))
      go_ret
      exact ⟨by first | rfl | (simp [errW_none, errW_some] <;> rfl) | (simp [*, errW_none, errW_some] <;> rfl), by repeat (first | (with_reducible first | exact HB.out | apply below_alloc | apply pw_below_drewN | apply below_drew1 | refine below_set ?_ GE228.out | refine below_set ?_ GE229.out) | exact HB.out)⟩
  · replace c5 := Bool.eq_false_iff.mpr c5
    subst c5
    have H1 : (some false) = some r := by rw [if_neg (show ¬ (false = true) by decide)] at H; exact H
    clear H
    have H := H1
    clear H1
    exact absurd (Option.some.inj H) (by rw [HT.out]; decide)

/-- THE ONE PURE STATEMENT of paternosterlaw14_GateHolds: yours. -/
def paternosterlaw14_GateHolds.Pure : Prop := ∀ (a0_0 : Int) (a0_1 : Int) (a0_2 : Int) (a1_0 : Int) (a1_1 : Int) (a2 : Bool), (Lit.int .i64 a0_0).wf = true → (Lit.int .i64 a0_1).wf = true → (Lit.int .i64 a0_2).wf = true → (Lit.int .i64 a1_0).wf = true → (Lit.int .i64 a1_1).wf = true → ∃ k, paternosterlaw14_GateHolds.f k a0_0 a0_1 a0_2 a1_0 a1_1 a2 = some true
theorem paternosterlaw14_GateHolds.walk (P : paternosterlaw14_GateHolds.Pure) (a0_0 : Int) (a0_1 : Int) (a0_2 : Int) (a1_0 : Int) (a1_1 : Int) (a2 : Bool) (w : World) (w0_0 : (Lit.int .i64 a0_0).wf = true) (w0_1 : (Lit.int .i64 a0_1).wf = true) (w0_2 : (Lit.int .i64 a0_2).wf = true) (w1_0 : (Lit.int .i64 a1_0).wf = true) (w1_1 : (Lit.int .i64 a1_1).wf = true) :
    Calls Try.prog 9 #[.agg #[.int .i64 a0_0, .int .i64 a0_1, .int .i64 a0_2], .agg #[.int .i64 a1_0, .int .i64 a1_1], .bool a2] w fun e w' => e = .returned (.bool true) ∧ Below w.heap.size w w' := by
  obtain ⟨k, h⟩ := P a0_0 a0_1 a0_2 a1_0 a1_1 a2 w0_0 w0_1 w0_2 w1_0 w1_1
  refine (paternosterlaw14_GateHolds.calls k a0_0 a0_1 a0_2 a1_0 a1_1 a2 true w rfl h).mono ?_
  rintro e w' ⟨rfl, hd⟩
  exact ⟨rfl, hd⟩

end Go.Proofs.Ytcegefhjgkoknaa.Q
