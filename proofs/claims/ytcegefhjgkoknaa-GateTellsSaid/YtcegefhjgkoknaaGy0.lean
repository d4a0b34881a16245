-- Written by a program of this session (turned from the kit's print.py) out of the translation. Not trusted: Lean checks it.
import Derived.Test.YtcegefhjgkoknaaGx0
import Derived.Test.YtcegefhjgkoknaaGx1
import Derived.Test.YtcegefhjgkoknaaGx2
import Derived.Test.YtcegefhjgkoknaaGx3
import Derived.Test.YtcegefhjgkoknaaGx4
namespace Go.Proofs.Ytcegefhjgkoknaa.G
open Go.RowKit Go.Proofs.YtcegefhjgkoknaaW.PrintWords Go.Proofs.YtcegefhjgkoknaaW.PrintLast Go.Proofs.YtcegefhjgkoknaaW.PrintMore
attribute [local go_sem] max2_int min2_int max_two min_two max_three min_three max_four min_four   -- for this text's walks alone
set_option linter.unusedVariables false
set_option linter.unusedSimpArgs false

attribute [local go_sem] fld23_0 fld23_1 fld23_2 fld25_0 fld25_1 fld27_0 fld27_1 fld27_2 fld27_3 fld37_0 fld37_1
attribute [local go_sem high] eqA37
/-! ### paternosterlaw14_GateTells: function 7 -/
mutual
def paternosterlaw14_GateTells.j0 : Nat → Bool → Bool → Bool → Int → Int → Bool → Int → Int → Int → Int → Int → Int → Int → Int → Int → Option (Bool)
 | 0, _, _, _, _, _, _, _, _, _, _, _, _, _, _, _ => none
 | k + 1, x4, x5, x6, x7, x8, x65, x132000, x132001, x132002, x133000, x133001, x134000, x134001, x135000, x135001 => if x65 = true then (some true) else (if x5 = true then (if x4 = true then (if x132001 = 0 then (if (Int.tmod x132000 8) = 0 then (paternosterlaw14_GateTells.j1 k x4 x5 x6 x8 (wrap64 (Int.tmod x7 201)) 0 (decide (x133000 < x133001)) x132000 x132001 x132002 x133000 x133001 x134000 x134001 x135000 x135001) else (paternosterlaw14_GateTells.j1 k x4 x5 x6 x8 (wrap64 (Int.tmod x7 201)) 0 false x132000 x132001 x132002 x133000 x133001 x134000 x134001 x135000 x135001)) else (paternosterlaw14_GateTells.j1 k x4 x5 x6 x8 (wrap64 (Int.tmod x7 201)) 0 false x132000 x132001 x132002 x133000 x133001 x134000 x134001 x135000 x135001)) else (paternosterlaw14_GateTells.j1 k x4 x5 x6 x8 (wrap64 (Int.tmod x7 201)) 0 false x132000 x132001 x132002 x133000 x133001 x134000 x134001 x135000 x135001)) else (paternosterlaw14_GateTells.j1 k x4 x5 x6 x8 (wrap64 (Int.tmod x7 201)) 0 false x132000 x132001 x132002 x133000 x133001 x134000 x134001 x135000 x135001))
def paternosterlaw14_GateTells.j1 : Nat → Bool → Bool → Bool → Int → Int → Int → Bool → Int → Int → Int → Int → Int → Int → Int → Int → Int → Option (Bool)
 | 0, _, _, _, _, _, _, _, _, _, _, _, _, _, _, _, _ => none
 | k + 1, x4, x5, x6, x8, x22, x23, x90, x132000, x132001, x132002, x133000, x133001, x134000, x134001, x135000, x135001 => if x90 = true then (paternosterlaw14_GateTells.j2 k x4 x5 x6 x8 x22 1 x132000 x132001 x132002 x133000 x133001 x134000 x134001 x135000 x135001) else (paternosterlaw14_GateTells.j2 k x4 x5 x6 x8 x22 x23 x132000 x132001 x132002 x133000 x133001 x134000 x134001 x135000 x135001)
def paternosterlaw14_GateTells.j2 : Nat → Bool → Bool → Bool → Int → Int → Int → Int → Int → Int → Int → Int → Int → Int → Int → Int → Option (Bool)
 | 0, _, _, _, _, _, _, _, _, _, _, _, _, _, _, _ => none
 | k + 1, x4, x5, x6, x8, x22, x23, x132000, x132001, x132002, x133000, x133001, x134000, x134001, x135000, x135001 => if x5 = true then (if x4 = true then (paternosterlaw14_GateTells.j3 k x4 x5 x6 x8 x22 x23 false x132000 x132001 x132002 x133000 x133001 x134000 x134001 x135000 x135001) else (paternosterlaw14_GateTells.j3 k x4 x5 x6 x8 x22 x23 (decide (x133000 > 0)) x132000 x132001 x132002 x133000 x133001 x134000 x134001 x135000 x135001)) else (paternosterlaw14_GateTells.j3 k x4 x5 x6 x8 x22 x23 false x132000 x132001 x132002 x133000 x133001 x134000 x134001 x135000 x135001)
def paternosterlaw14_GateTells.j3 : Nat → Bool → Bool → Bool → Int → Int → Int → Bool → Int → Int → Int → Int → Int → Int → Int → Int → Int → Option (Bool)
 | 0, _, _, _, _, _, _, _, _, _, _, _, _, _, _, _, _ => none
 | k + 1, x4, x5, x6, x8, x22, x23, x100, x132000, x132001, x132002, x133000, x133001, x134000, x134001, x135000, x135001 => if x100 = true then (paternosterlaw14_GateTells.j4 k x4 x5 x6 x8 x22 2 x132000 x132001 x132002 x133000 x133001 x134000 x134001 x135000 x135001) else (paternosterlaw14_GateTells.j4 k x4 x5 x6 x8 x22 x23 x132000 x132001 x132002 x133000 x133001 x134000 x134001 x135000 x135001)
def paternosterlaw14_GateTells.j4 : Nat → Bool → Bool → Bool → Int → Int → Int → Int → Int → Int → Int → Int → Int → Int → Int → Int → Option (Bool)
 | 0, _, _, _, _, _, _, _, _, _, _, _, _, _, _, _ => none
 | k + 1, x4, x5, x6, x8, x22, x23, x132000, x132001, x132002, x133000, x133001, x134000, x134001, x135000, x135001 => (gate_Gate_Step.f x135000 x135001 x133000 x133001 x134000 x134001 x22).bind fun bt138 => (if x134000 = x134001 then (if x133000 = x133001 then (paternosterlaw14_GateTells.j5 k x4 x5 x6 x8 x23 (mx (wrap64 (x135000 - 1)) 0) x132000 x132001 x132002 x133000 x133001 x134000 x134001 x135000 x135001 bt138.1 bt138.2) else (paternosterlaw14_GateTells.j5 k x4 x5 x6 x8 x23 x22 x132000 x132001 x132002 x133000 x133001 x134000 x134001 x135000 x135001 bt138.1 bt138.2)) else (paternosterlaw14_GateTells.j5 k x4 x5 x6 x8 x23 0 x132000 x132001 x132002 x133000 x133001 x134000 x134001 x135000 x135001 bt138.1 bt138.2))
def paternosterlaw14_GateTells.j5 : Nat → Bool → Bool → Bool → Int → Int → Int → Int → Int → Int → Int → Int → Int → Int → Int → Int → Int → Int → Option (Bool)
 | 0, _, _, _, _, _, _, _, _, _, _, _, _, _, _, _, _, _ => none
 | k + 1, x4, x5, x6, x8, x23, x25, x132000, x132001, x132002, x133000, x133001, x134000, x134001, x135000, x135001, x141000, x141001 => if x134000 = 0 then (paternosterlaw14_GateTells.j6 k x4 x5 x6 x8 x23 x25 0 x132000 x132001 x132002 x133000 x133001 x135000 x135001 x141000 x141001) else (paternosterlaw14_GateTells.j6 k x4 x5 x6 x8 x23 x25 x135001 x132000 x132001 x132002 x133000 x133001 x135000 x135001 x141000 x141001)
def paternosterlaw14_GateTells.j6 : Nat → Bool → Bool → Bool → Int → Int → Int → Int → Int → Int → Int → Int → Int → Int → Int → Int → Int → Option (Bool)
 | 0, _, _, _, _, _, _, _, _, _, _, _, _, _, _, _, _ => none
 | k + 1, x4, x5, x6, x8, x23, x25, x26, x132000, x132001, x132002, x133000, x133001, x135000, x135001, x141000, x141001 => (gate_Gate_Again.f x135000 x135001 x133000 x133001 x6 x8).bind fun bt141 => (if x6 = true then (if x133000 > 0 then (if x133000 < x133001 then (paternosterlaw14_GateTells.j7 k x4 x5 x23 x25 x26 bt141.2.2 (decide (x135001 < x8)) x132000 x132001 x132002 x133000 x133001 x135000 x135001 x141000 x141001 bt141.1 bt141.2.1) else (paternosterlaw14_GateTells.j7 k x4 x5 x23 x25 x26 bt141.2.2 false x132000 x132001 x132002 x133000 x133001 x135000 x135001 x141000 x141001 bt141.1 bt141.2.1)) else (paternosterlaw14_GateTells.j7 k x4 x5 x23 x25 x26 bt141.2.2 false x132000 x132001 x132002 x133000 x133001 x135000 x135001 x141000 x141001 bt141.1 bt141.2.1)) else (paternosterlaw14_GateTells.j7 k x4 x5 x23 x25 x26 bt141.2.2 false x132000 x132001 x132002 x133000 x133001 x135000 x135001 x141000 x141001 bt141.1 bt141.2.1))
def paternosterlaw14_GateTells.j7 : Nat → Bool → Bool → Int → Int → Int → Bool → Bool → Int → Int → Int → Int → Int → Int → Int → Int → Int → Int → Int → Option (Bool)
 | 0, _, _, _, _, _, _, _, _, _, _, _, _, _, _, _, _, _, _ => none
 | k + 1, x4, x5, x23, x25, x26, x28, x29, x132000, x132001, x132002, x133000, x133001, x135000, x135001, x141000, x141001, x145000, x145001 => if x29 = true then ((gate_What.f x132000 x132001 x132002 x133000 x133001 x4 x5).bind fun t146 => (if t146 = x23 then (if (x141000 == x25 && (x141001 == x26)) = true then (if (x28 == x29) = true then (if (x145000 == x135000 && (x145001 == (wrap64 (x135001 + 1)))) = true then ((gate_Gate_Ready.f x135000 x135001 x133000 x133001).bind fun t147 => (if x133000 < x133001 then (some (t147 == true)) else (some (t147 == (x135000 == 0))))) else (some false)) else (some false)) else (some false)) else (some false))) else ((gate_What.f x132000 x132001 x132002 x133000 x133001 x4 x5).bind fun t148 => (if t148 = x23 then (if (x141000 == x25 && (x141001 == x26)) = true then (if (x28 == x29) = true then (if (x145000 == x135000 && (x145001 == x135001)) = true then ((gate_Gate_Ready.f x135000 x135001 x133000 x133001).bind fun t149 => (if x133000 < x133001 then (some (t149 == true)) else (some (t149 == (x135000 == 0))))) else (some false)) else (some false)) else (some false)) else (some false)))
end
def paternosterlaw14_GateTells.f (k : Nat) (a0_0 : Int) (a0_1 : Int) (a0_2 : Int) (a1_0 : Int) (a1_1 : Int) (a2_0 : Int) (a2_1 : Int) (a3_0 : Int) (a3_1 : Int) (a4 : Bool) (a5 : Bool) (a6 : Bool) (a7 : Int) (a8 : Int) : Option (Bool) := (paternosterlaw14_awake.f).bind fun t135 => (if t135 = true then ((paternosterlaw14_may.f a0_0 a0_1 a0_2 a1_0 a1_1).bind fun t136 => ((paternosterlaw14_may.f a0_0 a0_1 a0_2 a2_0 a2_1).bind fun t137 => (if t136 = true then (if t137 = true then (if a3_0 < 0 then (paternosterlaw14_GateTells.j0 k a4 a5 a6 a7 a8 true a0_0 a0_1 a0_2 a1_0 a1_1 a2_0 a2_1 a3_0 a3_1) else (if a3_0 > 200 then (paternosterlaw14_GateTells.j0 k a4 a5 a6 a7 a8 true a0_0 a0_1 a0_2 a1_0 a1_1 a2_0 a2_1 a3_0 a3_1) else (if a3_1 < 0 then (paternosterlaw14_GateTells.j0 k a4 a5 a6 a7 a8 true a0_0 a0_1 a0_2 a1_0 a1_1 a2_0 a2_1 a3_0 a3_1) else (paternosterlaw14_GateTells.j0 k a4 a5 a6 a7 a8 (decide (a3_1 > 1000000)) a0_0 a0_1 a0_2 a1_0 a1_1 a2_0 a2_1 a3_0 a3_1)))) else (paternosterlaw14_GateTells.j0 k a4 a5 a6 a7 a8 true a0_0 a0_1 a0_2 a1_0 a1_1 a2_0 a2_1 a3_0 a3_1)) else (paternosterlaw14_GateTells.j0 k a4 a5 a6 a7 a8 true a0_0 a0_1 a0_2 a1_0 a1_1 a2_0 a2_1 a3_0 a3_1)))) else (some false))
theorem paternosterlaw14_GateTells.mono_l : ∀ k, (∀ y0 y1 y2 y3 y4 y5 y6 y7 y8 y9 y10 y11 y12 y13 y14, LeO (paternosterlaw14_GateTells.j0 k y0 y1 y2 y3 y4 y5 y6 y7 y8 y9 y10 y11 y12 y13 y14) (paternosterlaw14_GateTells.j0 (k + 1) y0 y1 y2 y3 y4 y5 y6 y7 y8 y9 y10 y11 y12 y13 y14)) ∧ (∀ y0 y1 y2 y3 y4 y5 y6 y7 y8 y9 y10 y11 y12 y13 y14 y15, LeO (paternosterlaw14_GateTells.j1 k y0 y1 y2 y3 y4 y5 y6 y7 y8 y9 y10 y11 y12 y13 y14 y15) (paternosterlaw14_GateTells.j1 (k + 1) y0 y1 y2 y3 y4 y5 y6 y7 y8 y9 y10 y11 y12 y13 y14 y15)) ∧ (∀ y0 y1 y2 y3 y4 y5 y6 y7 y8 y9 y10 y11 y12 y13 y14, LeO (paternosterlaw14_GateTells.j2 k y0 y1 y2 y3 y4 y5 y6 y7 y8 y9 y10 y11 y12 y13 y14) (paternosterlaw14_GateTells.j2 (k + 1) y0 y1 y2 y3 y4 y5 y6 y7 y8 y9 y10 y11 y12 y13 y14)) ∧ (∀ y0 y1 y2 y3 y4 y5 y6 y7 y8 y9 y10 y11 y12 y13 y14 y15, LeO (paternosterlaw14_GateTells.j3 k y0 y1 y2 y3 y4 y5 y6 y7 y8 y9 y10 y11 y12 y13 y14 y15) (paternosterlaw14_GateTells.j3 (k + 1) y0 y1 y2 y3 y4 y5 y6 y7 y8 y9 y10 y11 y12 y13 y14 y15)) ∧ (∀ y0 y1 y2 y3 y4 y5 y6 y7 y8 y9 y10 y11 y12 y13 y14, LeO (paternosterlaw14_GateTells.j4 k y0 y1 y2 y3 y4 y5 y6 y7 y8 y9 y10 y11 y12 y13 y14) (paternosterlaw14_GateTells.j4 (k + 1) y0 y1 y2 y3 y4 y5 y6 y7 y8 y9 y10 y11 y12 y13 y14)) ∧ (∀ y0 y1 y2 y3 y4 y5 y6 y7 y8 y9 y10 y11 y12 y13 y14 y15 y16, LeO (paternosterlaw14_GateTells.j5 k y0 y1 y2 y3 y4 y5 y6 y7 y8 y9 y10 y11 y12 y13 y14 y15 y16) (paternosterlaw14_GateTells.j5 (k + 1) y0 y1 y2 y3 y4 y5 y6 y7 y8 y9 y10 y11 y12 y13 y14 y15 y16)) ∧ (∀ y0 y1 y2 y3 y4 y5 y6 y7 y8 y9 y10 y11 y12 y13 y14 y15, LeO (paternosterlaw14_GateTells.j6 k y0 y1 y2 y3 y4 y5 y6 y7 y8 y9 y10 y11 y12 y13 y14 y15) (paternosterlaw14_GateTells.j6 (k + 1) y0 y1 y2 y3 y4 y5 y6 y7 y8 y9 y10 y11 y12 y13 y14 y15)) ∧ (∀ y0 y1 y2 y3 y4 y5 y6 y7 y8 y9 y10 y11 y12 y13 y14 y15 y16 y17, LeO (paternosterlaw14_GateTells.j7 k y0 y1 y2 y3 y4 y5 y6 y7 y8 y9 y10 y11 y12 y13 y14 y15 y16 y17) (paternosterlaw14_GateTells.j7 (k + 1) y0 y1 y2 y3 y4 y5 y6 y7 y8 y9 y10 y11 y12 y13 y14 y15 y16 y17))
 | 0 => ⟨fun _ _ _ _ _ _ _ _ _ _ _ _ _ _ _ r h => by simp [paternosterlaw14_GateTells.j0] at h, fun _ _ _ _ _ _ _ _ _ _ _ _ _ _ _ _ r h => by simp [paternosterlaw14_GateTells.j1] at h, fun _ _ _ _ _ _ _ _ _ _ _ _ _ _ _ r h => by simp [paternosterlaw14_GateTells.j2] at h, fun _ _ _ _ _ _ _ _ _ _ _ _ _ _ _ _ r h => by simp [paternosterlaw14_GateTells.j3] at h, fun _ _ _ _ _ _ _ _ _ _ _ _ _ _ _ r h => by simp [paternosterlaw14_GateTells.j4] at h, fun _ _ _ _ _ _ _ _ _ _ _ _ _ _ _ _ _ r h => by simp [paternosterlaw14_GateTells.j5] at h, fun _ _ _ _ _ _ _ _ _ _ _ _ _ _ _ _ r h => by simp [paternosterlaw14_GateTells.j6] at h, fun _ _ _ _ _ _ _ _ _ _ _ _ _ _ _ _ _ _ r h => by simp [paternosterlaw14_GateTells.j7] at h⟩
 | k + 1 => by
  obtain ⟨ih0, ih1, ih2, ih3, ih4, ih5, ih6, ih7⟩ := paternosterlaw14_GateTells.mono_l k
  refine ⟨?_, ?_, ?_, ?_, ?_, ?_, ?_, ?_⟩
  ·intro y0 y1 y2 y3 y4 y5 y6 y7 y8 y9 y10 y11 y12 y13 y14
   unfold paternosterlaw14_GateTells.j0
   repeat' first
   | (with_reducible exact ih0 _ _ _ _ _ _ _ _ _ _ _ _ _ _ _)
   | (with_reducible exact ih1 _ _ _ _ _ _ _ _ _ _ _ _ _ _ _ _)
   | (with_reducible exact ih2 _ _ _ _ _ _ _ _ _ _ _ _ _ _ _)
   | (with_reducible exact ih3 _ _ _ _ _ _ _ _ _ _ _ _ _ _ _ _)
   | (with_reducible exact ih4 _ _ _ _ _ _ _ _ _ _ _ _ _ _ _)
   | (with_reducible exact ih5 _ _ _ _ _ _ _ _ _ _ _ _ _ _ _ _ _)
   | (with_reducible exact ih6 _ _ _ _ _ _ _ _ _ _ _ _ _ _ _ _)
   | (with_reducible exact ih7 _ _ _ _ _ _ _ _ _ _ _ _ _ _ _ _ _ _)
   | (with_reducible exact LeO.refl _)
   | (with_reducible exact LeO.none _)
   | (with_reducible refine LeO.ite ?_ ?_)
   | (with_reducible refine LeO.bind ?_ (fun _ => ?_))
   | exact ih0 _ _ _ _ _ _ _ _ _ _ _ _ _ _ _
   | exact ih1 _ _ _ _ _ _ _ _ _ _ _ _ _ _ _ _
   | exact ih2 _ _ _ _ _ _ _ _ _ _ _ _ _ _ _
   | exact ih3 _ _ _ _ _ _ _ _ _ _ _ _ _ _ _ _
   | exact ih4 _ _ _ _ _ _ _ _ _ _ _ _ _ _ _
   | exact ih5 _ _ _ _ _ _ _ _ _ _ _ _ _ _ _ _ _
   | exact ih6 _ _ _ _ _ _ _ _ _ _ _ _ _ _ _ _
   | exact ih7 _ _ _ _ _ _ _ _ _ _ _ _ _ _ _ _ _ _
   | exact LeO.none _
   | refine LeO.ite ?_ ?_
   | refine LeO.bind ?_ (fun _ => ?_)
  ·intro y0 y1 y2 y3 y4 y5 y6 y7 y8 y9 y10 y11 y12 y13 y14 y15
   unfold paternosterlaw14_GateTells.j1
   repeat' first
   | (with_reducible exact ih0 _ _ _ _ _ _ _ _ _ _ _ _ _ _ _)
   | (with_reducible exact ih1 _ _ _ _ _ _ _ _ _ _ _ _ _ _ _ _)
   | (with_reducible exact ih2 _ _ _ _ _ _ _ _ _ _ _ _ _ _ _)
   | (with_reducible exact ih3 _ _ _ _ _ _ _ _ _ _ _ _ _ _ _ _)
   | (with_reducible exact ih4 _ _ _ _ _ _ _ _ _ _ _ _ _ _ _)
   | (with_reducible exact ih5 _ _ _ _ _ _ _ _ _ _ _ _ _ _ _ _ _)
   | (with_reducible exact ih6 _ _ _ _ _ _ _ _ _ _ _ _ _ _ _ _)
   | (with_reducible exact ih7 _ _ _ _ _ _ _ _ _ _ _ _ _ _ _ _ _ _)
   | (with_reducible exact LeO.refl _)
   | (with_reducible exact LeO.none _)
   | (with_reducible refine LeO.ite ?_ ?_)
   | (with_reducible refine LeO.bind ?_ (fun _ => ?_))
   | exact ih0 _ _ _ _ _ _ _ _ _ _ _ _ _ _ _
   | exact ih1 _ _ _ _ _ _ _ _ _ _ _ _ _ _ _ _
   | exact ih2 _ _ _ _ _ _ _ _ _ _ _ _ _ _ _
   | exact ih3 _ _ _ _ _ _ _ _ _ _ _ _ _ _ _ _
   | exact ih4 _ _ _ _ _ _ _ _ _ _ _ _ _ _ _
   | exact ih5 _ _ _ _ _ _ _ _ _ _ _ _ _ _ _ _ _
   | exact ih6 _ _ _ _ _ _ _ _ _ _ _ _ _ _ _ _
   | exact ih7 _ _ _ _ _ _ _ _ _ _ _ _ _ _ _ _ _ _
   | exact LeO.none _
   | refine LeO.ite ?_ ?_
   | refine LeO.bind ?_ (fun _ => ?_)
  ·intro y0 y1 y2 y3 y4 y5 y6 y7 y8 y9 y10 y11 y12 y13 y14
   unfold paternosterlaw14_GateTells.j2
   repeat' first
   | (with_reducible exact ih0 _ _ _ _ _ _ _ _ _ _ _ _ _ _ _)
   | (with_reducible exact ih1 _ _ _ _ _ _ _ _ _ _ _ _ _ _ _ _)
   | (with_reducible exact ih2 _ _ _ _ _ _ _ _ _ _ _ _ _ _ _)
   | (with_reducible exact ih3 _ _ _ _ _ _ _ _ _ _ _ _ _ _ _ _)
   | (with_reducible exact ih4 _ _ _ _ _ _ _ _ _ _ _ _ _ _ _)
   | (with_reducible exact ih5 _ _ _ _ _ _ _ _ _ _ _ _ _ _ _ _ _)
   | (with_reducible exact ih6 _ _ _ _ _ _ _ _ _ _ _ _ _ _ _ _)
   | (with_reducible exact ih7 _ _ _ _ _ _ _ _ _ _ _ _ _ _ _ _ _ _)
   | (with_reducible exact LeO.refl _)
   | (with_reducible exact LeO.none _)
   | (with_reducible refine LeO.ite ?_ ?_)
   | (with_reducible refine LeO.bind ?_ (fun _ => ?_))
   | exact ih0 _ _ _ _ _ _ _ _ _ _ _ _ _ _ _
   | exact ih1 _ _ _ _ _ _ _ _ _ _ _ _ _ _ _ _
   | exact ih2 _ _ _ _ _ _ _ _ _ _ _ _ _ _ _
   | exact ih3 _ _ _ _ _ _ _ _ _ _ _ _ _ _ _ _
   | exact ih4 _ _ _ _ _ _ _ _ _ _ _ _ _ _ _
   | exact ih5 _ _ _ _ _ _ _ _ _ _ _ _ _ _ _ _ _
   | exact ih6 _ _ _ _ _ _ _ _ _ _ _ _ _ _ _ _
   | exact ih7 _ _ _ _ _ _ _ _ _ _ _ _ _ _ _ _ _ _
   | exact LeO.none _
   | refine LeO.ite ?_ ?_
   | refine LeO.bind ?_ (fun _ => ?_)
  ·intro y0 y1 y2 y3 y4 y5 y6 y7 y8 y9 y10 y11 y12 y13 y14 y15
   unfold paternosterlaw14_GateTells.j3
   repeat' first
   | (with_reducible exact ih0 _ _ _ _ _ _ _ _ _ _ _ _ _ _ _)
   | (with_reducible exact ih1 _ _ _ _ _ _ _ _ _ _ _ _ _ _ _ _)
   | (with_reducible exact ih2 _ _ _ _ _ _ _ _ _ _ _ _ _ _ _)
   | (with_reducible exact ih3 _ _ _ _ _ _ _ _ _ _ _ _ _ _ _ _)
   | (with_reducible exact ih4 _ _ _ _ _ _ _ _ _ _ _ _ _ _ _)
   | (with_reducible exact ih5 _ _ _ _ _ _ _ _ _ _ _ _ _ _ _ _ _)
   | (with_reducible exact ih6 _ _ _ _ _ _ _ _ _ _ _ _ _ _ _ _)
   | (with_reducible exact ih7 _ _ _ _ _ _ _ _ _ _ _ _ _ _ _ _ _ _)
   | (with_reducible exact LeO.refl _)
   | (with_reducible exact LeO.none _)
   | (with_reducible refine LeO.ite ?_ ?_)
   | (with_reducible refine LeO.bind ?_ (fun _ => ?_))
   | exact ih0 _ _ _ _ _ _ _ _ _ _ _ _ _ _ _
   | exact ih1 _ _ _ _ _ _ _ _ _ _ _ _ _ _ _ _
   | exact ih2 _ _ _ _ _ _ _ _ _ _ _ _ _ _ _
   | exact ih3 _ _ _ _ _ _ _ _ _ _ _ _ _ _ _ _
   | exact ih4 _ _ _ _ _ _ _ _ _ _ _ _ _ _ _
   | exact ih5 _ _ _ _ _ _ _ _ _ _ _ _ _ _ _ _ _
   | exact ih6 _ _ _ _ _ _ _ _ _ _ _ _ _ _ _ _
   | exact ih7 _ _ _ _ _ _ _ _ _ _ _ _ _ _ _ _ _ _
   | exact LeO.none _
   | refine LeO.ite ?_ ?_
   | refine LeO.bind ?_ (fun _ => ?_)
  ·intro y0 y1 y2 y3 y4 y5 y6 y7 y8 y9 y10 y11 y12 y13 y14
   unfold paternosterlaw14_GateTells.j4
   repeat' first
   | (with_reducible exact ih0 _ _ _ _ _ _ _ _ _ _ _ _ _ _ _)
   | (with_reducible exact ih1 _ _ _ _ _ _ _ _ _ _ _ _ _ _ _ _)
   | (with_reducible exact ih2 _ _ _ _ _ _ _ _ _ _ _ _ _ _ _)
   | (with_reducible exact ih3 _ _ _ _ _ _ _ _ _ _ _ _ _ _ _ _)
   | (with_reducible exact ih4 _ _ _ _ _ _ _ _ _ _ _ _ _ _ _)
   | (with_reducible exact ih5 _ _ _ _ _ _ _ _ _ _ _ _ _ _ _ _ _)
   | (with_reducible exact ih6 _ _ _ _ _ _ _ _ _ _ _ _ _ _ _ _)
   | (with_reducible exact ih7 _ _ _ _ _ _ _ _ _ _ _ _ _ _ _ _ _ _)
   | (with_reducible exact LeO.refl _)
   | (with_reducible exact LeO.none _)
   | (with_reducible refine LeO.ite ?_ ?_)
   | (with_reducible refine LeO.bind ?_ (fun _ => ?_))
   | exact ih0 _ _ _ _ _ _ _ _ _ _ _ _ _ _ _
   | exact ih1 _ _ _ _ _ _ _ _ _ _ _ _ _ _ _ _
   | exact ih2 _ _ _ _ _ _ _ _ _ _ _ _ _ _ _
   | exact ih3 _ _ _ _ _ _ _ _ _ _ _ _ _ _ _ _
   | exact ih4 _ _ _ _ _ _ _ _ _ _ _ _ _ _ _
   | exact ih5 _ _ _ _ _ _ _ _ _ _ _ _ _ _ _ _ _
   | exact ih6 _ _ _ _ _ _ _ _ _ _ _ _ _ _ _ _
   | exact ih7 _ _ _ _ _ _ _ _ _ _ _ _ _ _ _ _ _ _
   | exact LeO.none _
   | refine LeO.ite ?_ ?_
   | refine LeO.bind ?_ (fun _ => ?_)
  ·intro y0 y1 y2 y3 y4 y5 y6 y7 y8 y9 y10 y11 y12 y13 y14 y15 y16
   unfold paternosterlaw14_GateTells.j5
   repeat' first
   | (with_reducible exact ih0 _ _ _ _ _ _ _ _ _ _ _ _ _ _ _)
   | (with_reducible exact ih1 _ _ _ _ _ _ _ _ _ _ _ _ _ _ _ _)
   | (with_reducible exact ih2 _ _ _ _ _ _ _ _ _ _ _ _ _ _ _)
   | (with_reducible exact ih3 _ _ _ _ _ _ _ _ _ _ _ _ _ _ _ _)
   | (with_reducible exact ih4 _ _ _ _ _ _ _ _ _ _ _ _ _ _ _)
   | (with_reducible exact ih5 _ _ _ _ _ _ _ _ _ _ _ _ _ _ _ _ _)
   | (with_reducible exact ih6 _ _ _ _ _ _ _ _ _ _ _ _ _ _ _ _)
   | (with_reducible exact ih7 _ _ _ _ _ _ _ _ _ _ _ _ _ _ _ _ _ _)
   | (with_reducible exact LeO.refl _)
   | (with_reducible exact LeO.none _)
   | (with_reducible refine LeO.ite ?_ ?_)
   | (with_reducible refine LeO.bind ?_ (fun _ => ?_))
   | exact ih0 _ _ _ _ _ _ _ _ _ _ _ _ _ _ _
   | exact ih1 _ _ _ _ _ _ _ _ _ _ _ _ _ _ _ _
   | exact ih2 _ _ _ _ _ _ _ _ _ _ _ _ _ _ _
   | exact ih3 _ _ _ _ _ _ _ _ _ _ _ _ _ _ _ _
   | exact ih4 _ _ _ _ _ _ _ _ _ _ _ _ _ _ _
   | exact ih5 _ _ _ _ _ _ _ _ _ _ _ _ _ _ _ _ _
   | exact ih6 _ _ _ _ _ _ _ _ _ _ _ _ _ _ _ _
   | exact ih7 _ _ _ _ _ _ _ _ _ _ _ _ _ _ _ _ _ _
   | exact LeO.none _
   | refine LeO.ite ?_ ?_
   | refine LeO.bind ?_ (fun _ => ?_)
  ·intro y0 y1 y2 y3 y4 y5 y6 y7 y8 y9 y10 y11 y12 y13 y14 y15
   unfold paternosterlaw14_GateTells.j6
   repeat' first
   | (with_reducible exact ih0 _ _ _ _ _ _ _ _ _ _ _ _ _ _ _)
   | (with_reducible exact ih1 _ _ _ _ _ _ _ _ _ _ _ _ _ _ _ _)
   | (with_reducible exact ih2 _ _ _ _ _ _ _ _ _ _ _ _ _ _ _)
   | (with_reducible exact ih3 _ _ _ _ _ _ _ _ _ _ _ _ _ _ _ _)
   | (with_reducible exact ih4 _ _ _ _ _ _ _ _ _ _ _ _ _ _ _)
   | (with_reducible exact ih5 _ _ _ _ _ _ _ _ _ _ _ _ _ _ _ _ _)
   | (with_reducible exact ih6 _ _ _ _ _ _ _ _ _ _ _ _ _ _ _ _)
   | (with_reducible exact ih7 _ _ _ _ _ _ _ _ _ _ _ _ _ _ _ _ _ _)
   | (with_reducible exact LeO.refl _)
   | (with_reducible exact LeO.none _)
   | (with_reducible refine LeO.ite ?_ ?_)
   | (with_reducible refine LeO.bind ?_ (fun _ => ?_))
   | exact ih0 _ _ _ _ _ _ _ _ _ _ _ _ _ _ _
   | exact ih1 _ _ _ _ _ _ _ _ _ _ _ _ _ _ _ _
   | exact ih2 _ _ _ _ _ _ _ _ _ _ _ _ _ _ _
   | exact ih3 _ _ _ _ _ _ _ _ _ _ _ _ _ _ _ _
   | exact ih4 _ _ _ _ _ _ _ _ _ _ _ _ _ _ _
   | exact ih5 _ _ _ _ _ _ _ _ _ _ _ _ _ _ _ _ _
   | exact ih6 _ _ _ _ _ _ _ _ _ _ _ _ _ _ _ _
   | exact ih7 _ _ _ _ _ _ _ _ _ _ _ _ _ _ _ _ _ _
   | exact LeO.none _
   | refine LeO.ite ?_ ?_
   | refine LeO.bind ?_ (fun _ => ?_)
  ·intro y0 y1 y2 y3 y4 y5 y6 y7 y8 y9 y10 y11 y12 y13 y14 y15 y16 y17
   unfold paternosterlaw14_GateTells.j7
   repeat' first
   | (with_reducible exact ih0 _ _ _ _ _ _ _ _ _ _ _ _ _ _ _)
   | (with_reducible exact ih1 _ _ _ _ _ _ _ _ _ _ _ _ _ _ _ _)
   | (with_reducible exact ih2 _ _ _ _ _ _ _ _ _ _ _ _ _ _ _)
   | (with_reducible exact ih3 _ _ _ _ _ _ _ _ _ _ _ _ _ _ _ _)
   | (with_reducible exact ih4 _ _ _ _ _ _ _ _ _ _ _ _ _ _ _)
   | (with_reducible exact ih5 _ _ _ _ _ _ _ _ _ _ _ _ _ _ _ _ _)
   | (with_reducible exact ih6 _ _ _ _ _ _ _ _ _ _ _ _ _ _ _ _)
   | (with_reducible exact ih7 _ _ _ _ _ _ _ _ _ _ _ _ _ _ _ _ _ _)
   | (with_reducible exact LeO.refl _)
   | (with_reducible exact LeO.none _)
   | (with_reducible refine LeO.ite ?_ ?_)
   | (with_reducible refine LeO.bind ?_ (fun _ => ?_))
   | exact ih0 _ _ _ _ _ _ _ _ _ _ _ _ _ _ _
   | exact ih1 _ _ _ _ _ _ _ _ _ _ _ _ _ _ _ _
   | exact ih2 _ _ _ _ _ _ _ _ _ _ _ _ _ _ _
   | exact ih3 _ _ _ _ _ _ _ _ _ _ _ _ _ _ _ _
   | exact ih4 _ _ _ _ _ _ _ _ _ _ _ _ _ _ _
   | exact ih5 _ _ _ _ _ _ _ _ _ _ _ _ _ _ _ _ _
   | exact ih6 _ _ _ _ _ _ _ _ _ _ _ _ _ _ _ _
   | exact ih7 _ _ _ _ _ _ _ _ _ _ _ _ _ _ _ _ _ _
   | exact LeO.none _
   | refine LeO.ite ?_ ?_
   | refine LeO.bind ?_ (fun _ => ?_)
theorem paternosterlaw14_GateTells.mono : ∀ a0 a1 a2 a3 a4 a5 a6 a7 a8 a9 a10 a11 a12 a13 k, LeO (paternosterlaw14_GateTells.f k a0 a1 a2 a3 a4 a5 a6 a7 a8 a9 a10 a11 a12 a13) (paternosterlaw14_GateTells.f (k + 1) a0 a1 a2 a3 a4 a5 a6 a7 a8 a9 a10 a11 a12 a13) := by
 intro a0 a1 a2 a3 a4 a5 a6 a7 a8 a9 a10 a11 a12 a13 k
 obtain ⟨ih0, ih1, ih2, ih3, ih4, ih5, ih6, ih7⟩ := paternosterlaw14_GateTells.mono_l k
 unfold paternosterlaw14_GateTells.f
 repeat' first
   | (with_reducible exact ih0 _ _ _ _ _ _ _ _ _ _ _ _ _ _ _)
   | (with_reducible exact ih1 _ _ _ _ _ _ _ _ _ _ _ _ _ _ _ _)
   | (with_reducible exact ih2 _ _ _ _ _ _ _ _ _ _ _ _ _ _ _)
   | (with_reducible exact ih3 _ _ _ _ _ _ _ _ _ _ _ _ _ _ _ _)
   | (with_reducible exact ih4 _ _ _ _ _ _ _ _ _ _ _ _ _ _ _)
   | (with_reducible exact ih5 _ _ _ _ _ _ _ _ _ _ _ _ _ _ _ _ _)
   | (with_reducible exact ih6 _ _ _ _ _ _ _ _ _ _ _ _ _ _ _ _)
   | (with_reducible exact ih7 _ _ _ _ _ _ _ _ _ _ _ _ _ _ _ _ _ _)
   | (with_reducible exact LeO.refl _)
   | (with_reducible exact LeO.none _)
   | (with_reducible refine LeO.ite ?_ ?_)
   | (with_reducible refine LeO.bind ?_ (fun _ => ?_))
   | exact ih0 _ _ _ _ _ _ _ _ _ _ _ _ _ _ _
   | exact ih1 _ _ _ _ _ _ _ _ _ _ _ _ _ _ _ _
   | exact ih2 _ _ _ _ _ _ _ _ _ _ _ _ _ _ _
   | exact ih3 _ _ _ _ _ _ _ _ _ _ _ _ _ _ _ _
   | exact ih4 _ _ _ _ _ _ _ _ _ _ _ _ _ _ _
   | exact ih5 _ _ _ _ _ _ _ _ _ _ _ _ _ _ _ _ _
   | exact ih6 _ _ _ _ _ _ _ _ _ _ _ _ _ _ _ _
   | exact ih7 _ _ _ _ _ _ _ _ _ _ _ _ _ _ _ _ _ _
   | exact LeO.none _
   | refine LeO.ite ?_ ?_
   | refine LeO.bind ?_ (fun _ => ?_)
def paternosterlaw14_GateTells.T28 : Bool × List (List Nat × List Nat) := (true, [([], []), ([], []), ([], []), ([], []), ([0, 1, 2, 3], [0, 1, 2, 3]), ([], []), ([4, 5], [4, 5]), ([6, 4], [6]), ([7], [7]), ([7], [7]), ([7], [7]), ([9, 10, 7], [7, 9, 10]), ([8, 11, 7], [7, 8, 11]), ([7, 12], [7, 12]), ([13, 7], [13]), ([14], [14]), ([14], [14]), ([15, 16, 14], [14, 15, 16]), ([14, 17], [14, 17]), ([18, 14], [18]), ([19], [19]), ([19], [19]), ([20, 21, 19], [19, 20, 21]), ([19, 22], [19, 22]), ([23, 19], [23]), ([24], [24]), ([24], [24]), ([25, 26, 24, 24], [24, 25, 26]), ([24], [24]), ([28, 24], [24, 28]), ([24], [24]), ([30, 24], [24, 30]), ([29, 31, 24], [24, 29, 31]), ([32, 27, 24], [24, 32]), ([33], [33]), ([34, 33], [33, 34]), ([35, 33], [33, 35]), ([33, 36, 24], [24, 33, 36]), ([27, 37, 24], [24, 27, 37]), ([24, 38], [24, 38]), ([39, 33, 0, 1, 2, 3, 4, 5, 6, 7, 8, 9, 10, 11, 12, 13, 14, 15, 16, 17, 18, 19, 20, 21, 22, 23, 24, 25, 26, 27, 28, 29, 30, 31, 32, 33, 34, 35, 36, 37, 38, 39], [39])])
def paternosterlaw14_GateTells.B28 : List Nat := [0, 0, 0, 0, 15, 0, 63, 127, 255, 255, 255, 1791, 4095, 8191, 16383, 32767, 32767, 131071, 262143, 524287, 1048575, 1048575, 4194303, 8388607, 16777215, 33554431, 33554431, 134217727, 33554431, 301989887, 33554431, 1107296255, 4060086271, 8589934591, 17179869183, 34359738367, 68719476735, 137438953471, 274877906943, 549755813887, 1099511627775]
theorem paternosterlaw14_GateTells.tab28 : rtab .any (opsOf Try.f7 28) = paternosterlaw14_GateTells.T28 := by kernel_rfl
theorem paternosterlaw14_GateTells.bits28 : waitsOk paternosterlaw14_GateTells.T28.2 paternosterlaw14_GateTells.B28 = true := by kernel_rfl
def againB (lo lw gt mo : Int) (b : Bool) : Bool := b && (decide (0 < lo) && (decide (lo < lw) && decide (gt < mo)))
end Go.Proofs.Ytcegefhjgkoknaa.G
