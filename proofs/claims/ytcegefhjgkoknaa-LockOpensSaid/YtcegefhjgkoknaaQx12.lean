-- Written by a program of this session (turned from the kit's print.py) out of the translation. Not trusted: Lean checks it.
import Derived.Test.YtcegefhjgkoknaaQx0
import Derived.Test.YtcegefhjgkoknaaQx2
import Derived.Test.YtcegefhjgkoknaaQx8
import Derived.Test.YtcegefhjgkoknaaQx10
namespace Go.Proofs.Ytcegefhjgkoknaa.Q
open Go.RowKit Go.Proofs.YtcegefhjgkoknaaW.PrintWords Go.Proofs.YtcegefhjgkoknaaW.PrintLast Go.Proofs.YtcegefhjgkoknaaW.PrintMore
attribute [local go_sem] max2_int min2_int max_two min_two max_three min_three max_four min_four   -- for this text's walks alone
set_option linter.unusedVariables false
set_option linter.unusedSimpArgs false

attribute [local go_sem] fld23_0 fld23_1 fld23_2 fld25_0 fld25_1 fld27_0 fld27_1 fld27_2 fld27_3 fld37_0 fld37_1
/-! ### paternosterlaw12_LockOpens: function 11 -/
mutual
def paternosterlaw12_LockOpens.j0 : Nat → List (S27) → Int → Bool → Int → Int → Int → Int → Int → Option (Bool)
 | 0, _, _, _, _, _, _, _, _ => none
 | k + 1, x2, x3, x35, x262000, x262001, x262002, x263000, x263001 => if x35 = true then (some true) else (paternosterlaw12_LockOpens.l0 k x2 x3 0 x262000 x262001 x262002 x263000 x263001)
def paternosterlaw12_LockOpens.l0 : Nat → List (S27) → Int → Int → Int → Int → Int → Int → Int → Option (Bool)
 | 0, _, _, _, _, _, _, _, _ => none
 | k + 1, x2, x3, x11, x262000, x262001, x262002, x263000, x263001 => if x11 < (x2.length : Int) then (if 0 ≤ x11 then ((lock_Does.f x262000 x262001 x262002 x263000 x263001 ((rd_T27 x2 x11).f0) ((rd_T27 x2 x11).f1) ((rd_T27 x2 x11).f2)).bind fun bt269 => ((leaf_Leaf_Step.f x263000 x263001 bt269.2.2 ((rd_T27 x2 x11).f3)).bind fun bt273 => ((car_Car_Step.f x262000 x262001 x262002 bt269.1 bt269.2.1 x3).bind fun bt276 => ((leaf_Leaf_Shut.f x263000 x263001).bind fun t280 => (if t280 = true then ((leaf_Leaf_Shut.f x263000 x263001).bind fun t281 => (if t281 = true then ((leaf_Leaf_Shut.f bt273.1 bt273.2).bind fun t282 => (if t282 = true then (paternosterlaw12_LockOpens.j2 k x2 x3 x11 false bt273.1 bt273.2 bt276.1 bt276.2.1 bt276.2.2) else ((car_Car_Level.f x262000 x262001 x262002).bind fun t283 => (paternosterlaw12_LockOpens.j2 k x2 x3 x11 (!t283) bt273.1 bt273.2 bt276.1 bt276.2.1 bt276.2.2)))) else (paternosterlaw12_LockOpens.j2 k x2 x3 x11 false bt273.1 bt273.2 bt276.1 bt276.2.1 bt276.2.2))) else (if bt276.1 = x262000 then (if bt276.2.1 = 0 then ((leaf_Leaf_Shut.f x263000 x263001).bind fun t284 => (if t284 = true then ((leaf_Leaf_Shut.f bt273.1 bt273.2).bind fun t285 => (if t285 = true then (paternosterlaw12_LockOpens.j2 k x2 x3 x11 false bt273.1 bt273.2 bt276.1 bt276.2.1 bt276.2.2) else ((car_Car_Level.f x262000 x262001 x262002).bind fun t286 => (paternosterlaw12_LockOpens.j2 k x2 x3 x11 (!t286) bt273.1 bt273.2 bt276.1 bt276.2.1 bt276.2.2)))) else (paternosterlaw12_LockOpens.j2 k x2 x3 x11 false bt273.1 bt273.2 bt276.1 bt276.2.1 bt276.2.2))) else (paternosterlaw12_LockOpens.j2 k x2 x3 x11 true bt273.1 bt273.2 bt276.1 bt276.2.1 bt276.2.2)) else (paternosterlaw12_LockOpens.j2 k x2 x3 x11 true bt273.1 bt273.2 bt276.1 bt276.2.1 bt276.2.2))))))) else (none)) else (some true)
def paternosterlaw12_LockOpens.j2 : Nat → List (S27) → Int → Int → Bool → Int → Int → Int → Int → Int → Option (Bool)
 | 0, _, _, _, _, _, _, _, _, _ => none
 | k + 1, x2, x3, x11, x105, x276000, x276001, x280000, x280001, x280002 => if x105 = true then (some false) else (if x280000 > 1000000 then (some false) else (paternosterlaw12_LockOpens.l0 k x2 x3 (wrap64 (x11 + 1)) x280000 x280001 x280002 x276000 x276001))
end
def paternosterlaw12_LockOpens.f (k : Nat) (a0_0 : Int) (a0_1 : Int) (a0_2 : Int) (a1_0 : Int) (a1_1 : Int) (l2 : List (S27)) (a3 : Int) : Option (Bool) := (paternosterlaw12_awake.f).bind fun t263 => (if t263 = true then ((paternosterlaw12_may.f a0_0 a0_1 a0_2 a1_0 a1_1).bind fun t264 => (if t264 = true then (if (l2.length : Int) > 100 then (paternosterlaw12_LockOpens.j0 k l2 a3 true a0_0 a0_1 a0_2 a1_0 a1_1) else ((lock_Safe.f a0_0 a0_1 a0_2 a1_0 a1_1).bind fun t265 => (paternosterlaw12_LockOpens.j0 k l2 a3 (!t265) a0_0 a0_1 a0_2 a1_0 a1_1))) else (paternosterlaw12_LockOpens.j0 k l2 a3 true a0_0 a0_1 a0_2 a1_0 a1_1))) else (some false))
theorem paternosterlaw12_LockOpens.mono_l : ∀ k, (∀ y0 y1 y2 y3 y4 y5 y6 y7, LeO (paternosterlaw12_LockOpens.j0 k y0 y1 y2 y3 y4 y5 y6 y7) (paternosterlaw12_LockOpens.j0 (k + 1) y0 y1 y2 y3 y4 y5 y6 y7)) ∧ (∀ y0 y1 y2 y3 y4 y5 y6 y7, LeO (paternosterlaw12_LockOpens.l0 k y0 y1 y2 y3 y4 y5 y6 y7) (paternosterlaw12_LockOpens.l0 (k + 1) y0 y1 y2 y3 y4 y5 y6 y7)) ∧ (∀ y0 y1 y2 y3 y4 y5 y6 y7 y8, LeO (paternosterlaw12_LockOpens.j2 k y0 y1 y2 y3 y4 y5 y6 y7 y8) (paternosterlaw12_LockOpens.j2 (k + 1) y0 y1 y2 y3 y4 y5 y6 y7 y8))
 | 0 => ⟨fun _ _ _ _ _ _ _ _ r h => by simp [paternosterlaw12_LockOpens.j0] at h, fun _ _ _ _ _ _ _ _ r h => by simp [paternosterlaw12_LockOpens.l0] at h, fun _ _ _ _ _ _ _ _ _ r h => by simp [paternosterlaw12_LockOpens.j2] at h⟩
 | k + 1 => by
  obtain ⟨ih0, ih1, ih2⟩ := paternosterlaw12_LockOpens.mono_l k
  refine ⟨?_, ?_, ?_⟩
  ·intro y0 y1 y2 y3 y4 y5 y6 y7
   unfold paternosterlaw12_LockOpens.j0
   repeat' first
   | (with_reducible exact ih0 _ _ _ _ _ _ _ _)
   | (with_reducible exact ih1 _ _ _ _ _ _ _ _)
   | (with_reducible exact ih2 _ _ _ _ _ _ _ _ _)
   | (with_reducible exact LeO.refl _)
   | (with_reducible exact LeO.none _)
   | (with_reducible refine LeO.ite ?_ ?_)
   | (with_reducible refine LeO.bind ?_ (fun _ => ?_))
   | exact ih0 _ _ _ _ _ _ _ _
   | exact ih1 _ _ _ _ _ _ _ _
   | exact ih2 _ _ _ _ _ _ _ _ _
   | exact LeO.none _
   | refine LeO.ite ?_ ?_
   | refine LeO.bind ?_ (fun _ => ?_)
  ·intro y0 y1 y2 y3 y4 y5 y6 y7
   unfold paternosterlaw12_LockOpens.l0
   repeat' first
   | (with_reducible exact ih0 _ _ _ _ _ _ _ _)
   | (with_reducible exact ih1 _ _ _ _ _ _ _ _)
   | (with_reducible exact ih2 _ _ _ _ _ _ _ _ _)
   | (with_reducible exact LeO.refl _)
   | (with_reducible exact LeO.none _)
   | (with_reducible refine LeO.ite ?_ ?_)
   | (with_reducible refine LeO.bind ?_ (fun _ => ?_))
   | exact ih0 _ _ _ _ _ _ _ _
   | exact ih1 _ _ _ _ _ _ _ _
   | exact ih2 _ _ _ _ _ _ _ _ _
   | exact LeO.none _
   | refine LeO.ite ?_ ?_
   | refine LeO.bind ?_ (fun _ => ?_)
  ·intro y0 y1 y2 y3 y4 y5 y6 y7 y8
   unfold paternosterlaw12_LockOpens.j2
   repeat' first
   | (with_reducible exact ih0 _ _ _ _ _ _ _ _)
   | (with_reducible exact ih1 _ _ _ _ _ _ _ _)
   | (with_reducible exact ih2 _ _ _ _ _ _ _ _ _)
   | (with_reducible exact LeO.refl _)
   | (with_reducible exact LeO.none _)
   | (with_reducible refine LeO.ite ?_ ?_)
   | (with_reducible refine LeO.bind ?_ (fun _ => ?_))
   | exact ih0 _ _ _ _ _ _ _ _
   | exact ih1 _ _ _ _ _ _ _ _
   | exact ih2 _ _ _ _ _ _ _ _ _
   | exact LeO.none _
   | refine LeO.ite ?_ ?_
   | refine LeO.bind ?_ (fun _ => ?_)
theorem paternosterlaw12_LockOpens.mono : ∀ a0 a1 a2 a3 a4 a5 a6 k, LeO (paternosterlaw12_LockOpens.f k a0 a1 a2 a3 a4 a5 a6) (paternosterlaw12_LockOpens.f (k + 1) a0 a1 a2 a3 a4 a5 a6) := by
 intro a0 a1 a2 a3 a4 a5 a6 k
 obtain ⟨ih0, ih1, ih2⟩ := paternosterlaw12_LockOpens.mono_l k
 unfold paternosterlaw12_LockOpens.f
 repeat' first
   | (with_reducible exact ih0 _ _ _ _ _ _ _ _)
   | (with_reducible exact ih1 _ _ _ _ _ _ _ _)
   | (with_reducible exact ih2 _ _ _ _ _ _ _ _ _)
   | (with_reducible exact LeO.refl _)
   | (with_reducible exact LeO.none _)
   | (with_reducible refine LeO.ite ?_ ?_)
   | (with_reducible refine LeO.bind ?_ (fun _ => ?_))
   | exact ih0 _ _ _ _ _ _ _ _
   | exact ih1 _ _ _ _ _ _ _ _
   | exact ih2 _ _ _ _ _ _ _ _ _
   | exact LeO.none _
   | refine LeO.ite ?_ ?_
   | refine LeO.bind ?_ (fun _ => ?_)
def paternosterlaw12_LockOpens.T10 : Bool × List (List Nat × List Nat) := (true, [([], []), ([], []), ([], []), ([], []), ([2, 3], [2, 3]), ([4], [4]), ([5], [5]), ([], []), ([], []), ([7, 8], [7, 8]), ([9], [9]), ([10], [10]), ([], []), ([], []), ([12, 13], [12, 13]), ([14], [14]), ([15], [15]), ([0, 1, 6, 11, 16], [0, 1, 6, 11, 16]), ([17], [17]), ([18], [18]), ([18], [18]), ([18], [18]), ([19, 17, 0, 1, 2, 3, 4, 5, 6, 7, 8, 9, 10, 11, 12, 13, 14, 15, 16, 17, 18, 19], [19]), ([20, 22, 0, 1, 2, 3, 4, 5, 6, 7, 8, 9, 10, 11, 12, 13, 14, 15, 16, 17, 18, 19, 20, 22], [20]), ([21, 23, 0, 1, 2, 3, 4, 5, 6, 7, 8, 9, 10, 11, 12, 13, 14, 15, 16, 17, 18, 19, 20, 21, 22, 23], [21])])
def paternosterlaw12_LockOpens.B10 : List Nat := [0, 0, 0, 0, 12, 28, 60, 0, 0, 384, 896, 1920, 0, 0, 12288, 28672, 61440, 131071, 262143, 524287, 524287, 524287, 1048575, 6291455, 16777215]
theorem paternosterlaw12_LockOpens.tab10 : rtab .any (opsOf Try.f11 10) = paternosterlaw12_LockOpens.T10 := by kernel_rfl
theorem paternosterlaw12_LockOpens.bits10 : waitsOk paternosterlaw12_LockOpens.T10.2 paternosterlaw12_LockOpens.B10 = true := by kernel_rfl
def paternosterlaw12_LockOpens.T11 : Bool × List (List Nat × List Nat) := (true, [([], []), ([], []), ([], []), ([], []), ([2, 3], [2, 3]), ([4], [4]), ([5], [5]), ([0, 1, 6], [0, 1, 6]), ([], []), ([8, 7, 7, 0, 1, 2, 3, 4, 5, 6, 7, 8], [7, 8])])
def paternosterlaw12_LockOpens.B11 : List Nat := [0, 0, 0, 0, 12, 28, 60, 127, 0, 511]
theorem paternosterlaw12_LockOpens.tab11 : rtab .any (opsOf Try.f11 11) = paternosterlaw12_LockOpens.T11 := by kernel_rfl
theorem paternosterlaw12_LockOpens.bits11 : waitsOk paternosterlaw12_LockOpens.T11.2 paternosterlaw12_LockOpens.B11 = true := by kernel_rfl
set_option maxHeartbeats 8000000 in
set_option maxRecDepth 100000 in
theorem paternosterlaw12_LockOpens.calls (k : Nat) (a0_0 : Int) (a0_1 : Int) (a0_2 : Int) (a1_0 : Int) (a1_1 : Int) (A2 : Option Addr) (c2 : Nat) (l2 : List (S27)) (a3 : Int) (r : Bool) (w : World) (hr2 : Kd.C k27 w A2 l2.length l2) (hc2 : l2.length ≤ c2) (hT : r = true) (h : paternosterlaw12_LockOpens.f k a0_0 a0_1 a0_2 a1_0 a1_1 l2 a3 = some r) :
  Calls Try.prog 11 #[.agg #[.int .i64 a0_0, .int .i64 a0_1, .int .i64 a0_2], .agg #[.int .i64 a1_0, .int .i64 a1_1], .slice A2 l2.length c2, .int .i64 a3] w fun e w' => e = .returned (.bool r) ∧ Below w.heap.size w w' := by
 have hu23 := Try.underlying23
 have hu25 := Try.underlying25
 have HT := Aside0.mk hT
 clear hT
 have HR2 := Aside0.mk hr2
 have HC2 := Aside0.mk hc2
 clear hr2 hc2
 have HB := Aside0.mk (Below.refl w.heap.size w)
 have H : ((paternosterlaw12_awake.f).bind fun t263 => (if t263 = true then ((paternosterlaw12_may.f a0_0 a0_1 a0_2 a1_0 a1_1).bind fun t264 => (if t264 = true then (if (l2.length : Int) > 100 then (paternosterlaw12_LockOpens.j0 k l2 a3 true a0_0 a0_1 a0_2 a1_0 a1_1) else ((lock_Safe.f a0_0 a0_1 a0_2 a1_0 a1_1).bind fun t265 => (paternosterlaw12_LockOpens.j0 k l2 a3 (!t265) a0_0 a0_1 a0_2 a1_0 a1_1))) else (paternosterlaw12_LockOpens.j0 k l2 a3 true a0_0 a0_1 a0_2 a1_0 a1_1))) else (some false))) = some r := h
 clear h
 replace H := Option.bind_eq_some_iff.mp H
 obtain ⟨t263, A50, H⟩ := H
 replace H : (if t263 = true then ((paternosterlaw12_may.f a0_0 a0_1 a0_2 a1_0 a1_1).bind fun t264 => (if t264 = true then (if (l2.length : Int) > 100 then (paternosterlaw12_LockOpens.j0 k l2 a3 true a0_0 a0_1 a0_2 a1_0 a1_1) else ((lock_Safe.f a0_0 a0_1 a0_2 a1_0 a1_1).bind fun t265 => (paternosterlaw12_LockOpens.j0 k l2 a3 (!t265) a0_0 a0_1 a0_2 a1_0 a1_1))) else (paternosterlaw12_LockOpens.j0 k l2 a3 true a0_0 a0_1 a0_2 a1_0 a1_1))) else (some false)) = some r := H
 have A5 := Aside0.mk A50
 clear A50
 by_cases c6 : t263 = true
 ·subst c6
  have H1 : ((paternosterlaw12_may.f a0_0 a0_1 a0_2 a1_0 a1_1).bind fun t264 => (if t264 = true then (if (l2.length : Int) > 100 then (paternosterlaw12_LockOpens.j0 k l2 a3 true a0_0 a0_1 a0_2 a1_0 a1_1) else ((lock_Safe.f a0_0 a0_1 a0_2 a1_0 a1_1).bind fun t265 => (paternosterlaw12_LockOpens.j0 k l2 a3 (!t265) a0_0 a0_1 a0_2 a1_0 a1_1))) else (paternosterlaw12_LockOpens.j0 k l2 a3 true a0_0 a0_1 a0_2 a1_0 a1_1))) = some r := by rw [if_pos rfl] at H; exact H
  clear H
  have H := H1
  clear H1
  replace H := Option.bind_eq_some_iff.mp H
  obtain ⟨t264, A70, H⟩ := H
  replace H : (if t264 = true then (if (l2.length : Int) > 100 then (paternosterlaw12_LockOpens.j0 k l2 a3 true a0_0 a0_1 a0_2 a1_0 a1_1) else ((lock_Safe.f a0_0 a0_1 a0_2 a1_0 a1_1).bind fun t265 => (paternosterlaw12_LockOpens.j0 k l2 a3 (!t265) a0_0 a0_1 a0_2 a1_0 a1_1))) else (paternosterlaw12_LockOpens.j0 k l2 a3 true a0_0 a0_1 a0_2 a1_0 a1_1)) = some r := H
  have A7 := Aside0.mk A70
  clear A70
  have HC8 := Aside0.mk H
  clear H
  go_enter Try.func11, Try.ntmps11
  go_upto_region 5 with (first | ((with_reducible refine gate_dst (N := 4) rfl ?_); (try (refine gate_guard (by rfl) ?_; dsimp only)); refine box_event ?hg (N := 4) ?hd (cs := #[.int .i64 a0_0, .int .i64 a0_1, .int .i64 a0_2]) (t := 23) ?hr ?_; (case hd => rfl); (case hg => rfl); (case hr => first | (go_simp; done) | (go_simp; rfl)); intro gb261 hg w9 hbox hb; have n0_ := Aside0.mk (below_step (by repeat (first | (with_reducible first | exact HB.out | apply below_alloc | apply pw_below_drewN | apply below_drew1) | exact HB.out)) hb); have n1_ := Aside0.mk (hbox); have n2_ := Aside0.mk ((by rw [hg]; exact (below_size (by repeat (first | (with_reducible first | exact HB.out | apply below_alloc | apply pw_below_drewN | apply below_drew1) | exact HB.out))) : w.heap.size ≤ gb261)); have n3_ := Aside0.mk ((by rw [hg]; exact (below_size (by repeat (first | (with_reducible first | exact HB.out | apply below_alloc | apply pw_below_drewN | apply below_drew1) | exact HB.out))) : w.heap.size ≤ gb261)); clear HB; have HB := n0_; have BK261 := n1_; have GW261 := n2_; have GE261 := n3_; clear n0_ n1_ n2_ n3_; clear hb hbox hg) | ((with_reducible refine gate_dst (N := 5) rfl ?_); (try (refine gate_guard (by rfl) ?_; dsimp only)); refine box_event ?hg (N := 5) ?hd (cs := #[.int .i64 a1_0, .int .i64 a1_1]) (t := 25) ?hr ?_; (case hd => rfl); (case hg => rfl); (case hr => first | (go_simp; done) | (go_simp; rfl)); intro gb262 hg w10 hbox hb; have n0_ := Aside0.mk (blk_below (g := gb261) (o := .cells #[.int .i64 a0_0, .int .i64 a0_1, .int .i64 a0_2] 23 (0, 0)) (by (with_reducible repeat (first | refine blk_drewN ?_ _ | refine blk_drew ?_ | refine blk_alloc ?_ _)); exact BK261.out) hb); have n1_ := Aside0.mk (below_step (by repeat (first | (with_reducible first | exact HB.out | apply below_alloc | apply pw_below_drewN | apply below_drew1 | refine below_set ?_ GE261.out) | exact HB.out)) hb); have n2_ := Aside0.mk (hbox); have n3_ := Aside0.mk ((by rw [hg]; exact (below_size (by repeat (first | (with_reducible first | exact HB.out | apply below_alloc | apply pw_below_drewN | apply below_drew1 | refine below_set ?_ GE261.out) | exact HB.out))) : w.heap.size ≤ gb262)); have n4_ := Aside0.mk ((by rw [hg]; exact (below_size (by repeat (first | (with_reducible first | exact HB.out | apply below_alloc | apply pw_below_drewN | apply below_drew1 | refine below_set ?_ GE261.out) | exact HB.out))) : w.heap.size ≤ gb262)); have n5_ := Aside0.mk ((by rw [hg]; exact Nat.ne_of_lt (blk_lt (g := gb261) (o := .cells #[.int .i64 a0_0, .int .i64 a0_1, .int .i64 a0_2] 23 (0, 0)) (by (with_reducible repeat (first | refine blk_drewN ?_ _ | refine blk_drew ?_ | refine blk_alloc ?_ _)); exact BK261.out)) : gb261 ≠ gb262)); have n6_ := Aside0.mk ((by rw [hg]; exact Nat.ne_of_gt (blk_lt (g := gb261) (o := .cells #[.int .i64 a0_0, .int .i64 a0_1, .int .i64 a0_2] 23 (0, 0)) (by (with_reducible repeat (first | refine blk_drewN ?_ _ | refine blk_drew ?_ | refine blk_alloc ?_ _)); exact BK261.out)) : gb262 ≠ gb261)); clear BK261; clear HB; have BK261 := n0_; have HB := n1_; have BK262 := n2_; have GW262 := n3_; have GE262 := n4_; have NB261_262 := n5_; have NB262_261 := n6_; clear n0_ n1_ n2_ n3_ n4_ n5_ n6_; clear hb hbox hg) | ((with_reducible refine gate_callee (f := 12) rfl ?_); refine goesL_ (some 17) rfl rfl Try.func12 (by kernel_rfl) rfl #[] rfl (by (try simp only [List.map_toArray, List.map_cons, List.map_nil]); first | done | rfl | (simp only [List.length_drop, List.length_take]; rfl)) ?_; (with_reducible refine (paternosterlaw12_awake.calls  true _ A5.out).mono ?_); rintro e w11 ⟨rfl, hb⟩; refine ⟨_, rfl, ?_⟩; have n0_ := Aside0.mk (blk_below (g := gb261) (o := .cells #[.int .i64 a0_0, .int .i64 a0_1, .int .i64 a0_2] 23 (0, 0)) (by (with_reducible repeat (first | refine blk_drewN ?_ _ | refine blk_drew ?_ | refine blk_alloc ?_ _)); exact BK261.out) hb); have n1_ := Aside0.mk (blk_below (g := gb262) (o := .cells #[.int .i64 a1_0, .int .i64 a1_1] 25 (0, 0)) (by (with_reducible repeat (first | refine blk_drewN ?_ _ | refine blk_drew ?_ | refine blk_alloc ?_ _)); exact BK262.out) hb); have n2_ := Aside0.mk (below_step (by repeat (first | (with_reducible first | exact HB.out | apply below_alloc | apply pw_below_drewN | apply below_drew1 | refine below_set ?_ GE261.out | refine below_set ?_ GE262.out) | exact HB.out)) hb); clear BK261; clear BK262; clear HB; have BK261 := n0_; have BK262 := n1_; have HB := n2_; clear n0_ n1_ n2_; (try clear hb); (try clear hb2); (try clear hk); (try clear hi); have hnb12 := NB261_262.out; have hnc12 := NB262_261.out; have hcz13_0 : w11.cell? ⟨gb261, 0, none⟩ = some (.int .i64 a0_0) := (blk_cell BK261.out 0).trans rfl; have hcz13_1 : w11.cell? ⟨gb261, 1, none⟩ = some (.int .i64 a0_1) := (blk_cell BK261.out 1).trans rfl; have hcz13_2 : w11.cell? ⟨gb261, 2, none⟩ = some (.int .i64 a0_2) := (blk_cell BK261.out 2).trans rfl; have hfz13_0 := blk_frozen BK261.out 0; have hfz13_1 := blk_frozen BK261.out 1; have hfz13_2 := blk_frozen BK261.out 2; have hcz14_0 : w11.cell? ⟨gb262, 0, none⟩ = some (.int .i64 a1_0) := (blk_cell BK262.out 0).trans rfl; have hcz14_1 : w11.cell? ⟨gb262, 1, none⟩ = some (.int .i64 a1_1) := (blk_cell BK262.out 1).trans rfl; have hfz14_0 := blk_frozen BK262.out 0; have hfz14_1 := blk_frozen BK262.out 1) | ((with_reducible refine gate_callee (f := 13) rfl ?_); refine goesL_ (some 22) rfl rfl Try.func13 (by kernel_rfl) rfl #[.agg #[.int .i64 a0_0, .int .i64 a0_1, .int .i64 a0_2], .agg #[.int .i64 a1_0, .int .i64 a1_1]] rfl (by (try simp only [List.map_toArray, List.map_cons, List.map_nil]); first | done | rfl | (simp only [List.length_drop, List.length_take]; rfl)) ?_; (with_reducible refine (paternosterlaw12_may.calls a0_0 a0_1 a0_2 a1_0 a1_1 t264 _ A7.out).mono ?_); rintro e w15 ⟨rfl, hb⟩; refine ⟨_, rfl, ?_⟩; have n0_ := Aside0.mk (blk_below (g := gb261) (o := .cells #[.int .i64 a0_0, .int .i64 a0_1, .int .i64 a0_2] 23 (0, 0)) (by (with_reducible repeat (first | refine blk_drewN ?_ _ | refine blk_drew ?_ | refine blk_alloc ?_ _)); exact BK261.out) hb); have n1_ := Aside0.mk (blk_below (g := gb262) (o := .cells #[.int .i64 a1_0, .int .i64 a1_1] 25 (0, 0)) (by (with_reducible repeat (first | refine blk_drewN ?_ _ | refine blk_drew ?_ | refine blk_alloc ?_ _)); exact BK262.out) hb); have n2_ := Aside0.mk (below_step (by repeat (first | (with_reducible first | exact HB.out | apply below_alloc | apply pw_below_drewN | apply below_drew1 | refine below_set ?_ GE261.out | refine below_set ?_ GE262.out) | exact HB.out)) hb); clear BK261; clear BK262; clear HB; have BK261 := n0_; have BK262 := n1_; have HB := n2_; clear n0_ n1_ n2_; (try clear hb); (try clear hb2); (try clear hk); (try clear hi)))
  (try simp only [Act.put, sA, sB, sC])
  go_cut [35] (fun v35 wc => ∃ (kq : Nat) (x35_7 : Bool), v35 = .bool x35_7 ∧ Aside0 (paternosterlaw12_LockOpens.j0 kq l2 a3 x35_7 a0_0 a0_1 a0_2 a1_0 a1_1 = some r) ∧ Aside0 (kq ≤ k) ∧ Aside0 (wc.heap[gb261]? = some (.cells #[.int .i64 a0_0, .int .i64 a0_1, .int .i64 a0_2] 23 (0, 0))) ∧ Aside0 (wc.heap[gb262]? = some (.cells #[.int .i64 a1_0, .int .i64 a1_1] 25 (0, 0))) ∧ Aside0 (Below w.heap.size w wc))
  case first =>
   have H := HC8.out
   clear HC8
   by_cases c16 : t264 = true
   ·subst c16
    have H1 : (if (l2.length : Int) > 100 then (paternosterlaw12_LockOpens.j0 k l2 a3 true a0_0 a0_1 a0_2 a1_0 a1_1) else ((lock_Safe.f a0_0 a0_1 a0_2 a1_0 a1_1).bind fun t265 => (paternosterlaw12_LockOpens.j0 k l2 a3 (!t265) a0_0 a0_1 a0_2 a1_0 a1_1))) = some r := by rw [if_pos rfl] at H; exact H
    clear H
    have H := H1
    clear H1
    by_cases c17 : (l2.length : Int) > 100
    ·rw [if_pos c17] at H
     have c17b0 : decide (100 < (l2.length : Int)) = true := decide_eq_true c17
     have c17b1 : decide (100 < l2.length) = true := decide_eq_true (by omega)
     clear c17
     (first | rw [c17b0] | (simp only [i64_w, i32_w]; rw [c17b0]) | skip)
     have H' := Aside0.mk H
     clear H
     go_wp2
     go_meet
     case rel => exact ⟨_, (true), (by first | rfl | (simp; done) | (simp [*]; done)), H', ⟨by first | omega | exact Nat.le_refl _⟩, ⟨by (with_reducible repeat (first | refine blk_drewN ?_ _ | refine blk_drew ?_ | refine blk_alloc ?_ _)); exact BK261.out⟩, ⟨by (with_reducible repeat (first | refine blk_drewN ?_ _ | refine blk_drew ?_ | refine blk_alloc ?_ _)); exact BK262.out⟩, ⟨by repeat (first | (with_reducible first | exact HB.out | apply below_alloc | apply pw_below_drewN | apply below_drew1 | refine below_set ?_ GE261.out | refine below_set ?_ GE262.out) | exact HB.out)⟩⟩
    ·rw [if_neg c17] at H
     have c17b0 : decide (100 < (l2.length : Int)) = false := decide_eq_false c17
     have c17b1 : decide (100 < l2.length) = false := decide_eq_false (by omega)
     clear c17
     (first | rw [c17b0] | (simp only [i64_w, i32_w]; rw [c17b0]) | skip)
     replace H := Option.bind_eq_some_iff.mp H
     obtain ⟨t265, A180, H⟩ := H
     replace H : (paternosterlaw12_LockOpens.j0 k l2 a3 (!t265) a0_0 a0_1 a0_2 a1_0 a1_1) = some r := H
     have A18 := Aside0.mk A180
     clear A180
     have H' := Aside0.mk H
     clear H
     have hnb19 := NB261_262.out
     have hnc19 := NB262_261.out
     have hcz20_0 : w15.cell? ⟨gb261, 0, none⟩ = some (.int .i64 a0_0) := (blk_cell BK261.out 0).trans rfl
     have hcz20_1 : w15.cell? ⟨gb261, 1, none⟩ = some (.int .i64 a0_1) := (blk_cell BK261.out 1).trans rfl
     have hcz20_2 : w15.cell? ⟨gb261, 2, none⟩ = some (.int .i64 a0_2) := (blk_cell BK261.out 2).trans rfl
     have hfz20_0 := blk_frozen BK261.out 0
     have hfz20_1 := blk_frozen BK261.out 1
     have hfz20_2 := blk_frozen BK261.out 2
     have hcz21_0 : w15.cell? ⟨gb262, 0, none⟩ = some (.int .i64 a1_0) := (blk_cell BK262.out 0).trans rfl
     have hcz21_1 : w15.cell? ⟨gb262, 1, none⟩ = some (.int .i64 a1_1) := (blk_cell BK262.out 1).trans rfl
     have hfz21_0 := blk_frozen BK262.out 0
     have hfz21_1 := blk_frozen BK262.out 1
     go_wp2_with (first | (go_at_call 17; (with_reducible refine (lock_Safe.calls a0_0 a0_1 a0_2 a1_0 a1_1 t265 _ A18.out).mono ?_); rintro e w22 ⟨rfl, hb⟩; have n0_ := Aside0.mk (blk_below (g := gb261) (o := .cells #[.int .i64 a0_0, .int .i64 a0_1, .int .i64 a0_2] 23 (0, 0)) (by (with_reducible repeat (first | refine blk_drewN ?_ _ | refine blk_drew ?_ | refine blk_alloc ?_ _)); exact BK261.out) hb); have n1_ := Aside0.mk (blk_below (g := gb262) (o := .cells #[.int .i64 a1_0, .int .i64 a1_1] 25 (0, 0)) (by (with_reducible repeat (first | refine blk_drewN ?_ _ | refine blk_drew ?_ | refine blk_alloc ?_ _)); exact BK262.out) hb); have n2_ := Aside0.mk (below_step (by repeat (first | (with_reducible first | exact HB.out | apply below_alloc | apply pw_below_drewN | apply below_drew1 | refine below_set ?_ GE261.out | refine below_set ?_ GE262.out) | exact HB.out)) hb); clear BK261; clear BK262; clear HB; have BK261 := n0_; have BK262 := n1_; have HB := n2_; clear n0_ n1_ n2_; (try clear hb); (try clear hb2); (try clear hk); (try clear hi)))
     go_meet
     case rel => exact ⟨_, (!t265), (by first | rfl | (simp; done) | (simp [*]; done)), H', ⟨by first | omega | exact Nat.le_refl _⟩, ⟨by (with_reducible repeat (first | refine blk_drewN ?_ _ | refine blk_drew ?_ | refine blk_alloc ?_ _)); exact BK261.out⟩, ⟨by (with_reducible repeat (first | refine blk_drewN ?_ _ | refine blk_drew ?_ | refine blk_alloc ?_ _)); exact BK262.out⟩, ⟨by repeat (first | (with_reducible first | exact HB.out | apply below_alloc | apply pw_below_drewN | apply below_drew1 | refine below_set ?_ GE261.out | refine below_set ?_ GE262.out) | exact HB.out)⟩⟩
   ·replace c16 := Bool.eq_false_iff.mpr c16
    subst c16
    have H1 : (paternosterlaw12_LockOpens.j0 k l2 a3 true a0_0 a0_1 a0_2 a1_0 a1_1) = some r := by rw [if_neg (show ¬ (false = true) by decide)] at H; exact H
    clear H
    have H := H1
    clear H1
    have H' := Aside0.mk H
    clear H
    go_wp2
    go_meet
    case rel => exact ⟨_, (true), (by first | rfl | (simp; done) | (simp [*]; done)), H', ⟨by first | omega | exact Nat.le_refl _⟩, ⟨by (with_reducible repeat (first | refine blk_drewN ?_ _ | refine blk_drew ?_ | refine blk_alloc ?_ _)); exact BK261.out⟩, ⟨by (with_reducible repeat (first | refine blk_drewN ?_ _ | refine blk_drew ?_ | refine blk_alloc ?_ _)); exact BK262.out⟩, ⟨by repeat (first | (with_reducible first | exact HB.out | apply below_alloc | apply pw_below_drewN | apply below_drew1 | refine below_set ?_ GE261.out | refine below_set ?_ GE262.out) | exact HB.out)⟩⟩
  case rest =>
   clear HC8
   try clear c1
   try clear c2
   try clear p2
   try clear c6
   try clear c11
   try clear c12
   try clear c13
   try clear c16
   try clear c17
   try clear c17b0
   try clear c17b1
   try clear c19
   try clear hcz13_0
   try clear hcz13_1
   try clear hcz13_2
   try clear hcz14_0
   try clear hcz14_1
   try clear hcz20_0
   try clear hcz20_1
   try clear hcz20_2
   try clear hcz21_0
   try clear hcz21_1
   try clear hfz13_0
   try clear hfz13_1
   try clear hfz13_2
   try clear hfz14_0
   try clear hfz14_1
   try clear hfz20_0
   try clear hfz20_1
   try clear hfz20_2
   try clear hfz21_0
   try clear hfz21_1
   obtain ⟨kq, x35_7, rfl, HA, HJ7, BK261, BK262, HB⟩ := hcut
   cases kq with
   | zero => exact absurd HA.out (by simp [paternosterlaw12_LockOpens.j0])
   | succ kj7 =>
    have H := HA.out
    clear HA
    simp only [paternosterlaw12_LockOpens.j0] at H
    by_cases c23 : x35_7 = true
    ·subst c23
     have H1 : (some true) = some r := by rw [if_pos rfl] at H; exact H
     clear H
     have H := H1
     clear H1
     obtain rfl := Option.some.inj H
     go_wp2
     go_ret
     exact ⟨by first | rfl | (simp [errW_none, errW_some] <;> rfl) | (simp [*, errW_none, errW_some] <;> rfl), by repeat (first | (with_reducible first | exact HB.out | apply below_alloc | apply pw_below_drewN | apply below_drew1 | refine below_set ?_ GE261.out | refine below_set ?_ GE262.out) | exact HB.out)⟩
    ·replace c23 := Bool.eq_false_iff.mpr c23
     subst c23
     have H1 : (paternosterlaw12_LockOpens.l0 kj7 l2 a3 0 a0_0 a0_1 a0_2 a1_0 a1_1) = some r := by rw [if_neg (show ¬ (false = true) by decide)] at H; exact H
     clear H
     have H := H1
     clear H1
     have H' := Aside0.mk H
     clear H
     go_wp2
     go_loopg [11] kj7 (fun kq v11 w' => ∃ (x11_2 : Int) (x262000_2 : Int) (x262001_2 : Int) (x262002_2 : Int) (x263000_2 : Int) (x263001_2 : Int), v11 = .int .i64 x11_2 ∧ Aside0 (paternosterlaw12_LockOpens.l0 kq l2 a3 x11_2 x262000_2 x262001_2 x262002_2 x263000_2 x263001_2 = some r) ∧ Aside0 (kq ≤ kj7) ∧ Aside0 (w'.heap[gb261]? = some (.cells #[.int .i64 x262000_2, .int .i64 x262001_2, .int .i64 x262002_2] 23 (0, 0))) ∧ Aside0 (w'.heap[gb262]? = some (.cells #[.int .i64 x263000_2, .int .i64 x263001_2] 25 (0, 0))) ∧ Aside0 (Below w.heap.size w w'))
     case atStart => exact ⟨(0), (a0_0), (a0_1), (a0_2), (a1_0), (a1_1), (by first | rfl | (simp; done) | (simp [*]; done)), H', ⟨Nat.le_refl _⟩, ⟨by (with_reducible repeat (first | refine blk_drewN ?_ _ | refine blk_drew ?_ | refine blk_alloc ?_ _)); exact BK261.out⟩, ⟨by (with_reducible repeat (first | refine blk_drewN ?_ _ | refine blk_drew ?_ | refine blk_alloc ?_ _)); exact BK262.out⟩, ⟨by repeat (first | (with_reducible first | exact HB.out | apply below_alloc | apply pw_below_drewN | apply below_drew1 | refine below_set ?_ GE261.out | refine below_set ?_ GE262.out) | exact HB.out)⟩⟩
     case round =>
      clear H'
      try clear c1
      try clear c2
      try clear p2
      try clear c6
      try clear c11
      try clear c12
      try clear c13
      try clear c16
      try clear c17
      try clear c17b0
      try clear c17b1
      try clear c19
      try clear c23
      try clear hcz13_0
      try clear hcz13_1
      try clear hcz13_2
      try clear hcz14_0
      try clear hcz14_1
      try clear hcz20_0
      try clear hcz20_1
      try clear hcz20_2
      try clear hcz21_0
      try clear hcz21_1
      try clear hfz13_0
      try clear hfz13_1
      try clear hfz13_2
      try clear hfz14_0
      try clear hfz14_1
      try clear hfz20_0
      try clear hfz20_1
      try clear hfz20_2
      try clear hfz21_0
      try clear hfz21_1
      try clear p2
      obtain ⟨x11_2, x262000_2, x262001_2, x262002_2, x263000_2, x263001_2, rfl, HA, HK2, BK261, BK262, HB⟩ := hrel
      cases gk with
      | zero => exact absurd HA.out (by simp [paternosterlaw12_LockOpens.l0])
      | succ k2 =>
       have H := HA.out
       clear HA
       simp only [paternosterlaw12_LockOpens.l0] at H
       by_cases c24 : x11_2 < (l2.length : Int)
       ·rw [if_pos c24] at H
        have c24b0 : decide (x11_2 < (l2.length : Int)) = true := decide_eq_true c24
        clear c24
        by_cases c25 : 0 ≤ x11_2
        ·rw [if_pos c25] at H
         have c25b0 : decide (0 ≤ x11_2) = true := decide_eq_true c25
         clear c25
         replace H := Option.bind_eq_some_iff.mp H
         obtain ⟨⟨t269, t270, t271⟩, A260, H⟩ := H
         replace H : ((leaf_Leaf_Step.f x263000_2 x263001_2 t271 ((rd_T27 l2 x11_2).f3)).bind fun bt273 => ((car_Car_Step.f x262000_2 x262001_2 x262002_2 t269 t270 a3).bind fun bt276 => ((leaf_Leaf_Shut.f x263000_2 x263001_2).bind fun t280 => (if t280 = true then ((leaf_Leaf_Shut.f x263000_2 x263001_2).bind fun t281 => (if t281 = true then ((leaf_Leaf_Shut.f bt273.1 bt273.2).bind fun t282 => (if t282 = true then (paternosterlaw12_LockOpens.j2 k2 l2 a3 x11_2 false bt273.1 bt273.2 bt276.1 bt276.2.1 bt276.2.2) else ((car_Car_Level.f x262000_2 x262001_2 x262002_2).bind fun t283 => (paternosterlaw12_LockOpens.j2 k2 l2 a3 x11_2 (!t283) bt273.1 bt273.2 bt276.1 bt276.2.1 bt276.2.2)))) else (paternosterlaw12_LockOpens.j2 k2 l2 a3 x11_2 false bt273.1 bt273.2 bt276.1 bt276.2.1 bt276.2.2))) else (if bt276.1 = x262000_2 then (if bt276.2.1 = 0 then ((leaf_Leaf_Shut.f x263000_2 x263001_2).bind fun t284 => (if t284 = true then ((leaf_Leaf_Shut.f bt273.1 bt273.2).bind fun t285 => (if t285 = true then (paternosterlaw12_LockOpens.j2 k2 l2 a3 x11_2 false bt273.1 bt273.2 bt276.1 bt276.2.1 bt276.2.2) else ((car_Car_Level.f x262000_2 x262001_2 x262002_2).bind fun t286 => (paternosterlaw12_LockOpens.j2 k2 l2 a3 x11_2 (!t286) bt273.1 bt273.2 bt276.1 bt276.2.1 bt276.2.2)))) else (paternosterlaw12_LockOpens.j2 k2 l2 a3 x11_2 false bt273.1 bt273.2 bt276.1 bt276.2.1 bt276.2.2))) else (paternosterlaw12_LockOpens.j2 k2 l2 a3 x11_2 true bt273.1 bt273.2 bt276.1 bt276.2.1 bt276.2.2)) else (paternosterlaw12_LockOpens.j2 k2 l2 a3 x11_2 true bt273.1 bt273.2 bt276.1 bt276.2.1 bt276.2.2)))))) = some r := H
         have A26 := Aside0.mk A260
         clear A260
         replace H := Option.bind_eq_some_iff.mp H
         obtain ⟨⟨t273, t274⟩, A270, H⟩ := H
         replace H : ((car_Car_Step.f x262000_2 x262001_2 x262002_2 t269 t270 a3).bind fun bt276 => ((leaf_Leaf_Shut.f x263000_2 x263001_2).bind fun t280 => (if t280 = true then ((leaf_Leaf_Shut.f x263000_2 x263001_2).bind fun t281 => (if t281 = true then ((leaf_Leaf_Shut.f t273 t274).bind fun t282 => (if t282 = true then (paternosterlaw12_LockOpens.j2 k2 l2 a3 x11_2 false t273 t274 bt276.1 bt276.2.1 bt276.2.2) else ((car_Car_Level.f x262000_2 x262001_2 x262002_2).bind fun t283 => (paternosterlaw12_LockOpens.j2 k2 l2 a3 x11_2 (!t283) t273 t274 bt276.1 bt276.2.1 bt276.2.2)))) else (paternosterlaw12_LockOpens.j2 k2 l2 a3 x11_2 false t273 t274 bt276.1 bt276.2.1 bt276.2.2))) else (if bt276.1 = x262000_2 then (if bt276.2.1 = 0 then ((leaf_Leaf_Shut.f x263000_2 x263001_2).bind fun t284 => (if t284 = true then ((leaf_Leaf_Shut.f t273 t274).bind fun t285 => (if t285 = true then (paternosterlaw12_LockOpens.j2 k2 l2 a3 x11_2 false t273 t274 bt276.1 bt276.2.1 bt276.2.2) else ((car_Car_Level.f x262000_2 x262001_2 x262002_2).bind fun t286 => (paternosterlaw12_LockOpens.j2 k2 l2 a3 x11_2 (!t286) t273 t274 bt276.1 bt276.2.1 bt276.2.2)))) else (paternosterlaw12_LockOpens.j2 k2 l2 a3 x11_2 false t273 t274 bt276.1 bt276.2.1 bt276.2.2))) else (paternosterlaw12_LockOpens.j2 k2 l2 a3 x11_2 true t273 t274 bt276.1 bt276.2.1 bt276.2.2)) else (paternosterlaw12_LockOpens.j2 k2 l2 a3 x11_2 true t273 t274 bt276.1 bt276.2.1 bt276.2.2))))) = some r := H
         have A27 := Aside0.mk A270
         clear A270
         replace H := Option.bind_eq_some_iff.mp H
         obtain ⟨⟨t276, t277, t278⟩, A280, H⟩ := H
         replace H : ((leaf_Leaf_Shut.f x263000_2 x263001_2).bind fun t280 => (if t280 = true then ((leaf_Leaf_Shut.f x263000_2 x263001_2).bind fun t281 => (if t281 = true then ((leaf_Leaf_Shut.f t273 t274).bind fun t282 => (if t282 = true then (paternosterlaw12_LockOpens.j2 k2 l2 a3 x11_2 false t273 t274 t276 t277 t278) else ((car_Car_Level.f x262000_2 x262001_2 x262002_2).bind fun t283 => (paternosterlaw12_LockOpens.j2 k2 l2 a3 x11_2 (!t283) t273 t274 t276 t277 t278)))) else (paternosterlaw12_LockOpens.j2 k2 l2 a3 x11_2 false t273 t274 t276 t277 t278))) else (if t276 = x262000_2 then (if t277 = 0 then ((leaf_Leaf_Shut.f x263000_2 x263001_2).bind fun t284 => (if t284 = true then ((leaf_Leaf_Shut.f t273 t274).bind fun t285 => (if t285 = true then (paternosterlaw12_LockOpens.j2 k2 l2 a3 x11_2 false t273 t274 t276 t277 t278) else ((car_Car_Level.f x262000_2 x262001_2 x262002_2).bind fun t286 => (paternosterlaw12_LockOpens.j2 k2 l2 a3 x11_2 (!t286) t273 t274 t276 t277 t278)))) else (paternosterlaw12_LockOpens.j2 k2 l2 a3 x11_2 false t273 t274 t276 t277 t278))) else (paternosterlaw12_LockOpens.j2 k2 l2 a3 x11_2 true t273 t274 t276 t277 t278)) else (paternosterlaw12_LockOpens.j2 k2 l2 a3 x11_2 true t273 t274 t276 t277 t278)))) = some r := H
         have A28 := Aside0.mk A280
         clear A280
         have HC29 := Aside0.mk H
         clear H
         try go_wp2
         have n0_ := Aside0.mk (blk_drew BK261.out)
         have n1_ := Aside0.mk (blk_drew BK262.out)
         have n2_ := Aside0.mk (below_drew1 HB.out)
         clear BK261
         clear BK262
         clear HB
         have BK261 := n0_
         have BK262 := n1_
         have HB := n2_
         clear n0_ n1_ n2_
         have p266 : 0 ≤ (x11_2 : Int) := of_decide_eq_true (by first | (with_reducible assumption) | assumption)
         have q266 : x11_2 < (l2.length : Int) := of_decide_eq_true (by first | (with_reducible assumption) | assumption)
         obtain ⟨ad266, e266, hx266_0, hx266_1, hx266_2, hx266_3⟩ := at_T27 HR2.out x11_2 p266 q266
         have hw266_3 := hx266_3
         have hw266_2 := hx266_2
         have hw266_1 := hx266_1
         have hw266_0 := hx266_0
         cases e266
         replace hx266_0 := (HB.out.cell (World.block_lt_of_cell? w _ hx266_0)).trans hx266_0
         replace hx266_1 := (HB.out.cell (World.block_lt_of_cell? w _ hx266_1)).trans hx266_1
         replace hx266_2 := (HB.out.cell (World.block_lt_of_cell? w _ hx266_2)).trans hx266_2
         replace hx266_3 := (HB.out.cell (World.block_lt_of_cell? w _ hx266_3)).trans hx266_3
         replace p266 := eq_true p266
         replace q266 := eq_true q266
         have p267 : 0 ≤ (x11_2 : Int) := of_decide_eq_true (by first | (with_reducible assumption) | assumption)
         have q267 : x11_2 < (l2.length : Int) := of_decide_eq_true (by first | (with_reducible assumption) | assumption)
         obtain ⟨ad267, e267, hx267_0, hx267_1, hx267_2, hx267_3⟩ := at_T27 HR2.out x11_2 p267 q267
         have hw267_3 := hx267_3
         have hw267_2 := hx267_2
         have hw267_1 := hx267_1
         have hw267_0 := hx267_0
         obtain rfl : ad266 = ad267 := (by injection e267)
         replace hx267_0 := (HB.out.cell (World.block_lt_of_cell? w _ hx267_0)).trans hx267_0
         replace hx267_1 := (HB.out.cell (World.block_lt_of_cell? w _ hx267_1)).trans hx267_1
         replace hx267_2 := (HB.out.cell (World.block_lt_of_cell? w _ hx267_2)).trans hx267_2
         replace hx267_3 := (HB.out.cell (World.block_lt_of_cell? w _ hx267_3)).trans hx267_3
         replace p267 := eq_true p267
         replace q267 := eq_true q267
         have p268 : 0 ≤ (x11_2 : Int) := of_decide_eq_true (by first | (with_reducible assumption) | assumption)
         have q268 : x11_2 < (l2.length : Int) := of_decide_eq_true (by first | (with_reducible assumption) | assumption)
         obtain ⟨ad268, e268, hx268_0, hx268_1, hx268_2, hx268_3⟩ := at_T27 HR2.out x11_2 p268 q268
         have hw268_3 := hx268_3
         have hw268_2 := hx268_2
         have hw268_1 := hx268_1
         have hw268_0 := hx268_0
         obtain rfl : ad266 = ad268 := (by injection e268)
         replace hx268_0 := (HB.out.cell (World.block_lt_of_cell? w _ hx268_0)).trans hx268_0
         replace hx268_1 := (HB.out.cell (World.block_lt_of_cell? w _ hx268_1)).trans hx268_1
         replace hx268_2 := (HB.out.cell (World.block_lt_of_cell? w _ hx268_2)).trans hx268_2
         replace hx268_3 := (HB.out.cell (World.block_lt_of_cell? w _ hx268_3)).trans hx268_3
         replace p268 := eq_true p268
         replace q268 := eq_true q268
         refine start_ (n := 25) (S := fun w' => w'.cell? ⟨gb261, 0, none⟩ = some (.int .i64 x262000_2) ∧ w'.cell? ⟨gb261, 1, none⟩ = some (.int .i64 x262001_2) ∧ w'.cell? ⟨gb261, 2, none⟩ = some (.int .i64 x262002_2) ∧ w'.cell? ⟨gb262, 0, none⟩ = some (.int .i64 x263000_2) ∧ w'.cell? ⟨gb262, 1, none⟩ = some (.int .i64 x263001_2) ∧ w'.cell? (ad266.add ((x11_2).toNat * 4)) = some (.int .i64 ((rd_T27 l2 x11_2).f0)) ∧ w'.cell? ⟨(ad266.add ((x11_2).toNat * 4)).block, (ad266.add ((x11_2).toNat * 4)).off + 1, none⟩ = some (.bool ((rd_T27 l2 x11_2).f1)) ∧ w'.cell? ⟨(ad266.add ((x11_2).toNat * 4)).block, (ad266.add ((x11_2).toNat * 4)).off + 2, none⟩ = some (.int .i64 ((rd_T27 l2 x11_2).f2)) ∧ w'.cell? ⟨(ad266.add ((x11_2).toNat * 4)).block, (ad266.add ((x11_2).toNat * 4)).off + 3, none⟩ = some (.bool ((rd_T27 l2 x11_2).f3)) ∧ w'.cell? (ad266.add ((x11_2).toNat * 4)) = some (.int .i64 ((rd_T27 l2 x11_2).f0)) ∧ w'.cell? ⟨(ad266.add ((x11_2).toNat * 4)).block, (ad266.add ((x11_2).toNat * 4)).off + 1, none⟩ = some (.bool ((rd_T27 l2 x11_2).f1)) ∧ w'.cell? ⟨(ad266.add ((x11_2).toNat * 4)).block, (ad266.add ((x11_2).toNat * 4)).off + 2, none⟩ = some (.int .i64 ((rd_T27 l2 x11_2).f2)) ∧ w'.cell? ⟨(ad266.add ((x11_2).toNat * 4)).block, (ad266.add ((x11_2).toNat * 4)).off + 3, none⟩ = some (.bool ((rd_T27 l2 x11_2).f3)) ∧ w'.cell? (ad266.add ((x11_2).toNat * 4)) = some (.int .i64 ((rd_T27 l2 x11_2).f0)) ∧ w'.cell? ⟨(ad266.add ((x11_2).toNat * 4)).block, (ad266.add ((x11_2).toNat * 4)).off + 1, none⟩ = some (.bool ((rd_T27 l2 x11_2).f1)) ∧ w'.cell? ⟨(ad266.add ((x11_2).toNat * 4)).block, (ad266.add ((x11_2).toNat * 4)).off + 2, none⟩ = some (.int .i64 ((rd_T27 l2 x11_2).f2)) ∧ w'.cell? ⟨(ad266.add ((x11_2).toNat * 4)).block, (ad266.add ((x11_2).toNat * 4)).off + 3, none⟩ = some (.bool ((rd_T27 l2 x11_2).f3))) (ds := []) #[false,false,false,false,false,false,false,false,false,false,false,false,false,false,false,false,false,false,false,false,false,false,false,false,false] (by kernel_rfl) rfl rfl ⟨(blk_cell BK261.out 0).trans rfl, (blk_cell BK261.out 1).trans rfl, (blk_cell BK261.out 2).trans rfl, (blk_cell BK262.out 0).trans rfl, (blk_cell BK262.out 1).trans rfl, ((HB.out.cell (World.block_lt_of_cell? w _ hw266_0)).trans hw266_0), ((HB.out.cell (World.block_lt_of_cell? w _ hw266_1)).trans hw266_1), ((HB.out.cell (World.block_lt_of_cell? w _ hw266_2)).trans hw266_2), ((HB.out.cell (World.block_lt_of_cell? w _ hw266_3)).trans hw266_3), ((HB.out.cell (World.block_lt_of_cell? w _ hw267_0)).trans hw267_0), ((HB.out.cell (World.block_lt_of_cell? w _ hw267_1)).trans hw267_1), ((HB.out.cell (World.block_lt_of_cell? w _ hw267_2)).trans hw267_2), ((HB.out.cell (World.block_lt_of_cell? w _ hw267_3)).trans hw267_3), ((HB.out.cell (World.block_lt_of_cell? w _ hw268_0)).trans hw268_0), ((HB.out.cell (World.block_lt_of_cell? w _ hw268_1)).trans hw268_1), ((HB.out.cell (World.block_lt_of_cell? w _ hw268_2)).trans hw268_2), ((HB.out.cell (World.block_lt_of_cell? w _ hw268_3)).trans hw268_3)⟩ (fun hHeld => ?_); refine with_tabW paternosterlaw12_LockOpens.tab10 paternosterlaw12_LockOpens.bits10 (fun HT_ HW_ => ?_)
         generalize wr.drew = w30 at BK261 BK262 HB hx266_0 hx266_1 hx266_2 hx266_3 hx267_0 hx267_1 hx267_2 hx267_3 hx268_0 hx268_1 hx268_2 hx268_3 hHeld ⊢
         refine pure_ (i := 2) (N := some 45) (v := ?_) (a' := ?_) #[false,false,true,false,false,false,false,false,false,false,false,false,false,false,false,false,false,false,false,false,false,false,false,false,false] rfl rfl (any_of HT_.out (by kernel_rfl)) (fun _ _ _ h => h) (Or.inl ⟨by rfl, ?_⟩) ?_ ?_
         rotate_left
         ·intro w'
          go_simp
          with_reducible rfl
         rotate_left
         ·simp only [Act.put, sA, sB, sC, i64_w, i32_w]
          rfl
         refine pure_ (i := 3) (N := some 46) (v := ?_) (a' := ?_) #[false,false,true,true,false,false,false,false,false,false,false,false,false,false,false,false,false,false,false,false,false,false,false,false,false] rfl rfl (any_of HT_.out (by kernel_rfl)) (fun _ _ _ h => h) (Or.inl ⟨by rfl, ?_⟩) ?_ ?_
         rotate_left
         ·intro w'
          go_simp
          with_reducible rfl
         rotate_left
         ·simp only [Act.put, sA, sB, sC, i64_w, i32_w]
          rfl
         refine pure_ (i := 4) (N := some 47) (v := ?_) (a' := ?_) #[false,false,true,true,true,false,false,false,false,false,false,false,false,false,false,false,false,false,false,false,false,false,false,false,false] rfl rfl (any_of HT_.out (by kernel_rfl)) (fun _ _ _ h => h) (Or.inl ⟨by rfl, ?_⟩) ?_ ?_
         rotate_left
         ·intro w'
          go_simp
          with_reducible rfl
         rotate_left
         ·simp only [Act.put, sA, sB, sC, i64_w, i32_w]
          rfl
         refine pure_ (i := 5) (N := some 48) (v := ?_) (a' := ?_) #[false,false,true,true,true,true,false,false,false,false,false,false,false,false,false,false,false,false,false,false,false,false,false,false,false] rfl rfl (any_of HT_.out (by kernel_rfl)) (fun _ _ _ h => h) (Or.inl ⟨by rfl, ?_⟩) ?_ ?_
         rotate_left
         ·intro w'
          go_simp
          with_reducible rfl
         rotate_left
         ·simp only [Act.put, sA, sB, sC, i64_w, i32_w]
          rfl
         refine pure_ (i := 7) (N := some 50) (v := ?_) (a' := ?_) #[false,false,true,true,true,true,false,true,false,false,false,false,false,false,false,false,false,false,false,false,false,false,false,false,false] rfl rfl (any_of HT_.out (by kernel_rfl)) (fun _ _ _ h => h) (Or.inl ⟨by rfl, ?_⟩) ?_ ?_
         rotate_left
         ·intro w'
          go_simp
          with_reducible rfl
         rotate_left
         ·simp only [Act.put, sA, sB, sC, i64_w, i32_w]
          rfl
         refine pure_ (i := 8) (N := some 51) (v := ?_) (a' := ?_) #[false,false,true,true,true,true,false,true,true,false,false,false,false,false,false,false,false,false,false,false,false,false,false,false,false] rfl rfl (any_of HT_.out (by kernel_rfl)) (fun _ _ _ h => h) (Or.inl ⟨by rfl, ?_⟩) ?_ ?_
         rotate_left
         ·intro w'
          go_simp
          with_reducible rfl
         rotate_left
         ·simp only [Act.put, sA, sB, sC, i64_w, i32_w]
          rfl
         refine pure_ (i := 9) (N := some 52) (v := ?_) (a' := ?_) #[false,false,true,true,true,true,false,true,true,true,false,false,false,false,false,false,false,false,false,false,false,false,false,false,false] rfl rfl (any_of HT_.out (by kernel_rfl)) (fun _ _ _ h => h) (Or.inl ⟨by rfl, ?_⟩) ?_ ?_
         rotate_left
         ·intro w'
          go_simp
          with_reducible rfl
         rotate_left
         ·simp only [Act.put, sA, sB, sC, i64_w, i32_w]
          rfl
         refine pure_ (i := 10) (N := some 53) (v := ?_) (a' := ?_) #[false,false,true,true,true,true,false,true,true,true,true,false,false,false,false,false,false,false,false,false,false,false,false,false,false] rfl rfl (any_of HT_.out (by kernel_rfl)) (fun _ _ _ h => h) (Or.inl ⟨by rfl, ?_⟩) ?_ ?_
         rotate_left
         ·intro w'
          go_simp
          with_reducible rfl
         rotate_left
         ·simp only [Act.put, sA, sB, sC, i64_w, i32_w]
          rfl
         refine pure_ (i := 12) (N := some 55) (v := ?_) (a' := ?_) #[false,false,true,true,true,true,false,true,true,true,true,false,true,false,false,false,false,false,false,false,false,false,false,false,false] rfl rfl (any_of HT_.out (by kernel_rfl)) (fun _ _ _ h => h) (Or.inl ⟨by rfl, ?_⟩) ?_ ?_
         rotate_left
         ·intro w'
          go_simp
          with_reducible rfl
         rotate_left
         ·simp only [Act.put, sA, sB, sC, i64_w, i32_w]
          rfl
         refine pure_ (i := 13) (N := some 56) (v := ?_) (a' := ?_) #[false,false,true,true,true,true,false,true,true,true,true,false,true,true,false,false,false,false,false,false,false,false,false,false,false] rfl rfl (any_of HT_.out (by kernel_rfl)) (fun _ _ _ h => h) (Or.inl ⟨by rfl, ?_⟩) ?_ ?_
         rotate_left
         ·intro w'
          go_simp
          with_reducible rfl
         rotate_left
         ·simp only [Act.put, sA, sB, sC, i64_w, i32_w]
          rfl
         refine pure_ (i := 14) (N := some 57) (v := ?_) (a' := ?_) #[false,false,true,true,true,true,false,true,true,true,true,false,true,true,true,false,false,false,false,false,false,false,false,false,false] rfl rfl (any_of HT_.out (by kernel_rfl)) (fun _ _ _ h => h) (Or.inl ⟨by rfl, ?_⟩) ?_ ?_
         rotate_left
         ·intro w'
          go_simp
          with_reducible rfl
         rotate_left
         ·simp only [Act.put, sA, sB, sC, i64_w, i32_w]
          rfl
         refine pure_ (i := 15) (N := some 58) (v := ?_) (a' := ?_) #[false,false,true,true,true,true,false,true,true,true,true,false,true,true,true,true,false,false,false,false,false,false,false,false,false] rfl rfl (any_of HT_.out (by kernel_rfl)) (fun _ _ _ h => h) (Or.inl ⟨by rfl, ?_⟩) ?_ ?_
         rotate_left
         ·intro w'
          go_simp
          with_reducible rfl
         rotate_left
         ·simp only [Act.put, sA, sB, sC, i64_w, i32_w]
          rfl
         refine take_ (i := 0) (N := some 43) (v := ?_) (a' := ?_) #[true,false,true,true,true,true,false,true,true,true,true,false,true,true,true,true,false,false,false,false,false,false,false,false,false] rfl rfl (take_ofW HT_.out HW_.out (by kernel_rfl)) (fun _ _ _ h => h) (Or.inl ⟨by rfl, ?_⟩) hHeld ?_ ?_
         rotate_left
         ·rintro w' ⟨s0, s1, s2, s3, s4, s5, s6, s7, s8, s9, s10, s11, s12, s13, s14, s15, s16⟩
          go_simp
          with_reducible rfl
         rotate_left
         ·simp only [Act.put, sA, sB, sC, i64_w, i32_w]
          rfl
         refine take_ (i := 1) (N := some 44) (v := ?_) (a' := ?_) #[true,true,true,true,true,true,false,true,true,true,true,false,true,true,true,true,false,false,false,false,false,false,false,false,false] rfl rfl (take_ofW HT_.out HW_.out (by kernel_rfl)) (fun _ _ _ h => h) (Or.inl ⟨by rfl, ?_⟩) hHeld ?_ ?_
         rotate_left
         ·rintro w' ⟨s0, s1, s2, s3, s4, s5, s6, s7, s8, s9, s10, s11, s12, s13, s14, s15, s16⟩
          go_simp
          with_reducible rfl
         rotate_left
         ·simp only [Act.put, sA, sB, sC, i64_w, i32_w]
          rfl
         refine take_ (i := 6) (N := some 49) (v := ?_) (a' := ?_) #[true,true,true,true,true,true,true,true,true,true,true,false,true,true,true,true,false,false,false,false,false,false,false,false,false] rfl rfl (take_ofW HT_.out HW_.out (by kernel_rfl)) (fun _ _ _ h => h) (Or.inl ⟨by rfl, ?_⟩) hHeld ?_ ?_
         rotate_left
         ·rintro w' ⟨s0, s1, s2, s3, s4, s5, s6, s7, s8, s9, s10, s11, s12, s13, s14, s15, s16⟩
          go_simp
          with_reducible rfl
         rotate_left
         ·simp only [Act.put, sA, sB, sC, i64_w, i32_w]
          rfl
         refine take_ (i := 11) (N := some 54) (v := ?_) (a' := ?_) #[true,true,true,true,true,true,true,true,true,true,true,true,true,true,true,true,false,false,false,false,false,false,false,false,false] rfl rfl (take_ofW HT_.out HW_.out (by kernel_rfl)) (fun _ _ _ h => h) (Or.inl ⟨by rfl, ?_⟩) hHeld ?_ ?_
         rotate_left
         ·rintro w' ⟨s0, s1, s2, s3, s4, s5, s6, s7, s8, s9, s10, s11, s12, s13, s14, s15, s16⟩
          go_simp
          with_reducible rfl
         rotate_left
         ·simp only [Act.put, sA, sB, sC, i64_w, i32_w]
          rfl
         refine take_ (i := 16) (N := some 59) (v := ?_) (a' := ?_) #[true,true,true,true,true,true,true,true,true,true,true,true,true,true,true,true,true,false,false,false,false,false,false,false,false] rfl rfl (take_ofW HT_.out HW_.out (by kernel_rfl)) (fun _ _ _ h => h) (Or.inl ⟨by rfl, ?_⟩) hHeld ?_ ?_
         rotate_left
         ·rintro w' ⟨s0, s1, s2, s3, s4, s5, s6, s7, s8, s9, s10, s11, s12, s13, s14, s15, s16⟩
          go_simp
          with_reducible rfl
         rotate_left
         ·simp only [Act.put, sA, sB, sC, i64_w, i32_w]
          rfl
         refine one_ (i := 17) (N := some 60) #[true,true,true,true,true,true,true,true,true,true,true,true,true,true,true,true,true,true,false,false,false,false,false,false,false] rfl rfl (one_of HT_.out (by kernel_rfl)) (by decide) (fun K hK => ?_)
         refine goes_ Try.func14 (by kernel_rfl) rfl #[.agg #[.int .i64 x262000_2, .int .i64 x262001_2, .int .i64 x262002_2], .agg #[.int .i64 x263000_2, .int .i64 x263001_2], .int .i64 ((rd_T27 l2 x11_2).f0), .bool ((rd_T27 l2 x11_2).f1), .int .i64 ((rd_T27 l2 x11_2).f2)] (by rfl) rfl rfl (by (try simp only [List.map_toArray, List.map_cons, List.map_nil]); first | done | rfl | (simp only [List.length_drop, List.length_take]; rfl)) ?_
         with_reducible refine (lock_Does.calls x262000_2 x262001_2 x262002_2 x263000_2 x263001_2 ((rd_T27 l2 x11_2).f0) ((rd_T27 l2 x11_2).f1) ((rd_T27 l2 x11_2).f2) t269 t270 t271 _ A26.out).mono ?_
         rintro e w31 ⟨rfl, hb⟩
         refine ⟨_, rfl, ?_⟩
         have n0_ := Aside0.mk (blk_below (g := gb261) (o := .cells #[.int .i64 x262000_2, .int .i64 x262001_2, .int .i64 x262002_2] 23 (0, 0)) (by (with_reducible repeat (first | refine blk_drewN ?_ _ | refine blk_drew ?_ | refine blk_alloc ?_ _)); exact BK261.out) hb)
         have n1_ := Aside0.mk (blk_below (g := gb262) (o := .cells #[.int .i64 x263000_2, .int .i64 x263001_2] 25 (0, 0)) (by (with_reducible repeat (first | refine blk_drewN ?_ _ | refine blk_drew ?_ | refine blk_alloc ?_ _)); exact BK262.out) hb)
         have n2_ := Aside0.mk (below_step (by repeat (first | (with_reducible first | exact HB.out | apply below_alloc | apply pw_below_drewN | apply below_drew1 | refine below_set ?_ GE261.out | refine below_set ?_ GE262.out) | exact HB.out)) hb)
         clear BK261
         clear BK262
         clear HB
         have BK261 := n0_
         have BK262 := n1_
         have HB := n2_
         clear n0_ n1_ n2_
         (try clear hb)
         (try clear hb2)
         (try clear hk)
         (try clear hi)
         refine hK.out _ _ ⟨(blk_cell BK261.out 0).trans rfl, (blk_cell BK261.out 1).trans rfl, (blk_cell BK261.out 2).trans rfl, (blk_cell BK262.out 0).trans rfl, (blk_cell BK262.out 1).trans rfl, ((HB.out.cell (World.block_lt_of_cell? w _ hw266_0)).trans hw266_0), ((HB.out.cell (World.block_lt_of_cell? w _ hw266_1)).trans hw266_1), ((HB.out.cell (World.block_lt_of_cell? w _ hw266_2)).trans hw266_2), ((HB.out.cell (World.block_lt_of_cell? w _ hw266_3)).trans hw266_3), ((HB.out.cell (World.block_lt_of_cell? w _ hw267_0)).trans hw267_0), ((HB.out.cell (World.block_lt_of_cell? w _ hw267_1)).trans hw267_1), ((HB.out.cell (World.block_lt_of_cell? w _ hw267_2)).trans hw267_2), ((HB.out.cell (World.block_lt_of_cell? w _ hw267_3)).trans hw267_3), ((HB.out.cell (World.block_lt_of_cell? w _ hw268_0)).trans hw268_0), ((HB.out.cell (World.block_lt_of_cell? w _ hw268_1)).trans hw268_1), ((HB.out.cell (World.block_lt_of_cell? w _ hw268_2)).trans hw268_2), ((HB.out.cell (World.block_lt_of_cell? w _ hw268_3)).trans hw268_3)⟩ (fun hHeld => ?_)
         clear hK K
         refine norm_ (a' := ?_) ?_ ?_
         rotate_left
         ·show Act.put _ (some 60) _ = _
          simp only [Act.put, sA, sB, sC, i64_w, i32_w]
          rfl
         refine pure_ (i := 18) (N := some 42) (v := ?_) (a' := ?_) #[true,true,true,true,true,true,true,true,true,true,true,true,true,true,true,true,true,true,true,false,false,false,false,false,false] rfl rfl (any_of HT_.out (by kernel_rfl)) (fun _ _ _ h => h) (Or.inl ⟨by rfl, ?_⟩) ?_ ?_
         rotate_left
         ·intro w'
          go_simp
          with_reducible rfl
         rotate_left
         ·simp only [Act.put, sA, sB, sC, i64_w, i32_w]
          rfl
         refine pure_ (i := 19) (N := some 61) (v := ?_) (a' := ?_) #[true,true,true,true,true,true,true,true,true,true,true,true,true,true,true,true,true,true,true,true,false,false,false,false,false] rfl rfl (any_of HT_.out (by kernel_rfl)) (fun _ _ _ h => h) (Or.inl ⟨by rfl, ?_⟩) ?_ ?_
         rotate_left
         ·intro w'
          go_simp
          with_reducible rfl
         rotate_left
         ·simp only [Act.put, sA, sB, sC, i64_w, i32_w]
          rfl
         refine pure_ (i := 20) (N := some 62) (v := ?_) (a' := ?_) #[true,true,true,true,true,true,true,true,true,true,true,true,true,true,true,true,true,true,true,true,true,false,false,false,false] rfl rfl (any_of HT_.out (by kernel_rfl)) (fun _ _ _ h => h) (Or.inl ⟨by rfl, ?_⟩) ?_ ?_
         rotate_left
         ·intro w'
          go_simp
          with_reducible rfl
         rotate_left
         ·simp only [Act.put, sA, sB, sC, i64_w, i32_w]
          rfl
         refine pure_ (i := 21) (N := some 63) (v := ?_) (a' := ?_) #[true,true,true,true,true,true,true,true,true,true,true,true,true,true,true,true,true,true,true,true,true,true,false,false,false] rfl rfl (any_of HT_.out (by kernel_rfl)) (fun _ _ _ h => h) (Or.inl ⟨by rfl, ?_⟩) ?_ ?_
         rotate_left
         ·intro w'
          go_simp
          with_reducible rfl
         rotate_left
         ·simp only [Act.put, sA, sB, sC, i64_w, i32_w]
          rfl
         refine pure_ (i := 22) (N := some 12) (v := ?_) (a' := ?_) #[true,true,true,true,true,true,true,true,true,true,true,true,true,true,true,true,true,true,true,true,true,true,true,false,false] rfl rfl (any_of HT_.out (by kernel_rfl)) (fun _ _ _ h => h) (Or.inl ⟨by rfl, ?_⟩) ?_ ?_
         rotate_left
         ·intro w'
          go_simp
          with_reducible rfl
         rotate_left
         ·simp only [Act.put, sA, sB, sC, i64_w, i32_w]
          rfl
         refine pure_ (i := 23) (N := some 13) (v := ?_) (a' := ?_) #[true,true,true,true,true,true,true,true,true,true,true,true,true,true,true,true,true,true,true,true,true,true,true,true,false] rfl rfl (any_of HT_.out (by kernel_rfl)) (fun _ _ _ h => h) (Or.inl ⟨by rfl, ?_⟩) ?_ ?_
         rotate_left
         ·intro w'
          go_simp
          with_reducible rfl
         rotate_left
         ·simp only [Act.put, sA, sB, sC, i64_w, i32_w]
          rfl
         refine pure_ (i := 24) (N := some 14) (v := ?_) (a' := ?_) #[true,true,true,true,true,true,true,true,true,true,true,true,true,true,true,true,true,true,true,true,true,true,true,true,true] rfl rfl (any_of HT_.out (by kernel_rfl)) (fun _ _ _ h => h) (Or.inl ⟨by rfl, ?_⟩) ?_ ?_
         rotate_left
         ·intro w'
          go_simp
          with_reducible rfl
         rotate_left
         ·simp only [Act.put, sA, sB, sC, i64_w, i32_w]
          rfl
         refine done_ (done_of HT_.out (by kernel_rfl)) ?_
         try go_wp2
         have n0_ := Aside0.mk (blk_drew BK261.out)
         have n1_ := Aside0.mk (blk_drew BK262.out)
         have n2_ := Aside0.mk (below_drew1 HB.out)
         clear BK261
         clear BK262
         clear HB
         have BK261 := n0_
         have BK262 := n1_
         have HB := n2_
         clear n0_ n1_ n2_
         have p272 : 0 ≤ (x11_2 : Int) := of_decide_eq_true (by first | (with_reducible assumption) | assumption)
         have q272 : x11_2 < (l2.length : Int) := of_decide_eq_true (by first | (with_reducible assumption) | assumption)
         obtain ⟨ad272, e272, hx272_0, hx272_1, hx272_2, hx272_3⟩ := at_T27 HR2.out x11_2 p272 q272
         have hw272_3 := hx272_3
         have hw272_2 := hx272_2
         have hw272_1 := hx272_1
         have hw272_0 := hx272_0
         obtain rfl : ad266 = ad272 := (by injection e272)
         replace hx272_0 := (HB.out.cell (World.block_lt_of_cell? w _ hx272_0)).trans hx272_0
         replace hx272_1 := (HB.out.cell (World.block_lt_of_cell? w _ hx272_1)).trans hx272_1
         replace hx272_2 := (HB.out.cell (World.block_lt_of_cell? w _ hx272_2)).trans hx272_2
         replace hx272_3 := (HB.out.cell (World.block_lt_of_cell? w _ hx272_3)).trans hx272_3
         replace p272 := eq_true p272
         replace q272 := eq_true q272
         refine start_ (n := 10) (S := fun w' => w'.cell? ⟨gb262, 0, none⟩ = some (.int .i64 x263000_2) ∧ w'.cell? ⟨gb262, 1, none⟩ = some (.int .i64 x263001_2) ∧ w'.cell? (ad266.add ((x11_2).toNat * 4)) = some (.int .i64 ((rd_T27 l2 x11_2).f0)) ∧ w'.cell? ⟨(ad266.add ((x11_2).toNat * 4)).block, (ad266.add ((x11_2).toNat * 4)).off + 1, none⟩ = some (.bool ((rd_T27 l2 x11_2).f1)) ∧ w'.cell? ⟨(ad266.add ((x11_2).toNat * 4)).block, (ad266.add ((x11_2).toNat * 4)).off + 2, none⟩ = some (.int .i64 ((rd_T27 l2 x11_2).f2)) ∧ w'.cell? ⟨(ad266.add ((x11_2).toNat * 4)).block, (ad266.add ((x11_2).toNat * 4)).off + 3, none⟩ = some (.bool ((rd_T27 l2 x11_2).f3))) (ds := []) #[false,false,false,false,false,false,false,false,false,false] (by kernel_rfl) rfl rfl ⟨(blk_cell BK262.out 0).trans rfl, (blk_cell BK262.out 1).trans rfl, ((HB.out.cell (World.block_lt_of_cell? w _ hw272_0)).trans hw272_0), ((HB.out.cell (World.block_lt_of_cell? w _ hw272_1)).trans hw272_1), ((HB.out.cell (World.block_lt_of_cell? w _ hw272_2)).trans hw272_2), ((HB.out.cell (World.block_lt_of_cell? w _ hw272_3)).trans hw272_3)⟩ (fun hHeld => ?_); refine with_tabW paternosterlaw12_LockOpens.tab11 paternosterlaw12_LockOpens.bits11 (fun HT_ HW_ => ?_)
         generalize w31.drew = w32 at BK261 BK262 HB hx272_0 hx272_1 hx272_2 hx272_3 hHeld ⊢
         refine pure_ (i := 1) (N := some 65) (v := ?_) (a' := ?_) #[false,true,false,false,false,false,false,false,false,false] rfl rfl (any_of HT_.out (by kernel_rfl)) (fun _ _ _ h => h) (Or.inl ⟨by rfl, ?_⟩) ?_ ?_
         rotate_left
         ·intro w'
          go_simp
          with_reducible rfl
         rotate_left
         ·simp only [Act.put, sA, sB, sC, i64_w, i32_w]
          rfl
         refine pure_ (i := 2) (N := some 66) (v := ?_) (a' := ?_) #[false,true,true,false,false,false,false,false,false,false] rfl rfl (any_of HT_.out (by kernel_rfl)) (fun _ _ _ h => h) (Or.inl ⟨by rfl, ?_⟩) ?_ ?_
         rotate_left
         ·intro w'
          go_simp
          with_reducible rfl
         rotate_left
         ·simp only [Act.put, sA, sB, sC, i64_w, i32_w]
          rfl
         refine pure_ (i := 3) (N := some 67) (v := ?_) (a' := ?_) #[false,true,true,true,false,false,false,false,false,false] rfl rfl (any_of HT_.out (by kernel_rfl)) (fun _ _ _ h => h) (Or.inl ⟨by rfl, ?_⟩) ?_ ?_
         rotate_left
         ·intro w'
          go_simp
          with_reducible rfl
         rotate_left
         ·simp only [Act.put, sA, sB, sC, i64_w, i32_w]
          rfl
         refine pure_ (i := 4) (N := some 68) (v := ?_) (a' := ?_) #[false,true,true,true,true,false,false,false,false,false] rfl rfl (any_of HT_.out (by kernel_rfl)) (fun _ _ _ h => h) (Or.inl ⟨by rfl, ?_⟩) ?_ ?_
         rotate_left
         ·intro w'
          go_simp
          with_reducible rfl
         rotate_left
         ·simp only [Act.put, sA, sB, sC, i64_w, i32_w]
          rfl
         refine pure_ (i := 5) (N := some 69) (v := ?_) (a' := ?_) #[false,true,true,true,true,true,false,false,false,false] rfl rfl (any_of HT_.out (by kernel_rfl)) (fun _ _ _ h => h) (Or.inl ⟨by rfl, ?_⟩) ?_ ?_
         rotate_left
         ·intro w'
          go_simp
          with_reducible rfl
         rotate_left
         ·simp only [Act.put, sA, sB, sC, i64_w, i32_w]
          rfl
         refine take_ (i := 0) (N := some 64) (v := ?_) (a' := ?_) #[true,true,true,true,true,true,false,false,false,false] rfl rfl (take_ofW HT_.out HW_.out (by kernel_rfl)) (fun _ _ _ h => h) (Or.inl ⟨by rfl, ?_⟩) hHeld ?_ ?_
         rotate_left
         ·rintro w' ⟨s0, s1, s2, s3, s4, s5⟩
          go_simp
          with_reducible rfl
         rotate_left
         ·simp only [Act.put, sA, sB, sC, i64_w, i32_w]
          rfl
         refine take_ (i := 6) (N := some 70) (v := ?_) (a' := ?_) #[true,true,true,true,true,true,true,false,false,false] rfl rfl (take_ofW HT_.out HW_.out (by kernel_rfl)) (fun _ _ _ h => h) (Or.inl ⟨by rfl, ?_⟩) hHeld ?_ ?_
         rotate_left
         ·rintro w' ⟨s0, s1, s2, s3, s4, s5⟩
          go_simp
          with_reducible rfl
         rotate_left
         ·simp only [Act.put, sA, sB, sC, i64_w, i32_w]
          rfl
         refine join_ (σ := Nat) 1 #[true,true,true,true,true,true,true,true,true,false] (fun s_ => [(71, .agg #[.int .i64 t273, .int .i64 t274]), (15, .pointer (some ⟨s_, 0, none⟩))]) (fun s_ w' => (w'.cell? ⟨gb262, 0, none⟩ = some (.int .i64 x263000_2) ∧ w'.cell? ⟨gb262, 1, none⟩ = some (.int .i64 x263001_2) ∧ w'.cell? (ad266.add ((x11_2).toNat * 4)) = some (.int .i64 ((rd_T27 l2 x11_2).f0)) ∧ w'.cell? ⟨(ad266.add ((x11_2).toNat * 4)).block, (ad266.add ((x11_2).toNat * 4)).off + 1, none⟩ = some (.bool ((rd_T27 l2 x11_2).f1)) ∧ w'.cell? ⟨(ad266.add ((x11_2).toNat * 4)).block, (ad266.add ((x11_2).toNat * 4)).off + 2, none⟩ = some (.int .i64 ((rd_T27 l2 x11_2).f2)) ∧ w'.cell? ⟨(ad266.add ((x11_2).toNat * 4)).block, (ad266.add ((x11_2).toNat * 4)).off + 3, none⟩ = some (.bool ((rd_T27 l2 x11_2).f3))) ∧ (w'.heap[gb261]? = some (.cells #[.int .i64 x262000_2, .int .i64 x262001_2, .int .i64 x262002_2] 23 (0, 0))) ∧ (w'.heap[gb262]? = some (.cells #[.int .i64 x263000_2, .int .i64 x263001_2] 25 (0, 0))) ∧ (w'.heap[s_]? = some (.cells #[.int .i64 0, .int .i64 0] 25 (0, 0))) ∧ (w.heap.size ≤ s_) ∧ (w.heap.size ≤ s_) ∧ (gb261 ≠ s_) ∧ (s_ ≠ gb261) ∧ (gb262 ≠ s_) ∧ (s_ ≠ gb262) ∧ (Below w.heap.size w w')) ?_ ?_
         rotate_left
         ·intro hCont
          refine two_ (i := 7) (j := 8) (Ni := some 71) (Nj := some 15) #[true,true,true,true,true,true,true,true,false,false] #[true,true,true,true,true,true,true,false,true,false] rfl rfl rfl rfl (two_of HT_.out (by kernel_rfl)) (by decide) (by decide) (fun K hK => ?_) (fun K hK => ?_)
          ·skip
           refine goes_ Try.func25 (by kernel_rfl) rfl #[.agg #[.int .i64 x263000_2, .int .i64 x263001_2], .int .i64 t271, .bool ((rd_T27 l2 x11_2).f3)] (by rfl) rfl rfl (by (try simp only [List.map_toArray, List.map_cons, List.map_nil]); first | done | rfl | (simp only [List.length_drop, List.length_take]; rfl)) ?_
           with_reducible refine (leaf_Leaf_Step.calls x263000_2 x263001_2 t271 ((rd_T27 l2 x11_2).f3) t273 t274 _ A27.out).mono ?_
           rintro e w33 ⟨rfl, hb⟩
           refine ⟨_, rfl, ?_⟩
           have n0_ := Aside0.mk (blk_below (g := gb261) (o := .cells #[.int .i64 x262000_2, .int .i64 x262001_2, .int .i64 x262002_2] 23 (0, 0)) (by (with_reducible repeat (first | refine blk_drewN ?_ _ | refine blk_drew ?_ | refine blk_alloc ?_ _)); exact BK261.out) hb)
           have n1_ := Aside0.mk (blk_below (g := gb262) (o := .cells #[.int .i64 x263000_2, .int .i64 x263001_2] 25 (0, 0)) (by (with_reducible repeat (first | refine blk_drewN ?_ _ | refine blk_drew ?_ | refine blk_alloc ?_ _)); exact BK262.out) hb)
           have n2_ := Aside0.mk (below_step (by repeat (first | (with_reducible first | exact HB.out | apply below_alloc | apply pw_below_drewN | apply below_drew1 | refine below_set ?_ GE261.out | refine below_set ?_ GE262.out) | exact HB.out)) hb)
           clear BK261
           clear BK262
           clear HB
           have BK261 := n0_
           have BK262 := n1_
           have HB := n2_
           clear n0_ n1_ n2_
           (try clear hb)
           (try clear hb2)
           (try clear hk)
           (try clear hi)
           refine hK.out _ _ ⟨(blk_cell BK262.out 0).trans rfl, (blk_cell BK262.out 1).trans rfl, ((HB.out.cell (World.block_lt_of_cell? w _ hw272_0)).trans hw272_0), ((HB.out.cell (World.block_lt_of_cell? w _ hw272_1)).trans hw272_1), ((HB.out.cell (World.block_lt_of_cell? w _ hw272_2)).trans hw272_2), ((HB.out.cell (World.block_lt_of_cell? w _ hw272_3)).trans hw272_3)⟩ (fun hHeld => ?_)
           clear hK K
           refine norm_ (a' := ?_) ?_ ?_
           rotate_left
           ·show Act.put _ (some 71) _ = _
            simp only [Act.put, sA, sB, sC, i64_w, i32_w]
            rfl
           refine one_ (i := 8) (N := some 15) #[true,true,true,true,true,true,true,true,true,false] rfl rfl (one_of HT_.out (by kernel_rfl)) (by decide) (fun K hK => ?_)
           refine box_step ?hg (N := 15) ?hd (cs := #[.int .i64 0, .int .i64 0]) (t := 25) ?hr ?_; (case hd => rfl); (case hg => rfl); (case hr => first | (go_simp; done) | (go_simp; rfl))
           intro gb275 hg w34 hbox hb
           have n0_ := Aside0.mk (blk_below (g := gb261) (o := .cells #[.int .i64 x262000_2, .int .i64 x262001_2, .int .i64 x262002_2] 23 (0, 0)) (by (with_reducible repeat (first | refine blk_drewN ?_ _ | refine blk_drew ?_ | refine blk_alloc ?_ _)); exact BK261.out) hb)
           have n1_ := Aside0.mk (blk_below (g := gb262) (o := .cells #[.int .i64 x263000_2, .int .i64 x263001_2] 25 (0, 0)) (by (with_reducible repeat (first | refine blk_drewN ?_ _ | refine blk_drew ?_ | refine blk_alloc ?_ _)); exact BK262.out) hb)
           have n2_ := Aside0.mk (below_step (by repeat (first | (with_reducible first | exact HB.out | apply below_alloc | apply pw_below_drewN | apply below_drew1 | refine below_set ?_ GE261.out | refine below_set ?_ GE262.out) | exact HB.out)) hb)
           have n3_ := Aside0.mk (hbox)
           have n4_ := Aside0.mk ((by rw [hg]; exact (below_size (by repeat (first | (with_reducible first | exact HB.out | apply below_alloc | apply pw_below_drewN | apply below_drew1 | refine below_set ?_ GE261.out | refine below_set ?_ GE262.out) | exact HB.out))) : w.heap.size ≤ gb275))
           have n5_ := Aside0.mk ((by rw [hg]; exact (below_size (by repeat (first | (with_reducible first | exact HB.out | apply below_alloc | apply pw_below_drewN | apply below_drew1 | refine below_set ?_ GE261.out | refine below_set ?_ GE262.out) | exact HB.out))) : w.heap.size ≤ gb275))
           have n6_ := Aside0.mk ((by rw [hg]; exact Nat.ne_of_lt (blk_lt (g := gb261) (o := .cells #[.int .i64 x262000_2, .int .i64 x262001_2, .int .i64 x262002_2] 23 (0, 0)) (by (with_reducible repeat (first | refine blk_drewN ?_ _ | refine blk_drew ?_ | refine blk_alloc ?_ _)); exact BK261.out)) : gb261 ≠ gb275))
           have n7_ := Aside0.mk ((by rw [hg]; exact Nat.ne_of_gt (blk_lt (g := gb261) (o := .cells #[.int .i64 x262000_2, .int .i64 x262001_2, .int .i64 x262002_2] 23 (0, 0)) (by (with_reducible repeat (first | refine blk_drewN ?_ _ | refine blk_drew ?_ | refine blk_alloc ?_ _)); exact BK261.out)) : gb275 ≠ gb261))
           have n8_ := Aside0.mk ((by rw [hg]; exact Nat.ne_of_lt (blk_lt (g := gb262) (o := .cells #[.int .i64 x263000_2, .int .i64 x263001_2] 25 (0, 0)) (by (with_reducible repeat (first | refine blk_drewN ?_ _ | refine blk_drew ?_ | refine blk_alloc ?_ _)); exact BK262.out)) : gb262 ≠ gb275))
           have n9_ := Aside0.mk ((by rw [hg]; exact Nat.ne_of_gt (blk_lt (g := gb262) (o := .cells #[.int .i64 x263000_2, .int .i64 x263001_2] 25 (0, 0)) (by (with_reducible repeat (first | refine blk_drewN ?_ _ | refine blk_drew ?_ | refine blk_alloc ?_ _)); exact BK262.out)) : gb275 ≠ gb262))
           clear BK261
           clear BK262
           clear HB
           have BK261 := n0_
           have BK262 := n1_
           have HB := n2_
           have BK275 := n3_
           have GW275 := n4_
           have GE275 := n5_
           have NB261_275 := n6_
           have NB275_261 := n7_
           have NB262_275 := n8_
           have NB275_262 := n9_
           clear n0_ n1_ n2_ n3_ n4_ n5_ n6_ n7_ n8_ n9_
           clear hb hbox hg
           refine hK.out _ _ ⟨(blk_cell BK262.out 0).trans rfl, (blk_cell BK262.out 1).trans rfl, ((HB.out.cell (World.block_lt_of_cell? w _ hw272_0)).trans hw272_0), ((HB.out.cell (World.block_lt_of_cell? w _ hw272_1)).trans hw272_1), ((HB.out.cell (World.block_lt_of_cell? w _ hw272_2)).trans hw272_2), ((HB.out.cell (World.block_lt_of_cell? w _ hw272_3)).trans hw272_3)⟩ (fun hHeld => ?_)
           clear hK K
           refine norm_ (a' := ?_) ?_ ?_
           rotate_left
           ·show Act.put _ (some 15) _ = _
            simp only [Act.put, sA, sB, sC, i64_w, i32_w]
            rfl
           exact norm_ (by simp only [putAll, Act.put, sA, sB, sC]) (hCont (gb275) _ ⟨hHeld, (by (with_reducible repeat (first | refine blk_drewN ?_ _ | refine blk_drew ?_ | refine blk_alloc ?_ _)); exact BK261.out), (by (with_reducible repeat (first | refine blk_drewN ?_ _ | refine blk_drew ?_ | refine blk_alloc ?_ _)); exact BK262.out), (by (with_reducible repeat (first | refine blk_drewN ?_ _ | refine blk_drew ?_ | refine blk_alloc ?_ _)); exact BK275.out), GW275.out, GE275.out, NB261_275.out, NB275_261.out, NB262_275.out, NB275_262.out, (by repeat (first | (with_reducible first | exact HB.out | apply below_alloc | apply pw_below_drewN | apply below_drew1 | refine below_set ?_ GE261.out | refine below_set ?_ GE262.out | refine below_set ?_ GE275.out) | exact HB.out))⟩)
          ·skip
           refine box_step ?hg (N := 15) ?hd (cs := #[.int .i64 0, .int .i64 0]) (t := 25) ?hr ?_; (case hd => rfl); (case hg => rfl); (case hr => first | (go_simp; done) | (go_simp; rfl))
           intro gb275 hg w33 hbox hb
           have n0_ := Aside0.mk (blk_below (g := gb261) (o := .cells #[.int .i64 x262000_2, .int .i64 x262001_2, .int .i64 x262002_2] 23 (0, 0)) (by (with_reducible repeat (first | refine blk_drewN ?_ _ | refine blk_drew ?_ | refine blk_alloc ?_ _)); exact BK261.out) hb)
           have n1_ := Aside0.mk (blk_below (g := gb262) (o := .cells #[.int .i64 x263000_2, .int .i64 x263001_2] 25 (0, 0)) (by (with_reducible repeat (first | refine blk_drewN ?_ _ | refine blk_drew ?_ | refine blk_alloc ?_ _)); exact BK262.out) hb)
           have n2_ := Aside0.mk (below_step (by repeat (first | (with_reducible first | exact HB.out | apply below_alloc | apply pw_below_drewN | apply below_drew1 | refine below_set ?_ GE261.out | refine below_set ?_ GE262.out) | exact HB.out)) hb)
           have n3_ := Aside0.mk (hbox)
           have n4_ := Aside0.mk ((by rw [hg]; exact (below_size (by repeat (first | (with_reducible first | exact HB.out | apply below_alloc | apply pw_below_drewN | apply below_drew1 | refine below_set ?_ GE261.out | refine below_set ?_ GE262.out) | exact HB.out))) : w.heap.size ≤ gb275))
           have n5_ := Aside0.mk ((by rw [hg]; exact (below_size (by repeat (first | (with_reducible first | exact HB.out | apply below_alloc | apply pw_below_drewN | apply below_drew1 | refine below_set ?_ GE261.out | refine below_set ?_ GE262.out) | exact HB.out))) : w.heap.size ≤ gb275))
           have n6_ := Aside0.mk ((by rw [hg]; exact Nat.ne_of_lt (blk_lt (g := gb261) (o := .cells #[.int .i64 x262000_2, .int .i64 x262001_2, .int .i64 x262002_2] 23 (0, 0)) (by (with_reducible repeat (first | refine blk_drewN ?_ _ | refine blk_drew ?_ | refine blk_alloc ?_ _)); exact BK261.out)) : gb261 ≠ gb275))
           have n7_ := Aside0.mk ((by rw [hg]; exact Nat.ne_of_gt (blk_lt (g := gb261) (o := .cells #[.int .i64 x262000_2, .int .i64 x262001_2, .int .i64 x262002_2] 23 (0, 0)) (by (with_reducible repeat (first | refine blk_drewN ?_ _ | refine blk_drew ?_ | refine blk_alloc ?_ _)); exact BK261.out)) : gb275 ≠ gb261))
           have n8_ := Aside0.mk ((by rw [hg]; exact Nat.ne_of_lt (blk_lt (g := gb262) (o := .cells #[.int .i64 x263000_2, .int .i64 x263001_2] 25 (0, 0)) (by (with_reducible repeat (first | refine blk_drewN ?_ _ | refine blk_drew ?_ | refine blk_alloc ?_ _)); exact BK262.out)) : gb262 ≠ gb275))
           have n9_ := Aside0.mk ((by rw [hg]; exact Nat.ne_of_gt (blk_lt (g := gb262) (o := .cells #[.int .i64 x263000_2, .int .i64 x263001_2] 25 (0, 0)) (by (with_reducible repeat (first | refine blk_drewN ?_ _ | refine blk_drew ?_ | refine blk_alloc ?_ _)); exact BK262.out)) : gb275 ≠ gb262))
           clear BK261
           clear BK262
           clear HB
           have BK261 := n0_
           have BK262 := n1_
           have HB := n2_
           have BK275 := n3_
           have GW275 := n4_
           have GE275 := n5_
           have NB261_275 := n6_
           have NB275_261 := n7_
           have NB262_275 := n8_
           have NB275_262 := n9_
           clear n0_ n1_ n2_ n3_ n4_ n5_ n6_ n7_ n8_ n9_
           clear hb hbox hg
           refine hK.out _ _ ⟨(blk_cell BK262.out 0).trans rfl, (blk_cell BK262.out 1).trans rfl, ((HB.out.cell (World.block_lt_of_cell? w _ hw272_0)).trans hw272_0), ((HB.out.cell (World.block_lt_of_cell? w _ hw272_1)).trans hw272_1), ((HB.out.cell (World.block_lt_of_cell? w _ hw272_2)).trans hw272_2), ((HB.out.cell (World.block_lt_of_cell? w _ hw272_3)).trans hw272_3)⟩ (fun hHeld => ?_)
           clear hK K
           refine norm_ (a' := ?_) ?_ ?_
           rotate_left
           ·show Act.put _ (some 15) _ = _
            simp only [Act.put, sA, sB, sC, i64_w, i32_w]
            rfl
           refine one_ (i := 7) (N := some 71) #[true,true,true,true,true,true,true,true,true,false] rfl rfl (one_of HT_.out (by kernel_rfl)) (by decide) (fun K hK => ?_)
           refine goes_ Try.func25 (by kernel_rfl) rfl #[.agg #[.int .i64 x263000_2, .int .i64 x263001_2], .int .i64 t271, .bool ((rd_T27 l2 x11_2).f3)] (by rfl) rfl rfl (by (try simp only [List.map_toArray, List.map_cons, List.map_nil]); first | done | rfl | (simp only [List.length_drop, List.length_take]; rfl)) ?_
           with_reducible refine (leaf_Leaf_Step.calls x263000_2 x263001_2 t271 ((rd_T27 l2 x11_2).f3) t273 t274 _ A27.out).mono ?_
           rintro e w34 ⟨rfl, hb⟩
           refine ⟨_, rfl, ?_⟩
           have n0_ := Aside0.mk (blk_below (g := gb261) (o := .cells #[.int .i64 x262000_2, .int .i64 x262001_2, .int .i64 x262002_2] 23 (0, 0)) (by (with_reducible repeat (first | refine blk_drewN ?_ _ | refine blk_drew ?_ | refine blk_alloc ?_ _)); exact BK261.out) hb)
           have n1_ := Aside0.mk (blk_below (g := gb262) (o := .cells #[.int .i64 x263000_2, .int .i64 x263001_2] 25 (0, 0)) (by (with_reducible repeat (first | refine blk_drewN ?_ _ | refine blk_drew ?_ | refine blk_alloc ?_ _)); exact BK262.out) hb)
           have n2_ := Aside0.mk (blk_below (g := gb275) (o := .cells #[.int .i64 0, .int .i64 0] 25 (0, 0)) (by (with_reducible repeat (first | refine blk_drewN ?_ _ | refine blk_drew ?_ | refine blk_alloc ?_ _)); exact BK275.out) hb)
           have n3_ := Aside0.mk (below_step (by repeat (first | (with_reducible first | exact HB.out | apply below_alloc | apply pw_below_drewN | apply below_drew1 | refine below_set ?_ GE261.out | refine below_set ?_ GE262.out | refine below_set ?_ GE275.out) | exact HB.out)) hb)
           clear BK261
           clear BK262
           clear BK275
           clear HB
           have BK261 := n0_
           have BK262 := n1_
           have BK275 := n2_
           have HB := n3_
           clear n0_ n1_ n2_ n3_
           (try clear hb)
           (try clear hb2)
           (try clear hk)
           (try clear hi)
           refine hK.out _ _ ⟨(blk_cell BK262.out 0).trans rfl, (blk_cell BK262.out 1).trans rfl, ((HB.out.cell (World.block_lt_of_cell? w _ hw272_0)).trans hw272_0), ((HB.out.cell (World.block_lt_of_cell? w _ hw272_1)).trans hw272_1), ((HB.out.cell (World.block_lt_of_cell? w _ hw272_2)).trans hw272_2), ((HB.out.cell (World.block_lt_of_cell? w _ hw272_3)).trans hw272_3)⟩ (fun hHeld => ?_)
           clear hK K
           refine norm_ (a' := ?_) ?_ ?_
           rotate_left
           ·show Act.put _ (some 71) _ = _
            simp only [Act.put, sA, sB, sC, i64_w, i32_w]
            rfl
           exact norm_ (by simp only [putAll, Act.put, sA, sB, sC]) (hCont (gb275) _ ⟨hHeld, (by (with_reducible repeat (first | refine blk_drewN ?_ _ | refine blk_drew ?_ | refine blk_alloc ?_ _)); exact BK261.out), (by (with_reducible repeat (first | refine blk_drewN ?_ _ | refine blk_drew ?_ | refine blk_alloc ?_ _)); exact BK262.out), (by (with_reducible repeat (first | refine blk_drewN ?_ _ | refine blk_drew ?_ | refine blk_alloc ?_ _)); exact BK275.out), GW275.out, GE275.out, NB261_275.out, NB275_261.out, NB262_275.out, NB275_262.out, (by repeat (first | (with_reducible first | exact HB.out | apply below_alloc | apply pw_below_drewN | apply below_drew1 | refine below_set ?_ GE261.out | refine below_set ?_ GE262.out | refine below_set ?_ GE275.out) | exact HB.out))⟩)
         rintro gb275 w35 ⟨hS_, h0_, h1_, h2_, h3_, h4_, h5_, h6_, h7_, h8_, h9_⟩
         have n0_ : Aside0 (w35.heap[gb261]? = some (.cells #[.int .i64 x262000_2, .int .i64 x262001_2, .int .i64 x262002_2] 23 (0, 0))) := ⟨h0_⟩
         have n1_ : Aside0 (w35.heap[gb262]? = some (.cells #[.int .i64 x263000_2, .int .i64 x263001_2] 25 (0, 0))) := ⟨h1_⟩
         have n2_ : Aside0 (w35.heap[gb275]? = some (.cells #[.int .i64 0, .int .i64 0] 25 (0, 0))) := ⟨h2_⟩
         have n3_ : Aside0 (w.heap.size ≤ gb275) := ⟨h3_⟩
         have n4_ : Aside0 (w.heap.size ≤ gb275) := ⟨h4_⟩
         have n5_ : Aside0 (gb261 ≠ gb275) := ⟨h5_⟩
         have n6_ : Aside0 (gb275 ≠ gb261) := ⟨h6_⟩
         have n7_ : Aside0 (gb262 ≠ gb275) := ⟨h7_⟩
         have n8_ : Aside0 (gb275 ≠ gb262) := ⟨h8_⟩
         have n9_ : Aside0 (Below w.heap.size w w35) := ⟨h9_⟩
         clear BK261
         clear BK262
         clear HB
         clear h0_ h1_ h2_ h3_ h4_ h5_ h6_ h7_ h8_ h9_
         have BK261 := n0_
         have BK262 := n1_
         have BK275 := n2_
         have GW275 := n3_
         have GE275 := n4_
         have NB261_275 := n5_
         have NB275_261 := n6_
         have NB262_275 := n7_
         have NB275_262 := n8_
         have HB := n9_
         clear n0_ n1_ n2_ n3_ n4_ n5_ n6_ n7_ n8_ n9_
         have hHeld : w35.cell? ⟨gb262, 0, none⟩ = some (.int .i64 x263000_2) ∧ w35.cell? ⟨gb262, 1, none⟩ = some (.int .i64 x263001_2) ∧ w35.cell? (ad266.add ((x11_2).toNat * 4)) = some (.int .i64 ((rd_T27 l2 x11_2).f0)) ∧ w35.cell? ⟨(ad266.add ((x11_2).toNat * 4)).block, (ad266.add ((x11_2).toNat * 4)).off + 1, none⟩ = some (.bool ((rd_T27 l2 x11_2).f1)) ∧ w35.cell? ⟨(ad266.add ((x11_2).toNat * 4)).block, (ad266.add ((x11_2).toNat * 4)).off + 2, none⟩ = some (.int .i64 ((rd_T27 l2 x11_2).f2)) ∧ w35.cell? ⟨(ad266.add ((x11_2).toNat * 4)).block, (ad266.add ((x11_2).toNat * 4)).off + 3, none⟩ = some (.bool ((rd_T27 l2 x11_2).f3)) := hS_
         refine norm_ (a' := ?_) ?_ ?_
         rotate_left
         ·simp only [putAll, Act.put, sA, sB, sC]
          rfl
         refine one_ (i := 9) (N := none) #[true,true,true,true,true,true,true,true,true,true] rfl rfl (one_of HT_.out (by kernel_rfl)) (by decide) (fun K hK => ?_)
         have hs36 : w35.cell? ⟨gb275, 0, none⟩ = some (.int .i64 0) := (blk_cell BK275.out 0).trans rfl
         have hfs36 := blk_frozen BK275.out 0
         have hns36_0 := NB261_275.out
         have hns36_1 := NB262_275.out
         have hms36_0 := NB275_261.out
         have hms36_1 := NB275_262.out
         have hs37 : w35.cell? ⟨gb275, 1, none⟩ = some (.int .i64 0) := (blk_cell BK275.out 1).trans rfl
         have hfs37 := blk_frozen BK275.out 1
         have hns37_0 := NB261_275.out
         have hns37_1 := NB262_275.out
         have hms37_0 := NB275_261.out
         have hms37_1 := NB275_262.out
         refine skip_ (w1 := ?_) (by rfl) rfl ?_ ?_
         rotate_left
         ·go_simp
          rfl
         refine hK.out _ _ ⟨((cell_far (p := ⟨gb275, _, none⟩) NB262_275.out _).trans (((cell_far (p := ⟨gb275, _, none⟩) NB262_275.out _).trans (hHeld.1)))), ((cell_far (p := ⟨gb275, _, none⟩) NB262_275.out _).trans (((cell_far (p := ⟨gb275, _, none⟩) NB262_275.out _).trans (hHeld.2.1)))), ((cell_far (p := ⟨gb275, _, none⟩) (by first | exact Nat.ne_of_lt (Nat.lt_of_lt_of_le (by have := World.block_lt_of_cell? _ _ hw272_0; first | rwa [add_block] at this | exact this) GW275.out) | (rw [add_block]; exact Nat.ne_of_lt (Nat.lt_of_lt_of_le (by have := World.block_lt_of_cell? _ _ hw272_0; first | rwa [add_block] at this | exact this) GW275.out)) | (show (Addr.add _ _).block ≠ _; rw [add_block]; exact Nat.ne_of_lt (Nat.lt_of_lt_of_le (by have := World.block_lt_of_cell? _ _ hw272_0; first | rwa [add_block] at this | exact this) GW275.out)) | (dsimp only; exact Nat.ne_of_lt (Nat.lt_of_lt_of_le (by have := World.block_lt_of_cell? _ _ hw272_0; first | rwa [add_block] at this | exact this) GW275.out))) _).trans (((cell_far (p := ⟨gb275, _, none⟩) (by first | exact Nat.ne_of_lt (Nat.lt_of_lt_of_le (by have := World.block_lt_of_cell? _ _ hw272_0; first | rwa [add_block] at this | exact this) GW275.out) | (rw [add_block]; exact Nat.ne_of_lt (Nat.lt_of_lt_of_le (by have := World.block_lt_of_cell? _ _ hw272_0; first | rwa [add_block] at this | exact this) GW275.out)) | (show (Addr.add _ _).block ≠ _; rw [add_block]; exact Nat.ne_of_lt (Nat.lt_of_lt_of_le (by have := World.block_lt_of_cell? _ _ hw272_0; first | rwa [add_block] at this | exact this) GW275.out)) | (dsimp only; exact Nat.ne_of_lt (Nat.lt_of_lt_of_le (by have := World.block_lt_of_cell? _ _ hw272_0; first | rwa [add_block] at this | exact this) GW275.out))) _).trans (hHeld.2.2.1)))), ((cell_far (p := ⟨gb275, _, none⟩) (by first | exact Nat.ne_of_lt (Nat.lt_of_lt_of_le (by have := World.block_lt_of_cell? _ _ hw272_1; first | rwa [add_block] at this | exact this) GW275.out) | (rw [add_block]; exact Nat.ne_of_lt (Nat.lt_of_lt_of_le (by have := World.block_lt_of_cell? _ _ hw272_1; first | rwa [add_block] at this | exact this) GW275.out)) | (show (Addr.add _ _).block ≠ _; rw [add_block]; exact Nat.ne_of_lt (Nat.lt_of_lt_of_le (by have := World.block_lt_of_cell? _ _ hw272_1; first | rwa [add_block] at this | exact this) GW275.out)) | (dsimp only; exact Nat.ne_of_lt (Nat.lt_of_lt_of_le (by have := World.block_lt_of_cell? _ _ hw272_1; first | rwa [add_block] at this | exact this) GW275.out))) _).trans (((cell_far (p := ⟨gb275, _, none⟩) (by first | exact Nat.ne_of_lt (Nat.lt_of_lt_of_le (by have := World.block_lt_of_cell? _ _ hw272_1; first | rwa [add_block] at this | exact this) GW275.out) | (rw [add_block]; exact Nat.ne_of_lt (Nat.lt_of_lt_of_le (by have := World.block_lt_of_cell? _ _ hw272_1; first | rwa [add_block] at this | exact this) GW275.out)) | (show (Addr.add _ _).block ≠ _; rw [add_block]; exact Nat.ne_of_lt (Nat.lt_of_lt_of_le (by have := World.block_lt_of_cell? _ _ hw272_1; first | rwa [add_block] at this | exact this) GW275.out)) | (dsimp only; exact Nat.ne_of_lt (Nat.lt_of_lt_of_le (by have := World.block_lt_of_cell? _ _ hw272_1; first | rwa [add_block] at this | exact this) GW275.out))) _).trans (hHeld.2.2.2.1)))), ((cell_far (p := ⟨gb275, _, none⟩) (by first | exact Nat.ne_of_lt (Nat.lt_of_lt_of_le (by have := World.block_lt_of_cell? _ _ hw272_2; first | rwa [add_block] at this | exact this) GW275.out) | (rw [add_block]; exact Nat.ne_of_lt (Nat.lt_of_lt_of_le (by have := World.block_lt_of_cell? _ _ hw272_2; first | rwa [add_block] at this | exact this) GW275.out)) | (show (Addr.add _ _).block ≠ _; rw [add_block]; exact Nat.ne_of_lt (Nat.lt_of_lt_of_le (by have := World.block_lt_of_cell? _ _ hw272_2; first | rwa [add_block] at this | exact this) GW275.out)) | (dsimp only; exact Nat.ne_of_lt (Nat.lt_of_lt_of_le (by have := World.block_lt_of_cell? _ _ hw272_2; first | rwa [add_block] at this | exact this) GW275.out))) _).trans (((cell_far (p := ⟨gb275, _, none⟩) (by first | exact Nat.ne_of_lt (Nat.lt_of_lt_of_le (by have := World.block_lt_of_cell? _ _ hw272_2; first | rwa [add_block] at this | exact this) GW275.out) | (rw [add_block]; exact Nat.ne_of_lt (Nat.lt_of_lt_of_le (by have := World.block_lt_of_cell? _ _ hw272_2; first | rwa [add_block] at this | exact this) GW275.out)) | (show (Addr.add _ _).block ≠ _; rw [add_block]; exact Nat.ne_of_lt (Nat.lt_of_lt_of_le (by have := World.block_lt_of_cell? _ _ hw272_2; first | rwa [add_block] at this | exact this) GW275.out)) | (dsimp only; exact Nat.ne_of_lt (Nat.lt_of_lt_of_le (by have := World.block_lt_of_cell? _ _ hw272_2; first | rwa [add_block] at this | exact this) GW275.out))) _).trans (hHeld.2.2.2.2.1)))), ((cell_far (p := ⟨gb275, _, none⟩) (by first | exact Nat.ne_of_lt (Nat.lt_of_lt_of_le (by have := World.block_lt_of_cell? _ _ hw272_3; first | rwa [add_block] at this | exact this) GW275.out) | (rw [add_block]; exact Nat.ne_of_lt (Nat.lt_of_lt_of_le (by have := World.block_lt_of_cell? _ _ hw272_3; first | rwa [add_block] at this | exact this) GW275.out)) | (show (Addr.add _ _).block ≠ _; rw [add_block]; exact Nat.ne_of_lt (Nat.lt_of_lt_of_le (by have := World.block_lt_of_cell? _ _ hw272_3; first | rwa [add_block] at this | exact this) GW275.out)) | (dsimp only; exact Nat.ne_of_lt (Nat.lt_of_lt_of_le (by have := World.block_lt_of_cell? _ _ hw272_3; first | rwa [add_block] at this | exact this) GW275.out))) _).trans (((cell_far (p := ⟨gb275, _, none⟩) (by first | exact Nat.ne_of_lt (Nat.lt_of_lt_of_le (by have := World.block_lt_of_cell? _ _ hw272_3; first | rwa [add_block] at this | exact this) GW275.out) | (rw [add_block]; exact Nat.ne_of_lt (Nat.lt_of_lt_of_le (by have := World.block_lt_of_cell? _ _ hw272_3; first | rwa [add_block] at this | exact this) GW275.out)) | (show (Addr.add _ _).block ≠ _; rw [add_block]; exact Nat.ne_of_lt (Nat.lt_of_lt_of_le (by have := World.block_lt_of_cell? _ _ hw272_3; first | rwa [add_block] at this | exact this) GW275.out)) | (dsimp only; exact Nat.ne_of_lt (Nat.lt_of_lt_of_le (by have := World.block_lt_of_cell? _ _ hw272_3; first | rwa [add_block] at this | exact this) GW275.out))) _).trans (hHeld.2.2.2.2.2))))⟩ (fun hHeld => ?_)
         clear hK K
         refine done_ (done_of HT_.out (by kernel_rfl)) ?_
         have hnb38 := NB261_262.out
         have hnc38 := NB262_261.out
         have hnb39 := NB261_275.out
         have hnc39 := NB275_261.out
         have hcz40_0 : w35.cell? ⟨gb261, 0, none⟩ = some (.int .i64 x262000_2) := (blk_cell BK261.out 0).trans rfl
         have hcz40_1 : w35.cell? ⟨gb261, 1, none⟩ = some (.int .i64 x262001_2) := (blk_cell BK261.out 1).trans rfl
         have hcz40_2 : w35.cell? ⟨gb261, 2, none⟩ = some (.int .i64 x262002_2) := (blk_cell BK261.out 2).trans rfl
         have hfz40_0 := blk_frozen BK261.out 0
         have hfz40_1 := blk_frozen BK261.out 1
         have hfz40_2 := blk_frozen BK261.out 2
         go_upto_region 13 with (first | ((with_reducible refine gate_callee (f := 28) rfl ?_); refine goesL_ (some 76) rfl rfl Try.func28 (by kernel_rfl) rfl #[.agg #[.int .i64 x262000_2, .int .i64 x262001_2, .int .i64 x262002_2], .int .i64 t269, .bool t270, .int .i64 a3] rfl (by (try simp only [List.map_toArray, List.map_cons, List.map_nil]); first | done | rfl | (simp only [List.length_drop, List.length_take]; rfl)) ?_; (with_reducible refine (car_Car_Step.calls x262000_2 x262001_2 x262002_2 t269 t270 a3 t276 t277 t278 _ A28.out).mono ?_); rintro e w41 ⟨rfl, hb⟩; refine ⟨_, rfl, ?_⟩; have n0_ := Aside0.mk (blk_below (g := gb261) (o := .cells #[.int .i64 x262000_2, .int .i64 x262001_2, .int .i64 x262002_2] 23 (0, 0)) (by (with_reducible repeat (first | refine blk_drewN ?_ _ | refine blk_drew ?_ | refine blk_alloc ?_ _)); refine blk_far ?_ NB261_275.out _; (with_reducible repeat (first | refine blk_drewN ?_ _ | refine blk_drew ?_ | refine blk_alloc ?_ _)); refine blk_far ?_ NB261_275.out _; (with_reducible repeat (first | refine blk_drewN ?_ _ | refine blk_drew ?_ | refine blk_alloc ?_ _)); exact BK261.out) hb); have n1_ := Aside0.mk (blk_below (g := gb262) (o := .cells #[.int .i64 x263000_2, .int .i64 x263001_2] 25 (0, 0)) (by (with_reducible repeat (first | refine blk_drewN ?_ _ | refine blk_drew ?_ | refine blk_alloc ?_ _)); refine blk_far ?_ NB262_275.out _; (with_reducible repeat (first | refine blk_drewN ?_ _ | refine blk_drew ?_ | refine blk_alloc ?_ _)); refine blk_far ?_ NB262_275.out _; (with_reducible repeat (first | refine blk_drewN ?_ _ | refine blk_drew ?_ | refine blk_alloc ?_ _)); exact BK262.out) hb); have n2_ := Aside0.mk (blk_below (g := gb275) (o := .cells #[.int .i64 t273, .int .i64 t274] 25 (0, 0)) (by (with_reducible repeat (first | refine blk_drewN ?_ _ | refine blk_drew ?_ | refine blk_alloc ?_ _)); refine blk_put (cs := #[.int .i64 t273, .int .i64 0]) ?_ 1 _ rfl; (with_reducible repeat (first | refine blk_drewN ?_ _ | refine blk_drew ?_ | refine blk_alloc ?_ _)); refine blk_put (cs := #[.int .i64 0, .int .i64 0]) ?_ 0 _ rfl; (with_reducible repeat (first | refine blk_drewN ?_ _ | refine blk_drew ?_ | refine blk_alloc ?_ _)); exact BK275.out) hb); have n3_ := Aside0.mk (below_step (by repeat (first | (with_reducible first | exact HB.out | apply below_alloc | apply pw_below_drewN | apply below_drew1 | refine below_set ?_ GE261.out | refine below_set ?_ GE262.out | refine below_set ?_ GE275.out) | exact HB.out)) hb); clear BK261; clear BK262; clear BK275; clear HB; have BK261 := n0_; have BK262 := n1_; have BK275 := n2_; have HB := n3_; clear n0_ n1_ n2_ n3_; (try clear hb); (try clear hb2); (try clear hk); (try clear hi)) | ((with_reducible refine gate_dst (N := 16) rfl ?_); (try (refine gate_guard (by rfl) ?_; dsimp only)); refine box_event ?hg (N := 16) ?hd (cs := #[.int .i64 0, .int .i64 0, .int .i64 0]) (t := 23) ?hr ?_; (case hd => rfl); (case hg => rfl); (case hr => first | (go_simp; done) | (go_simp; rfl)); intro gb279 hg w42 hbox hb; have n0_ := Aside0.mk (blk_below (g := gb261) (o := .cells #[.int .i64 x262000_2, .int .i64 x262001_2, .int .i64 x262002_2] 23 (0, 0)) (by (with_reducible repeat (first | refine blk_drewN ?_ _ | refine blk_drew ?_ | refine blk_alloc ?_ _)); exact BK261.out) hb); have n1_ := Aside0.mk (blk_below (g := gb262) (o := .cells #[.int .i64 x263000_2, .int .i64 x263001_2] 25 (0, 0)) (by (with_reducible repeat (first | refine blk_drewN ?_ _ | refine blk_drew ?_ | refine blk_alloc ?_ _)); exact BK262.out) hb); have n2_ := Aside0.mk (blk_below (g := gb275) (o := .cells #[.int .i64 t273, .int .i64 t274] 25 (0, 0)) (by (with_reducible repeat (first | refine blk_drewN ?_ _ | refine blk_drew ?_ | refine blk_alloc ?_ _)); exact BK275.out) hb); have n3_ := Aside0.mk (below_step (by repeat (first | (with_reducible first | exact HB.out | apply below_alloc | apply pw_below_drewN | apply below_drew1 | refine below_set ?_ GE261.out | refine below_set ?_ GE262.out | refine below_set ?_ GE275.out) | exact HB.out)) hb); have n4_ := Aside0.mk (hbox); have n5_ := Aside0.mk ((by rw [hg]; exact (below_size (by repeat (first | (with_reducible first | exact HB.out | apply below_alloc | apply pw_below_drewN | apply below_drew1 | refine below_set ?_ GE261.out | refine below_set ?_ GE262.out | refine below_set ?_ GE275.out) | exact HB.out))) : w.heap.size ≤ gb279)); have n6_ := Aside0.mk ((by rw [hg]; exact (below_size (by repeat (first | (with_reducible first | exact HB.out | apply below_alloc | apply pw_below_drewN | apply below_drew1 | refine below_set ?_ GE261.out | refine below_set ?_ GE262.out | refine below_set ?_ GE275.out) | exact HB.out))) : w.heap.size ≤ gb279)); have n7_ := Aside0.mk ((by rw [hg]; exact Nat.ne_of_lt (blk_lt (g := gb261) (o := .cells #[.int .i64 x262000_2, .int .i64 x262001_2, .int .i64 x262002_2] 23 (0, 0)) (by (with_reducible repeat (first | refine blk_drewN ?_ _ | refine blk_drew ?_ | refine blk_alloc ?_ _)); exact BK261.out)) : gb261 ≠ gb279)); have n8_ := Aside0.mk ((by rw [hg]; exact Nat.ne_of_gt (blk_lt (g := gb261) (o := .cells #[.int .i64 x262000_2, .int .i64 x262001_2, .int .i64 x262002_2] 23 (0, 0)) (by (with_reducible repeat (first | refine blk_drewN ?_ _ | refine blk_drew ?_ | refine blk_alloc ?_ _)); exact BK261.out)) : gb279 ≠ gb261)); have n9_ := Aside0.mk ((by rw [hg]; exact Nat.ne_of_lt (blk_lt (g := gb262) (o := .cells #[.int .i64 x263000_2, .int .i64 x263001_2] 25 (0, 0)) (by (with_reducible repeat (first | refine blk_drewN ?_ _ | refine blk_drew ?_ | refine blk_alloc ?_ _)); exact BK262.out)) : gb262 ≠ gb279)); have n10_ := Aside0.mk ((by rw [hg]; exact Nat.ne_of_gt (blk_lt (g := gb262) (o := .cells #[.int .i64 x263000_2, .int .i64 x263001_2] 25 (0, 0)) (by (with_reducible repeat (first | refine blk_drewN ?_ _ | refine blk_drew ?_ | refine blk_alloc ?_ _)); exact BK262.out)) : gb279 ≠ gb262)); have n11_ := Aside0.mk ((by rw [hg]; exact Nat.ne_of_lt (blk_lt (g := gb275) (o := .cells #[.int .i64 t273, .int .i64 t274] 25 (0, 0)) (by (with_reducible repeat (first | refine blk_drewN ?_ _ | refine blk_drew ?_ | refine blk_alloc ?_ _)); exact BK275.out)) : gb275 ≠ gb279)); have n12_ := Aside0.mk ((by rw [hg]; exact Nat.ne_of_gt (blk_lt (g := gb275) (o := .cells #[.int .i64 t273, .int .i64 t274] 25 (0, 0)) (by (with_reducible repeat (first | refine blk_drewN ?_ _ | refine blk_drew ?_ | refine blk_alloc ?_ _)); exact BK275.out)) : gb279 ≠ gb275)); clear BK261; clear BK262; clear BK275; clear HB; have BK261 := n0_; have BK262 := n1_; have BK275 := n2_; have HB := n3_; have BK279 := n4_; have GW279 := n5_; have GE279 := n6_; have NB261_279 := n7_; have NB279_261 := n8_; have NB262_279 := n9_; have NB279_262 := n10_; have NB275_279 := n11_; have NB279_275 := n12_; clear n0_ n1_ n2_ n3_ n4_ n5_ n6_ n7_ n8_ n9_ n10_ n11_ n12_; clear hb hbox hg; have hnb43 := NB279_261.out; have hnc43 := NB261_279.out; have hnb44 := NB279_262.out; have hnc44 := NB262_279.out; have hnb45 := NB279_275.out; have hnc45 := NB275_279.out; have hcz46_0 : w42.cell? ⟨gb279, 0, none⟩ = some (.int .i64 0) := (blk_cell BK279.out 0).trans rfl; have hcz46_1 : w42.cell? ⟨gb279, 1, none⟩ = some (.int .i64 0) := (blk_cell BK279.out 1).trans rfl; have hcz46_2 : w42.cell? ⟨gb279, 2, none⟩ = some (.int .i64 0) := (blk_cell BK279.out 2).trans rfl; have hfz46_0 := blk_frozen BK279.out 0; have hfz46_1 := blk_frozen BK279.out 1; have hfz46_2 := blk_frozen BK279.out 2))
         (try simp only [Act.put, sA, sB, sC])
         go_cut [105] (fun v105 wc => ∃ (kq : Nat) (x105_28 : Bool), v105 = .bool x105_28 ∧ Aside0 (paternosterlaw12_LockOpens.j2 kq l2 a3 x11_2 x105_28 t273 t274 t276 t277 t278 = some r) ∧ Aside0 (kq ≤ k2) ∧ Aside0 (wc.heap[gb261]? = some (.cells #[.int .i64 x262000_2, .int .i64 x262001_2, .int .i64 x262002_2] 23 (0, 0))) ∧ Aside0 (wc.heap[gb262]? = some (.cells #[.int .i64 x263000_2, .int .i64 x263001_2] 25 (0, 0))) ∧ Aside0 (wc.heap[gb275]? = some (.cells #[.int .i64 t273, .int .i64 t274] 25 (0, 0))) ∧ Aside0 (wc.heap[gb279]? = some (.cells #[.int .i64 t276, .int .i64 t277, .int .i64 t278] 23 (0, 0))) ∧ Aside0 (Below w.heap.size w wc))
         case first =>
          have H := HC29.out
          clear HC29
          replace H := Option.bind_eq_some_iff.mp H
          obtain ⟨t280, A470, H⟩ := H
          replace H : (if t280 = true then ((leaf_Leaf_Shut.f x263000_2 x263001_2).bind fun t281 => (if t281 = true then ((leaf_Leaf_Shut.f t273 t274).bind fun t282 => (if t282 = true then (paternosterlaw12_LockOpens.j2 k2 l2 a3 x11_2 false t273 t274 t276 t277 t278) else ((car_Car_Level.f x262000_2 x262001_2 x262002_2).bind fun t283 => (paternosterlaw12_LockOpens.j2 k2 l2 a3 x11_2 (!t283) t273 t274 t276 t277 t278)))) else (paternosterlaw12_LockOpens.j2 k2 l2 a3 x11_2 false t273 t274 t276 t277 t278))) else (if t276 = x262000_2 then (if t277 = 0 then ((leaf_Leaf_Shut.f x263000_2 x263001_2).bind fun t284 => (if t284 = true then ((leaf_Leaf_Shut.f t273 t274).bind fun t285 => (if t285 = true then (paternosterlaw12_LockOpens.j2 k2 l2 a3 x11_2 false t273 t274 t276 t277 t278) else ((car_Car_Level.f x262000_2 x262001_2 x262002_2).bind fun t286 => (paternosterlaw12_LockOpens.j2 k2 l2 a3 x11_2 (!t286) t273 t274 t276 t277 t278)))) else (paternosterlaw12_LockOpens.j2 k2 l2 a3 x11_2 false t273 t274 t276 t277 t278))) else (paternosterlaw12_LockOpens.j2 k2 l2 a3 x11_2 true t273 t274 t276 t277 t278)) else (paternosterlaw12_LockOpens.j2 k2 l2 a3 x11_2 true t273 t274 t276 t277 t278))) = some r := H
          have A47 := Aside0.mk A470
          clear A470
          by_cases c48 : t280 = true
          ·subst c48
           have H1 : ((leaf_Leaf_Shut.f x263000_2 x263001_2).bind fun t281 => (if t281 = true then ((leaf_Leaf_Shut.f t273 t274).bind fun t282 => (if t282 = true then (paternosterlaw12_LockOpens.j2 k2 l2 a3 x11_2 false t273 t274 t276 t277 t278) else ((car_Car_Level.f x262000_2 x262001_2 x262002_2).bind fun t283 => (paternosterlaw12_LockOpens.j2 k2 l2 a3 x11_2 (!t283) t273 t274 t276 t277 t278)))) else (paternosterlaw12_LockOpens.j2 k2 l2 a3 x11_2 false t273 t274 t276 t277 t278))) = some r := by rw [if_pos rfl] at H; exact H
           clear H
           have H := H1
           clear H1
           replace H := Option.bind_eq_some_iff.mp H
           obtain ⟨t281, A490, H⟩ := H
           replace H : (if t281 = true then ((leaf_Leaf_Shut.f t273 t274).bind fun t282 => (if t282 = true then (paternosterlaw12_LockOpens.j2 k2 l2 a3 x11_2 false t273 t274 t276 t277 t278) else ((car_Car_Level.f x262000_2 x262001_2 x262002_2).bind fun t283 => (paternosterlaw12_LockOpens.j2 k2 l2 a3 x11_2 (!t283) t273 t274 t276 t277 t278)))) else (paternosterlaw12_LockOpens.j2 k2 l2 a3 x11_2 false t273 t274 t276 t277 t278)) = some r := H
           have A49 := Aside0.mk A490
           clear A490
           by_cases c50 : t281 = true
           ·subst c50
            have H1 : ((leaf_Leaf_Shut.f t273 t274).bind fun t282 => (if t282 = true then (paternosterlaw12_LockOpens.j2 k2 l2 a3 x11_2 false t273 t274 t276 t277 t278) else ((car_Car_Level.f x262000_2 x262001_2 x262002_2).bind fun t283 => (paternosterlaw12_LockOpens.j2 k2 l2 a3 x11_2 (!t283) t273 t274 t276 t277 t278)))) = some r := by rw [if_pos rfl] at H; exact H
            clear H
            have H := H1
            clear H1
            replace H := Option.bind_eq_some_iff.mp H
            obtain ⟨t282, A510, H⟩ := H
            replace H : (if t282 = true then (paternosterlaw12_LockOpens.j2 k2 l2 a3 x11_2 false t273 t274 t276 t277 t278) else ((car_Car_Level.f x262000_2 x262001_2 x262002_2).bind fun t283 => (paternosterlaw12_LockOpens.j2 k2 l2 a3 x11_2 (!t283) t273 t274 t276 t277 t278))) = some r := H
            have A51 := Aside0.mk A510
            clear A510
            by_cases c52 : t282 = true
            ·subst c52
             have H1 : (paternosterlaw12_LockOpens.j2 k2 l2 a3 x11_2 false t273 t274 t276 t277 t278) = some r := by rw [if_pos rfl] at H; exact H
             clear H
             have H := H1
             clear H1
             have H' := Aside0.mk H
             clear H
             have hnb53 := NB262_261.out
             have hnc53 := NB261_262.out
             have hnb54 := NB262_275.out
             have hnc54 := NB275_262.out
             have hnb55 := NB262_279.out
             have hnc55 := NB279_262.out
             have hcz56_0 : w42.cell? ⟨gb262, 0, none⟩ = some (.int .i64 x263000_2) := (blk_cell BK262.out 0).trans rfl
             have hcz56_1 : w42.cell? ⟨gb262, 1, none⟩ = some (.int .i64 x263001_2) := (blk_cell BK262.out 1).trans rfl
             have hfz56_0 := blk_frozen BK262.out 0
             have hfz56_1 := blk_frozen BK262.out 1
             go_wp2_with (first | ((with_reducible refine gate_callee (f := 27) rfl ?_); refine goesL_ (some 78) rfl rfl Try.func27 (by kernel_rfl) rfl #[.agg #[.int .i64 x263000_2, .int .i64 x263001_2]] rfl (by (try simp only [List.map_toArray, List.map_cons, List.map_nil]); first | done | rfl | (simp only [List.length_drop, List.length_take]; rfl)) ?_; (with_reducible refine (leaf_Leaf_Shut.calls x263000_2 x263001_2 true _ A47.out).mono ?_); rintro e w57 ⟨rfl, hb⟩; clear A47; refine ⟨_, rfl, ?_⟩; have n0_ := Aside0.mk (blk_below (g := gb261) (o := .cells #[.int .i64 x262000_2, .int .i64 x262001_2, .int .i64 x262002_2] 23 (0, 0)) (by (with_reducible repeat (first | refine blk_drewN ?_ _ | refine blk_drew ?_ | refine blk_alloc ?_ _)); refine blk_far ?_ NB261_279.out _; (with_reducible repeat (first | refine blk_drewN ?_ _ | refine blk_drew ?_ | refine blk_alloc ?_ _)); refine blk_far ?_ NB261_279.out _; (with_reducible repeat (first | refine blk_drewN ?_ _ | refine blk_drew ?_ | refine blk_alloc ?_ _)); refine blk_far ?_ NB261_279.out _; (with_reducible repeat (first | refine blk_drewN ?_ _ | refine blk_drew ?_ | refine blk_alloc ?_ _)); exact BK261.out) hb); have n1_ := Aside0.mk (blk_below (g := gb262) (o := .cells #[.int .i64 x263000_2, .int .i64 x263001_2] 25 (0, 0)) (by (with_reducible repeat (first | refine blk_drewN ?_ _ | refine blk_drew ?_ | refine blk_alloc ?_ _)); refine blk_far ?_ NB262_279.out _; (with_reducible repeat (first | refine blk_drewN ?_ _ | refine blk_drew ?_ | refine blk_alloc ?_ _)); refine blk_far ?_ NB262_279.out _; (with_reducible repeat (first | refine blk_drewN ?_ _ | refine blk_drew ?_ | refine blk_alloc ?_ _)); refine blk_far ?_ NB262_279.out _; (with_reducible repeat (first | refine blk_drewN ?_ _ | refine blk_drew ?_ | refine blk_alloc ?_ _)); exact BK262.out) hb); have n2_ := Aside0.mk (blk_below (g := gb275) (o := .cells #[.int .i64 t273, .int .i64 t274] 25 (0, 0)) (by (with_reducible repeat (first | refine blk_drewN ?_ _ | refine blk_drew ?_ | refine blk_alloc ?_ _)); refine blk_far ?_ NB275_279.out _; (with_reducible repeat (first | refine blk_drewN ?_ _ | refine blk_drew ?_ | refine blk_alloc ?_ _)); refine blk_far ?_ NB275_279.out _; (with_reducible repeat (first | refine blk_drewN ?_ _ | refine blk_drew ?_ | refine blk_alloc ?_ _)); refine blk_far ?_ NB275_279.out _; (with_reducible repeat (first | refine blk_drewN ?_ _ | refine blk_drew ?_ | refine blk_alloc ?_ _)); exact BK275.out) hb); have n3_ := Aside0.mk (blk_below (g := gb279) (o := .cells #[.int .i64 t276, .int .i64 t277, .int .i64 t278] 23 (0, 0)) (by (with_reducible repeat (first | refine blk_drewN ?_ _ | refine blk_drew ?_ | refine blk_alloc ?_ _)); refine blk_put (cs := #[.int .i64 t276, .int .i64 t277, .int .i64 0]) ?_ 2 _ rfl; (with_reducible repeat (first | refine blk_drewN ?_ _ | refine blk_drew ?_ | refine blk_alloc ?_ _)); refine blk_put (cs := #[.int .i64 t276, .int .i64 0, .int .i64 0]) ?_ 1 _ rfl; (with_reducible repeat (first | refine blk_drewN ?_ _ | refine blk_drew ?_ | refine blk_alloc ?_ _)); refine blk_put (cs := #[.int .i64 0, .int .i64 0, .int .i64 0]) ?_ 0 _ rfl; (with_reducible repeat (first | refine blk_drewN ?_ _ | refine blk_drew ?_ | refine blk_alloc ?_ _)); exact BK279.out) hb); have n4_ := Aside0.mk (below_step (by repeat (first | (with_reducible first | exact HB.out | apply below_alloc | apply pw_below_drewN | apply below_drew1 | refine below_set ?_ GE261.out | refine below_set ?_ GE262.out | refine below_set ?_ GE275.out | refine below_set ?_ GE279.out) | exact HB.out)) hb); clear BK261; clear BK262; clear BK275; clear BK279; clear HB; have BK261 := n0_; have BK262 := n1_; have BK275 := n2_; have BK279 := n3_; have HB := n4_; clear n0_ n1_ n2_ n3_ n4_; (try clear hb); (try clear hb2); (try clear hk); (try clear hi); have hcz58_0 : w57.cell? ⟨gb262, 0, none⟩ = some (.int .i64 x263000_2) := (blk_cell BK262.out 0).trans rfl; have hcz58_1 : w57.cell? ⟨gb262, 1, none⟩ = some (.int .i64 x263001_2) := (blk_cell BK262.out 1).trans rfl; have hfz58_0 := blk_frozen BK262.out 0; have hfz58_1 := blk_frozen BK262.out 1) | (go_at_call 27; (with_reducible refine (leaf_Leaf_Shut.calls x263000_2 x263001_2 true _ A49.out).mono ?_); rintro e w59 ⟨rfl, hb⟩; clear A49; have n0_ := Aside0.mk (blk_below (g := gb261) (o := .cells #[.int .i64 x262000_2, .int .i64 x262001_2, .int .i64 x262002_2] 23 (0, 0)) (by (with_reducible repeat (first | refine blk_drewN ?_ _ | refine blk_drew ?_ | refine blk_alloc ?_ _)); exact BK261.out) hb); have n1_ := Aside0.mk (blk_below (g := gb262) (o := .cells #[.int .i64 x263000_2, .int .i64 x263001_2] 25 (0, 0)) (by (with_reducible repeat (first | refine blk_drewN ?_ _ | refine blk_drew ?_ | refine blk_alloc ?_ _)); exact BK262.out) hb); have n2_ := Aside0.mk (blk_below (g := gb275) (o := .cells #[.int .i64 t273, .int .i64 t274] 25 (0, 0)) (by (with_reducible repeat (first | refine blk_drewN ?_ _ | refine blk_drew ?_ | refine blk_alloc ?_ _)); exact BK275.out) hb); have n3_ := Aside0.mk (blk_below (g := gb279) (o := .cells #[.int .i64 t276, .int .i64 t277, .int .i64 t278] 23 (0, 0)) (by (with_reducible repeat (first | refine blk_drewN ?_ _ | refine blk_drew ?_ | refine blk_alloc ?_ _)); exact BK279.out) hb); have n4_ := Aside0.mk (below_step (by repeat (first | (with_reducible first | exact HB.out | apply below_alloc | apply pw_below_drewN | apply below_drew1 | refine below_set ?_ GE261.out | refine below_set ?_ GE262.out | refine below_set ?_ GE275.out | refine below_set ?_ GE279.out) | exact HB.out)) hb); clear BK261; clear BK262; clear BK275; clear BK279; clear HB; have BK261 := n0_; have BK262 := n1_; have BK275 := n2_; have BK279 := n3_; have HB := n4_; clear n0_ n1_ n2_ n3_ n4_; (try clear hb); (try clear hb2); (try clear hk); (try clear hi); have hnb60 := NB275_261.out; have hnc60 := NB261_275.out; have hnb61 := NB275_279.out; have hnc61 := NB279_275.out; have hcz62_0 : w59.cell? ⟨gb275, 0, none⟩ = some (.int .i64 t273) := (blk_cell BK275.out 0).trans rfl; have hcz62_1 : w59.cell? ⟨gb275, 1, none⟩ = some (.int .i64 t274) := (blk_cell BK275.out 1).trans rfl; have hfz62_0 := blk_frozen BK275.out 0; have hfz62_1 := blk_frozen BK275.out 1) | (go_at_call 27; (with_reducible refine (leaf_Leaf_Shut.calls t273 t274 true _ A51.out).mono ?_); rintro e w63 ⟨rfl, hb⟩; clear A51; have n0_ := Aside0.mk (blk_below (g := gb261) (o := .cells #[.int .i64 x262000_2, .int .i64 x262001_2, .int .i64 x262002_2] 23 (0, 0)) (by (with_reducible repeat (first | refine blk_drewN ?_ _ | refine blk_drew ?_ | refine blk_alloc ?_ _)); exact BK261.out) hb); have n1_ := Aside0.mk (blk_below (g := gb262) (o := .cells #[.int .i64 x263000_2, .int .i64 x263001_2] 25 (0, 0)) (by (with_reducible repeat (first | refine blk_drewN ?_ _ | refine blk_drew ?_ | refine blk_alloc ?_ _)); exact BK262.out) hb); have n2_ := Aside0.mk (blk_below (g := gb275) (o := .cells #[.int .i64 t273, .int .i64 t274] 25 (0, 0)) (by (with_reducible repeat (first | refine blk_drewN ?_ _ | refine blk_drew ?_ | refine blk_alloc ?_ _)); exact BK275.out) hb); have n3_ := Aside0.mk (blk_below (g := gb279) (o := .cells #[.int .i64 t276, .int .i64 t277, .int .i64 t278] 23 (0, 0)) (by (with_reducible repeat (first | refine blk_drewN ?_ _ | refine blk_drew ?_ | refine blk_alloc ?_ _)); exact BK279.out) hb); have n4_ := Aside0.mk (below_step (by repeat (first | (with_reducible first | exact HB.out | apply below_alloc | apply pw_below_drewN | apply below_drew1 | refine below_set ?_ GE261.out | refine below_set ?_ GE262.out | refine below_set ?_ GE275.out | refine below_set ?_ GE279.out) | exact HB.out)) hb); clear BK261; clear BK262; clear BK275; clear BK279; clear HB; have BK261 := n0_; have BK262 := n1_; have BK275 := n2_; have BK279 := n3_; have HB := n4_; clear n0_ n1_ n2_ n3_ n4_; (try clear hb); (try clear hb2); (try clear hk); (try clear hi)))
             go_meet
             case rel => exact ⟨_, (false), (by first | rfl | (simp; done) | (simp [*]; done)), H', ⟨by have := HJ7.out; have := HK2.out; first | omega | exact Nat.le_refl _⟩, ⟨by (with_reducible repeat (first | refine blk_drewN ?_ _ | refine blk_drew ?_ | refine blk_alloc ?_ _)); exact BK261.out⟩, ⟨by (with_reducible repeat (first | refine blk_drewN ?_ _ | refine blk_drew ?_ | refine blk_alloc ?_ _)); exact BK262.out⟩, ⟨by (with_reducible repeat (first | refine blk_drewN ?_ _ | refine blk_drew ?_ | refine blk_alloc ?_ _)); exact BK275.out⟩, ⟨by (with_reducible repeat (first | refine blk_drewN ?_ _ | refine blk_drew ?_ | refine blk_alloc ?_ _)); exact BK279.out⟩, ⟨by repeat (first | (with_reducible first | exact HB.out | apply below_alloc | apply pw_below_drewN | apply below_drew1 | refine below_set ?_ GE261.out | refine below_set ?_ GE262.out | refine below_set ?_ GE275.out | refine below_set ?_ GE279.out) | exact HB.out)⟩⟩
            ·replace c52 := Bool.eq_false_iff.mpr c52
             subst c52
             have H1 : ((car_Car_Level.f x262000_2 x262001_2 x262002_2).bind fun t283 => (paternosterlaw12_LockOpens.j2 k2 l2 a3 x11_2 (!t283) t273 t274 t276 t277 t278)) = some r := by rw [if_neg (show ¬ (false = true) by decide)] at H; exact H
             clear H
             have H := H1
             clear H1
             replace H := Option.bind_eq_some_iff.mp H
             obtain ⟨t283, A640, H⟩ := H
             replace H : (paternosterlaw12_LockOpens.j2 k2 l2 a3 x11_2 (!t283) t273 t274 t276 t277 t278) = some r := H
             have A64 := Aside0.mk A640
             clear A640
             have H' := Aside0.mk H
             clear H
             have hnb65 := NB262_261.out
             have hnc65 := NB261_262.out
             have hnb66 := NB262_275.out
             have hnc66 := NB275_262.out
             have hnb67 := NB262_279.out
             have hnc67 := NB279_262.out
             have hcz68_0 : w42.cell? ⟨gb262, 0, none⟩ = some (.int .i64 x263000_2) := (blk_cell BK262.out 0).trans rfl
             have hcz68_1 : w42.cell? ⟨gb262, 1, none⟩ = some (.int .i64 x263001_2) := (blk_cell BK262.out 1).trans rfl
             have hfz68_0 := blk_frozen BK262.out 0
             have hfz68_1 := blk_frozen BK262.out 1
             go_wp2_with (first | ((with_reducible refine gate_callee (f := 27) rfl ?_); refine goesL_ (some 78) rfl rfl Try.func27 (by kernel_rfl) rfl #[.agg #[.int .i64 x263000_2, .int .i64 x263001_2]] rfl (by (try simp only [List.map_toArray, List.map_cons, List.map_nil]); first | done | rfl | (simp only [List.length_drop, List.length_take]; rfl)) ?_; (with_reducible refine (leaf_Leaf_Shut.calls x263000_2 x263001_2 true _ A47.out).mono ?_); rintro e w69 ⟨rfl, hb⟩; clear A47; refine ⟨_, rfl, ?_⟩; have n0_ := Aside0.mk (blk_below (g := gb261) (o := .cells #[.int .i64 x262000_2, .int .i64 x262001_2, .int .i64 x262002_2] 23 (0, 0)) (by (with_reducible repeat (first | refine blk_drewN ?_ _ | refine blk_drew ?_ | refine blk_alloc ?_ _)); refine blk_far ?_ NB261_279.out _; (with_reducible repeat (first | refine blk_drewN ?_ _ | refine blk_drew ?_ | refine blk_alloc ?_ _)); refine blk_far ?_ NB261_279.out _; (with_reducible repeat (first | refine blk_drewN ?_ _ | refine blk_drew ?_ | refine blk_alloc ?_ _)); refine blk_far ?_ NB261_279.out _; (with_reducible repeat (first | refine blk_drewN ?_ _ | refine blk_drew ?_ | refine blk_alloc ?_ _)); exact BK261.out) hb); have n1_ := Aside0.mk (blk_below (g := gb262) (o := .cells #[.int .i64 x263000_2, .int .i64 x263001_2] 25 (0, 0)) (by (with_reducible repeat (first | refine blk_drewN ?_ _ | refine blk_drew ?_ | refine blk_alloc ?_ _)); refine blk_far ?_ NB262_279.out _; (with_reducible repeat (first | refine blk_drewN ?_ _ | refine blk_drew ?_ | refine blk_alloc ?_ _)); refine blk_far ?_ NB262_279.out _; (with_reducible repeat (first | refine blk_drewN ?_ _ | refine blk_drew ?_ | refine blk_alloc ?_ _)); refine blk_far ?_ NB262_279.out _; (with_reducible repeat (first | refine blk_drewN ?_ _ | refine blk_drew ?_ | refine blk_alloc ?_ _)); exact BK262.out) hb); have n2_ := Aside0.mk (blk_below (g := gb275) (o := .cells #[.int .i64 t273, .int .i64 t274] 25 (0, 0)) (by (with_reducible repeat (first | refine blk_drewN ?_ _ | refine blk_drew ?_ | refine blk_alloc ?_ _)); refine blk_far ?_ NB275_279.out _; (with_reducible repeat (first | refine blk_drewN ?_ _ | refine blk_drew ?_ | refine blk_alloc ?_ _)); refine blk_far ?_ NB275_279.out _; (with_reducible repeat (first | refine blk_drewN ?_ _ | refine blk_drew ?_ | refine blk_alloc ?_ _)); refine blk_far ?_ NB275_279.out _; (with_reducible repeat (first | refine blk_drewN ?_ _ | refine blk_drew ?_ | refine blk_alloc ?_ _)); exact BK275.out) hb); have n3_ := Aside0.mk (blk_below (g := gb279) (o := .cells #[.int .i64 t276, .int .i64 t277, .int .i64 t278] 23 (0, 0)) (by (with_reducible repeat (first | refine blk_drewN ?_ _ | refine blk_drew ?_ | refine blk_alloc ?_ _)); refine blk_put (cs := #[.int .i64 t276, .int .i64 t277, .int .i64 0]) ?_ 2 _ rfl; (with_reducible repeat (first | refine blk_drewN ?_ _ | refine blk_drew ?_ | refine blk_alloc ?_ _)); refine blk_put (cs := #[.int .i64 t276, .int .i64 0, .int .i64 0]) ?_ 1 _ rfl; (with_reducible repeat (first | refine blk_drewN ?_ _ | refine blk_drew ?_ | refine blk_alloc ?_ _)); refine blk_put (cs := #[.int .i64 0, .int .i64 0, .int .i64 0]) ?_ 0 _ rfl; (with_reducible repeat (first | refine blk_drewN ?_ _ | refine blk_drew ?_ | refine blk_alloc ?_ _)); exact BK279.out) hb); have n4_ := Aside0.mk (below_step (by repeat (first | (with_reducible first | exact HB.out | apply below_alloc | apply pw_below_drewN | apply below_drew1 | refine below_set ?_ GE261.out | refine below_set ?_ GE262.out | refine below_set ?_ GE275.out | refine below_set ?_ GE279.out) | exact HB.out)) hb); clear BK261; clear BK262; clear BK275; clear BK279; clear HB; have BK261 := n0_; have BK262 := n1_; have BK275 := n2_; have BK279 := n3_; have HB := n4_; clear n0_ n1_ n2_ n3_ n4_; (try clear hb); (try clear hb2); (try clear hk); (try clear hi); have hcz70_0 : w69.cell? ⟨gb262, 0, none⟩ = some (.int .i64 x263000_2) := (blk_cell BK262.out 0).trans rfl; have hcz70_1 : w69.cell? ⟨gb262, 1, none⟩ = some (.int .i64 x263001_2) := (blk_cell BK262.out 1).trans rfl; have hfz70_0 := blk_frozen BK262.out 0; have hfz70_1 := blk_frozen BK262.out 1) | (go_at_call 27; (with_reducible refine (leaf_Leaf_Shut.calls x263000_2 x263001_2 true _ A49.out).mono ?_); rintro e w71 ⟨rfl, hb⟩; clear A49; have n0_ := Aside0.mk (blk_below (g := gb261) (o := .cells #[.int .i64 x262000_2, .int .i64 x262001_2, .int .i64 x262002_2] 23 (0, 0)) (by (with_reducible repeat (first | refine blk_drewN ?_ _ | refine blk_drew ?_ | refine blk_alloc ?_ _)); exact BK261.out) hb); have n1_ := Aside0.mk (blk_below (g := gb262) (o := .cells #[.int .i64 x263000_2, .int .i64 x263001_2] 25 (0, 0)) (by (with_reducible repeat (first | refine blk_drewN ?_ _ | refine blk_drew ?_ | refine blk_alloc ?_ _)); exact BK262.out) hb); have n2_ := Aside0.mk (blk_below (g := gb275) (o := .cells #[.int .i64 t273, .int .i64 t274] 25 (0, 0)) (by (with_reducible repeat (first | refine blk_drewN ?_ _ | refine blk_drew ?_ | refine blk_alloc ?_ _)); exact BK275.out) hb); have n3_ := Aside0.mk (blk_below (g := gb279) (o := .cells #[.int .i64 t276, .int .i64 t277, .int .i64 t278] 23 (0, 0)) (by (with_reducible repeat (first | refine blk_drewN ?_ _ | refine blk_drew ?_ | refine blk_alloc ?_ _)); exact BK279.out) hb); have n4_ := Aside0.mk (below_step (by repeat (first | (with_reducible first | exact HB.out | apply below_alloc | apply pw_below_drewN | apply below_drew1 | refine below_set ?_ GE261.out | refine below_set ?_ GE262.out | refine below_set ?_ GE275.out | refine below_set ?_ GE279.out) | exact HB.out)) hb); clear BK261; clear BK262; clear BK275; clear BK279; clear HB; have BK261 := n0_; have BK262 := n1_; have BK275 := n2_; have BK279 := n3_; have HB := n4_; clear n0_ n1_ n2_ n3_ n4_; (try clear hb); (try clear hb2); (try clear hk); (try clear hi); have hnb72 := NB275_261.out; have hnc72 := NB261_275.out; have hnb73 := NB275_279.out; have hnc73 := NB279_275.out; have hcz74_0 : w71.cell? ⟨gb275, 0, none⟩ = some (.int .i64 t273) := (blk_cell BK275.out 0).trans rfl; have hcz74_1 : w71.cell? ⟨gb275, 1, none⟩ = some (.int .i64 t274) := (blk_cell BK275.out 1).trans rfl; have hfz74_0 := blk_frozen BK275.out 0; have hfz74_1 := blk_frozen BK275.out 1) | (go_at_call 27; (with_reducible refine (leaf_Leaf_Shut.calls t273 t274 false _ A51.out).mono ?_); rintro e w75 ⟨rfl, hb⟩; clear A51; have n0_ := Aside0.mk (blk_below (g := gb261) (o := .cells #[.int .i64 x262000_2, .int .i64 x262001_2, .int .i64 x262002_2] 23 (0, 0)) (by (with_reducible repeat (first | refine blk_drewN ?_ _ | refine blk_drew ?_ | refine blk_alloc ?_ _)); exact BK261.out) hb); have n1_ := Aside0.mk (blk_below (g := gb262) (o := .cells #[.int .i64 x263000_2, .int .i64 x263001_2] 25 (0, 0)) (by (with_reducible repeat (first | refine blk_drewN ?_ _ | refine blk_drew ?_ | refine blk_alloc ?_ _)); exact BK262.out) hb); have n2_ := Aside0.mk (blk_below (g := gb275) (o := .cells #[.int .i64 t273, .int .i64 t274] 25 (0, 0)) (by (with_reducible repeat (first | refine blk_drewN ?_ _ | refine blk_drew ?_ | refine blk_alloc ?_ _)); exact BK275.out) hb); have n3_ := Aside0.mk (blk_below (g := gb279) (o := .cells #[.int .i64 t276, .int .i64 t277, .int .i64 t278] 23 (0, 0)) (by (with_reducible repeat (first | refine blk_drewN ?_ _ | refine blk_drew ?_ | refine blk_alloc ?_ _)); exact BK279.out) hb); have n4_ := Aside0.mk (below_step (by repeat (first | (with_reducible first | exact HB.out | apply below_alloc | apply pw_below_drewN | apply below_drew1 | refine below_set ?_ GE261.out | refine below_set ?_ GE262.out | refine below_set ?_ GE275.out | refine below_set ?_ GE279.out) | exact HB.out)) hb); clear BK261; clear BK262; clear BK275; clear BK279; clear HB; have BK261 := n0_; have BK262 := n1_; have BK275 := n2_; have BK279 := n3_; have HB := n4_; clear n0_ n1_ n2_ n3_ n4_; (try clear hb); (try clear hb2); (try clear hk); (try clear hi); have hnb76 := NB261_279.out; have hnc76 := NB279_261.out; have hcz77_0 : w75.cell? ⟨gb261, 0, none⟩ = some (.int .i64 x262000_2) := (blk_cell BK261.out 0).trans rfl; have hcz77_1 : w75.cell? ⟨gb261, 1, none⟩ = some (.int .i64 x262001_2) := (blk_cell BK261.out 1).trans rfl; have hcz77_2 : w75.cell? ⟨gb261, 2, none⟩ = some (.int .i64 x262002_2) := (blk_cell BK261.out 2).trans rfl; have hfz77_0 := blk_frozen BK261.out 0; have hfz77_1 := blk_frozen BK261.out 1; have hfz77_2 := blk_frozen BK261.out 2) | (go_at_call 26; (with_reducible refine (car_Car_Level.calls x262000_2 x262001_2 x262002_2 t283 _ A64.out).mono ?_); rintro e w78 ⟨rfl, hb⟩; have n0_ := Aside0.mk (blk_below (g := gb261) (o := .cells #[.int .i64 x262000_2, .int .i64 x262001_2, .int .i64 x262002_2] 23 (0, 0)) (by (with_reducible repeat (first | refine blk_drewN ?_ _ | refine blk_drew ?_ | refine blk_alloc ?_ _)); exact BK261.out) hb); have n1_ := Aside0.mk (blk_below (g := gb262) (o := .cells #[.int .i64 x263000_2, .int .i64 x263001_2] 25 (0, 0)) (by (with_reducible repeat (first | refine blk_drewN ?_ _ | refine blk_drew ?_ | refine blk_alloc ?_ _)); exact BK262.out) hb); have n2_ := Aside0.mk (blk_below (g := gb275) (o := .cells #[.int .i64 t273, .int .i64 t274] 25 (0, 0)) (by (with_reducible repeat (first | refine blk_drewN ?_ _ | refine blk_drew ?_ | refine blk_alloc ?_ _)); exact BK275.out) hb); have n3_ := Aside0.mk (blk_below (g := gb279) (o := .cells #[.int .i64 t276, .int .i64 t277, .int .i64 t278] 23 (0, 0)) (by (with_reducible repeat (first | refine blk_drewN ?_ _ | refine blk_drew ?_ | refine blk_alloc ?_ _)); exact BK279.out) hb); have n4_ := Aside0.mk (below_step (by repeat (first | (with_reducible first | exact HB.out | apply below_alloc | apply pw_below_drewN | apply below_drew1 | refine below_set ?_ GE261.out | refine below_set ?_ GE262.out | refine below_set ?_ GE275.out | refine below_set ?_ GE279.out) | exact HB.out)) hb); clear BK261; clear BK262; clear BK275; clear BK279; clear HB; have BK261 := n0_; have BK262 := n1_; have BK275 := n2_; have BK279 := n3_; have HB := n4_; clear n0_ n1_ n2_ n3_ n4_; (try clear hb); (try clear hb2); (try clear hk); (try clear hi)))
             go_meet
             case rel => exact ⟨_, (!t283), (by first | rfl | (simp; done) | (simp [*]; done)), H', ⟨by have := HJ7.out; have := HK2.out; first | omega | exact Nat.le_refl _⟩, ⟨by (with_reducible repeat (first | refine blk_drewN ?_ _ | refine blk_drew ?_ | refine blk_alloc ?_ _)); exact BK261.out⟩, ⟨by (with_reducible repeat (first | refine blk_drewN ?_ _ | refine blk_drew ?_ | refine blk_alloc ?_ _)); exact BK262.out⟩, ⟨by (with_reducible repeat (first | refine blk_drewN ?_ _ | refine blk_drew ?_ | refine blk_alloc ?_ _)); exact BK275.out⟩, ⟨by (with_reducible repeat (first | refine blk_drewN ?_ _ | refine blk_drew ?_ | refine blk_alloc ?_ _)); exact BK279.out⟩, ⟨by repeat (first | (with_reducible first | exact HB.out | apply below_alloc | apply pw_below_drewN | apply below_drew1 | refine below_set ?_ GE261.out | refine below_set ?_ GE262.out | refine below_set ?_ GE275.out | refine below_set ?_ GE279.out) | exact HB.out)⟩⟩
           ·replace c50 := Bool.eq_false_iff.mpr c50
            subst c50
            have H1 : (paternosterlaw12_LockOpens.j2 k2 l2 a3 x11_2 false t273 t274 t276 t277 t278) = some r := by rw [if_neg (show ¬ (false = true) by decide)] at H; exact H
            clear H
            have H := H1
            clear H1
            have H' := Aside0.mk H
            clear H
            have hnb79 := NB262_261.out
            have hnc79 := NB261_262.out
            have hnb80 := NB262_275.out
            have hnc80 := NB275_262.out
            have hnb81 := NB262_279.out
            have hnc81 := NB279_262.out
            have hcz82_0 : w42.cell? ⟨gb262, 0, none⟩ = some (.int .i64 x263000_2) := (blk_cell BK262.out 0).trans rfl
            have hcz82_1 : w42.cell? ⟨gb262, 1, none⟩ = some (.int .i64 x263001_2) := (blk_cell BK262.out 1).trans rfl
            have hfz82_0 := blk_frozen BK262.out 0
            have hfz82_1 := blk_frozen BK262.out 1
            go_wp2_with (first | ((with_reducible refine gate_callee (f := 27) rfl ?_); refine goesL_ (some 78) rfl rfl Try.func27 (by kernel_rfl) rfl #[.agg #[.int .i64 x263000_2, .int .i64 x263001_2]] rfl (by (try simp only [List.map_toArray, List.map_cons, List.map_nil]); first | done | rfl | (simp only [List.length_drop, List.length_take]; rfl)) ?_; (with_reducible refine (leaf_Leaf_Shut.calls x263000_2 x263001_2 true _ A47.out).mono ?_); rintro e w83 ⟨rfl, hb⟩; clear A47; refine ⟨_, rfl, ?_⟩; have n0_ := Aside0.mk (blk_below (g := gb261) (o := .cells #[.int .i64 x262000_2, .int .i64 x262001_2, .int .i64 x262002_2] 23 (0, 0)) (by (with_reducible repeat (first | refine blk_drewN ?_ _ | refine blk_drew ?_ | refine blk_alloc ?_ _)); refine blk_far ?_ NB261_279.out _; (with_reducible repeat (first | refine blk_drewN ?_ _ | refine blk_drew ?_ | refine blk_alloc ?_ _)); refine blk_far ?_ NB261_279.out _; (with_reducible repeat (first | refine blk_drewN ?_ _ | refine blk_drew ?_ | refine blk_alloc ?_ _)); refine blk_far ?_ NB261_279.out _; (with_reducible repeat (first | refine blk_drewN ?_ _ | refine blk_drew ?_ | refine blk_alloc ?_ _)); exact BK261.out) hb); have n1_ := Aside0.mk (blk_below (g := gb262) (o := .cells #[.int .i64 x263000_2, .int .i64 x263001_2] 25 (0, 0)) (by (with_reducible repeat (first | refine blk_drewN ?_ _ | refine blk_drew ?_ | refine blk_alloc ?_ _)); refine blk_far ?_ NB262_279.out _; (with_reducible repeat (first | refine blk_drewN ?_ _ | refine blk_drew ?_ | refine blk_alloc ?_ _)); refine blk_far ?_ NB262_279.out _; (with_reducible repeat (first | refine blk_drewN ?_ _ | refine blk_drew ?_ | refine blk_alloc ?_ _)); refine blk_far ?_ NB262_279.out _; (with_reducible repeat (first | refine blk_drewN ?_ _ | refine blk_drew ?_ | refine blk_alloc ?_ _)); exact BK262.out) hb); have n2_ := Aside0.mk (blk_below (g := gb275) (o := .cells #[.int .i64 t273, .int .i64 t274] 25 (0, 0)) (by (with_reducible repeat (first | refine blk_drewN ?_ _ | refine blk_drew ?_ | refine blk_alloc ?_ _)); refine blk_far ?_ NB275_279.out _; (with_reducible repeat (first | refine blk_drewN ?_ _ | refine blk_drew ?_ | refine blk_alloc ?_ _)); refine blk_far ?_ NB275_279.out _; (with_reducible repeat (first | refine blk_drewN ?_ _ | refine blk_drew ?_ | refine blk_alloc ?_ _)); refine blk_far ?_ NB275_279.out _; (with_reducible repeat (first | refine blk_drewN ?_ _ | refine blk_drew ?_ | refine blk_alloc ?_ _)); exact BK275.out) hb); have n3_ := Aside0.mk (blk_below (g := gb279) (o := .cells #[.int .i64 t276, .int .i64 t277, .int .i64 t278] 23 (0, 0)) (by (with_reducible repeat (first | refine blk_drewN ?_ _ | refine blk_drew ?_ | refine blk_alloc ?_ _)); refine blk_put (cs := #[.int .i64 t276, .int .i64 t277, .int .i64 0]) ?_ 2 _ rfl; (with_reducible repeat (first | refine blk_drewN ?_ _ | refine blk_drew ?_ | refine blk_alloc ?_ _)); refine blk_put (cs := #[.int .i64 t276, .int .i64 0, .int .i64 0]) ?_ 1 _ rfl; (with_reducible repeat (first | refine blk_drewN ?_ _ | refine blk_drew ?_ | refine blk_alloc ?_ _)); refine blk_put (cs := #[.int .i64 0, .int .i64 0, .int .i64 0]) ?_ 0 _ rfl; (with_reducible repeat (first | refine blk_drewN ?_ _ | refine blk_drew ?_ | refine blk_alloc ?_ _)); exact BK279.out) hb); have n4_ := Aside0.mk (below_step (by repeat (first | (with_reducible first | exact HB.out | apply below_alloc | apply pw_below_drewN | apply below_drew1 | refine below_set ?_ GE261.out | refine below_set ?_ GE262.out | refine below_set ?_ GE275.out | refine below_set ?_ GE279.out) | exact HB.out)) hb); clear BK261; clear BK262; clear BK275; clear BK279; clear HB; have BK261 := n0_; have BK262 := n1_; have BK275 := n2_; have BK279 := n3_; have HB := n4_; clear n0_ n1_ n2_ n3_ n4_; (try clear hb); (try clear hb2); (try clear hk); (try clear hi); have hcz84_0 : w83.cell? ⟨gb262, 0, none⟩ = some (.int .i64 x263000_2) := (blk_cell BK262.out 0).trans rfl; have hcz84_1 : w83.cell? ⟨gb262, 1, none⟩ = some (.int .i64 x263001_2) := (blk_cell BK262.out 1).trans rfl; have hfz84_0 := blk_frozen BK262.out 0; have hfz84_1 := blk_frozen BK262.out 1) | (go_at_call 27; (with_reducible refine (leaf_Leaf_Shut.calls x263000_2 x263001_2 false _ A49.out).mono ?_); rintro e w85 ⟨rfl, hb⟩; clear A49; have n0_ := Aside0.mk (blk_below (g := gb261) (o := .cells #[.int .i64 x262000_2, .int .i64 x262001_2, .int .i64 x262002_2] 23 (0, 0)) (by (with_reducible repeat (first | refine blk_drewN ?_ _ | refine blk_drew ?_ | refine blk_alloc ?_ _)); exact BK261.out) hb); have n1_ := Aside0.mk (blk_below (g := gb262) (o := .cells #[.int .i64 x263000_2, .int .i64 x263001_2] 25 (0, 0)) (by (with_reducible repeat (first | refine blk_drewN ?_ _ | refine blk_drew ?_ | refine blk_alloc ?_ _)); exact BK262.out) hb); have n2_ := Aside0.mk (blk_below (g := gb275) (o := .cells #[.int .i64 t273, .int .i64 t274] 25 (0, 0)) (by (with_reducible repeat (first | refine blk_drewN ?_ _ | refine blk_drew ?_ | refine blk_alloc ?_ _)); exact BK275.out) hb); have n3_ := Aside0.mk (blk_below (g := gb279) (o := .cells #[.int .i64 t276, .int .i64 t277, .int .i64 t278] 23 (0, 0)) (by (with_reducible repeat (first | refine blk_drewN ?_ _ | refine blk_drew ?_ | refine blk_alloc ?_ _)); exact BK279.out) hb); have n4_ := Aside0.mk (below_step (by repeat (first | (with_reducible first | exact HB.out | apply below_alloc | apply pw_below_drewN | apply below_drew1 | refine below_set ?_ GE261.out | refine below_set ?_ GE262.out | refine below_set ?_ GE275.out | refine below_set ?_ GE279.out) | exact HB.out)) hb); clear BK261; clear BK262; clear BK275; clear BK279; clear HB; have BK261 := n0_; have BK262 := n1_; have BK275 := n2_; have BK279 := n3_; have HB := n4_; clear n0_ n1_ n2_ n3_ n4_; (try clear hb); (try clear hb2); (try clear hk); (try clear hi)))
            go_meet
            case rel => exact ⟨_, (false), (by first | rfl | (simp; done) | (simp [*]; done)), H', ⟨by have := HJ7.out; have := HK2.out; first | omega | exact Nat.le_refl _⟩, ⟨by (with_reducible repeat (first | refine blk_drewN ?_ _ | refine blk_drew ?_ | refine blk_alloc ?_ _)); exact BK261.out⟩, ⟨by (with_reducible repeat (first | refine blk_drewN ?_ _ | refine blk_drew ?_ | refine blk_alloc ?_ _)); exact BK262.out⟩, ⟨by (with_reducible repeat (first | refine blk_drewN ?_ _ | refine blk_drew ?_ | refine blk_alloc ?_ _)); exact BK275.out⟩, ⟨by (with_reducible repeat (first | refine blk_drewN ?_ _ | refine blk_drew ?_ | refine blk_alloc ?_ _)); exact BK279.out⟩, ⟨by repeat (first | (with_reducible first | exact HB.out | apply below_alloc | apply pw_below_drewN | apply below_drew1 | refine below_set ?_ GE261.out | refine below_set ?_ GE262.out | refine below_set ?_ GE275.out | refine below_set ?_ GE279.out) | exact HB.out)⟩⟩
          ·replace c48 := Bool.eq_false_iff.mpr c48
           subst c48
           have H1 : (if t276 = x262000_2 then (if t277 = 0 then ((leaf_Leaf_Shut.f x263000_2 x263001_2).bind fun t284 => (if t284 = true then ((leaf_Leaf_Shut.f t273 t274).bind fun t285 => (if t285 = true then (paternosterlaw12_LockOpens.j2 k2 l2 a3 x11_2 false t273 t274 t276 t277 t278) else ((car_Car_Level.f x262000_2 x262001_2 x262002_2).bind fun t286 => (paternosterlaw12_LockOpens.j2 k2 l2 a3 x11_2 (!t286) t273 t274 t276 t277 t278)))) else (paternosterlaw12_LockOpens.j2 k2 l2 a3 x11_2 false t273 t274 t276 t277 t278))) else (paternosterlaw12_LockOpens.j2 k2 l2 a3 x11_2 true t273 t274 t276 t277 t278)) else (paternosterlaw12_LockOpens.j2 k2 l2 a3 x11_2 true t273 t274 t276 t277 t278)) = some r := by rw [if_neg (show ¬ (false = true) by decide)] at H; exact H
           clear H
           have H := H1
           clear H1
           by_cases c86 : t276 = x262000_2
           ·rw [if_pos c86] at H
            have c86b0 : (t276 == x262000_2) = true := beq_iff_eq.mpr c86
            have c86b1 : (t276 != x262000_2) = false := bne_eq_false_iff_eq.mpr c86
            clear c86
            (first | rw [c86b0] | (simp only [i64_w, i32_w]; rw [c86b0]) | skip)
            by_cases c87 : t277 = 0
            ·rw [if_pos c87] at H
             have c87b0 : (t277 == 0) = true := beq_iff_eq.mpr c87
             have c87b1 : (t277 != 0) = false := bne_eq_false_iff_eq.mpr c87
             clear c87
             replace H := Option.bind_eq_some_iff.mp H
             obtain ⟨t284, A880, H⟩ := H
             replace H : (if t284 = true then ((leaf_Leaf_Shut.f t273 t274).bind fun t285 => (if t285 = true then (paternosterlaw12_LockOpens.j2 k2 l2 a3 x11_2 false t273 t274 t276 t277 t278) else ((car_Car_Level.f x262000_2 x262001_2 x262002_2).bind fun t286 => (paternosterlaw12_LockOpens.j2 k2 l2 a3 x11_2 (!t286) t273 t274 t276 t277 t278)))) else (paternosterlaw12_LockOpens.j2 k2 l2 a3 x11_2 false t273 t274 t276 t277 t278)) = some r := H
             have A88 := Aside0.mk A880
             clear A880
             by_cases c89 : t284 = true
             ·subst c89
              have H1 : ((leaf_Leaf_Shut.f t273 t274).bind fun t285 => (if t285 = true then (paternosterlaw12_LockOpens.j2 k2 l2 a3 x11_2 false t273 t274 t276 t277 t278) else ((car_Car_Level.f x262000_2 x262001_2 x262002_2).bind fun t286 => (paternosterlaw12_LockOpens.j2 k2 l2 a3 x11_2 (!t286) t273 t274 t276 t277 t278)))) = some r := by rw [if_pos rfl] at H; exact H
              clear H
              have H := H1
              clear H1
              replace H := Option.bind_eq_some_iff.mp H
              obtain ⟨t285, A900, H⟩ := H
              replace H : (if t285 = true then (paternosterlaw12_LockOpens.j2 k2 l2 a3 x11_2 false t273 t274 t276 t277 t278) else ((car_Car_Level.f x262000_2 x262001_2 x262002_2).bind fun t286 => (paternosterlaw12_LockOpens.j2 k2 l2 a3 x11_2 (!t286) t273 t274 t276 t277 t278))) = some r := H
              have A90 := Aside0.mk A900
              clear A900
              by_cases c91 : t285 = true
              ·subst c91
               have H1 : (paternosterlaw12_LockOpens.j2 k2 l2 a3 x11_2 false t273 t274 t276 t277 t278) = some r := by rw [if_pos rfl] at H; exact H
               clear H
               have H := H1
               clear H1
               have H' := Aside0.mk H
               clear H
               have hnb92 := NB262_261.out
               have hnc92 := NB261_262.out
               have hnb93 := NB262_275.out
               have hnc93 := NB275_262.out
               have hnb94 := NB262_279.out
               have hnc94 := NB279_262.out
               have hcz95_0 : w42.cell? ⟨gb262, 0, none⟩ = some (.int .i64 x263000_2) := (blk_cell BK262.out 0).trans rfl
               have hcz95_1 : w42.cell? ⟨gb262, 1, none⟩ = some (.int .i64 x263001_2) := (blk_cell BK262.out 1).trans rfl
               have hfz95_0 := blk_frozen BK262.out 0
               have hfz95_1 := blk_frozen BK262.out 1
               go_wp2_with (first | ((with_reducible refine gate_callee (f := 27) rfl ?_); refine goesL_ (some 78) rfl rfl Try.func27 (by kernel_rfl) rfl #[.agg #[.int .i64 x263000_2, .int .i64 x263001_2]] rfl (by (try simp only [List.map_toArray, List.map_cons, List.map_nil]); first | done | rfl | (simp only [List.length_drop, List.length_take]; rfl)) ?_; (with_reducible refine (leaf_Leaf_Shut.calls x263000_2 x263001_2 false _ A47.out).mono ?_); rintro e w96 ⟨rfl, hb⟩; clear A47; refine ⟨_, rfl, ?_⟩; have n0_ := Aside0.mk (blk_below (g := gb261) (o := .cells #[.int .i64 x262000_2, .int .i64 x262001_2, .int .i64 x262002_2] 23 (0, 0)) (by (with_reducible repeat (first | refine blk_drewN ?_ _ | refine blk_drew ?_ | refine blk_alloc ?_ _)); refine blk_far ?_ NB261_279.out _; (with_reducible repeat (first | refine blk_drewN ?_ _ | refine blk_drew ?_ | refine blk_alloc ?_ _)); refine blk_far ?_ NB261_279.out _; (with_reducible repeat (first | refine blk_drewN ?_ _ | refine blk_drew ?_ | refine blk_alloc ?_ _)); refine blk_far ?_ NB261_279.out _; (with_reducible repeat (first | refine blk_drewN ?_ _ | refine blk_drew ?_ | refine blk_alloc ?_ _)); exact BK261.out) hb); have n1_ := Aside0.mk (blk_below (g := gb262) (o := .cells #[.int .i64 x263000_2, .int .i64 x263001_2] 25 (0, 0)) (by (with_reducible repeat (first | refine blk_drewN ?_ _ | refine blk_drew ?_ | refine blk_alloc ?_ _)); refine blk_far ?_ NB262_279.out _; (with_reducible repeat (first | refine blk_drewN ?_ _ | refine blk_drew ?_ | refine blk_alloc ?_ _)); refine blk_far ?_ NB262_279.out _; (with_reducible repeat (first | refine blk_drewN ?_ _ | refine blk_drew ?_ | refine blk_alloc ?_ _)); refine blk_far ?_ NB262_279.out _; (with_reducible repeat (first | refine blk_drewN ?_ _ | refine blk_drew ?_ | refine blk_alloc ?_ _)); exact BK262.out) hb); have n2_ := Aside0.mk (blk_below (g := gb275) (o := .cells #[.int .i64 t273, .int .i64 t274] 25 (0, 0)) (by (with_reducible repeat (first | refine blk_drewN ?_ _ | refine blk_drew ?_ | refine blk_alloc ?_ _)); refine blk_far ?_ NB275_279.out _; (with_reducible repeat (first | refine blk_drewN ?_ _ | refine blk_drew ?_ | refine blk_alloc ?_ _)); refine blk_far ?_ NB275_279.out _; (with_reducible repeat (first | refine blk_drewN ?_ _ | refine blk_drew ?_ | refine blk_alloc ?_ _)); refine blk_far ?_ NB275_279.out _; (with_reducible repeat (first | refine blk_drewN ?_ _ | refine blk_drew ?_ | refine blk_alloc ?_ _)); exact BK275.out) hb); have n3_ := Aside0.mk (blk_below (g := gb279) (o := .cells #[.int .i64 t276, .int .i64 t277, .int .i64 t278] 23 (0, 0)) (by (with_reducible repeat (first | refine blk_drewN ?_ _ | refine blk_drew ?_ | refine blk_alloc ?_ _)); refine blk_put (cs := #[.int .i64 t276, .int .i64 t277, .int .i64 0]) ?_ 2 _ rfl; (with_reducible repeat (first | refine blk_drewN ?_ _ | refine blk_drew ?_ | refine blk_alloc ?_ _)); refine blk_put (cs := #[.int .i64 t276, .int .i64 0, .int .i64 0]) ?_ 1 _ rfl; (with_reducible repeat (first | refine blk_drewN ?_ _ | refine blk_drew ?_ | refine blk_alloc ?_ _)); refine blk_put (cs := #[.int .i64 0, .int .i64 0, .int .i64 0]) ?_ 0 _ rfl; (with_reducible repeat (first | refine blk_drewN ?_ _ | refine blk_drew ?_ | refine blk_alloc ?_ _)); exact BK279.out) hb); have n4_ := Aside0.mk (below_step (by repeat (first | (with_reducible first | exact HB.out | apply below_alloc | apply pw_below_drewN | apply below_drew1 | refine below_set ?_ GE261.out | refine below_set ?_ GE262.out | refine below_set ?_ GE275.out | refine below_set ?_ GE279.out) | exact HB.out)) hb); clear BK261; clear BK262; clear BK275; clear BK279; clear HB; have BK261 := n0_; have BK262 := n1_; have BK275 := n2_; have BK279 := n3_; have HB := n4_; clear n0_ n1_ n2_ n3_ n4_; (try clear hb); (try clear hb2); (try clear hk); (try clear hi); have hnb97 := NB279_261.out; have hnc97 := NB261_279.out; have hnb98 := NB279_275.out; have hnc98 := NB275_279.out; have hcz99_0 : w96.cell? ⟨gb279, 0, none⟩ = some (.int .i64 t276) := (blk_cell BK279.out 0).trans rfl; have hcz99_1 : w96.cell? ⟨gb279, 1, none⟩ = some (.int .i64 t277) := (blk_cell BK279.out 1).trans rfl; have hcz99_2 : w96.cell? ⟨gb279, 2, none⟩ = some (.int .i64 t278) := (blk_cell BK279.out 2).trans rfl; have hfz99_0 := blk_frozen BK279.out 0; have hfz99_1 := blk_frozen BK279.out 1; have hfz99_2 := blk_frozen BK279.out 2; have hnb100 := NB261_275.out; have hnc100 := NB275_261.out; have hcz101_0 : w96.cell? ⟨gb261, 0, none⟩ = some (.int .i64 x262000_2) := (blk_cell BK261.out 0).trans rfl; have hcz101_1 : w96.cell? ⟨gb261, 1, none⟩ = some (.int .i64 x262001_2) := (blk_cell BK261.out 1).trans rfl; have hcz101_2 : w96.cell? ⟨gb261, 2, none⟩ = some (.int .i64 x262002_2) := (blk_cell BK261.out 2).trans rfl; have hfz101_0 := blk_frozen BK261.out 0; have hfz101_1 := blk_frozen BK261.out 1; have hfz101_2 := blk_frozen BK261.out 2; have hcz102_0 : w96.cell? ⟨gb262, 0, none⟩ = some (.int .i64 x263000_2) := (blk_cell BK262.out 0).trans rfl; have hcz102_1 : w96.cell? ⟨gb262, 1, none⟩ = some (.int .i64 x263001_2) := (blk_cell BK262.out 1).trans rfl; have hfz102_0 := blk_frozen BK262.out 0; have hfz102_1 := blk_frozen BK262.out 1) | (go_at_call 27; (with_reducible refine (leaf_Leaf_Shut.calls x263000_2 x263001_2 true _ A88.out).mono ?_); rintro e w103 ⟨rfl, hb⟩; clear A88; have n0_ := Aside0.mk (blk_below (g := gb261) (o := .cells #[.int .i64 x262000_2, .int .i64 x262001_2, .int .i64 x262002_2] 23 (0, 0)) (by (with_reducible repeat (first | refine blk_drewN ?_ _ | refine blk_drew ?_ | refine blk_alloc ?_ _)); exact BK261.out) hb); have n1_ := Aside0.mk (blk_below (g := gb262) (o := .cells #[.int .i64 x263000_2, .int .i64 x263001_2] 25 (0, 0)) (by (with_reducible repeat (first | refine blk_drewN ?_ _ | refine blk_drew ?_ | refine blk_alloc ?_ _)); exact BK262.out) hb); have n2_ := Aside0.mk (blk_below (g := gb275) (o := .cells #[.int .i64 t273, .int .i64 t274] 25 (0, 0)) (by (with_reducible repeat (first | refine blk_drewN ?_ _ | refine blk_drew ?_ | refine blk_alloc ?_ _)); exact BK275.out) hb); have n3_ := Aside0.mk (blk_below (g := gb279) (o := .cells #[.int .i64 t276, .int .i64 t277, .int .i64 t278] 23 (0, 0)) (by (with_reducible repeat (first | refine blk_drewN ?_ _ | refine blk_drew ?_ | refine blk_alloc ?_ _)); exact BK279.out) hb); have n4_ := Aside0.mk (below_step (by repeat (first | (with_reducible first | exact HB.out | apply below_alloc | apply pw_below_drewN | apply below_drew1 | refine below_set ?_ GE261.out | refine below_set ?_ GE262.out | refine below_set ?_ GE275.out | refine below_set ?_ GE279.out) | exact HB.out)) hb); clear BK261; clear BK262; clear BK275; clear BK279; clear HB; have BK261 := n0_; have BK262 := n1_; have BK275 := n2_; have BK279 := n3_; have HB := n4_; clear n0_ n1_ n2_ n3_ n4_; (try clear hb); (try clear hb2); (try clear hk); (try clear hi); have hcz104_0 : w103.cell? ⟨gb275, 0, none⟩ = some (.int .i64 t273) := (blk_cell BK275.out 0).trans rfl; have hcz104_1 : w103.cell? ⟨gb275, 1, none⟩ = some (.int .i64 t274) := (blk_cell BK275.out 1).trans rfl; have hfz104_0 := blk_frozen BK275.out 0; have hfz104_1 := blk_frozen BK275.out 1) | (go_at_call 27; (with_reducible refine (leaf_Leaf_Shut.calls t273 t274 true _ A90.out).mono ?_); rintro e w105 ⟨rfl, hb⟩; clear A90; have n0_ := Aside0.mk (blk_below (g := gb261) (o := .cells #[.int .i64 x262000_2, .int .i64 x262001_2, .int .i64 x262002_2] 23 (0, 0)) (by (with_reducible repeat (first | refine blk_drewN ?_ _ | refine blk_drew ?_ | refine blk_alloc ?_ _)); exact BK261.out) hb); have n1_ := Aside0.mk (blk_below (g := gb262) (o := .cells #[.int .i64 x263000_2, .int .i64 x263001_2] 25 (0, 0)) (by (with_reducible repeat (first | refine blk_drewN ?_ _ | refine blk_drew ?_ | refine blk_alloc ?_ _)); exact BK262.out) hb); have n2_ := Aside0.mk (blk_below (g := gb275) (o := .cells #[.int .i64 t273, .int .i64 t274] 25 (0, 0)) (by (with_reducible repeat (first | refine blk_drewN ?_ _ | refine blk_drew ?_ | refine blk_alloc ?_ _)); exact BK275.out) hb); have n3_ := Aside0.mk (blk_below (g := gb279) (o := .cells #[.int .i64 t276, .int .i64 t277, .int .i64 t278] 23 (0, 0)) (by (with_reducible repeat (first | refine blk_drewN ?_ _ | refine blk_drew ?_ | refine blk_alloc ?_ _)); exact BK279.out) hb); have n4_ := Aside0.mk (below_step (by repeat (first | (with_reducible first | exact HB.out | apply below_alloc | apply pw_below_drewN | apply below_drew1 | refine below_set ?_ GE261.out | refine below_set ?_ GE262.out | refine below_set ?_ GE275.out | refine below_set ?_ GE279.out) | exact HB.out)) hb); clear BK261; clear BK262; clear BK275; clear BK279; clear HB; have BK261 := n0_; have BK262 := n1_; have BK275 := n2_; have BK279 := n3_; have HB := n4_; clear n0_ n1_ n2_ n3_ n4_; (try clear hb); (try clear hb2); (try clear hk); (try clear hi)))
               go_meet
               case rel => exact ⟨_, (false), (by first | rfl | (simp; done) | (simp [*]; done)), H', ⟨by have := HJ7.out; have := HK2.out; first | omega | exact Nat.le_refl _⟩, ⟨by (with_reducible repeat (first | refine blk_drewN ?_ _ | refine blk_drew ?_ | refine blk_alloc ?_ _)); exact BK261.out⟩, ⟨by (with_reducible repeat (first | refine blk_drewN ?_ _ | refine blk_drew ?_ | refine blk_alloc ?_ _)); exact BK262.out⟩, ⟨by (with_reducible repeat (first | refine blk_drewN ?_ _ | refine blk_drew ?_ | refine blk_alloc ?_ _)); exact BK275.out⟩, ⟨by (with_reducible repeat (first | refine blk_drewN ?_ _ | refine blk_drew ?_ | refine blk_alloc ?_ _)); exact BK279.out⟩, ⟨by repeat (first | (with_reducible first | exact HB.out | apply below_alloc | apply pw_below_drewN | apply below_drew1 | refine below_set ?_ GE261.out | refine below_set ?_ GE262.out | refine below_set ?_ GE275.out | refine below_set ?_ GE279.out) | exact HB.out)⟩⟩
              ·replace c91 := Bool.eq_false_iff.mpr c91
               subst c91
               have H1 : ((car_Car_Level.f x262000_2 x262001_2 x262002_2).bind fun t286 => (paternosterlaw12_LockOpens.j2 k2 l2 a3 x11_2 (!t286) t273 t274 t276 t277 t278)) = some r := by rw [if_neg (show ¬ (false = true) by decide)] at H; exact H
               clear H
               have H := H1
               clear H1
               replace H := Option.bind_eq_some_iff.mp H
               obtain ⟨t286, A1060, H⟩ := H
               replace H : (paternosterlaw12_LockOpens.j2 k2 l2 a3 x11_2 (!t286) t273 t274 t276 t277 t278) = some r := H
               have A106 := Aside0.mk A1060
               clear A1060
               have H' := Aside0.mk H
               clear H
               have hnb107 := NB262_261.out
               have hnc107 := NB261_262.out
               have hnb108 := NB262_275.out
               have hnc108 := NB275_262.out
               have hnb109 := NB262_279.out
               have hnc109 := NB279_262.out
               have hcz110_0 : w42.cell? ⟨gb262, 0, none⟩ = some (.int .i64 x263000_2) := (blk_cell BK262.out 0).trans rfl
               have hcz110_1 : w42.cell? ⟨gb262, 1, none⟩ = some (.int .i64 x263001_2) := (blk_cell BK262.out 1).trans rfl
               have hfz110_0 := blk_frozen BK262.out 0
               have hfz110_1 := blk_frozen BK262.out 1
               go_wp2_with (first | ((with_reducible refine gate_callee (f := 27) rfl ?_); refine goesL_ (some 78) rfl rfl Try.func27 (by kernel_rfl) rfl #[.agg #[.int .i64 x263000_2, .int .i64 x263001_2]] rfl (by (try simp only [List.map_toArray, List.map_cons, List.map_nil]); first | done | rfl | (simp only [List.length_drop, List.length_take]; rfl)) ?_; (with_reducible refine (leaf_Leaf_Shut.calls x263000_2 x263001_2 false _ A47.out).mono ?_); rintro e w111 ⟨rfl, hb⟩; clear A47; refine ⟨_, rfl, ?_⟩; have n0_ := Aside0.mk (blk_below (g := gb261) (o := .cells #[.int .i64 x262000_2, .int .i64 x262001_2, .int .i64 x262002_2] 23 (0, 0)) (by (with_reducible repeat (first | refine blk_drewN ?_ _ | refine blk_drew ?_ | refine blk_alloc ?_ _)); refine blk_far ?_ NB261_279.out _; (with_reducible repeat (first | refine blk_drewN ?_ _ | refine blk_drew ?_ | refine blk_alloc ?_ _)); refine blk_far ?_ NB261_279.out _; (with_reducible repeat (first | refine blk_drewN ?_ _ | refine blk_drew ?_ | refine blk_alloc ?_ _)); refine blk_far ?_ NB261_279.out _; (with_reducible repeat (first | refine blk_drewN ?_ _ | refine blk_drew ?_ | refine blk_alloc ?_ _)); exact BK261.out) hb); have n1_ := Aside0.mk (blk_below (g := gb262) (o := .cells #[.int .i64 x263000_2, .int .i64 x263001_2] 25 (0, 0)) (by (with_reducible repeat (first | refine blk_drewN ?_ _ | refine blk_drew ?_ | refine blk_alloc ?_ _)); refine blk_far ?_ NB262_279.out _; (with_reducible repeat (first | refine blk_drewN ?_ _ | refine blk_drew ?_ | refine blk_alloc ?_ _)); refine blk_far ?_ NB262_279.out _; (with_reducible repeat (first | refine blk_drewN ?_ _ | refine blk_drew ?_ | refine blk_alloc ?_ _)); refine blk_far ?_ NB262_279.out _; (with_reducible repeat (first | refine blk_drewN ?_ _ | refine blk_drew ?_ | refine blk_alloc ?_ _)); exact BK262.out) hb); have n2_ := Aside0.mk (blk_below (g := gb275) (o := .cells #[.int .i64 t273, .int .i64 t274] 25 (0, 0)) (by (with_reducible repeat (first | refine blk_drewN ?_ _ | refine blk_drew ?_ | refine blk_alloc ?_ _)); refine blk_far ?_ NB275_279.out _; (with_reducible repeat (first | refine blk_drewN ?_ _ | refine blk_drew ?_ | refine blk_alloc ?_ _)); refine blk_far ?_ NB275_279.out _; (with_reducible repeat (first | refine blk_drewN ?_ _ | refine blk_drew ?_ | refine blk_alloc ?_ _)); refine blk_far ?_ NB275_279.out _; (with_reducible repeat (first | refine blk_drewN ?_ _ | refine blk_drew ?_ | refine blk_alloc ?_ _)); exact BK275.out) hb); have n3_ := Aside0.mk (blk_below (g := gb279) (o := .cells #[.int .i64 t276, .int .i64 t277, .int .i64 t278] 23 (0, 0)) (by (with_reducible repeat (first | refine blk_drewN ?_ _ | refine blk_drew ?_ | refine blk_alloc ?_ _)); refine blk_put (cs := #[.int .i64 t276, .int .i64 t277, .int .i64 0]) ?_ 2 _ rfl; (with_reducible repeat (first | refine blk_drewN ?_ _ | refine blk_drew ?_ | refine blk_alloc ?_ _)); refine blk_put (cs := #[.int .i64 t276, .int .i64 0, .int .i64 0]) ?_ 1 _ rfl; (with_reducible repeat (first | refine blk_drewN ?_ _ | refine blk_drew ?_ | refine blk_alloc ?_ _)); refine blk_put (cs := #[.int .i64 0, .int .i64 0, .int .i64 0]) ?_ 0 _ rfl; (with_reducible repeat (first | refine blk_drewN ?_ _ | refine blk_drew ?_ | refine blk_alloc ?_ _)); exact BK279.out) hb); have n4_ := Aside0.mk (below_step (by repeat (first | (with_reducible first | exact HB.out | apply below_alloc | apply pw_below_drewN | apply below_drew1 | refine below_set ?_ GE261.out | refine below_set ?_ GE262.out | refine below_set ?_ GE275.out | refine below_set ?_ GE279.out) | exact HB.out)) hb); clear BK261; clear BK262; clear BK275; clear BK279; clear HB; have BK261 := n0_; have BK262 := n1_; have BK275 := n2_; have BK279 := n3_; have HB := n4_; clear n0_ n1_ n2_ n3_ n4_; (try clear hb); (try clear hb2); (try clear hk); (try clear hi); have hnb112 := NB279_261.out; have hnc112 := NB261_279.out; have hnb113 := NB279_275.out; have hnc113 := NB275_279.out; have hcz114_0 : w111.cell? ⟨gb279, 0, none⟩ = some (.int .i64 t276) := (blk_cell BK279.out 0).trans rfl; have hcz114_1 : w111.cell? ⟨gb279, 1, none⟩ = some (.int .i64 t277) := (blk_cell BK279.out 1).trans rfl; have hcz114_2 : w111.cell? ⟨gb279, 2, none⟩ = some (.int .i64 t278) := (blk_cell BK279.out 2).trans rfl; have hfz114_0 := blk_frozen BK279.out 0; have hfz114_1 := blk_frozen BK279.out 1; have hfz114_2 := blk_frozen BK279.out 2; have hnb115 := NB261_275.out; have hnc115 := NB275_261.out; have hcz116_0 : w111.cell? ⟨gb261, 0, none⟩ = some (.int .i64 x262000_2) := (blk_cell BK261.out 0).trans rfl; have hcz116_1 : w111.cell? ⟨gb261, 1, none⟩ = some (.int .i64 x262001_2) := (blk_cell BK261.out 1).trans rfl; have hcz116_2 : w111.cell? ⟨gb261, 2, none⟩ = some (.int .i64 x262002_2) := (blk_cell BK261.out 2).trans rfl; have hfz116_0 := blk_frozen BK261.out 0; have hfz116_1 := blk_frozen BK261.out 1; have hfz116_2 := blk_frozen BK261.out 2; have hcz117_0 : w111.cell? ⟨gb262, 0, none⟩ = some (.int .i64 x263000_2) := (blk_cell BK262.out 0).trans rfl; have hcz117_1 : w111.cell? ⟨gb262, 1, none⟩ = some (.int .i64 x263001_2) := (blk_cell BK262.out 1).trans rfl; have hfz117_0 := blk_frozen BK262.out 0; have hfz117_1 := blk_frozen BK262.out 1) | (go_at_call 27; (with_reducible refine (leaf_Leaf_Shut.calls x263000_2 x263001_2 true _ A88.out).mono ?_); rintro e w118 ⟨rfl, hb⟩; clear A88; have n0_ := Aside0.mk (blk_below (g := gb261) (o := .cells #[.int .i64 x262000_2, .int .i64 x262001_2, .int .i64 x262002_2] 23 (0, 0)) (by (with_reducible repeat (first | refine blk_drewN ?_ _ | refine blk_drew ?_ | refine blk_alloc ?_ _)); exact BK261.out) hb); have n1_ := Aside0.mk (blk_below (g := gb262) (o := .cells #[.int .i64 x263000_2, .int .i64 x263001_2] 25 (0, 0)) (by (with_reducible repeat (first | refine blk_drewN ?_ _ | refine blk_drew ?_ | refine blk_alloc ?_ _)); exact BK262.out) hb); have n2_ := Aside0.mk (blk_below (g := gb275) (o := .cells #[.int .i64 t273, .int .i64 t274] 25 (0, 0)) (by (with_reducible repeat (first | refine blk_drewN ?_ _ | refine blk_drew ?_ | refine blk_alloc ?_ _)); exact BK275.out) hb); have n3_ := Aside0.mk (blk_below (g := gb279) (o := .cells #[.int .i64 t276, .int .i64 t277, .int .i64 t278] 23 (0, 0)) (by (with_reducible repeat (first | refine blk_drewN ?_ _ | refine blk_drew ?_ | refine blk_alloc ?_ _)); exact BK279.out) hb); have n4_ := Aside0.mk (below_step (by repeat (first | (with_reducible first | exact HB.out | apply below_alloc | apply pw_below_drewN | apply below_drew1 | refine below_set ?_ GE261.out | refine below_set ?_ GE262.out | refine below_set ?_ GE275.out | refine below_set ?_ GE279.out) | exact HB.out)) hb); clear BK261; clear BK262; clear BK275; clear BK279; clear HB; have BK261 := n0_; have BK262 := n1_; have BK275 := n2_; have BK279 := n3_; have HB := n4_; clear n0_ n1_ n2_ n3_ n4_; (try clear hb); (try clear hb2); (try clear hk); (try clear hi); have hcz119_0 : w118.cell? ⟨gb275, 0, none⟩ = some (.int .i64 t273) := (blk_cell BK275.out 0).trans rfl; have hcz119_1 : w118.cell? ⟨gb275, 1, none⟩ = some (.int .i64 t274) := (blk_cell BK275.out 1).trans rfl; have hfz119_0 := blk_frozen BK275.out 0; have hfz119_1 := blk_frozen BK275.out 1) | (go_at_call 27; (with_reducible refine (leaf_Leaf_Shut.calls t273 t274 false _ A90.out).mono ?_); rintro e w120 ⟨rfl, hb⟩; clear A90; have n0_ := Aside0.mk (blk_below (g := gb261) (o := .cells #[.int .i64 x262000_2, .int .i64 x262001_2, .int .i64 x262002_2] 23 (0, 0)) (by (with_reducible repeat (first | refine blk_drewN ?_ _ | refine blk_drew ?_ | refine blk_alloc ?_ _)); exact BK261.out) hb); have n1_ := Aside0.mk (blk_below (g := gb262) (o := .cells #[.int .i64 x263000_2, .int .i64 x263001_2] 25 (0, 0)) (by (with_reducible repeat (first | refine blk_drewN ?_ _ | refine blk_drew ?_ | refine blk_alloc ?_ _)); exact BK262.out) hb); have n2_ := Aside0.mk (blk_below (g := gb275) (o := .cells #[.int .i64 t273, .int .i64 t274] 25 (0, 0)) (by (with_reducible repeat (first | refine blk_drewN ?_ _ | refine blk_drew ?_ | refine blk_alloc ?_ _)); exact BK275.out) hb); have n3_ := Aside0.mk (blk_below (g := gb279) (o := .cells #[.int .i64 t276, .int .i64 t277, .int .i64 t278] 23 (0, 0)) (by (with_reducible repeat (first | refine blk_drewN ?_ _ | refine blk_drew ?_ | refine blk_alloc ?_ _)); exact BK279.out) hb); have n4_ := Aside0.mk (below_step (by repeat (first | (with_reducible first | exact HB.out | apply below_alloc | apply pw_below_drewN | apply below_drew1 | refine below_set ?_ GE261.out | refine below_set ?_ GE262.out | refine below_set ?_ GE275.out | refine below_set ?_ GE279.out) | exact HB.out)) hb); clear BK261; clear BK262; clear BK275; clear BK279; clear HB; have BK261 := n0_; have BK262 := n1_; have BK275 := n2_; have BK279 := n3_; have HB := n4_; clear n0_ n1_ n2_ n3_ n4_; (try clear hb); (try clear hb2); (try clear hk); (try clear hi); have hcz121_0 : w120.cell? ⟨gb261, 0, none⟩ = some (.int .i64 x262000_2) := (blk_cell BK261.out 0).trans rfl; have hcz121_1 : w120.cell? ⟨gb261, 1, none⟩ = some (.int .i64 x262001_2) := (blk_cell BK261.out 1).trans rfl; have hcz121_2 : w120.cell? ⟨gb261, 2, none⟩ = some (.int .i64 x262002_2) := (blk_cell BK261.out 2).trans rfl; have hfz121_0 := blk_frozen BK261.out 0; have hfz121_1 := blk_frozen BK261.out 1; have hfz121_2 := blk_frozen BK261.out 2) | (go_at_call 26; (with_reducible refine (car_Car_Level.calls x262000_2 x262001_2 x262002_2 t286 _ A106.out).mono ?_); rintro e w122 ⟨rfl, hb⟩; have n0_ := Aside0.mk (blk_below (g := gb261) (o := .cells #[.int .i64 x262000_2, .int .i64 x262001_2, .int .i64 x262002_2] 23 (0, 0)) (by (with_reducible repeat (first | refine blk_drewN ?_ _ | refine blk_drew ?_ | refine blk_alloc ?_ _)); exact BK261.out) hb); have n1_ := Aside0.mk (blk_below (g := gb262) (o := .cells #[.int .i64 x263000_2, .int .i64 x263001_2] 25 (0, 0)) (by (with_reducible repeat (first | refine blk_drewN ?_ _ | refine blk_drew ?_ | refine blk_alloc ?_ _)); exact BK262.out) hb); have n2_ := Aside0.mk (blk_below (g := gb275) (o := .cells #[.int .i64 t273, .int .i64 t274] 25 (0, 0)) (by (with_reducible repeat (first | refine blk_drewN ?_ _ | refine blk_drew ?_ | refine blk_alloc ?_ _)); exact BK275.out) hb); have n3_ := Aside0.mk (blk_below (g := gb279) (o := .cells #[.int .i64 t276, .int .i64 t277, .int .i64 t278] 23 (0, 0)) (by (with_reducible repeat (first | refine blk_drewN ?_ _ | refine blk_drew ?_ | refine blk_alloc ?_ _)); exact BK279.out) hb); have n4_ := Aside0.mk (below_step (by repeat (first | (with_reducible first | exact HB.out | apply below_alloc | apply pw_below_drewN | apply below_drew1 | refine below_set ?_ GE261.out | refine below_set ?_ GE262.out | refine below_set ?_ GE275.out | refine below_set ?_ GE279.out) | exact HB.out)) hb); clear BK261; clear BK262; clear BK275; clear BK279; clear HB; have BK261 := n0_; have BK262 := n1_; have BK275 := n2_; have BK279 := n3_; have HB := n4_; clear n0_ n1_ n2_ n3_ n4_; (try clear hb); (try clear hb2); (try clear hk); (try clear hi)))
               go_meet
               case rel => exact ⟨_, (!t286), (by first | rfl | (simp; done) | (simp [*]; done)), H', ⟨by have := HJ7.out; have := HK2.out; first | omega | exact Nat.le_refl _⟩, ⟨by (with_reducible repeat (first | refine blk_drewN ?_ _ | refine blk_drew ?_ | refine blk_alloc ?_ _)); exact BK261.out⟩, ⟨by (with_reducible repeat (first | refine blk_drewN ?_ _ | refine blk_drew ?_ | refine blk_alloc ?_ _)); exact BK262.out⟩, ⟨by (with_reducible repeat (first | refine blk_drewN ?_ _ | refine blk_drew ?_ | refine blk_alloc ?_ _)); exact BK275.out⟩, ⟨by (with_reducible repeat (first | refine blk_drewN ?_ _ | refine blk_drew ?_ | refine blk_alloc ?_ _)); exact BK279.out⟩, ⟨by repeat (first | (with_reducible first | exact HB.out | apply below_alloc | apply pw_below_drewN | apply below_drew1 | refine below_set ?_ GE261.out | refine below_set ?_ GE262.out | refine below_set ?_ GE275.out | refine below_set ?_ GE279.out) | exact HB.out)⟩⟩
             ·replace c89 := Bool.eq_false_iff.mpr c89
              subst c89
              have H1 : (paternosterlaw12_LockOpens.j2 k2 l2 a3 x11_2 false t273 t274 t276 t277 t278) = some r := by rw [if_neg (show ¬ (false = true) by decide)] at H; exact H
              clear H
              have H := H1
              clear H1
              have H' := Aside0.mk H
              clear H
              have hnb123 := NB262_261.out
              have hnc123 := NB261_262.out
              have hnb124 := NB262_275.out
              have hnc124 := NB275_262.out
              have hnb125 := NB262_279.out
              have hnc125 := NB279_262.out
              have hcz126_0 : w42.cell? ⟨gb262, 0, none⟩ = some (.int .i64 x263000_2) := (blk_cell BK262.out 0).trans rfl
              have hcz126_1 : w42.cell? ⟨gb262, 1, none⟩ = some (.int .i64 x263001_2) := (blk_cell BK262.out 1).trans rfl
              have hfz126_0 := blk_frozen BK262.out 0
              have hfz126_1 := blk_frozen BK262.out 1
              go_wp2_with (first | ((with_reducible refine gate_callee (f := 27) rfl ?_); refine goesL_ (some 78) rfl rfl Try.func27 (by kernel_rfl) rfl #[.agg #[.int .i64 x263000_2, .int .i64 x263001_2]] rfl (by (try simp only [List.map_toArray, List.map_cons, List.map_nil]); first | done | rfl | (simp only [List.length_drop, List.length_take]; rfl)) ?_; (with_reducible refine (leaf_Leaf_Shut.calls x263000_2 x263001_2 false _ A47.out).mono ?_); rintro e w127 ⟨rfl, hb⟩; clear A47; refine ⟨_, rfl, ?_⟩; have n0_ := Aside0.mk (blk_below (g := gb261) (o := .cells #[.int .i64 x262000_2, .int .i64 x262001_2, .int .i64 x262002_2] 23 (0, 0)) (by (with_reducible repeat (first | refine blk_drewN ?_ _ | refine blk_drew ?_ | refine blk_alloc ?_ _)); refine blk_far ?_ NB261_279.out _; (with_reducible repeat (first | refine blk_drewN ?_ _ | refine blk_drew ?_ | refine blk_alloc ?_ _)); refine blk_far ?_ NB261_279.out _; (with_reducible repeat (first | refine blk_drewN ?_ _ | refine blk_drew ?_ | refine blk_alloc ?_ _)); refine blk_far ?_ NB261_279.out _; (with_reducible repeat (first | refine blk_drewN ?_ _ | refine blk_drew ?_ | refine blk_alloc ?_ _)); exact BK261.out) hb); have n1_ := Aside0.mk (blk_below (g := gb262) (o := .cells #[.int .i64 x263000_2, .int .i64 x263001_2] 25 (0, 0)) (by (with_reducible repeat (first | refine blk_drewN ?_ _ | refine blk_drew ?_ | refine blk_alloc ?_ _)); refine blk_far ?_ NB262_279.out _; (with_reducible repeat (first | refine blk_drewN ?_ _ | refine blk_drew ?_ | refine blk_alloc ?_ _)); refine blk_far ?_ NB262_279.out _; (with_reducible repeat (first | refine blk_drewN ?_ _ | refine blk_drew ?_ | refine blk_alloc ?_ _)); refine blk_far ?_ NB262_279.out _; (with_reducible repeat (first | refine blk_drewN ?_ _ | refine blk_drew ?_ | refine blk_alloc ?_ _)); exact BK262.out) hb); have n2_ := Aside0.mk (blk_below (g := gb275) (o := .cells #[.int .i64 t273, .int .i64 t274] 25 (0, 0)) (by (with_reducible repeat (first | refine blk_drewN ?_ _ | refine blk_drew ?_ | refine blk_alloc ?_ _)); refine blk_far ?_ NB275_279.out _; (with_reducible repeat (first | refine blk_drewN ?_ _ | refine blk_drew ?_ | refine blk_alloc ?_ _)); refine blk_far ?_ NB275_279.out _; (with_reducible repeat (first | refine blk_drewN ?_ _ | refine blk_drew ?_ | refine blk_alloc ?_ _)); refine blk_far ?_ NB275_279.out _; (with_reducible repeat (first | refine blk_drewN ?_ _ | refine blk_drew ?_ | refine blk_alloc ?_ _)); exact BK275.out) hb); have n3_ := Aside0.mk (blk_below (g := gb279) (o := .cells #[.int .i64 t276, .int .i64 t277, .int .i64 t278] 23 (0, 0)) (by (with_reducible repeat (first | refine blk_drewN ?_ _ | refine blk_drew ?_ | refine blk_alloc ?_ _)); refine blk_put (cs := #[.int .i64 t276, .int .i64 t277, .int .i64 0]) ?_ 2 _ rfl; (with_reducible repeat (first | refine blk_drewN ?_ _ | refine blk_drew ?_ | refine blk_alloc ?_ _)); refine blk_put (cs := #[.int .i64 t276, .int .i64 0, .int .i64 0]) ?_ 1 _ rfl; (with_reducible repeat (first | refine blk_drewN ?_ _ | refine blk_drew ?_ | refine blk_alloc ?_ _)); refine blk_put (cs := #[.int .i64 0, .int .i64 0, .int .i64 0]) ?_ 0 _ rfl; (with_reducible repeat (first | refine blk_drewN ?_ _ | refine blk_drew ?_ | refine blk_alloc ?_ _)); exact BK279.out) hb); have n4_ := Aside0.mk (below_step (by repeat (first | (with_reducible first | exact HB.out | apply below_alloc | apply pw_below_drewN | apply below_drew1 | refine below_set ?_ GE261.out | refine below_set ?_ GE262.out | refine below_set ?_ GE275.out | refine below_set ?_ GE279.out) | exact HB.out)) hb); clear BK261; clear BK262; clear BK275; clear BK279; clear HB; have BK261 := n0_; have BK262 := n1_; have BK275 := n2_; have BK279 := n3_; have HB := n4_; clear n0_ n1_ n2_ n3_ n4_; (try clear hb); (try clear hb2); (try clear hk); (try clear hi); have hnb128 := NB279_261.out; have hnc128 := NB261_279.out; have hnb129 := NB279_275.out; have hnc129 := NB275_279.out; have hcz130_0 : w127.cell? ⟨gb279, 0, none⟩ = some (.int .i64 t276) := (blk_cell BK279.out 0).trans rfl; have hcz130_1 : w127.cell? ⟨gb279, 1, none⟩ = some (.int .i64 t277) := (blk_cell BK279.out 1).trans rfl; have hcz130_2 : w127.cell? ⟨gb279, 2, none⟩ = some (.int .i64 t278) := (blk_cell BK279.out 2).trans rfl; have hfz130_0 := blk_frozen BK279.out 0; have hfz130_1 := blk_frozen BK279.out 1; have hfz130_2 := blk_frozen BK279.out 2; have hnb131 := NB261_275.out; have hnc131 := NB275_261.out; have hcz132_0 : w127.cell? ⟨gb261, 0, none⟩ = some (.int .i64 x262000_2) := (blk_cell BK261.out 0).trans rfl; have hcz132_1 : w127.cell? ⟨gb261, 1, none⟩ = some (.int .i64 x262001_2) := (blk_cell BK261.out 1).trans rfl; have hcz132_2 : w127.cell? ⟨gb261, 2, none⟩ = some (.int .i64 x262002_2) := (blk_cell BK261.out 2).trans rfl; have hfz132_0 := blk_frozen BK261.out 0; have hfz132_1 := blk_frozen BK261.out 1; have hfz132_2 := blk_frozen BK261.out 2; have hcz133_0 : w127.cell? ⟨gb262, 0, none⟩ = some (.int .i64 x263000_2) := (blk_cell BK262.out 0).trans rfl; have hcz133_1 : w127.cell? ⟨gb262, 1, none⟩ = some (.int .i64 x263001_2) := (blk_cell BK262.out 1).trans rfl; have hfz133_0 := blk_frozen BK262.out 0; have hfz133_1 := blk_frozen BK262.out 1) | (go_at_call 27; (with_reducible refine (leaf_Leaf_Shut.calls x263000_2 x263001_2 false _ A88.out).mono ?_); rintro e w134 ⟨rfl, hb⟩; clear A88; have n0_ := Aside0.mk (blk_below (g := gb261) (o := .cells #[.int .i64 x262000_2, .int .i64 x262001_2, .int .i64 x262002_2] 23 (0, 0)) (by (with_reducible repeat (first | refine blk_drewN ?_ _ | refine blk_drew ?_ | refine blk_alloc ?_ _)); exact BK261.out) hb); have n1_ := Aside0.mk (blk_below (g := gb262) (o := .cells #[.int .i64 x263000_2, .int .i64 x263001_2] 25 (0, 0)) (by (with_reducible repeat (first | refine blk_drewN ?_ _ | refine blk_drew ?_ | refine blk_alloc ?_ _)); exact BK262.out) hb); have n2_ := Aside0.mk (blk_below (g := gb275) (o := .cells #[.int .i64 t273, .int .i64 t274] 25 (0, 0)) (by (with_reducible repeat (first | refine blk_drewN ?_ _ | refine blk_drew ?_ | refine blk_alloc ?_ _)); exact BK275.out) hb); have n3_ := Aside0.mk (blk_below (g := gb279) (o := .cells #[.int .i64 t276, .int .i64 t277, .int .i64 t278] 23 (0, 0)) (by (with_reducible repeat (first | refine blk_drewN ?_ _ | refine blk_drew ?_ | refine blk_alloc ?_ _)); exact BK279.out) hb); have n4_ := Aside0.mk (below_step (by repeat (first | (with_reducible first | exact HB.out | apply below_alloc | apply pw_below_drewN | apply below_drew1 | refine below_set ?_ GE261.out | refine below_set ?_ GE262.out | refine below_set ?_ GE275.out | refine below_set ?_ GE279.out) | exact HB.out)) hb); clear BK261; clear BK262; clear BK275; clear BK279; clear HB; have BK261 := n0_; have BK262 := n1_; have BK275 := n2_; have BK279 := n3_; have HB := n4_; clear n0_ n1_ n2_ n3_ n4_; (try clear hb); (try clear hb2); (try clear hk); (try clear hi)))
              go_meet
              case rel => exact ⟨_, (false), (by first | rfl | (simp; done) | (simp [*]; done)), H', ⟨by have := HJ7.out; have := HK2.out; first | omega | exact Nat.le_refl _⟩, ⟨by (with_reducible repeat (first | refine blk_drewN ?_ _ | refine blk_drew ?_ | refine blk_alloc ?_ _)); exact BK261.out⟩, ⟨by (with_reducible repeat (first | refine blk_drewN ?_ _ | refine blk_drew ?_ | refine blk_alloc ?_ _)); exact BK262.out⟩, ⟨by (with_reducible repeat (first | refine blk_drewN ?_ _ | refine blk_drew ?_ | refine blk_alloc ?_ _)); exact BK275.out⟩, ⟨by (with_reducible repeat (first | refine blk_drewN ?_ _ | refine blk_drew ?_ | refine blk_alloc ?_ _)); exact BK279.out⟩, ⟨by repeat (first | (with_reducible first | exact HB.out | apply below_alloc | apply pw_below_drewN | apply below_drew1 | refine below_set ?_ GE261.out | refine below_set ?_ GE262.out | refine below_set ?_ GE275.out | refine below_set ?_ GE279.out) | exact HB.out)⟩⟩
            ·rw [if_neg c87] at H
             have c87b0 : (t277 == 0) = false := beq_eq_false_iff_ne.mpr c87
             have c87b1 : (t277 != 0) = true := bne_iff_ne.mpr c87
             have H' := Aside0.mk H
             clear H
             have hnb135 := NB262_261.out
             have hnc135 := NB261_262.out
             have hnb136 := NB262_275.out
             have hnc136 := NB275_262.out
             have hnb137 := NB262_279.out
             have hnc137 := NB279_262.out
             have hcz138_0 : w42.cell? ⟨gb262, 0, none⟩ = some (.int .i64 x263000_2) := (blk_cell BK262.out 0).trans rfl
             have hcz138_1 : w42.cell? ⟨gb262, 1, none⟩ = some (.int .i64 x263001_2) := (blk_cell BK262.out 1).trans rfl
             have hfz138_0 := blk_frozen BK262.out 0
             have hfz138_1 := blk_frozen BK262.out 1
             go_wp2_with (first | ((with_reducible refine gate_callee (f := 27) rfl ?_); refine goesL_ (some 78) rfl rfl Try.func27 (by kernel_rfl) rfl #[.agg #[.int .i64 x263000_2, .int .i64 x263001_2]] rfl (by (try simp only [List.map_toArray, List.map_cons, List.map_nil]); first | done | rfl | (simp only [List.length_drop, List.length_take]; rfl)) ?_; (with_reducible refine (leaf_Leaf_Shut.calls x263000_2 x263001_2 false _ A47.out).mono ?_); rintro e w139 ⟨rfl, hb⟩; refine ⟨_, rfl, ?_⟩; have n0_ := Aside0.mk (blk_below (g := gb261) (o := .cells #[.int .i64 x262000_2, .int .i64 x262001_2, .int .i64 x262002_2] 23 (0, 0)) (by (with_reducible repeat (first | refine blk_drewN ?_ _ | refine blk_drew ?_ | refine blk_alloc ?_ _)); refine blk_far ?_ NB261_279.out _; (with_reducible repeat (first | refine blk_drewN ?_ _ | refine blk_drew ?_ | refine blk_alloc ?_ _)); refine blk_far ?_ NB261_279.out _; (with_reducible repeat (first | refine blk_drewN ?_ _ | refine blk_drew ?_ | refine blk_alloc ?_ _)); refine blk_far ?_ NB261_279.out _; (with_reducible repeat (first | refine blk_drewN ?_ _ | refine blk_drew ?_ | refine blk_alloc ?_ _)); exact BK261.out) hb); have n1_ := Aside0.mk (blk_below (g := gb262) (o := .cells #[.int .i64 x263000_2, .int .i64 x263001_2] 25 (0, 0)) (by (with_reducible repeat (first | refine blk_drewN ?_ _ | refine blk_drew ?_ | refine blk_alloc ?_ _)); refine blk_far ?_ NB262_279.out _; (with_reducible repeat (first | refine blk_drewN ?_ _ | refine blk_drew ?_ | refine blk_alloc ?_ _)); refine blk_far ?_ NB262_279.out _; (with_reducible repeat (first | refine blk_drewN ?_ _ | refine blk_drew ?_ | refine blk_alloc ?_ _)); refine blk_far ?_ NB262_279.out _; (with_reducible repeat (first | refine blk_drewN ?_ _ | refine blk_drew ?_ | refine blk_alloc ?_ _)); exact BK262.out) hb); have n2_ := Aside0.mk (blk_below (g := gb275) (o := .cells #[.int .i64 t273, .int .i64 t274] 25 (0, 0)) (by (with_reducible repeat (first | refine blk_drewN ?_ _ | refine blk_drew ?_ | refine blk_alloc ?_ _)); refine blk_far ?_ NB275_279.out _; (with_reducible repeat (first | refine blk_drewN ?_ _ | refine blk_drew ?_ | refine blk_alloc ?_ _)); refine blk_far ?_ NB275_279.out _; (with_reducible repeat (first | refine blk_drewN ?_ _ | refine blk_drew ?_ | refine blk_alloc ?_ _)); refine blk_far ?_ NB275_279.out _; (with_reducible repeat (first | refine blk_drewN ?_ _ | refine blk_drew ?_ | refine blk_alloc ?_ _)); exact BK275.out) hb); have n3_ := Aside0.mk (blk_below (g := gb279) (o := .cells #[.int .i64 t276, .int .i64 t277, .int .i64 t278] 23 (0, 0)) (by (with_reducible repeat (first | refine blk_drewN ?_ _ | refine blk_drew ?_ | refine blk_alloc ?_ _)); refine blk_put (cs := #[.int .i64 t276, .int .i64 t277, .int .i64 0]) ?_ 2 _ rfl; (with_reducible repeat (first | refine blk_drewN ?_ _ | refine blk_drew ?_ | refine blk_alloc ?_ _)); refine blk_put (cs := #[.int .i64 t276, .int .i64 0, .int .i64 0]) ?_ 1 _ rfl; (with_reducible repeat (first | refine blk_drewN ?_ _ | refine blk_drew ?_ | refine blk_alloc ?_ _)); refine blk_put (cs := #[.int .i64 0, .int .i64 0, .int .i64 0]) ?_ 0 _ rfl; (with_reducible repeat (first | refine blk_drewN ?_ _ | refine blk_drew ?_ | refine blk_alloc ?_ _)); exact BK279.out) hb); have n4_ := Aside0.mk (below_step (by repeat (first | (with_reducible first | exact HB.out | apply below_alloc | apply pw_below_drewN | apply below_drew1 | refine below_set ?_ GE261.out | refine below_set ?_ GE262.out | refine below_set ?_ GE275.out | refine below_set ?_ GE279.out) | exact HB.out)) hb); clear BK261; clear BK262; clear BK275; clear BK279; clear HB; have BK261 := n0_; have BK262 := n1_; have BK275 := n2_; have BK279 := n3_; have HB := n4_; clear n0_ n1_ n2_ n3_ n4_; (try clear hb); (try clear hb2); (try clear hk); (try clear hi); have hnb140 := NB279_261.out; have hnc140 := NB261_279.out; have hnb141 := NB279_275.out; have hnc141 := NB275_279.out; have hcz142_0 : w139.cell? ⟨gb279, 0, none⟩ = some (.int .i64 t276) := (blk_cell BK279.out 0).trans rfl; have hcz142_1 : w139.cell? ⟨gb279, 1, none⟩ = some (.int .i64 t277) := (blk_cell BK279.out 1).trans rfl; have hcz142_2 : w139.cell? ⟨gb279, 2, none⟩ = some (.int .i64 t278) := (blk_cell BK279.out 2).trans rfl; have hfz142_0 := blk_frozen BK279.out 0; have hfz142_1 := blk_frozen BK279.out 1; have hfz142_2 := blk_frozen BK279.out 2; have hnb143 := NB261_275.out; have hnc143 := NB275_261.out; have hcz144_0 : w139.cell? ⟨gb261, 0, none⟩ = some (.int .i64 x262000_2) := (blk_cell BK261.out 0).trans rfl; have hcz144_1 : w139.cell? ⟨gb261, 1, none⟩ = some (.int .i64 x262001_2) := (blk_cell BK261.out 1).trans rfl; have hcz144_2 : w139.cell? ⟨gb261, 2, none⟩ = some (.int .i64 x262002_2) := (blk_cell BK261.out 2).trans rfl; have hfz144_0 := blk_frozen BK261.out 0; have hfz144_1 := blk_frozen BK261.out 1; have hfz144_2 := blk_frozen BK261.out 2))
             go_meet
             case rel => exact ⟨_, (true), (by first | rfl | (simp; done) | (simp [*]; done)), H', ⟨by have := HJ7.out; have := HK2.out; first | omega | exact Nat.le_refl _⟩, ⟨by (with_reducible repeat (first | refine blk_drewN ?_ _ | refine blk_drew ?_ | refine blk_alloc ?_ _)); exact BK261.out⟩, ⟨by (with_reducible repeat (first | refine blk_drewN ?_ _ | refine blk_drew ?_ | refine blk_alloc ?_ _)); exact BK262.out⟩, ⟨by (with_reducible repeat (first | refine blk_drewN ?_ _ | refine blk_drew ?_ | refine blk_alloc ?_ _)); exact BK275.out⟩, ⟨by (with_reducible repeat (first | refine blk_drewN ?_ _ | refine blk_drew ?_ | refine blk_alloc ?_ _)); exact BK279.out⟩, ⟨by repeat (first | (with_reducible first | exact HB.out | apply below_alloc | apply pw_below_drewN | apply below_drew1 | refine below_set ?_ GE261.out | refine below_set ?_ GE262.out | refine below_set ?_ GE275.out | refine below_set ?_ GE279.out) | exact HB.out)⟩⟩
           ·rw [if_neg c86] at H
            have c86b0 : (t276 == x262000_2) = false := beq_eq_false_iff_ne.mpr c86
            have c86b1 : (t276 != x262000_2) = true := bne_iff_ne.mpr c86
            (first | rw [c86b0] | (simp only [i64_w, i32_w]; rw [c86b0]) | skip)
            have H' := Aside0.mk H
            clear H
            have hnb145 := NB262_261.out
            have hnc145 := NB261_262.out
            have hnb146 := NB262_275.out
            have hnc146 := NB275_262.out
            have hnb147 := NB262_279.out
            have hnc147 := NB279_262.out
            have hcz148_0 : w42.cell? ⟨gb262, 0, none⟩ = some (.int .i64 x263000_2) := (blk_cell BK262.out 0).trans rfl
            have hcz148_1 : w42.cell? ⟨gb262, 1, none⟩ = some (.int .i64 x263001_2) := (blk_cell BK262.out 1).trans rfl
            have hfz148_0 := blk_frozen BK262.out 0
            have hfz148_1 := blk_frozen BK262.out 1
            go_wp2_with (first | ((with_reducible refine gate_callee (f := 27) rfl ?_); refine goesL_ (some 78) rfl rfl Try.func27 (by kernel_rfl) rfl #[.agg #[.int .i64 x263000_2, .int .i64 x263001_2]] rfl (by (try simp only [List.map_toArray, List.map_cons, List.map_nil]); first | done | rfl | (simp only [List.length_drop, List.length_take]; rfl)) ?_; (with_reducible refine (leaf_Leaf_Shut.calls x263000_2 x263001_2 false _ A47.out).mono ?_); rintro e w149 ⟨rfl, hb⟩; refine ⟨_, rfl, ?_⟩; have n0_ := Aside0.mk (blk_below (g := gb261) (o := .cells #[.int .i64 x262000_2, .int .i64 x262001_2, .int .i64 x262002_2] 23 (0, 0)) (by (with_reducible repeat (first | refine blk_drewN ?_ _ | refine blk_drew ?_ | refine blk_alloc ?_ _)); refine blk_far ?_ NB261_279.out _; (with_reducible repeat (first | refine blk_drewN ?_ _ | refine blk_drew ?_ | refine blk_alloc ?_ _)); refine blk_far ?_ NB261_279.out _; (with_reducible repeat (first | refine blk_drewN ?_ _ | refine blk_drew ?_ | refine blk_alloc ?_ _)); refine blk_far ?_ NB261_279.out _; (with_reducible repeat (first | refine blk_drewN ?_ _ | refine blk_drew ?_ | refine blk_alloc ?_ _)); exact BK261.out) hb); have n1_ := Aside0.mk (blk_below (g := gb262) (o := .cells #[.int .i64 x263000_2, .int .i64 x263001_2] 25 (0, 0)) (by (with_reducible repeat (first | refine blk_drewN ?_ _ | refine blk_drew ?_ | refine blk_alloc ?_ _)); refine blk_far ?_ NB262_279.out _; (with_reducible repeat (first | refine blk_drewN ?_ _ | refine blk_drew ?_ | refine blk_alloc ?_ _)); refine blk_far ?_ NB262_279.out _; (with_reducible repeat (first | refine blk_drewN ?_ _ | refine blk_drew ?_ | refine blk_alloc ?_ _)); refine blk_far ?_ NB262_279.out _; (with_reducible repeat (first | refine blk_drewN ?_ _ | refine blk_drew ?_ | refine blk_alloc ?_ _)); exact BK262.out) hb); have n2_ := Aside0.mk (blk_below (g := gb275) (o := .cells #[.int .i64 t273, .int .i64 t274] 25 (0, 0)) (by (with_reducible repeat (first | refine blk_drewN ?_ _ | refine blk_drew ?_ | refine blk_alloc ?_ _)); refine blk_far ?_ NB275_279.out _; (with_reducible repeat (first | refine blk_drewN ?_ _ | refine blk_drew ?_ | refine blk_alloc ?_ _)); refine blk_far ?_ NB275_279.out _; (with_reducible repeat (first | refine blk_drewN ?_ _ | refine blk_drew ?_ | refine blk_alloc ?_ _)); refine blk_far ?_ NB275_279.out _; (with_reducible repeat (first | refine blk_drewN ?_ _ | refine blk_drew ?_ | refine blk_alloc ?_ _)); exact BK275.out) hb); have n3_ := Aside0.mk (blk_below (g := gb279) (o := .cells #[.int .i64 t276, .int .i64 t277, .int .i64 t278] 23 (0, 0)) (by (with_reducible repeat (first | refine blk_drewN ?_ _ | refine blk_drew ?_ | refine blk_alloc ?_ _)); refine blk_put (cs := #[.int .i64 t276, .int .i64 t277, .int .i64 0]) ?_ 2 _ rfl; (with_reducible repeat (first | refine blk_drewN ?_ _ | refine blk_drew ?_ | refine blk_alloc ?_ _)); refine blk_put (cs := #[.int .i64 t276, .int .i64 0, .int .i64 0]) ?_ 1 _ rfl; (with_reducible repeat (first | refine blk_drewN ?_ _ | refine blk_drew ?_ | refine blk_alloc ?_ _)); refine blk_put (cs := #[.int .i64 0, .int .i64 0, .int .i64 0]) ?_ 0 _ rfl; (with_reducible repeat (first | refine blk_drewN ?_ _ | refine blk_drew ?_ | refine blk_alloc ?_ _)); exact BK279.out) hb); have n4_ := Aside0.mk (below_step (by repeat (first | (with_reducible first | exact HB.out | apply below_alloc | apply pw_below_drewN | apply below_drew1 | refine below_set ?_ GE261.out | refine below_set ?_ GE262.out | refine below_set ?_ GE275.out | refine below_set ?_ GE279.out) | exact HB.out)) hb); clear BK261; clear BK262; clear BK275; clear BK279; clear HB; have BK261 := n0_; have BK262 := n1_; have BK275 := n2_; have BK279 := n3_; have HB := n4_; clear n0_ n1_ n2_ n3_ n4_; (try clear hb); (try clear hb2); (try clear hk); (try clear hi); have hnb150 := NB279_261.out; have hnc150 := NB261_279.out; have hnb151 := NB279_275.out; have hnc151 := NB275_279.out; have hcz152_0 : w149.cell? ⟨gb279, 0, none⟩ = some (.int .i64 t276) := (blk_cell BK279.out 0).trans rfl; have hcz152_1 : w149.cell? ⟨gb279, 1, none⟩ = some (.int .i64 t277) := (blk_cell BK279.out 1).trans rfl; have hcz152_2 : w149.cell? ⟨gb279, 2, none⟩ = some (.int .i64 t278) := (blk_cell BK279.out 2).trans rfl; have hfz152_0 := blk_frozen BK279.out 0; have hfz152_1 := blk_frozen BK279.out 1; have hfz152_2 := blk_frozen BK279.out 2; have hnb153 := NB261_275.out; have hnc153 := NB275_261.out; have hcz154_0 : w149.cell? ⟨gb261, 0, none⟩ = some (.int .i64 x262000_2) := (blk_cell BK261.out 0).trans rfl; have hcz154_1 : w149.cell? ⟨gb261, 1, none⟩ = some (.int .i64 x262001_2) := (blk_cell BK261.out 1).trans rfl; have hcz154_2 : w149.cell? ⟨gb261, 2, none⟩ = some (.int .i64 x262002_2) := (blk_cell BK261.out 2).trans rfl; have hfz154_0 := blk_frozen BK261.out 0; have hfz154_1 := blk_frozen BK261.out 1; have hfz154_2 := blk_frozen BK261.out 2))
            go_meet
            case rel => exact ⟨_, (true), (by first | rfl | (simp; done) | (simp [*]; done)), H', ⟨by have := HJ7.out; have := HK2.out; first | omega | exact Nat.le_refl _⟩, ⟨by (with_reducible repeat (first | refine blk_drewN ?_ _ | refine blk_drew ?_ | refine blk_alloc ?_ _)); exact BK261.out⟩, ⟨by (with_reducible repeat (first | refine blk_drewN ?_ _ | refine blk_drew ?_ | refine blk_alloc ?_ _)); exact BK262.out⟩, ⟨by (with_reducible repeat (first | refine blk_drewN ?_ _ | refine blk_drew ?_ | refine blk_alloc ?_ _)); exact BK275.out⟩, ⟨by (with_reducible repeat (first | refine blk_drewN ?_ _ | refine blk_drew ?_ | refine blk_alloc ?_ _)); exact BK279.out⟩, ⟨by repeat (first | (with_reducible first | exact HB.out | apply below_alloc | apply pw_below_drewN | apply below_drew1 | refine below_set ?_ GE261.out | refine below_set ?_ GE262.out | refine below_set ?_ GE275.out | refine below_set ?_ GE279.out) | exact HB.out)⟩⟩
         case rest =>
          clear HC29
          try clear c1
          try clear c2
          try clear p2
          try clear q2
          try clear hx2
          try clear c3
          try clear c4
          try clear c5
          try clear c6
          try clear c7
          try clear c8
          try clear c9
          try clear c10
          try clear c11
          try clear c12
          try clear c13
          try clear c14
          try clear c15
          try clear c25
          try clear c27
          try clear p27
          try clear q27
          try clear hx27
          try clear c28
          try clear c38
          try clear c39
          try clear c43
          try clear c44
          try clear c45
          try clear c48
          try clear c50
          try clear c52
          try clear c53
          try clear c54
          try clear c55
          try clear c60
          try clear c61
          try clear c65
          try clear c66
          try clear c67
          try clear c72
          try clear c73
          try clear c76
          try clear c79
          try clear c80
          try clear c81
          try clear c86
          try clear c86b0
          try clear c86b1
          try clear c87
          try clear c87b0
          try clear c87b1
          try clear c89
          try clear c91
          try clear c92
          try clear c93
          try clear c94
          try clear c97
          try clear c98
          try clear c100
          try clear c107
          try clear c108
          try clear c109
          try clear c112
          try clear c113
          try clear c115
          try clear c123
          try clear c124
          try clear c125
          try clear c128
          try clear c129
          try clear c131
          try clear c135
          try clear c136
          try clear c137
          try clear c140
          try clear c141
          try clear c143
          try clear c145
          try clear c146
          try clear c147
          try clear c150
          try clear c151
          try clear c153
          try clear hcz101_0
          try clear hcz101_1
          try clear hcz101_2
          try clear hcz102_0
          try clear hcz102_1
          try clear hcz104_0
          try clear hcz104_1
          try clear hcz110_0
          try clear hcz110_1
          try clear hcz114_0
          try clear hcz114_1
          try clear hcz114_2
          try clear hcz116_0
          try clear hcz116_1
          try clear hcz116_2
          try clear hcz117_0
          try clear hcz117_1
          try clear hcz119_0
          try clear hcz119_1
          try clear hcz121_0
          try clear hcz121_1
          try clear hcz121_2
          try clear hcz126_0
          try clear hcz126_1
          try clear hcz130_0
          try clear hcz130_1
          try clear hcz130_2
          try clear hcz132_0
          try clear hcz132_1
          try clear hcz132_2
          try clear hcz133_0
          try clear hcz133_1
          try clear hcz138_0
          try clear hcz138_1
          try clear hcz142_0
          try clear hcz142_1
          try clear hcz142_2
          try clear hcz144_0
          try clear hcz144_1
          try clear hcz144_2
          try clear hcz148_0
          try clear hcz148_1
          try clear hcz152_0
          try clear hcz152_1
          try clear hcz152_2
          try clear hcz154_0
          try clear hcz154_1
          try clear hcz154_2
          try clear hcz40_0
          try clear hcz40_1
          try clear hcz40_2
          try clear hcz46_0
          try clear hcz46_1
          try clear hcz46_2
          try clear hcz56_0
          try clear hcz56_1
          try clear hcz58_0
          try clear hcz58_1
          try clear hcz62_0
          try clear hcz62_1
          try clear hcz68_0
          try clear hcz68_1
          try clear hcz70_0
          try clear hcz70_1
          try clear hcz74_0
          try clear hcz74_1
          try clear hcz77_0
          try clear hcz77_1
          try clear hcz77_2
          try clear hcz82_0
          try clear hcz82_1
          try clear hcz84_0
          try clear hcz84_1
          try clear hcz95_0
          try clear hcz95_1
          try clear hcz99_0
          try clear hcz99_1
          try clear hcz99_2
          try clear hfz101_0
          try clear hfz101_1
          try clear hfz101_2
          try clear hfz102_0
          try clear hfz102_1
          try clear hfz104_0
          try clear hfz104_1
          try clear hfz110_0
          try clear hfz110_1
          try clear hfz114_0
          try clear hfz114_1
          try clear hfz114_2
          try clear hfz116_0
          try clear hfz116_1
          try clear hfz116_2
          try clear hfz117_0
          try clear hfz117_1
          try clear hfz119_0
          try clear hfz119_1
          try clear hfz121_0
          try clear hfz121_1
          try clear hfz121_2
          try clear hfz126_0
          try clear hfz126_1
          try clear hfz130_0
          try clear hfz130_1
          try clear hfz130_2
          try clear hfz132_0
          try clear hfz132_1
          try clear hfz132_2
          try clear hfz133_0
          try clear hfz133_1
          try clear hfz138_0
          try clear hfz138_1
          try clear hfz142_0
          try clear hfz142_1
          try clear hfz142_2
          try clear hfz144_0
          try clear hfz144_1
          try clear hfz144_2
          try clear hfz148_0
          try clear hfz148_1
          try clear hfz152_0
          try clear hfz152_1
          try clear hfz152_2
          try clear hfz154_0
          try clear hfz154_1
          try clear hfz154_2
          try clear hfz40_0
          try clear hfz40_1
          try clear hfz40_2
          try clear hfz46_0
          try clear hfz46_1
          try clear hfz46_2
          try clear hfz56_0
          try clear hfz56_1
          try clear hfz58_0
          try clear hfz58_1
          try clear hfz62_0
          try clear hfz62_1
          try clear hfz68_0
          try clear hfz68_1
          try clear hfz70_0
          try clear hfz70_1
          try clear hfz74_0
          try clear hfz74_1
          try clear hfz77_0
          try clear hfz77_1
          try clear hfz77_2
          try clear hfz82_0
          try clear hfz82_1
          try clear hfz84_0
          try clear hfz84_1
          try clear hfz95_0
          try clear hfz95_1
          try clear hfz99_0
          try clear hfz99_1
          try clear hfz99_2
          try clear hx272_0
          try clear hx272_1
          try clear hx272_2
          try clear hx272_3
          try clear p272
          try clear q272
          obtain ⟨kq, x105_28, rfl, HA, HJ28, BK261, BK262, BK275, BK279, HB⟩ := hcut
          cases kq with
          | zero => exact absurd HA.out (by simp [paternosterlaw12_LockOpens.j2])
          | succ kj28 =>
           have H := HA.out
           clear HA
           simp only [paternosterlaw12_LockOpens.j2] at H
           by_cases c155 : x105_28 = true
           ·subst c155
            have H1 : (some false) = some r := by rw [if_pos rfl] at H; exact H
            clear H
            have H := H1
            clear H1
            exact absurd (Option.some.inj H) (by rw [HT.out]; decide)
           ·replace c155 := Bool.eq_false_iff.mpr c155
            subst c155
            have H1 : (if t276 > 1000000 then (some false) else (paternosterlaw12_LockOpens.l0 kj28 l2 a3 (wrap64 (x11_2 + 1)) t276 t277 t278 t273 t274)) = some r := by rw [if_neg (show ¬ (false = true) by decide)] at H; exact H
            clear H
            have H := H1
            clear H1
            by_cases c156 : t276 > 1000000
            ·rw [if_pos c156] at H
             have c156b0 : decide (1000000 < t276) = true := decide_eq_true c156
             clear c156
             exact absurd (Option.some.inj H) (by rw [HT.out]; decide)
            ·rw [if_neg c156] at H
             have c156b0 : decide (1000000 < t276) = false := decide_eq_false c156
             clear c156
             have H' := Aside0.mk H
             clear H
             have hnb157 := NB279_261.out
             have hnc157 := NB261_279.out
             have hnb158 := NB279_262.out
             have hnc158 := NB262_279.out
             have hnb159 := NB279_275.out
             have hnc159 := NB275_279.out
             have hcz160_0 : wc.cell? ⟨gb279, 0, none⟩ = some (.int .i64 t276) := (blk_cell BK279.out 0).trans rfl
             have hcz160_1 : wc.cell? ⟨gb279, 1, none⟩ = some (.int .i64 t277) := (blk_cell BK279.out 1).trans rfl
             have hcz160_2 : wc.cell? ⟨gb279, 2, none⟩ = some (.int .i64 t278) := (blk_cell BK279.out 2).trans rfl
             have hfz160_0 := blk_frozen BK279.out 0
             have hfz160_1 := blk_frozen BK279.out 1
             have hfz160_2 := blk_frozen BK279.out 2
             have hnb161 := NB261_262.out
             have hnc161 := NB262_261.out
             have hnb162 := NB261_275.out
             have hnc162 := NB275_261.out
             have hcz163_0 : wc.cell? ⟨gb261, 0, none⟩ = some (.int .i64 x262000_2) := (blk_cell BK261.out 0).trans rfl
             have hcz163_1 : wc.cell? ⟨gb261, 1, none⟩ = some (.int .i64 x262001_2) := (blk_cell BK261.out 1).trans rfl
             have hcz163_2 : wc.cell? ⟨gb261, 2, none⟩ = some (.int .i64 x262002_2) := (blk_cell BK261.out 2).trans rfl
             have hfz163_0 := blk_frozen BK261.out 0
             have hfz163_1 := blk_frozen BK261.out 1
             have hfz163_2 := blk_frozen BK261.out 2
             have hnb164 := NB275_262.out
             have hnc164 := NB262_275.out
             have hcz165_0 : wc.cell? ⟨gb275, 0, none⟩ = some (.int .i64 t273) := (blk_cell BK275.out 0).trans rfl
             have hcz165_1 : wc.cell? ⟨gb275, 1, none⟩ = some (.int .i64 t274) := (blk_cell BK275.out 1).trans rfl
             have hfz165_0 := blk_frozen BK275.out 0
             have hfz165_1 := blk_frozen BK275.out 1
             have hcz166_0 : wc.cell? ⟨gb262, 0, none⟩ = some (.int .i64 x263000_2) := (blk_cell BK262.out 0).trans rfl
             have hcz166_1 : wc.cell? ⟨gb262, 1, none⟩ = some (.int .i64 x263001_2) := (blk_cell BK262.out 1).trans rfl
             have hfz166_0 := blk_frozen BK262.out 0
             have hfz166_1 := blk_frozen BK262.out 1
             go_wp2
             go_roundg kj28
             case measure => have := HJ7.out; have := HK2.out; have := HJ28.out; omega
             case rel => exact ⟨(wrap64 (x11_2 + 1)), (t276), (t277), (t278), (t273), (t274), (by first | rfl | (simp; done) | (simp [*]; done)), H', ⟨by have := HJ7.out; have := HK2.out; have := HJ28.out; omega⟩, ⟨by (with_reducible repeat (first | refine blk_drewN ?_ _ | refine blk_drew ?_ | refine blk_alloc ?_ _)); refine blk_far ?_ NB261_262.out _; (with_reducible repeat (first | refine blk_drewN ?_ _ | refine blk_drew ?_ | refine blk_alloc ?_ _)); refine blk_far ?_ NB261_262.out _; (with_reducible repeat (first | refine blk_drewN ?_ _ | refine blk_drew ?_ | refine blk_alloc ?_ _)); refine blk_put (cs := #[.int .i64 t276, .int .i64 t277, .int .i64 x262002_2]) ?_ 2 _ rfl; (with_reducible repeat (first | refine blk_drewN ?_ _ | refine blk_drew ?_ | refine blk_alloc ?_ _)); refine blk_put (cs := #[.int .i64 t276, .int .i64 x262001_2, .int .i64 x262002_2]) ?_ 1 _ rfl; (with_reducible repeat (first | refine blk_drewN ?_ _ | refine blk_drew ?_ | refine blk_alloc ?_ _)); refine blk_put (cs := #[.int .i64 x262000_2, .int .i64 x262001_2, .int .i64 x262002_2]) ?_ 0 _ rfl; (with_reducible repeat (first | refine blk_drewN ?_ _ | refine blk_drew ?_ | refine blk_alloc ?_ _)); exact BK261.out⟩, ⟨by (with_reducible repeat (first | refine blk_drewN ?_ _ | refine blk_drew ?_ | refine blk_alloc ?_ _)); refine blk_put (cs := #[.int .i64 t273, .int .i64 x263001_2]) ?_ 1 _ rfl; (with_reducible repeat (first | refine blk_drewN ?_ _ | refine blk_drew ?_ | refine blk_alloc ?_ _)); refine blk_put (cs := #[.int .i64 x263000_2, .int .i64 x263001_2]) ?_ 0 _ rfl; (with_reducible repeat (first | refine blk_drewN ?_ _ | refine blk_drew ?_ | refine blk_alloc ?_ _)); refine blk_far ?_ NB262_261.out _; (with_reducible repeat (first | refine blk_drewN ?_ _ | refine blk_drew ?_ | refine blk_alloc ?_ _)); refine blk_far ?_ NB262_261.out _; (with_reducible repeat (first | refine blk_drewN ?_ _ | refine blk_drew ?_ | refine blk_alloc ?_ _)); refine blk_far ?_ NB262_261.out _; (with_reducible repeat (first | refine blk_drewN ?_ _ | refine blk_drew ?_ | refine blk_alloc ?_ _)); exact BK262.out⟩, ⟨by repeat (first | (with_reducible first | exact HB.out | apply below_alloc | apply pw_below_drewN | apply below_drew1 | refine below_set ?_ GE261.out | refine below_set ?_ GE262.out | refine below_set ?_ GE275.out | refine below_set ?_ GE279.out) | exact HB.out)⟩⟩
        ·rw [if_neg c25] at H
         exact absurd H (by simp)
       ·rw [if_neg c24] at H
        have c24b0 : decide (x11_2 < (l2.length : Int)) = false := decide_eq_false c24
        clear c24
        obtain rfl := Option.some.inj H
        go_wp2
        go_ret
        exact ⟨by first | rfl | (simp [errW_none, errW_some] <;> rfl) | (simp [*, errW_none, errW_some] <;> rfl), by repeat (first | (with_reducible first | exact HB.out | apply below_alloc | apply pw_below_drewN | apply below_drew1 | refine below_set ?_ GE261.out | refine below_set ?_ GE262.out) | exact HB.out)⟩
 ·replace c6 := Bool.eq_false_iff.mpr c6
  subst c6
  have H1 : (some false) = some r := by rw [if_neg (show ¬ (false = true) by decide)] at H; exact H
  clear H
  have H := H1
  clear H1
  exact absurd (Option.some.inj H) (by rw [HT.out]; decide)

/-- THE ONE PURE STATEMENT of paternosterlaw12_LockOpens: yours. -/
def paternosterlaw12_LockOpens.Pure : Prop := ∀ (a0_0 : Int) (a0_1 : Int) (a0_2 : Int) (a1_0 : Int) (a1_1 : Int) (l2 : List (S27)) (a3 : Int), (Lit.int .i64 a0_0).wf = true → (Lit.int .i64 a0_1).wf = true → (Lit.int .i64 a0_2).wf = true → (Lit.int .i64 a1_0).wf = true → (Lit.int .i64 a1_1).wf = true → l2.length ≤ maxLen → (∀ x ∈ l2, (Lit.int .i64 x.f0).wf = true ∧ (Lit.int .i64 x.f2).wf = true) → (Lit.int .i64 a3).wf = true → ∃ k, paternosterlaw12_LockOpens.f k a0_0 a0_1 a0_2 a1_0 a1_1 l2 a3 = some true
theorem paternosterlaw12_LockOpens.walk (P : paternosterlaw12_LockOpens.Pure) (a0_0 : Int) (a0_1 : Int) (a0_2 : Int) (a1_0 : Int) (a1_1 : Int) (A2 : Option Addr) (c2 : Nat) (l2 : List S27) (a3 : Int) (w : World) (w0_0 : (Lit.int .i64 a0_0).wf = true) (w0_1 : (Lit.int .i64 a0_1).wf = true) (w0_2 : (Lit.int .i64 a0_2).wf = true) (w1_0 : (Lit.int .i64 a1_0).wf = true) (w1_1 : (Lit.int .i64 a1_1).wf = true) (hr2 : Kd.C k27 w A2 l2.length l2) (hc2 : l2.length ≤ c2) (hm2 : l2.length ≤ maxLen) (hw2 : ∀ x ∈ l2, (Lit.int .i64 x.f0).wf = true ∧ (Lit.int .i64 x.f2).wf = true) (w3 : (Lit.int .i64 a3).wf = true) :
  Calls Try.prog 11 #[.agg #[.int .i64 a0_0, .int .i64 a0_1, .int .i64 a0_2], .agg #[.int .i64 a1_0, .int .i64 a1_1], .slice A2 l2.length c2, .int .i64 a3] w fun e w' => e = .returned (.bool true) ∧ Below w.heap.size w w' := by
 obtain ⟨k, h⟩ := P a0_0 a0_1 a0_2 a1_0 a1_1 l2 a3 w0_0 w0_1 w0_2 w1_0 w1_1 hm2 hw2 w3
 refine (paternosterlaw12_LockOpens.calls k a0_0 a0_1 a0_2 a1_0 a1_1 _ _ l2 a3 true w hr2 hc2 rfl h).mono ?_
 rintro e w' ⟨rfl, hd⟩
 exact ⟨rfl, hd⟩

end Go.Proofs.Ytcegefhjgkoknaa.Q
