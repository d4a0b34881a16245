-- Written by a program of this session (turned from the kit's print.py) out of the translation. Not trusted: Lean checks it.
import Derived.Test.YtcegefhjgkoknaaGy0
namespace Go.Proofs.Ytcegefhjgkoknaa.G
open Go.RowKit Go.Proofs.YtcegefhjgkoknaaW.PrintWords Go.Proofs.YtcegefhjgkoknaaW.PrintLast Go.Proofs.YtcegefhjgkoknaaW.PrintMore
attribute [local go_sem] max2_int min2_int max_two min_two max_three min_three max_four min_four   -- for this text's walks alone
set_option linter.unusedVariables false
set_option linter.unusedSimpArgs false

attribute [local go_sem] fld23_0 fld23_1 fld23_2 fld25_0 fld25_1 fld27_0 fld27_1 fld27_2 fld27_3 fld37_0 fld37_1
attribute [local go_sem high] eqA37
set_option maxHeartbeats 8000000 in
set_option maxRecDepth 100000 in
theorem paternosterlaw14_GateTells.callsF (k : Nat) (a0_0 : Int) (a0_1 : Int) (a0_2 : Int) (a1_0 : Int) (a1_1 : Int) (a2_0 : Int) (a2_1 : Int) (a3_0 : Int) (a3_1 : Int) (a4 : Bool) (a5 : Bool) (a6 : Bool) (a7 : Int) (a8 : Int) (r : Bool) (w : World) (hT : r = true) (hag : againB a1_0 a1_1 a3_1 a8 a6 = false) (h : paternosterlaw14_GateTells.f k a0_0 a0_1 a0_2 a1_0 a1_1 a2_0 a2_1 a3_0 a3_1 a4 a5 a6 a7 a8 = some r) :
  Calls Try.prog 7 #[.agg #[.int .i64 a0_0, .int .i64 a0_1, .int .i64 a0_2], .agg #[.int .i64 a1_0, .int .i64 a1_1], .agg #[.int .i64 a2_0, .int .i64 a2_1], .agg #[.int .i64 a3_0, .int .i64 a3_1], .bool a4, .bool a5, .bool a6, .int .u8 a7, .int .i64 a8] w fun e w' => e = .returned (.bool r) ∧ Below w.heap.size w w' := by
 have hu23 := Try.underlying23
 have hu25 := Try.underlying25
 have hu37 := Try.underlying37
 have HT := Aside0.mk hT
 clear hT
 have HAG := Aside0.mk hag
 clear hag
 have HB := Aside0.mk (Below.refl w.heap.size w)
 have H : ((paternosterlaw14_awake.f).bind fun t135 => (if t135 = true then ((paternosterlaw14_may.f a0_0 a0_1 a0_2 a1_0 a1_1).bind fun t136 => ((paternosterlaw14_may.f a0_0 a0_1 a0_2 a2_0 a2_1).bind fun t137 => (if t136 = true then (if t137 = true then (if a3_0 < 0 then (paternosterlaw14_GateTells.j0 k a4 a5 a6 a7 a8 true a0_0 a0_1 a0_2 a1_0 a1_1 a2_0 a2_1 a3_0 a3_1) else (if a3_0 > 200 then (paternosterlaw14_GateTells.j0 k a4 a5 a6 a7 a8 true a0_0 a0_1 a0_2 a1_0 a1_1 a2_0 a2_1 a3_0 a3_1) else (if a3_1 < 0 then (paternosterlaw14_GateTells.j0 k a4 a5 a6 a7 a8 true a0_0 a0_1 a0_2 a1_0 a1_1 a2_0 a2_1 a3_0 a3_1) else (paternosterlaw14_GateTells.j0 k a4 a5 a6 a7 a8 (decide (a3_1 > 1000000)) a0_0 a0_1 a0_2 a1_0 a1_1 a2_0 a2_1 a3_0 a3_1)))) else (paternosterlaw14_GateTells.j0 k a4 a5 a6 a7 a8 true a0_0 a0_1 a0_2 a1_0 a1_1 a2_0 a2_1 a3_0 a3_1)) else (paternosterlaw14_GateTells.j0 k a4 a5 a6 a7 a8 true a0_0 a0_1 a0_2 a1_0 a1_1 a2_0 a2_1 a3_0 a3_1)))) else (some false))) = some r := h
 clear h
 replace H := Option.bind_eq_some_iff.mp H
 obtain ⟨t135, A100, H⟩ := H
 replace H : (if t135 = true then ((paternosterlaw14_may.f a0_0 a0_1 a0_2 a1_0 a1_1).bind fun t136 => ((paternosterlaw14_may.f a0_0 a0_1 a0_2 a2_0 a2_1).bind fun t137 => (if t136 = true then (if t137 = true then (if a3_0 < 0 then (paternosterlaw14_GateTells.j0 k a4 a5 a6 a7 a8 true a0_0 a0_1 a0_2 a1_0 a1_1 a2_0 a2_1 a3_0 a3_1) else (if a3_0 > 200 then (paternosterlaw14_GateTells.j0 k a4 a5 a6 a7 a8 true a0_0 a0_1 a0_2 a1_0 a1_1 a2_0 a2_1 a3_0 a3_1) else (if a3_1 < 0 then (paternosterlaw14_GateTells.j0 k a4 a5 a6 a7 a8 true a0_0 a0_1 a0_2 a1_0 a1_1 a2_0 a2_1 a3_0 a3_1) else (paternosterlaw14_GateTells.j0 k a4 a5 a6 a7 a8 (decide (a3_1 > 1000000)) a0_0 a0_1 a0_2 a1_0 a1_1 a2_0 a2_1 a3_0 a3_1)))) else (paternosterlaw14_GateTells.j0 k a4 a5 a6 a7 a8 true a0_0 a0_1 a0_2 a1_0 a1_1 a2_0 a2_1 a3_0 a3_1)) else (paternosterlaw14_GateTells.j0 k a4 a5 a6 a7 a8 true a0_0 a0_1 a0_2 a1_0 a1_1 a2_0 a2_1 a3_0 a3_1)))) else (some false)) = some r := H
 have A10 := Aside0.mk A100
 clear A100
 by_cases c11 : t135 = true
 ·subst c11
  have H1 : ((paternosterlaw14_may.f a0_0 a0_1 a0_2 a1_0 a1_1).bind fun t136 => ((paternosterlaw14_may.f a0_0 a0_1 a0_2 a2_0 a2_1).bind fun t137 => (if t136 = true then (if t137 = true then (if a3_0 < 0 then (paternosterlaw14_GateTells.j0 k a4 a5 a6 a7 a8 true a0_0 a0_1 a0_2 a1_0 a1_1 a2_0 a2_1 a3_0 a3_1) else (if a3_0 > 200 then (paternosterlaw14_GateTells.j0 k a4 a5 a6 a7 a8 true a0_0 a0_1 a0_2 a1_0 a1_1 a2_0 a2_1 a3_0 a3_1) else (if a3_1 < 0 then (paternosterlaw14_GateTells.j0 k a4 a5 a6 a7 a8 true a0_0 a0_1 a0_2 a1_0 a1_1 a2_0 a2_1 a3_0 a3_1) else (paternosterlaw14_GateTells.j0 k a4 a5 a6 a7 a8 (decide (a3_1 > 1000000)) a0_0 a0_1 a0_2 a1_0 a1_1 a2_0 a2_1 a3_0 a3_1)))) else (paternosterlaw14_GateTells.j0 k a4 a5 a6 a7 a8 true a0_0 a0_1 a0_2 a1_0 a1_1 a2_0 a2_1 a3_0 a3_1)) else (paternosterlaw14_GateTells.j0 k a4 a5 a6 a7 a8 true a0_0 a0_1 a0_2 a1_0 a1_1 a2_0 a2_1 a3_0 a3_1)))) = some r := by rw [if_pos rfl] at H; exact H
  clear H
  have H := H1
  clear H1
  replace H := Option.bind_eq_some_iff.mp H
  obtain ⟨t136, A120, H⟩ := H
  replace H : ((paternosterlaw14_may.f a0_0 a0_1 a0_2 a2_0 a2_1).bind fun t137 => (if t136 = true then (if t137 = true then (if a3_0 < 0 then (paternosterlaw14_GateTells.j0 k a4 a5 a6 a7 a8 true a0_0 a0_1 a0_2 a1_0 a1_1 a2_0 a2_1 a3_0 a3_1) else (if a3_0 > 200 then (paternosterlaw14_GateTells.j0 k a4 a5 a6 a7 a8 true a0_0 a0_1 a0_2 a1_0 a1_1 a2_0 a2_1 a3_0 a3_1) else (if a3_1 < 0 then (paternosterlaw14_GateTells.j0 k a4 a5 a6 a7 a8 true a0_0 a0_1 a0_2 a1_0 a1_1 a2_0 a2_1 a3_0 a3_1) else (paternosterlaw14_GateTells.j0 k a4 a5 a6 a7 a8 (decide (a3_1 > 1000000)) a0_0 a0_1 a0_2 a1_0 a1_1 a2_0 a2_1 a3_0 a3_1)))) else (paternosterlaw14_GateTells.j0 k a4 a5 a6 a7 a8 true a0_0 a0_1 a0_2 a1_0 a1_1 a2_0 a2_1 a3_0 a3_1)) else (paternosterlaw14_GateTells.j0 k a4 a5 a6 a7 a8 true a0_0 a0_1 a0_2 a1_0 a1_1 a2_0 a2_1 a3_0 a3_1))) = some r := H
  have A12 := Aside0.mk A120
  clear A120
  replace H := Option.bind_eq_some_iff.mp H
  obtain ⟨t137, A130, H⟩ := H
  replace H : (if t136 = true then (if t137 = true then (if a3_0 < 0 then (paternosterlaw14_GateTells.j0 k a4 a5 a6 a7 a8 true a0_0 a0_1 a0_2 a1_0 a1_1 a2_0 a2_1 a3_0 a3_1) else (if a3_0 > 200 then (paternosterlaw14_GateTells.j0 k a4 a5 a6 a7 a8 true a0_0 a0_1 a0_2 a1_0 a1_1 a2_0 a2_1 a3_0 a3_1) else (if a3_1 < 0 then (paternosterlaw14_GateTells.j0 k a4 a5 a6 a7 a8 true a0_0 a0_1 a0_2 a1_0 a1_1 a2_0 a2_1 a3_0 a3_1) else (paternosterlaw14_GateTells.j0 k a4 a5 a6 a7 a8 (decide (a3_1 > 1000000)) a0_0 a0_1 a0_2 a1_0 a1_1 a2_0 a2_1 a3_0 a3_1)))) else (paternosterlaw14_GateTells.j0 k a4 a5 a6 a7 a8 true a0_0 a0_1 a0_2 a1_0 a1_1 a2_0 a2_1 a3_0 a3_1)) else (paternosterlaw14_GateTells.j0 k a4 a5 a6 a7 a8 true a0_0 a0_1 a0_2 a1_0 a1_1 a2_0 a2_1 a3_0 a3_1)) = some r := H
  have A13 := Aside0.mk A130
  clear A130
  have HC14 := Aside0.mk H
  clear H
  go_enter Try.func7, Try.ntmps7
  go_upto_region 6 with (first | ((with_reducible refine gate_dst (N := 9) rfl ?_); refine box_event ?hg (N := 9) ?hd (cs := #[.int .i64 a0_0, .int .i64 a0_1, .int .i64 a0_2]) (t := 23) ?hr ?_; (case hd => rfl); (case hg => rfl); (case hr => first | (go_simp; done) | (go_simp; rfl)); intro gb131 hg w15 hbox hb; have n0_ := Aside0.mk (below_step (by repeat (first | (with_reducible first | exact HB.out | apply below_alloc | apply pw_below_drewN | apply below_drew1) | exact HB.out)) hb); have n1_ := Aside0.mk (hbox); have n2_ := Aside0.mk ((by rw [hg]; exact (below_size (by repeat (first | (with_reducible first | exact HB.out | apply below_alloc | apply pw_below_drewN | apply below_drew1) | exact HB.out))) : w.heap.size ≤ gb131)); have n3_ := Aside0.mk ((by rw [hg]; exact (below_size (by repeat (first | (with_reducible first | exact HB.out | apply below_alloc | apply pw_below_drewN | apply below_drew1) | exact HB.out))) : w.heap.size ≤ gb131)); clear HB; have HB := n0_; have BK131 := n1_; have GW131 := n2_; have GE131 := n3_; clear n0_ n1_ n2_ n3_; clear hb hbox hg) | ((with_reducible refine gate_dst (N := 10) rfl ?_); refine box_event ?hg (N := 10) ?hd (cs := #[.int .i64 a1_0, .int .i64 a1_1]) (t := 25) ?hr ?_; (case hd => rfl); (case hg => rfl); (case hr => first | (go_simp; done) | (go_simp; rfl)); intro gb132 hg w16 hbox hb; have n0_ := Aside0.mk (blk_below (g := gb131) (o := .cells #[.int .i64 a0_0, .int .i64 a0_1, .int .i64 a0_2] 23 (0, 0)) (by (with_reducible repeat (first | refine blk_drewN ?_ _ | refine blk_drew ?_ | refine blk_alloc ?_ _)); exact BK131.out) hb); have n1_ := Aside0.mk (below_step (by repeat (first | (with_reducible first | exact HB.out | apply below_alloc | apply pw_below_drewN | apply below_drew1 | refine below_set ?_ GE131.out) | exact HB.out)) hb); have n2_ := Aside0.mk (hbox); have n3_ := Aside0.mk ((by rw [hg]; exact (below_size (by repeat (first | (with_reducible first | exact HB.out | apply below_alloc | apply pw_below_drewN | apply below_drew1 | refine below_set ?_ GE131.out) | exact HB.out))) : w.heap.size ≤ gb132)); have n4_ := Aside0.mk ((by rw [hg]; exact (below_size (by repeat (first | (with_reducible first | exact HB.out | apply below_alloc | apply pw_below_drewN | apply below_drew1 | refine below_set ?_ GE131.out) | exact HB.out))) : w.heap.size ≤ gb132)); have n5_ := Aside0.mk ((by rw [hg]; exact Nat.ne_of_lt (blk_lt (g := gb131) (o := .cells #[.int .i64 a0_0, .int .i64 a0_1, .int .i64 a0_2] 23 (0, 0)) (by (with_reducible repeat (first | refine blk_drewN ?_ _ | refine blk_drew ?_ | refine blk_alloc ?_ _)); exact BK131.out)) : gb131 ≠ gb132)); have n6_ := Aside0.mk ((by rw [hg]; exact Nat.ne_of_gt (blk_lt (g := gb131) (o := .cells #[.int .i64 a0_0, .int .i64 a0_1, .int .i64 a0_2] 23 (0, 0)) (by (with_reducible repeat (first | refine blk_drewN ?_ _ | refine blk_drew ?_ | refine blk_alloc ?_ _)); exact BK131.out)) : gb132 ≠ gb131)); clear BK131; clear HB; have BK131 := n0_; have HB := n1_; have BK132 := n2_; have GW132 := n3_; have GE132 := n4_; have NB131_132 := n5_; have NB132_131 := n6_; clear n0_ n1_ n2_ n3_ n4_ n5_ n6_; clear hb hbox hg) | ((with_reducible refine gate_dst (N := 11) rfl ?_); refine box_event ?hg (N := 11) ?hd (cs := #[.int .i64 a2_0, .int .i64 a2_1]) (t := 25) ?hr ?_; (case hd => rfl); (case hg => rfl); (case hr => first | (go_simp; done) | (go_simp; rfl)); intro gb133 hg w17 hbox hb; have n0_ := Aside0.mk (blk_below (g := gb131) (o := .cells #[.int .i64 a0_0, .int .i64 a0_1, .int .i64 a0_2] 23 (0, 0)) (by (with_reducible repeat (first | refine blk_drewN ?_ _ | refine blk_drew ?_ | refine blk_alloc ?_ _)); exact BK131.out) hb); have n1_ := Aside0.mk (blk_below (g := gb132) (o := .cells #[.int .i64 a1_0, .int .i64 a1_1] 25 (0, 0)) (by (with_reducible repeat (first | refine blk_drewN ?_ _ | refine blk_drew ?_ | refine blk_alloc ?_ _)); exact BK132.out) hb); have n2_ := Aside0.mk (below_step (by repeat (first | (with_reducible first | exact HB.out | apply below_alloc | apply pw_below_drewN | apply below_drew1 | refine below_set ?_ GE131.out | refine below_set ?_ GE132.out) | exact HB.out)) hb); have n3_ := Aside0.mk (hbox); have n4_ := Aside0.mk ((by rw [hg]; exact (below_size (by repeat (first | (with_reducible first | exact HB.out | apply below_alloc | apply pw_below_drewN | apply below_drew1 | refine below_set ?_ GE131.out | refine below_set ?_ GE132.out) | exact HB.out))) : w.heap.size ≤ gb133)); have n5_ := Aside0.mk ((by rw [hg]; exact (below_size (by repeat (first | (with_reducible first | exact HB.out | apply below_alloc | apply pw_below_drewN | apply below_drew1 | refine below_set ?_ GE131.out | refine below_set ?_ GE132.out) | exact HB.out))) : w.heap.size ≤ gb133)); have n6_ := Aside0.mk ((by rw [hg]; exact Nat.ne_of_lt (blk_lt (g := gb131) (o := .cells #[.int .i64 a0_0, .int .i64 a0_1, .int .i64 a0_2] 23 (0, 0)) (by (with_reducible repeat (first | refine blk_drewN ?_ _ | refine blk_drew ?_ | refine blk_alloc ?_ _)); exact BK131.out)) : gb131 ≠ gb133)); have n7_ := Aside0.mk ((by rw [hg]; exact Nat.ne_of_gt (blk_lt (g := gb131) (o := .cells #[.int .i64 a0_0, .int .i64 a0_1, .int .i64 a0_2] 23 (0, 0)) (by (with_reducible repeat (first | refine blk_drewN ?_ _ | refine blk_drew ?_ | refine blk_alloc ?_ _)); exact BK131.out)) : gb133 ≠ gb131)); have n8_ := Aside0.mk ((by rw [hg]; exact Nat.ne_of_lt (blk_lt (g := gb132) (o := .cells #[.int .i64 a1_0, .int .i64 a1_1] 25 (0, 0)) (by (with_reducible repeat (first | refine blk_drewN ?_ _ | refine blk_drew ?_ | refine blk_alloc ?_ _)); exact BK132.out)) : gb132 ≠ gb133)); have n9_ := Aside0.mk ((by rw [hg]; exact Nat.ne_of_gt (blk_lt (g := gb132) (o := .cells #[.int .i64 a1_0, .int .i64 a1_1] 25 (0, 0)) (by (with_reducible repeat (first | refine blk_drewN ?_ _ | refine blk_drew ?_ | refine blk_alloc ?_ _)); exact BK132.out)) : gb133 ≠ gb132)); clear BK131; clear BK132; clear HB; have BK131 := n0_; have BK132 := n1_; have HB := n2_; have BK133 := n3_; have GW133 := n4_; have GE133 := n5_; have NB131_133 := n6_; have NB133_131 := n7_; have NB132_133 := n8_; have NB133_132 := n9_; clear n0_ n1_ n2_ n3_ n4_ n5_ n6_ n7_ n8_ n9_; clear hb hbox hg) | ((with_reducible refine gate_dst (N := 12) rfl ?_); refine box_event ?hg (N := 12) ?hd (cs := #[.int .i64 a3_0, .int .i64 a3_1]) (t := 37) ?hr ?_; (case hd => rfl); (case hg => rfl); (case hr => first | (go_simp; done) | (go_simp; rfl)); intro gb134 hg w18 hbox hb; have n0_ := Aside0.mk (blk_below (g := gb131) (o := .cells #[.int .i64 a0_0, .int .i64 a0_1, .int .i64 a0_2] 23 (0, 0)) (by (with_reducible repeat (first | refine blk_drewN ?_ _ | refine blk_drew ?_ | refine blk_alloc ?_ _)); exact BK131.out) hb); have n1_ := Aside0.mk (blk_below (g := gb132) (o := .cells #[.int .i64 a1_0, .int .i64 a1_1] 25 (0, 0)) (by (with_reducible repeat (first | refine blk_drewN ?_ _ | refine blk_drew ?_ | refine blk_alloc ?_ _)); exact BK132.out) hb); have n2_ := Aside0.mk (blk_below (g := gb133) (o := .cells #[.int .i64 a2_0, .int .i64 a2_1] 25 (0, 0)) (by (with_reducible repeat (first | refine blk_drewN ?_ _ | refine blk_drew ?_ | refine blk_alloc ?_ _)); exact BK133.out) hb); have n3_ := Aside0.mk (below_step (by repeat (first | (with_reducible first | exact HB.out | apply below_alloc | apply pw_below_drewN | apply below_drew1 | refine below_set ?_ GE131.out | refine below_set ?_ GE132.out | refine below_set ?_ GE133.out) | exact HB.out)) hb); have n4_ := Aside0.mk (hbox); have n5_ := Aside0.mk ((by rw [hg]; exact (below_size (by repeat (first | (with_reducible first | exact HB.out | apply below_alloc | apply pw_below_drewN | apply below_drew1 | refine below_set ?_ GE131.out | refine below_set ?_ GE132.out | refine below_set ?_ GE133.out) | exact HB.out))) : w.heap.size ≤ gb134)); have n6_ := Aside0.mk ((by rw [hg]; exact (below_size (by repeat (first | (with_reducible first | exact HB.out | apply below_alloc | apply pw_below_drewN | apply below_drew1 | refine below_set ?_ GE131.out | refine below_set ?_ GE132.out | refine below_set ?_ GE133.out) | exact HB.out))) : w.heap.size ≤ gb134)); have n7_ := Aside0.mk ((by rw [hg]; exact Nat.ne_of_lt (blk_lt (g := gb131) (o := .cells #[.int .i64 a0_0, .int .i64 a0_1, .int .i64 a0_2] 23 (0, 0)) (by (with_reducible repeat (first | refine blk_drewN ?_ _ | refine blk_drew ?_ | refine blk_alloc ?_ _)); exact BK131.out)) : gb131 ≠ gb134)); have n8_ := Aside0.mk ((by rw [hg]; exact Nat.ne_of_gt (blk_lt (g := gb131) (o := .cells #[.int .i64 a0_0, .int .i64 a0_1, .int .i64 a0_2] 23 (0, 0)) (by (with_reducible repeat (first | refine blk_drewN ?_ _ | refine blk_drew ?_ | refine blk_alloc ?_ _)); exact BK131.out)) : gb134 ≠ gb131)); have n9_ := Aside0.mk ((by rw [hg]; exact Nat.ne_of_lt (blk_lt (g := gb132) (o := .cells #[.int .i64 a1_0, .int .i64 a1_1] 25 (0, 0)) (by (with_reducible repeat (first | refine blk_drewN ?_ _ | refine blk_drew ?_ | refine blk_alloc ?_ _)); exact BK132.out)) : gb132 ≠ gb134)); have n10_ := Aside0.mk ((by rw [hg]; exact Nat.ne_of_gt (blk_lt (g := gb132) (o := .cells #[.int .i64 a1_0, .int .i64 a1_1] 25 (0, 0)) (by (with_reducible repeat (first | refine blk_drewN ?_ _ | refine blk_drew ?_ | refine blk_alloc ?_ _)); exact BK132.out)) : gb134 ≠ gb132)); have n11_ := Aside0.mk ((by rw [hg]; exact Nat.ne_of_lt (blk_lt (g := gb133) (o := .cells #[.int .i64 a2_0, .int .i64 a2_1] 25 (0, 0)) (by (with_reducible repeat (first | refine blk_drewN ?_ _ | refine blk_drew ?_ | refine blk_alloc ?_ _)); exact BK133.out)) : gb133 ≠ gb134)); have n12_ := Aside0.mk ((by rw [hg]; exact Nat.ne_of_gt (blk_lt (g := gb133) (o := .cells #[.int .i64 a2_0, .int .i64 a2_1] 25 (0, 0)) (by (with_reducible repeat (first | refine blk_drewN ?_ _ | refine blk_drew ?_ | refine blk_alloc ?_ _)); exact BK133.out)) : gb134 ≠ gb133)); clear BK131; clear BK132; clear BK133; clear HB; have BK131 := n0_; have BK132 := n1_; have BK133 := n2_; have HB := n3_; have BK134 := n4_; have GW134 := n5_; have GE134 := n6_; have NB131_134 := n7_; have NB134_131 := n8_; have NB132_134 := n9_; have NB134_132 := n10_; have NB133_134 := n11_; have NB134_133 := n12_; clear n0_ n1_ n2_ n3_ n4_ n5_ n6_ n7_ n8_ n9_ n10_ n11_ n12_; clear hb hbox hg) | ((with_reducible refine gate_callee (f := 18) rfl ?_); refine goesL_ (some 31) rfl rfl Try.func18 (by kernel_rfl) rfl #[] rfl (by (try simp only [List.map_toArray, List.map_cons, List.map_nil]); first | done | rfl | (simp only [List.length_drop, List.length_take]; rfl)) ?_; (with_reducible refine (paternosterlaw14_awake.calls  true _ A10.out).mono ?_); rintro e w19 ⟨rfl, hb⟩; refine ⟨_, rfl, ?_⟩; have n0_ := Aside0.mk (blk_below (g := gb131) (o := .cells #[.int .i64 a0_0, .int .i64 a0_1, .int .i64 a0_2] 23 (0, 0)) (by (with_reducible repeat (first | refine blk_drewN ?_ _ | refine blk_drew ?_ | refine blk_alloc ?_ _)); exact BK131.out) hb); have n1_ := Aside0.mk (blk_below (g := gb132) (o := .cells #[.int .i64 a1_0, .int .i64 a1_1] 25 (0, 0)) (by (with_reducible repeat (first | refine blk_drewN ?_ _ | refine blk_drew ?_ | refine blk_alloc ?_ _)); exact BK132.out) hb); have n2_ := Aside0.mk (blk_below (g := gb133) (o := .cells #[.int .i64 a2_0, .int .i64 a2_1] 25 (0, 0)) (by (with_reducible repeat (first | refine blk_drewN ?_ _ | refine blk_drew ?_ | refine blk_alloc ?_ _)); exact BK133.out) hb); have n3_ := Aside0.mk (blk_below (g := gb134) (o := .cells #[.int .i64 a3_0, .int .i64 a3_1] 37 (0, 0)) (by (with_reducible repeat (first | refine blk_drewN ?_ _ | refine blk_drew ?_ | refine blk_alloc ?_ _)); exact BK134.out) hb); have n4_ := Aside0.mk (below_step (by repeat (first | (with_reducible first | exact HB.out | apply below_alloc | apply pw_below_drewN | apply below_drew1 | refine below_set ?_ GE131.out | refine below_set ?_ GE132.out | refine below_set ?_ GE133.out | refine below_set ?_ GE134.out) | exact HB.out)) hb); clear BK131; clear BK132; clear BK133; clear BK134; clear HB; have BK131 := n0_; have BK132 := n1_; have BK133 := n2_; have BK134 := n3_; have HB := n4_; clear n0_ n1_ n2_ n3_ n4_; (try clear hb); (try clear hb2); (try clear hk); (try clear hi); have hnb20 := NB131_132.out; have hnc20 := NB132_131.out; have hnb21 := NB131_133.out; have hnc21 := NB133_131.out; have hnb22 := NB131_134.out; have hnc22 := NB134_131.out; have hcz23_0 : w19.cell? ⟨gb131, 0, none⟩ = some (.int .i64 a0_0) := (blk_cell BK131.out 0).trans rfl; have hcz23_1 : w19.cell? ⟨gb131, 1, none⟩ = some (.int .i64 a0_1) := (blk_cell BK131.out 1).trans rfl; have hcz23_2 : w19.cell? ⟨gb131, 2, none⟩ = some (.int .i64 a0_2) := (blk_cell BK131.out 2).trans rfl; have hfz23_0 := blk_frozen BK131.out 0; have hfz23_1 := blk_frozen BK131.out 1; have hfz23_2 := blk_frozen BK131.out 2; have hnb24 := NB132_133.out; have hnc24 := NB133_132.out; have hnb25 := NB132_134.out; have hnc25 := NB134_132.out; have hcz26_0 : w19.cell? ⟨gb132, 0, none⟩ = some (.int .i64 a1_0) := (blk_cell BK132.out 0).trans rfl; have hcz26_1 : w19.cell? ⟨gb132, 1, none⟩ = some (.int .i64 a1_1) := (blk_cell BK132.out 1).trans rfl; have hfz26_0 := blk_frozen BK132.out 0; have hfz26_1 := blk_frozen BK132.out 1) | ((with_reducible refine gate_callee (f := 22) rfl ?_); refine goesL_ (some 36) rfl rfl Try.func22 (by kernel_rfl) rfl #[.agg #[.int .i64 a0_0, .int .i64 a0_1, .int .i64 a0_2], .agg #[.int .i64 a1_0, .int .i64 a1_1]] rfl (by (try simp only [List.map_toArray, List.map_cons, List.map_nil]); first | done | rfl | (simp only [List.length_drop, List.length_take]; rfl)) ?_; (with_reducible refine (paternosterlaw14_may.calls a0_0 a0_1 a0_2 a1_0 a1_1 t136 _ A12.out).mono ?_); rintro e w27 ⟨rfl, hb⟩; clear A12; refine ⟨_, rfl, ?_⟩; have n0_ := Aside0.mk (blk_below (g := gb131) (o := .cells #[.int .i64 a0_0, .int .i64 a0_1, .int .i64 a0_2] 23 (0, 0)) (by (with_reducible repeat (first | refine blk_drewN ?_ _ | refine blk_drew ?_ | refine blk_alloc ?_ _)); exact BK131.out) hb); have n1_ := Aside0.mk (blk_below (g := gb132) (o := .cells #[.int .i64 a1_0, .int .i64 a1_1] 25 (0, 0)) (by (with_reducible repeat (first | refine blk_drewN ?_ _ | refine blk_drew ?_ | refine blk_alloc ?_ _)); exact BK132.out) hb); have n2_ := Aside0.mk (blk_below (g := gb133) (o := .cells #[.int .i64 a2_0, .int .i64 a2_1] 25 (0, 0)) (by (with_reducible repeat (first | refine blk_drewN ?_ _ | refine blk_drew ?_ | refine blk_alloc ?_ _)); exact BK133.out) hb); have n3_ := Aside0.mk (blk_below (g := gb134) (o := .cells #[.int .i64 a3_0, .int .i64 a3_1] 37 (0, 0)) (by (with_reducible repeat (first | refine blk_drewN ?_ _ | refine blk_drew ?_ | refine blk_alloc ?_ _)); exact BK134.out) hb); have n4_ := Aside0.mk (below_step (by repeat (first | (with_reducible first | exact HB.out | apply below_alloc | apply pw_below_drewN | apply below_drew1 | refine below_set ?_ GE131.out | refine below_set ?_ GE132.out | refine below_set ?_ GE133.out | refine below_set ?_ GE134.out) | exact HB.out)) hb); clear BK131; clear BK132; clear BK133; clear BK134; clear HB; have BK131 := n0_; have BK132 := n1_; have BK133 := n2_; have BK134 := n3_; have HB := n4_; clear n0_ n1_ n2_ n3_ n4_; (try clear hb); (try clear hb2); (try clear hk); (try clear hi); have hcz28_0 : w27.cell? ⟨gb131, 0, none⟩ = some (.int .i64 a0_0) := (blk_cell BK131.out 0).trans rfl; have hcz28_1 : w27.cell? ⟨gb131, 1, none⟩ = some (.int .i64 a0_1) := (blk_cell BK131.out 1).trans rfl; have hcz28_2 : w27.cell? ⟨gb131, 2, none⟩ = some (.int .i64 a0_2) := (blk_cell BK131.out 2).trans rfl; have hfz28_0 := blk_frozen BK131.out 0; have hfz28_1 := blk_frozen BK131.out 1; have hfz28_2 := blk_frozen BK131.out 2; have hnb29 := NB133_134.out; have hnc29 := NB134_133.out; have hcz30_0 : w27.cell? ⟨gb133, 0, none⟩ = some (.int .i64 a2_0) := (blk_cell BK133.out 0).trans rfl; have hcz30_1 : w27.cell? ⟨gb133, 1, none⟩ = some (.int .i64 a2_1) := (blk_cell BK133.out 1).trans rfl; have hfz30_0 := blk_frozen BK133.out 0; have hfz30_1 := blk_frozen BK133.out 1) | ((with_reducible refine gate_callee (f := 22) rfl ?_); refine goesL_ (some 39) rfl rfl Try.func22 (by kernel_rfl) rfl #[.agg #[.int .i64 a0_0, .int .i64 a0_1, .int .i64 a0_2], .agg #[.int .i64 a2_0, .int .i64 a2_1]] rfl (by (try simp only [List.map_toArray, List.map_cons, List.map_nil]); first | done | rfl | (simp only [List.length_drop, List.length_take]; rfl)) ?_; (with_reducible refine (paternosterlaw14_may.calls a0_0 a0_1 a0_2 a2_0 a2_1 t137 _ A13.out).mono ?_); rintro e w31 ⟨rfl, hb⟩; clear A13; refine ⟨_, rfl, ?_⟩; have n0_ := Aside0.mk (blk_below (g := gb131) (o := .cells #[.int .i64 a0_0, .int .i64 a0_1, .int .i64 a0_2] 23 (0, 0)) (by (with_reducible repeat (first | refine blk_drewN ?_ _ | refine blk_drew ?_ | refine blk_alloc ?_ _)); exact BK131.out) hb); have n1_ := Aside0.mk (blk_below (g := gb132) (o := .cells #[.int .i64 a1_0, .int .i64 a1_1] 25 (0, 0)) (by (with_reducible repeat (first | refine blk_drewN ?_ _ | refine blk_drew ?_ | refine blk_alloc ?_ _)); exact BK132.out) hb); have n2_ := Aside0.mk (blk_below (g := gb133) (o := .cells #[.int .i64 a2_0, .int .i64 a2_1] 25 (0, 0)) (by (with_reducible repeat (first | refine blk_drewN ?_ _ | refine blk_drew ?_ | refine blk_alloc ?_ _)); exact BK133.out) hb); have n3_ := Aside0.mk (blk_below (g := gb134) (o := .cells #[.int .i64 a3_0, .int .i64 a3_1] 37 (0, 0)) (by (with_reducible repeat (first | refine blk_drewN ?_ _ | refine blk_drew ?_ | refine blk_alloc ?_ _)); exact BK134.out) hb); have n4_ := Aside0.mk (below_step (by repeat (first | (with_reducible first | exact HB.out | apply below_alloc | apply pw_below_drewN | apply below_drew1 | refine below_set ?_ GE131.out | refine below_set ?_ GE132.out | refine below_set ?_ GE133.out | refine below_set ?_ GE134.out) | exact HB.out)) hb); clear BK131; clear BK132; clear BK133; clear BK134; clear HB; have BK131 := n0_; have BK132 := n1_; have BK133 := n2_; have BK134 := n3_; have HB := n4_; clear n0_ n1_ n2_ n3_ n4_; (try clear hb); (try clear hb2); (try clear hk); (try clear hi)))
  (try simp only [Act.put, sA, sB, sC])
  go_cut [65] (fun v65 wc => ∃ (kq : Nat) (x65_13 : Bool), v65 = .bool x65_13 ∧ Aside0 (paternosterlaw14_GateTells.j0 kq a4 a5 a6 a7 a8 x65_13 a0_0 a0_1 a0_2 a1_0 a1_1 a2_0 a2_1 a3_0 a3_1 = some r) ∧ Aside0 (kq ≤ k) ∧ Aside0 (wc.heap[gb131]? = some (.cells #[.int .i64 a0_0, .int .i64 a0_1, .int .i64 a0_2] 23 (0, 0))) ∧ Aside0 (wc.heap[gb132]? = some (.cells #[.int .i64 a1_0, .int .i64 a1_1] 25 (0, 0))) ∧ Aside0 (wc.heap[gb133]? = some (.cells #[.int .i64 a2_0, .int .i64 a2_1] 25 (0, 0))) ∧ Aside0 (wc.heap[gb134]? = some (.cells #[.int .i64 a3_0, .int .i64 a3_1] 37 (0, 0))) ∧ Aside0 (Below w.heap.size w wc))
  case first => as_aux_lemma =>
   have H := HC14.out
   clear HC14
   by_cases c32 : t136 = true
   ·subst c32
    have H1 : (if t137 = true then (if a3_0 < 0 then (paternosterlaw14_GateTells.j0 k a4 a5 a6 a7 a8 true a0_0 a0_1 a0_2 a1_0 a1_1 a2_0 a2_1 a3_0 a3_1) else (if a3_0 > 200 then (paternosterlaw14_GateTells.j0 k a4 a5 a6 a7 a8 true a0_0 a0_1 a0_2 a1_0 a1_1 a2_0 a2_1 a3_0 a3_1) else (if a3_1 < 0 then (paternosterlaw14_GateTells.j0 k a4 a5 a6 a7 a8 true a0_0 a0_1 a0_2 a1_0 a1_1 a2_0 a2_1 a3_0 a3_1) else (paternosterlaw14_GateTells.j0 k a4 a5 a6 a7 a8 (decide (a3_1 > 1000000)) a0_0 a0_1 a0_2 a1_0 a1_1 a2_0 a2_1 a3_0 a3_1)))) else (paternosterlaw14_GateTells.j0 k a4 a5 a6 a7 a8 true a0_0 a0_1 a0_2 a1_0 a1_1 a2_0 a2_1 a3_0 a3_1)) = some r := by rw [if_pos rfl] at H; exact H
    clear H
    have H := H1
    clear H1
    by_cases c33 : t137 = true
    ·subst c33
     have H1 : (if a3_0 < 0 then (paternosterlaw14_GateTells.j0 k a4 a5 a6 a7 a8 true a0_0 a0_1 a0_2 a1_0 a1_1 a2_0 a2_1 a3_0 a3_1) else (if a3_0 > 200 then (paternosterlaw14_GateTells.j0 k a4 a5 a6 a7 a8 true a0_0 a0_1 a0_2 a1_0 a1_1 a2_0 a2_1 a3_0 a3_1) else (if a3_1 < 0 then (paternosterlaw14_GateTells.j0 k a4 a5 a6 a7 a8 true a0_0 a0_1 a0_2 a1_0 a1_1 a2_0 a2_1 a3_0 a3_1) else (paternosterlaw14_GateTells.j0 k a4 a5 a6 a7 a8 (decide (a3_1 > 1000000)) a0_0 a0_1 a0_2 a1_0 a1_1 a2_0 a2_1 a3_0 a3_1)))) = some r := by rw [if_pos rfl] at H; exact H
     clear H
     have H := H1
     clear H1
     by_cases c34 : a3_0 < 0
     ·rw [if_pos c34] at H
      have c34b0 : decide (a3_0 < 0) = true := decide_eq_true c34
      clear c34
      (first | rw [c34b0] | (simp only [i64_w, i32_w]; rw [c34b0]) | skip)
      have H' := Aside0.mk H
      clear H
      have hnb35 := NB134_131.out
      have hnc35 := NB131_134.out
      have hnb36 := NB134_132.out
      have hnc36 := NB132_134.out
      have hnb37 := NB134_133.out
      have hnc37 := NB133_134.out
      have hcz38_0 : w31.cell? ⟨gb134, 0, none⟩ = some (.int .i64 a3_0) := (blk_cell BK134.out 0).trans rfl
      have hcz38_1 : w31.cell? ⟨gb134, 1, none⟩ = some (.int .i64 a3_1) := (blk_cell BK134.out 1).trans rfl
      have hfz38_0 := blk_frozen BK134.out 0
      have hfz38_1 := blk_frozen BK134.out 1
      go_wp2
      go_meet
      case rel => exact ⟨_, (true), (by first | rfl | (simp; done) | (simp [*]; done)), H', ⟨by first | omega | exact Nat.le_refl _⟩, ⟨by (with_reducible repeat (first | refine blk_drewN ?_ _ | refine blk_drew ?_ | refine blk_alloc ?_ _)); exact BK131.out⟩, ⟨by (with_reducible repeat (first | refine blk_drewN ?_ _ | refine blk_drew ?_ | refine blk_alloc ?_ _)); exact BK132.out⟩, ⟨by (with_reducible repeat (first | refine blk_drewN ?_ _ | refine blk_drew ?_ | refine blk_alloc ?_ _)); exact BK133.out⟩, ⟨by (with_reducible repeat (first | refine blk_drewN ?_ _ | refine blk_drew ?_ | refine blk_alloc ?_ _)); exact BK134.out⟩, ⟨by repeat (first | (with_reducible first | exact HB.out | apply below_alloc | apply pw_below_drewN | apply below_drew1 | refine below_set ?_ GE131.out | refine below_set ?_ GE132.out | refine below_set ?_ GE133.out | refine below_set ?_ GE134.out) | exact HB.out)⟩⟩
     ·rw [if_neg c34] at H
      have c34b0 : decide (a3_0 < 0) = false := decide_eq_false c34
      clear c34
      (first | rw [c34b0] | (simp only [i64_w, i32_w]; rw [c34b0]) | skip)
      by_cases c39 : a3_0 > 200
      ·rw [if_pos c39] at H
       have c39b0 : decide (200 < a3_0) = true := decide_eq_true c39
       clear c39
       have H' := Aside0.mk H
       clear H
       have hnb40 := NB134_131.out
       have hnc40 := NB131_134.out
       have hnb41 := NB134_132.out
       have hnc41 := NB132_134.out
       have hnb42 := NB134_133.out
       have hnc42 := NB133_134.out
       have hcz43_0 : w31.cell? ⟨gb134, 0, none⟩ = some (.int .i64 a3_0) := (blk_cell BK134.out 0).trans rfl
       have hcz43_1 : w31.cell? ⟨gb134, 1, none⟩ = some (.int .i64 a3_1) := (blk_cell BK134.out 1).trans rfl
       have hfz43_0 := blk_frozen BK134.out 0
       have hfz43_1 := blk_frozen BK134.out 1
       go_wp2
       go_meet
       case rel => exact ⟨_, (true), (by first | rfl | (simp; done) | (simp [*]; done)), H', ⟨by first | omega | exact Nat.le_refl _⟩, ⟨by (with_reducible repeat (first | refine blk_drewN ?_ _ | refine blk_drew ?_ | refine blk_alloc ?_ _)); exact BK131.out⟩, ⟨by (with_reducible repeat (first | refine blk_drewN ?_ _ | refine blk_drew ?_ | refine blk_alloc ?_ _)); exact BK132.out⟩, ⟨by (with_reducible repeat (first | refine blk_drewN ?_ _ | refine blk_drew ?_ | refine blk_alloc ?_ _)); exact BK133.out⟩, ⟨by (with_reducible repeat (first | refine blk_drewN ?_ _ | refine blk_drew ?_ | refine blk_alloc ?_ _)); exact BK134.out⟩, ⟨by repeat (first | (with_reducible first | exact HB.out | apply below_alloc | apply pw_below_drewN | apply below_drew1 | refine below_set ?_ GE131.out | refine below_set ?_ GE132.out | refine below_set ?_ GE133.out | refine below_set ?_ GE134.out) | exact HB.out)⟩⟩
      ·rw [if_neg c39] at H
       have c39b0 : decide (200 < a3_0) = false := decide_eq_false c39
       clear c39
       by_cases c44 : a3_1 < 0
       ·rw [if_pos c44] at H
        have c44b0 : decide (a3_1 < 0) = true := decide_eq_true c44
        clear c44
        have H' := Aside0.mk H
        clear H
        have hnb45 := NB134_131.out
        have hnc45 := NB131_134.out
        have hnb46 := NB134_132.out
        have hnc46 := NB132_134.out
        have hnb47 := NB134_133.out
        have hnc47 := NB133_134.out
        have hcz48_0 : w31.cell? ⟨gb134, 0, none⟩ = some (.int .i64 a3_0) := (blk_cell BK134.out 0).trans rfl
        have hcz48_1 : w31.cell? ⟨gb134, 1, none⟩ = some (.int .i64 a3_1) := (blk_cell BK134.out 1).trans rfl
        have hfz48_0 := blk_frozen BK134.out 0
        have hfz48_1 := blk_frozen BK134.out 1
        go_wp2
        go_meet
        case rel => exact ⟨_, (true), (by first | rfl | (simp; done) | (simp [*]; done)), H', ⟨by first | omega | exact Nat.le_refl _⟩, ⟨by (with_reducible repeat (first | refine blk_drewN ?_ _ | refine blk_drew ?_ | refine blk_alloc ?_ _)); exact BK131.out⟩, ⟨by (with_reducible repeat (first | refine blk_drewN ?_ _ | refine blk_drew ?_ | refine blk_alloc ?_ _)); exact BK132.out⟩, ⟨by (with_reducible repeat (first | refine blk_drewN ?_ _ | refine blk_drew ?_ | refine blk_alloc ?_ _)); exact BK133.out⟩, ⟨by (with_reducible repeat (first | refine blk_drewN ?_ _ | refine blk_drew ?_ | refine blk_alloc ?_ _)); exact BK134.out⟩, ⟨by repeat (first | (with_reducible first | exact HB.out | apply below_alloc | apply pw_below_drewN | apply below_drew1 | refine below_set ?_ GE131.out | refine below_set ?_ GE132.out | refine below_set ?_ GE133.out | refine below_set ?_ GE134.out) | exact HB.out)⟩⟩
       ·rw [if_neg c44] at H
        have c44b0 : decide (a3_1 < 0) = false := decide_eq_false c44
        clear c44
        have H' := Aside0.mk H
        clear H
        have hnb49 := NB134_131.out
        have hnc49 := NB131_134.out
        have hnb50 := NB134_132.out
        have hnc50 := NB132_134.out
        have hnb51 := NB134_133.out
        have hnc51 := NB133_134.out
        have hcz52_0 : w31.cell? ⟨gb134, 0, none⟩ = some (.int .i64 a3_0) := (blk_cell BK134.out 0).trans rfl
        have hcz52_1 : w31.cell? ⟨gb134, 1, none⟩ = some (.int .i64 a3_1) := (blk_cell BK134.out 1).trans rfl
        have hfz52_0 := blk_frozen BK134.out 0
        have hfz52_1 := blk_frozen BK134.out 1
        go_wp2
        go_meet
        case rel => exact ⟨_, (decide (a3_1 > 1000000)), (by first | rfl | (simp; done) | (simp [*]; done)), H', ⟨by first | omega | exact Nat.le_refl _⟩, ⟨by (with_reducible repeat (first | refine blk_drewN ?_ _ | refine blk_drew ?_ | refine blk_alloc ?_ _)); exact BK131.out⟩, ⟨by (with_reducible repeat (first | refine blk_drewN ?_ _ | refine blk_drew ?_ | refine blk_alloc ?_ _)); exact BK132.out⟩, ⟨by (with_reducible repeat (first | refine blk_drewN ?_ _ | refine blk_drew ?_ | refine blk_alloc ?_ _)); exact BK133.out⟩, ⟨by (with_reducible repeat (first | refine blk_drewN ?_ _ | refine blk_drew ?_ | refine blk_alloc ?_ _)); exact BK134.out⟩, ⟨by repeat (first | (with_reducible first | exact HB.out | apply below_alloc | apply pw_below_drewN | apply below_drew1 | refine below_set ?_ GE131.out | refine below_set ?_ GE132.out | refine below_set ?_ GE133.out | refine below_set ?_ GE134.out) | exact HB.out)⟩⟩
    ·replace c33 := Bool.eq_false_iff.mpr c33
     subst c33
     have H1 : (paternosterlaw14_GateTells.j0 k a4 a5 a6 a7 a8 true a0_0 a0_1 a0_2 a1_0 a1_1 a2_0 a2_1 a3_0 a3_1) = some r := by rw [if_neg (show ¬ (false = true) by decide)] at H; exact H
     clear H
     have H := H1
     clear H1
     have H' := Aside0.mk H
     clear H
     go_wp2
     go_meet
     case rel => exact ⟨_, (true), (by first | rfl | (simp; done) | (simp [*]; done)), H', ⟨by first | omega | exact Nat.le_refl _⟩, ⟨by (with_reducible repeat (first | refine blk_drewN ?_ _ | refine blk_drew ?_ | refine blk_alloc ?_ _)); exact BK131.out⟩, ⟨by (with_reducible repeat (first | refine blk_drewN ?_ _ | refine blk_drew ?_ | refine blk_alloc ?_ _)); exact BK132.out⟩, ⟨by (with_reducible repeat (first | refine blk_drewN ?_ _ | refine blk_drew ?_ | refine blk_alloc ?_ _)); exact BK133.out⟩, ⟨by (with_reducible repeat (first | refine blk_drewN ?_ _ | refine blk_drew ?_ | refine blk_alloc ?_ _)); exact BK134.out⟩, ⟨by repeat (first | (with_reducible first | exact HB.out | apply below_alloc | apply pw_below_drewN | apply below_drew1 | refine below_set ?_ GE131.out | refine below_set ?_ GE132.out | refine below_set ?_ GE133.out | refine below_set ?_ GE134.out) | exact HB.out)⟩⟩
   ·replace c32 := Bool.eq_false_iff.mpr c32
    subst c32
    have H1 : (paternosterlaw14_GateTells.j0 k a4 a5 a6 a7 a8 true a0_0 a0_1 a0_2 a1_0 a1_1 a2_0 a2_1 a3_0 a3_1) = some r := by rw [if_neg (show ¬ (false = true) by decide)] at H; exact H
    clear H
    have H := H1
    clear H1
    have H' := Aside0.mk H
    clear H
    go_wp2
    go_meet
    case rel => exact ⟨_, (true), (by first | rfl | (simp; done) | (simp [*]; done)), H', ⟨by first | omega | exact Nat.le_refl _⟩, ⟨by (with_reducible repeat (first | refine blk_drewN ?_ _ | refine blk_drew ?_ | refine blk_alloc ?_ _)); exact BK131.out⟩, ⟨by (with_reducible repeat (first | refine blk_drewN ?_ _ | refine blk_drew ?_ | refine blk_alloc ?_ _)); exact BK132.out⟩, ⟨by (with_reducible repeat (first | refine blk_drewN ?_ _ | refine blk_drew ?_ | refine blk_alloc ?_ _)); exact BK133.out⟩, ⟨by (with_reducible repeat (first | refine blk_drewN ?_ _ | refine blk_drew ?_ | refine blk_alloc ?_ _)); exact BK134.out⟩, ⟨by repeat (first | (with_reducible first | exact HB.out | apply below_alloc | apply pw_below_drewN | apply below_drew1 | refine below_set ?_ GE131.out | refine below_set ?_ GE132.out | refine below_set ?_ GE133.out | refine below_set ?_ GE134.out) | exact HB.out)⟩⟩
  case rest => as_aux_lemma =>
   clear HC14
   try clear c1
   try clear c2
   try clear p2
   try clear c3
   try clear c4
   try clear c5
   try clear c7
   try clear c11
   try clear c18
   try clear c20
   try clear c21
   try clear c22
   try clear c24
   try clear c25
   try clear c29
   try clear c32
   try clear c33
   try clear c34
   try clear c34b0
   try clear c35
   try clear c36
   try clear c37
   try clear c39
   try clear c39b0
   try clear c40
   try clear c41
   try clear c42
   try clear c44
   try clear c44b0
   try clear c45
   try clear c46
   try clear c47
   try clear c49
   try clear c50
   try clear c51
   try clear hcz23_0
   try clear hcz23_1
   try clear hcz23_2
   try clear hcz26_0
   try clear hcz26_1
   try clear hcz28_0
   try clear hcz28_1
   try clear hcz28_2
   try clear hcz30_0
   try clear hcz30_1
   try clear hcz38_0
   try clear hcz38_1
   try clear hcz43_0
   try clear hcz43_1
   try clear hcz48_0
   try clear hcz48_1
   try clear hcz52_0
   try clear hcz52_1
   try clear hfz23_0
   try clear hfz23_1
   try clear hfz23_2
   try clear hfz26_0
   try clear hfz26_1
   try clear hfz28_0
   try clear hfz28_1
   try clear hfz28_2
   try clear hfz30_0
   try clear hfz30_1
   try clear hfz38_0
   try clear hfz38_1
   try clear hfz43_0
   try clear hfz43_1
   try clear hfz48_0
   try clear hfz48_1
   try clear hfz52_0
   try clear hfz52_1
   obtain ⟨kq, x65_13, rfl, HA, HJ13, BK131, BK132, BK133, BK134, HB⟩ := hcut
   cases kq with
   | zero => exact absurd HA.out (by simp [paternosterlaw14_GateTells.j0])
   | succ kj13 =>
    have H := HA.out
    clear HA
    simp only [paternosterlaw14_GateTells.j0] at H
    by_cases c53 : x65_13 = true
    ·subst c53
     have H1 : (some true) = some r := by rw [if_pos rfl] at H; exact H
     clear H
     have H := H1
     clear H1
     obtain rfl := Option.some.inj H
     go_wp2
     go_ret
     exact ⟨by first | rfl | (simp [errW_none, errW_some] <;> rfl) | (simp [*, errW_none, errW_some] <;> rfl), by repeat (first | (with_reducible first | exact HB.out | apply below_alloc | apply pw_below_drewN | apply below_drew1 | refine below_set ?_ GE131.out | refine below_set ?_ GE132.out | refine below_set ?_ GE133.out | refine below_set ?_ GE134.out) | exact HB.out)⟩
    ·replace c53 := Bool.eq_false_iff.mpr c53
     subst c53
     have H1 : (if a5 = true then (if a4 = true then (if a0_1 = 0 then (if (Int.tmod a0_0 8) = 0 then (paternosterlaw14_GateTells.j1 kj13 a4 a5 a6 a8 (wrap64 (Int.tmod a7 201)) 0 (decide (a1_0 < a1_1)) a0_0 a0_1 a0_2 a1_0 a1_1 a2_0 a2_1 a3_0 a3_1) else (paternosterlaw14_GateTells.j1 kj13 a4 a5 a6 a8 (wrap64 (Int.tmod a7 201)) 0 false a0_0 a0_1 a0_2 a1_0 a1_1 a2_0 a2_1 a3_0 a3_1)) else (paternosterlaw14_GateTells.j1 kj13 a4 a5 a6 a8 (wrap64 (Int.tmod a7 201)) 0 false a0_0 a0_1 a0_2 a1_0 a1_1 a2_0 a2_1 a3_0 a3_1)) else (paternosterlaw14_GateTells.j1 kj13 a4 a5 a6 a8 (wrap64 (Int.tmod a7 201)) 0 false a0_0 a0_1 a0_2 a1_0 a1_1 a2_0 a2_1 a3_0 a3_1)) else (paternosterlaw14_GateTells.j1 kj13 a4 a5 a6 a8 (wrap64 (Int.tmod a7 201)) 0 false a0_0 a0_1 a0_2 a1_0 a1_1 a2_0 a2_1 a3_0 a3_1)) = some r := by rw [if_neg (show ¬ (false = true) by decide)] at H; exact H
     clear H
     have H := H1
     clear H1
     have HC54 := Aside0.mk H
     clear H
     go_upto_region 10 with (fail)
     go_cut [90] (fun v90 wc => ∃ (kq : Nat) (x90_53 : Bool), v90 = .bool x90_53 ∧ Aside0 (paternosterlaw14_GateTells.j1 kq a4 a5 a6 a8 (wrap64 (Int.tmod a7 201)) 0 x90_53 a0_0 a0_1 a0_2 a1_0 a1_1 a2_0 a2_1 a3_0 a3_1 = some r) ∧ Aside0 (kq ≤ kj13) ∧ Aside0 (wc.heap[gb131]? = some (.cells #[.int .i64 a0_0, .int .i64 a0_1, .int .i64 a0_2] 23 (0, 0))) ∧ Aside0 (wc.heap[gb132]? = some (.cells #[.int .i64 a1_0, .int .i64 a1_1] 25 (0, 0))) ∧ Aside0 (wc.heap[gb133]? = some (.cells #[.int .i64 a2_0, .int .i64 a2_1] 25 (0, 0))) ∧ Aside0 (wc.heap[gb134]? = some (.cells #[.int .i64 a3_0, .int .i64 a3_1] 37 (0, 0))) ∧ Aside0 (Below w.heap.size w wc))
     case first => as_aux_lemma =>
      have H := HC54.out
      clear HC54
      by_cases c55 : a5 = true
      ·subst c55
       have H1 : (if a4 = true then (if a0_1 = 0 then (if (Int.tmod a0_0 8) = 0 then (paternosterlaw14_GateTells.j1 kj13 a4 true a6 a8 (wrap64 (Int.tmod a7 201)) 0 (decide (a1_0 < a1_1)) a0_0 a0_1 a0_2 a1_0 a1_1 a2_0 a2_1 a3_0 a3_1) else (paternosterlaw14_GateTells.j1 kj13 a4 true a6 a8 (wrap64 (Int.tmod a7 201)) 0 false a0_0 a0_1 a0_2 a1_0 a1_1 a2_0 a2_1 a3_0 a3_1)) else (paternosterlaw14_GateTells.j1 kj13 a4 true a6 a8 (wrap64 (Int.tmod a7 201)) 0 false a0_0 a0_1 a0_2 a1_0 a1_1 a2_0 a2_1 a3_0 a3_1)) else (paternosterlaw14_GateTells.j1 kj13 a4 true a6 a8 (wrap64 (Int.tmod a7 201)) 0 false a0_0 a0_1 a0_2 a1_0 a1_1 a2_0 a2_1 a3_0 a3_1)) = some r := by rw [if_pos rfl] at H; exact H
       clear H
       have H := H1
       clear H1
       by_cases c56 : a4 = true
       ·subst c56
        have H1 : (if a0_1 = 0 then (if (Int.tmod a0_0 8) = 0 then (paternosterlaw14_GateTells.j1 kj13 true true a6 a8 (wrap64 (Int.tmod a7 201)) 0 (decide (a1_0 < a1_1)) a0_0 a0_1 a0_2 a1_0 a1_1 a2_0 a2_1 a3_0 a3_1) else (paternosterlaw14_GateTells.j1 kj13 true true a6 a8 (wrap64 (Int.tmod a7 201)) 0 false a0_0 a0_1 a0_2 a1_0 a1_1 a2_0 a2_1 a3_0 a3_1)) else (paternosterlaw14_GateTells.j1 kj13 true true a6 a8 (wrap64 (Int.tmod a7 201)) 0 false a0_0 a0_1 a0_2 a1_0 a1_1 a2_0 a2_1 a3_0 a3_1)) = some r := by rw [if_pos rfl] at H; exact H
        clear H
        have H := H1
        clear H1
        by_cases c57 : a0_1 = 0
        ·rw [if_pos c57] at H
         have c57b0 : (a0_1 == 0) = true := beq_iff_eq.mpr c57
         have c57b1 : (a0_1 != 0) = false := bne_eq_false_iff_eq.mpr c57
         clear c57
         (first | rw [c57b0] | (simp only [i64_w, i32_w]; rw [c57b0]) | skip)
         by_cases c58 : (Int.tmod a0_0 8) = 0
         ·rw [if_pos c58] at H
          have c58b0 : ((Int.tmod a0_0 8) == 0) = true := beq_iff_eq.mpr c58
          have c58b1 : ((Int.tmod a0_0 8) != 0) = false := bne_eq_false_iff_eq.mpr c58
          clear c58
          have H' := Aside0.mk H
          clear H
          have hnb59 := NB131_132.out
          have hnc59 := NB132_131.out
          have hnb60 := NB131_133.out
          have hnc60 := NB133_131.out
          have hnb61 := NB131_134.out
          have hnc61 := NB134_131.out
          have hcz62_0 : wc.cell? ⟨gb131, 0, none⟩ = some (.int .i64 a0_0) := (blk_cell BK131.out 0).trans rfl
          have hcz62_1 : wc.cell? ⟨gb131, 1, none⟩ = some (.int .i64 a0_1) := (blk_cell BK131.out 1).trans rfl
          have hcz62_2 : wc.cell? ⟨gb131, 2, none⟩ = some (.int .i64 a0_2) := (blk_cell BK131.out 2).trans rfl
          have hfz62_0 := blk_frozen BK131.out 0
          have hfz62_1 := blk_frozen BK131.out 1
          have hfz62_2 := blk_frozen BK131.out 2
          have hnb63 := NB132_133.out
          have hnc63 := NB133_132.out
          have hnb64 := NB132_134.out
          have hnc64 := NB134_132.out
          have hcz65_0 : wc.cell? ⟨gb132, 0, none⟩ = some (.int .i64 a1_0) := (blk_cell BK132.out 0).trans rfl
          have hcz65_1 : wc.cell? ⟨gb132, 1, none⟩ = some (.int .i64 a1_1) := (blk_cell BK132.out 1).trans rfl
          have hfz65_0 := blk_frozen BK132.out 0
          have hfz65_1 := blk_frozen BK132.out 1
          go_wp2
          go_meet
          case rel => exact ⟨_, (decide (a1_0 < a1_1)), (by first | rfl | (simp; done) | (simp [*]; done)), H', ⟨by have := HJ13.out; first | omega | exact Nat.le_refl _⟩, ⟨by (with_reducible repeat (first | refine blk_drewN ?_ _ | refine blk_drew ?_ | refine blk_alloc ?_ _)); exact BK131.out⟩, ⟨by (with_reducible repeat (first | refine blk_drewN ?_ _ | refine blk_drew ?_ | refine blk_alloc ?_ _)); exact BK132.out⟩, ⟨by (with_reducible repeat (first | refine blk_drewN ?_ _ | refine blk_drew ?_ | refine blk_alloc ?_ _)); exact BK133.out⟩, ⟨by (with_reducible repeat (first | refine blk_drewN ?_ _ | refine blk_drew ?_ | refine blk_alloc ?_ _)); exact BK134.out⟩, ⟨by repeat (first | (with_reducible first | exact HB.out | apply below_alloc | apply pw_below_drewN | apply below_drew1 | refine below_set ?_ GE131.out | refine below_set ?_ GE132.out | refine below_set ?_ GE133.out | refine below_set ?_ GE134.out) | exact HB.out)⟩⟩
         ·rw [if_neg c58] at H
          have c58b0 : ((Int.tmod a0_0 8) == 0) = false := beq_eq_false_iff_ne.mpr c58
          have c58b1 : ((Int.tmod a0_0 8) != 0) = true := bne_iff_ne.mpr c58
          have H' := Aside0.mk H
          clear H
          have hnb66 := NB131_132.out
          have hnc66 := NB132_131.out
          have hnb67 := NB131_133.out
          have hnc67 := NB133_131.out
          have hnb68 := NB131_134.out
          have hnc68 := NB134_131.out
          have hcz69_0 : wc.cell? ⟨gb131, 0, none⟩ = some (.int .i64 a0_0) := (blk_cell BK131.out 0).trans rfl
          have hcz69_1 : wc.cell? ⟨gb131, 1, none⟩ = some (.int .i64 a0_1) := (blk_cell BK131.out 1).trans rfl
          have hcz69_2 : wc.cell? ⟨gb131, 2, none⟩ = some (.int .i64 a0_2) := (blk_cell BK131.out 2).trans rfl
          have hfz69_0 := blk_frozen BK131.out 0
          have hfz69_1 := blk_frozen BK131.out 1
          have hfz69_2 := blk_frozen BK131.out 2
          go_wp2
          go_meet
          case rel => exact ⟨_, (false), (by first | rfl | (simp; done) | (simp [*]; done)), H', ⟨by have := HJ13.out; first | omega | exact Nat.le_refl _⟩, ⟨by (with_reducible repeat (first | refine blk_drewN ?_ _ | refine blk_drew ?_ | refine blk_alloc ?_ _)); exact BK131.out⟩, ⟨by (with_reducible repeat (first | refine blk_drewN ?_ _ | refine blk_drew ?_ | refine blk_alloc ?_ _)); exact BK132.out⟩, ⟨by (with_reducible repeat (first | refine blk_drewN ?_ _ | refine blk_drew ?_ | refine blk_alloc ?_ _)); exact BK133.out⟩, ⟨by (with_reducible repeat (first | refine blk_drewN ?_ _ | refine blk_drew ?_ | refine blk_alloc ?_ _)); exact BK134.out⟩, ⟨by repeat (first | (with_reducible first | exact HB.out | apply below_alloc | apply pw_below_drewN | apply below_drew1 | refine below_set ?_ GE131.out | refine below_set ?_ GE132.out | refine below_set ?_ GE133.out | refine below_set ?_ GE134.out) | exact HB.out)⟩⟩
        ·rw [if_neg c57] at H
         have c57b0 : (a0_1 == 0) = false := beq_eq_false_iff_ne.mpr c57
         have c57b1 : (a0_1 != 0) = true := bne_iff_ne.mpr c57
         (first | rw [c57b0] | (simp only [i64_w, i32_w]; rw [c57b0]) | skip)
         have H' := Aside0.mk H
         clear H
         have hnb70 := NB131_132.out
         have hnc70 := NB132_131.out
         have hnb71 := NB131_133.out
         have hnc71 := NB133_131.out
         have hnb72 := NB131_134.out
         have hnc72 := NB134_131.out
         have hcz73_0 : wc.cell? ⟨gb131, 0, none⟩ = some (.int .i64 a0_0) := (blk_cell BK131.out 0).trans rfl
         have hcz73_1 : wc.cell? ⟨gb131, 1, none⟩ = some (.int .i64 a0_1) := (blk_cell BK131.out 1).trans rfl
         have hcz73_2 : wc.cell? ⟨gb131, 2, none⟩ = some (.int .i64 a0_2) := (blk_cell BK131.out 2).trans rfl
         have hfz73_0 := blk_frozen BK131.out 0
         have hfz73_1 := blk_frozen BK131.out 1
         have hfz73_2 := blk_frozen BK131.out 2
         go_wp2
         go_meet
         case rel => exact ⟨_, (false), (by first | rfl | (simp; done) | (simp [*]; done)), H', ⟨by have := HJ13.out; first | omega | exact Nat.le_refl _⟩, ⟨by (with_reducible repeat (first | refine blk_drewN ?_ _ | refine blk_drew ?_ | refine blk_alloc ?_ _)); exact BK131.out⟩, ⟨by (with_reducible repeat (first | refine blk_drewN ?_ _ | refine blk_drew ?_ | refine blk_alloc ?_ _)); exact BK132.out⟩, ⟨by (with_reducible repeat (first | refine blk_drewN ?_ _ | refine blk_drew ?_ | refine blk_alloc ?_ _)); exact BK133.out⟩, ⟨by (with_reducible repeat (first | refine blk_drewN ?_ _ | refine blk_drew ?_ | refine blk_alloc ?_ _)); exact BK134.out⟩, ⟨by repeat (first | (with_reducible first | exact HB.out | apply below_alloc | apply pw_below_drewN | apply below_drew1 | refine below_set ?_ GE131.out | refine below_set ?_ GE132.out | refine below_set ?_ GE133.out | refine below_set ?_ GE134.out) | exact HB.out)⟩⟩
       ·replace c56 := Bool.eq_false_iff.mpr c56
        subst c56
        have H1 : (paternosterlaw14_GateTells.j1 kj13 false true a6 a8 (wrap64 (Int.tmod a7 201)) 0 false a0_0 a0_1 a0_2 a1_0 a1_1 a2_0 a2_1 a3_0 a3_1) = some r := by rw [if_neg (show ¬ (false = true) by decide)] at H; exact H
        clear H
        have H := H1
        clear H1
        have H' := Aside0.mk H
        clear H
        go_wp2
        go_meet
        case rel => exact ⟨_, (false), (by first | rfl | (simp; done) | (simp [*]; done)), H', ⟨by have := HJ13.out; first | omega | exact Nat.le_refl _⟩, ⟨by (with_reducible repeat (first | refine blk_drewN ?_ _ | refine blk_drew ?_ | refine blk_alloc ?_ _)); exact BK131.out⟩, ⟨by (with_reducible repeat (first | refine blk_drewN ?_ _ | refine blk_drew ?_ | refine blk_alloc ?_ _)); exact BK132.out⟩, ⟨by (with_reducible repeat (first | refine blk_drewN ?_ _ | refine blk_drew ?_ | refine blk_alloc ?_ _)); exact BK133.out⟩, ⟨by (with_reducible repeat (first | refine blk_drewN ?_ _ | refine blk_drew ?_ | refine blk_alloc ?_ _)); exact BK134.out⟩, ⟨by repeat (first | (with_reducible first | exact HB.out | apply below_alloc | apply pw_below_drewN | apply below_drew1 | refine below_set ?_ GE131.out | refine below_set ?_ GE132.out | refine below_set ?_ GE133.out | refine below_set ?_ GE134.out) | exact HB.out)⟩⟩
      ·replace c55 := Bool.eq_false_iff.mpr c55
       subst c55
       have H1 : (paternosterlaw14_GateTells.j1 kj13 a4 false a6 a8 (wrap64 (Int.tmod a7 201)) 0 false a0_0 a0_1 a0_2 a1_0 a1_1 a2_0 a2_1 a3_0 a3_1) = some r := by rw [if_neg (show ¬ (false = true) by decide)] at H; exact H
       clear H
       have H := H1
       clear H1
       have H' := Aside0.mk H
       clear H
       go_wp2
       go_meet
       case rel => exact ⟨_, (false), (by first | rfl | (simp; done) | (simp [*]; done)), H', ⟨by have := HJ13.out; first | omega | exact Nat.le_refl _⟩, ⟨by (with_reducible repeat (first | refine blk_drewN ?_ _ | refine blk_drew ?_ | refine blk_alloc ?_ _)); exact BK131.out⟩, ⟨by (with_reducible repeat (first | refine blk_drewN ?_ _ | refine blk_drew ?_ | refine blk_alloc ?_ _)); exact BK132.out⟩, ⟨by (with_reducible repeat (first | refine blk_drewN ?_ _ | refine blk_drew ?_ | refine blk_alloc ?_ _)); exact BK133.out⟩, ⟨by (with_reducible repeat (first | refine blk_drewN ?_ _ | refine blk_drew ?_ | refine blk_alloc ?_ _)); exact BK134.out⟩, ⟨by repeat (first | (with_reducible first | exact HB.out | apply below_alloc | apply pw_below_drewN | apply below_drew1 | refine below_set ?_ GE131.out | refine below_set ?_ GE132.out | refine below_set ?_ GE133.out | refine below_set ?_ GE134.out) | exact HB.out)⟩⟩
     case rest => as_aux_lemma =>
      clear HC54
      try clear c1
      try clear c2
      try clear p2
      try clear c3
      try clear c4
      try clear c5
      try clear c6
      try clear p6
      try clear c7
      try clear c11
      try clear c18
      try clear c20
      try clear c21
      try clear c22
      try clear c24
      try clear c25
      try clear c29
      try clear c32
      try clear c33
      try clear c34
      try clear c34b0
      try clear c35
      try clear c36
      try clear c37
      try clear c39
      try clear c39b0
      try clear c40
      try clear c41
      try clear c42
      try clear c44
      try clear c44b0
      try clear c45
      try clear c46
      try clear c47
      try clear c49
      try clear c50
      try clear c51
      try clear c53
      try clear c55
      try clear c56
      try clear c57
      try clear c57b0
      try clear c57b1
      try clear c58
      try clear c58b0
      try clear c58b1
      try clear c59
      try clear c60
      try clear c61
      try clear c63
      try clear c64
      try clear p64
      try clear c66
      try clear c67
      try clear c68
      try clear c70
      try clear c71
      try clear c72
      try clear hcz23_0
      try clear hcz23_1
      try clear hcz23_2
      try clear hcz26_0
      try clear hcz26_1
      try clear hcz28_0
      try clear hcz28_1
      try clear hcz28_2
      try clear hcz30_0
      try clear hcz30_1
      try clear hcz38_0
      try clear hcz38_1
      try clear hcz43_0
      try clear hcz43_1
      try clear hcz48_0
      try clear hcz48_1
      try clear hcz52_0
      try clear hcz52_1
      try clear hcz62_0
      try clear hcz62_1
      try clear hcz62_2
      try clear hcz65_0
      try clear hcz65_1
      try clear hcz69_0
      try clear hcz69_1
      try clear hcz69_2
      try clear hcz73_0
      try clear hcz73_1
      try clear hcz73_2
      try clear hfz23_0
      try clear hfz23_1
      try clear hfz23_2
      try clear hfz26_0
      try clear hfz26_1
      try clear hfz28_0
      try clear hfz28_1
      try clear hfz28_2
      try clear hfz30_0
      try clear hfz30_1
      try clear hfz38_0
      try clear hfz38_1
      try clear hfz43_0
      try clear hfz43_1
      try clear hfz48_0
      try clear hfz48_1
      try clear hfz52_0
      try clear hfz52_1
      try clear hfz62_0
      try clear hfz62_1
      try clear hfz62_2
      try clear hfz65_0
      try clear hfz65_1
      try clear hfz69_0
      try clear hfz69_1
      try clear hfz69_2
      try clear hfz73_0
      try clear hfz73_1
      try clear hfz73_2
      try clear p2
      obtain ⟨kq, x90_53, rfl, HA, HJ53, BK131, BK132, BK133, BK134, HB⟩ := hcut
      cases kq with
      | zero => exact absurd HA.out (by simp [paternosterlaw14_GateTells.j1])
      | succ kj53 =>
       have H := HA.out
       clear HA
       simp only [paternosterlaw14_GateTells.j1] at H
       have HC74 := Aside0.mk H
       clear H
       go_upto_if 90 with (fail)
       go_cut [23] (fun v23 wc => ∃ (kq : Nat) (x23_73 : Int), v23 = .int .i64 x23_73 ∧ Aside0 (paternosterlaw14_GateTells.j2 kq a4 a5 a6 a8 (wrap64 (Int.tmod a7 201)) x23_73 a0_0 a0_1 a0_2 a1_0 a1_1 a2_0 a2_1 a3_0 a3_1 = some r) ∧ Aside0 (kq ≤ kj53) ∧ Aside0 (wc.heap[gb131]? = some (.cells #[.int .i64 a0_0, .int .i64 a0_1, .int .i64 a0_2] 23 (0, 0))) ∧ Aside0 (wc.heap[gb132]? = some (.cells #[.int .i64 a1_0, .int .i64 a1_1] 25 (0, 0))) ∧ Aside0 (wc.heap[gb133]? = some (.cells #[.int .i64 a2_0, .int .i64 a2_1] 25 (0, 0))) ∧ Aside0 (wc.heap[gb134]? = some (.cells #[.int .i64 a3_0, .int .i64 a3_1] 37 (0, 0))) ∧ Aside0 (Below w.heap.size w wc))
       case first => as_aux_lemma =>
        have H := HC74.out
        clear HC74
        by_cases c75 : x90_53 = true
        ·subst c75
         have H1 : (paternosterlaw14_GateTells.j2 kj53 a4 a5 a6 a8 (wrap64 (Int.tmod a7 201)) 1 a0_0 a0_1 a0_2 a1_0 a1_1 a2_0 a2_1 a3_0 a3_1) = some r := by rw [if_pos rfl] at H; exact H
         clear H
         have H := H1
         clear H1
         have H' := Aside0.mk H
         clear H
         go_wp2
         go_meet
         case rel => exact ⟨_, (1), (by first | rfl | (simp; done) | (simp [*]; done)), H', ⟨by have := HJ13.out; have := HJ53.out; first | omega | exact Nat.le_refl _⟩, ⟨by (with_reducible repeat (first | refine blk_drewN ?_ _ | refine blk_drew ?_ | refine blk_alloc ?_ _)); exact BK131.out⟩, ⟨by (with_reducible repeat (first | refine blk_drewN ?_ _ | refine blk_drew ?_ | refine blk_alloc ?_ _)); exact BK132.out⟩, ⟨by (with_reducible repeat (first | refine blk_drewN ?_ _ | refine blk_drew ?_ | refine blk_alloc ?_ _)); exact BK133.out⟩, ⟨by (with_reducible repeat (first | refine blk_drewN ?_ _ | refine blk_drew ?_ | refine blk_alloc ?_ _)); exact BK134.out⟩, ⟨by repeat (first | (with_reducible first | exact HB.out | apply below_alloc | apply pw_below_drewN | apply below_drew1 | refine below_set ?_ GE131.out | refine below_set ?_ GE132.out | refine below_set ?_ GE133.out | refine below_set ?_ GE134.out) | exact HB.out)⟩⟩
        ·replace c75 := Bool.eq_false_iff.mpr c75
         subst c75
         have H1 : (paternosterlaw14_GateTells.j2 kj53 a4 a5 a6 a8 (wrap64 (Int.tmod a7 201)) 0 a0_0 a0_1 a0_2 a1_0 a1_1 a2_0 a2_1 a3_0 a3_1) = some r := by rw [if_neg (show ¬ (false = true) by decide)] at H; exact H
         clear H
         have H := H1
         clear H1
         have H' := Aside0.mk H
         clear H
         go_wp2
         go_meet
         case rel => exact ⟨_, (0), (by first | rfl | (simp; done) | (simp [*]; done)), H', ⟨by have := HJ13.out; have := HJ53.out; first | omega | exact Nat.le_refl _⟩, ⟨by (with_reducible repeat (first | refine blk_drewN ?_ _ | refine blk_drew ?_ | refine blk_alloc ?_ _)); exact BK131.out⟩, ⟨by (with_reducible repeat (first | refine blk_drewN ?_ _ | refine blk_drew ?_ | refine blk_alloc ?_ _)); exact BK132.out⟩, ⟨by (with_reducible repeat (first | refine blk_drewN ?_ _ | refine blk_drew ?_ | refine blk_alloc ?_ _)); exact BK133.out⟩, ⟨by (with_reducible repeat (first | refine blk_drewN ?_ _ | refine blk_drew ?_ | refine blk_alloc ?_ _)); exact BK134.out⟩, ⟨by repeat (first | (with_reducible first | exact HB.out | apply below_alloc | apply pw_below_drewN | apply below_drew1 | refine below_set ?_ GE131.out | refine below_set ?_ GE132.out | refine below_set ?_ GE133.out | refine below_set ?_ GE134.out) | exact HB.out)⟩⟩
       case rest => as_aux_lemma =>
        clear HC74
        try clear c1
        try clear c2
        try clear p2
        try clear c3
        try clear c4
        try clear c5
        try clear c6
        try clear p6
        try clear c7
        try clear c11
        try clear c18
        try clear c20
        try clear c21
        try clear c22
        try clear c24
        try clear c25
        try clear c29
        try clear c32
        try clear c33
        try clear c34
        try clear c34b0
        try clear c35
        try clear c36
        try clear c37
        try clear c39
        try clear c39b0
        try clear c40
        try clear c41
        try clear c42
        try clear c44
        try clear c44b0
        try clear c45
        try clear c46
        try clear c47
        try clear c49
        try clear c50
        try clear c51
        try clear c53
        try clear c55
        try clear c56
        try clear c57
        try clear c57b0
        try clear c57b1
        try clear c58
        try clear c58b0
        try clear c58b1
        try clear c59
        try clear c60
        try clear c61
        try clear c63
        try clear c64
        try clear p64
        try clear c66
        try clear c67
        try clear c68
        try clear c70
        try clear c71
        try clear c72
        try clear c75
        try clear hcz23_0
        try clear hcz23_1
        try clear hcz23_2
        try clear hcz26_0
        try clear hcz26_1
        try clear hcz28_0
        try clear hcz28_1
        try clear hcz28_2
        try clear hcz30_0
        try clear hcz30_1
        try clear hcz38_0
        try clear hcz38_1
        try clear hcz43_0
        try clear hcz43_1
        try clear hcz48_0
        try clear hcz48_1
        try clear hcz52_0
        try clear hcz52_1
        try clear hcz62_0
        try clear hcz62_1
        try clear hcz62_2
        try clear hcz65_0
        try clear hcz65_1
        try clear hcz69_0
        try clear hcz69_1
        try clear hcz69_2
        try clear hcz73_0
        try clear hcz73_1
        try clear hcz73_2
        try clear hfz23_0
        try clear hfz23_1
        try clear hfz23_2
        try clear hfz26_0
        try clear hfz26_1
        try clear hfz28_0
        try clear hfz28_1
        try clear hfz28_2
        try clear hfz30_0
        try clear hfz30_1
        try clear hfz38_0
        try clear hfz38_1
        try clear hfz43_0
        try clear hfz43_1
        try clear hfz48_0
        try clear hfz48_1
        try clear hfz52_0
        try clear hfz52_1
        try clear hfz62_0
        try clear hfz62_1
        try clear hfz62_2
        try clear hfz65_0
        try clear hfz65_1
        try clear hfz69_0
        try clear hfz69_1
        try clear hfz69_2
        try clear hfz73_0
        try clear hfz73_1
        try clear hfz73_2
        try clear p2
        try clear p6
        try clear p64
        obtain ⟨kq, x23_73, rfl, HA, HJ73, BK131, BK132, BK133, BK134, HB⟩ := hcut
        cases kq with
        | zero => exact absurd HA.out (by simp [paternosterlaw14_GateTells.j2])
        | succ kj73 =>
         have H := HA.out
         clear HA
         simp only [paternosterlaw14_GateTells.j2] at H
         have HC76 := Aside0.mk H
         clear H
         go_upto_region 12 with (fail)
         go_cut [100] (fun v100 wc => ∃ (kq : Nat) (x100_75 : Bool), v100 = .bool x100_75 ∧ Aside0 (paternosterlaw14_GateTells.j3 kq a4 a5 a6 a8 (wrap64 (Int.tmod a7 201)) x23_73 x100_75 a0_0 a0_1 a0_2 a1_0 a1_1 a2_0 a2_1 a3_0 a3_1 = some r) ∧ Aside0 (kq ≤ kj73) ∧ Aside0 (wc.heap[gb131]? = some (.cells #[.int .i64 a0_0, .int .i64 a0_1, .int .i64 a0_2] 23 (0, 0))) ∧ Aside0 (wc.heap[gb132]? = some (.cells #[.int .i64 a1_0, .int .i64 a1_1] 25 (0, 0))) ∧ Aside0 (wc.heap[gb133]? = some (.cells #[.int .i64 a2_0, .int .i64 a2_1] 25 (0, 0))) ∧ Aside0 (wc.heap[gb134]? = some (.cells #[.int .i64 a3_0, .int .i64 a3_1] 37 (0, 0))) ∧ Aside0 (Below w.heap.size w wc))
         case first => as_aux_lemma =>
          have H := HC76.out
          clear HC76
          by_cases c77 : a5 = true
          ·subst c77
           have H1 : (if a4 = true then (paternosterlaw14_GateTells.j3 kj73 a4 true a6 a8 (wrap64 (Int.tmod a7 201)) x23_73 false a0_0 a0_1 a0_2 a1_0 a1_1 a2_0 a2_1 a3_0 a3_1) else (paternosterlaw14_GateTells.j3 kj73 a4 true a6 a8 (wrap64 (Int.tmod a7 201)) x23_73 (decide (a1_0 > 0)) a0_0 a0_1 a0_2 a1_0 a1_1 a2_0 a2_1 a3_0 a3_1)) = some r := by rw [if_pos rfl] at H; exact H
           clear H
           have H := H1
           clear H1
           by_cases c78 : a4 = true
           ·subst c78
            have H1 : (paternosterlaw14_GateTells.j3 kj73 true true a6 a8 (wrap64 (Int.tmod a7 201)) x23_73 false a0_0 a0_1 a0_2 a1_0 a1_1 a2_0 a2_1 a3_0 a3_1) = some r := by rw [if_pos rfl] at H; exact H
            clear H
            have H := H1
            clear H1
            have H' := Aside0.mk H
            clear H
            go_wp2
            go_meet
            case rel => exact ⟨_, (false), (by first | rfl | (simp; done) | (simp [*]; done)), H', ⟨by have := HJ13.out; have := HJ53.out; have := HJ73.out; first | omega | exact Nat.le_refl _⟩, ⟨by (with_reducible repeat (first | refine blk_drewN ?_ _ | refine blk_drew ?_ | refine blk_alloc ?_ _)); exact BK131.out⟩, ⟨by (with_reducible repeat (first | refine blk_drewN ?_ _ | refine blk_drew ?_ | refine blk_alloc ?_ _)); exact BK132.out⟩, ⟨by (with_reducible repeat (first | refine blk_drewN ?_ _ | refine blk_drew ?_ | refine blk_alloc ?_ _)); exact BK133.out⟩, ⟨by (with_reducible repeat (first | refine blk_drewN ?_ _ | refine blk_drew ?_ | refine blk_alloc ?_ _)); exact BK134.out⟩, ⟨by repeat (first | (with_reducible first | exact HB.out | apply below_alloc | apply pw_below_drewN | apply below_drew1 | refine below_set ?_ GE131.out | refine below_set ?_ GE132.out | refine below_set ?_ GE133.out | refine below_set ?_ GE134.out) | exact HB.out)⟩⟩
           ·replace c78 := Bool.eq_false_iff.mpr c78
            subst c78
            have H1 : (paternosterlaw14_GateTells.j3 kj73 false true a6 a8 (wrap64 (Int.tmod a7 201)) x23_73 (decide (a1_0 > 0)) a0_0 a0_1 a0_2 a1_0 a1_1 a2_0 a2_1 a3_0 a3_1) = some r := by rw [if_neg (show ¬ (false = true) by decide)] at H; exact H
            clear H
            have H := H1
            clear H1
            have H' := Aside0.mk H
            clear H
            have hnb79 := NB132_131.out
            have hnc79 := NB131_132.out
            have hnb80 := NB132_133.out
            have hnc80 := NB133_132.out
            have hnb81 := NB132_134.out
            have hnc81 := NB134_132.out
            have hcz82_0 : wc.cell? ⟨gb132, 0, none⟩ = some (.int .i64 a1_0) := (blk_cell BK132.out 0).trans rfl
            have hcz82_1 : wc.cell? ⟨gb132, 1, none⟩ = some (.int .i64 a1_1) := (blk_cell BK132.out 1).trans rfl
            have hfz82_0 := blk_frozen BK132.out 0
            have hfz82_1 := blk_frozen BK132.out 1
            go_wp2
            go_meet
            case rel => exact ⟨_, (decide (a1_0 > 0)), (by first | rfl | (simp; done) | (simp [*]; done)), H', ⟨by have := HJ13.out; have := HJ53.out; have := HJ73.out; first | omega | exact Nat.le_refl _⟩, ⟨by (with_reducible repeat (first | refine blk_drewN ?_ _ | refine blk_drew ?_ | refine blk_alloc ?_ _)); exact BK131.out⟩, ⟨by (with_reducible repeat (first | refine blk_drewN ?_ _ | refine blk_drew ?_ | refine blk_alloc ?_ _)); exact BK132.out⟩, ⟨by (with_reducible repeat (first | refine blk_drewN ?_ _ | refine blk_drew ?_ | refine blk_alloc ?_ _)); exact BK133.out⟩, ⟨by (with_reducible repeat (first | refine blk_drewN ?_ _ | refine blk_drew ?_ | refine blk_alloc ?_ _)); exact BK134.out⟩, ⟨by repeat (first | (with_reducible first | exact HB.out | apply below_alloc | apply pw_below_drewN | apply below_drew1 | refine below_set ?_ GE131.out | refine below_set ?_ GE132.out | refine below_set ?_ GE133.out | refine below_set ?_ GE134.out) | exact HB.out)⟩⟩
          ·replace c77 := Bool.eq_false_iff.mpr c77
           subst c77
           have H1 : (paternosterlaw14_GateTells.j3 kj73 a4 false a6 a8 (wrap64 (Int.tmod a7 201)) x23_73 false a0_0 a0_1 a0_2 a1_0 a1_1 a2_0 a2_1 a3_0 a3_1) = some r := by rw [if_neg (show ¬ (false = true) by decide)] at H; exact H
           clear H
           have H := H1
           clear H1
           have H' := Aside0.mk H
           clear H
           go_wp2
           go_meet
           case rel => exact ⟨_, (false), (by first | rfl | (simp; done) | (simp [*]; done)), H', ⟨by have := HJ13.out; have := HJ53.out; have := HJ73.out; first | omega | exact Nat.le_refl _⟩, ⟨by (with_reducible repeat (first | refine blk_drewN ?_ _ | refine blk_drew ?_ | refine blk_alloc ?_ _)); exact BK131.out⟩, ⟨by (with_reducible repeat (first | refine blk_drewN ?_ _ | refine blk_drew ?_ | refine blk_alloc ?_ _)); exact BK132.out⟩, ⟨by (with_reducible repeat (first | refine blk_drewN ?_ _ | refine blk_drew ?_ | refine blk_alloc ?_ _)); exact BK133.out⟩, ⟨by (with_reducible repeat (first | refine blk_drewN ?_ _ | refine blk_drew ?_ | refine blk_alloc ?_ _)); exact BK134.out⟩, ⟨by repeat (first | (with_reducible first | exact HB.out | apply below_alloc | apply pw_below_drewN | apply below_drew1 | refine below_set ?_ GE131.out | refine below_set ?_ GE132.out | refine below_set ?_ GE133.out | refine below_set ?_ GE134.out) | exact HB.out)⟩⟩
         case rest => as_aux_lemma =>
          clear HC76
          try clear c1
          try clear c2
          try clear p2
          try clear c3
          try clear c4
          try clear c5
          try clear c6
          try clear p6
          try clear c7
          try clear c8
          try clear c11
          try clear c18
          try clear c20
          try clear c21
          try clear c22
          try clear c24
          try clear c25
          try clear c29
          try clear c32
          try clear c33
          try clear c34
          try clear c34b0
          try clear c35
          try clear c36
          try clear c37
          try clear c39
          try clear c39b0
          try clear c40
          try clear c41
          try clear c42
          try clear c44
          try clear c44b0
          try clear c45
          try clear c46
          try clear c47
          try clear c49
          try clear c50
          try clear c51
          try clear c53
          try clear c55
          try clear c56
          try clear c57
          try clear c57b0
          try clear c57b1
          try clear c58
          try clear c58b0
          try clear c58b1
          try clear c59
          try clear c60
          try clear c61
          try clear c63
          try clear c64
          try clear p64
          try clear c66
          try clear c67
          try clear c68
          try clear c70
          try clear c71
          try clear c72
          try clear c75
          try clear c77
          try clear c78
          try clear c79
          try clear c80
          try clear c81
          try clear hcz23_0
          try clear hcz23_1
          try clear hcz23_2
          try clear hcz26_0
          try clear hcz26_1
          try clear hcz28_0
          try clear hcz28_1
          try clear hcz28_2
          try clear hcz30_0
          try clear hcz30_1
          try clear hcz38_0
          try clear hcz38_1
          try clear hcz43_0
          try clear hcz43_1
          try clear hcz48_0
          try clear hcz48_1
          try clear hcz52_0
          try clear hcz52_1
          try clear hcz62_0
          try clear hcz62_1
          try clear hcz62_2
          try clear hcz65_0
          try clear hcz65_1
          try clear hcz69_0
          try clear hcz69_1
          try clear hcz69_2
          try clear hcz73_0
          try clear hcz73_1
          try clear hcz73_2
          try clear hcz82_0
          try clear hcz82_1
          try clear hfz23_0
          try clear hfz23_1
          try clear hfz23_2
          try clear hfz26_0
          try clear hfz26_1
          try clear hfz28_0
          try clear hfz28_1
          try clear hfz28_2
          try clear hfz30_0
          try clear hfz30_1
          try clear hfz38_0
          try clear hfz38_1
          try clear hfz43_0
          try clear hfz43_1
          try clear hfz48_0
          try clear hfz48_1
          try clear hfz52_0
          try clear hfz52_1
          try clear hfz62_0
          try clear hfz62_1
          try clear hfz62_2
          try clear hfz65_0
          try clear hfz65_1
          try clear hfz69_0
          try clear hfz69_1
          try clear hfz69_2
          try clear hfz73_0
          try clear hfz73_1
          try clear hfz73_2
          try clear hfz82_0
          try clear hfz82_1
          try clear p2
          try clear p6
          try clear p64
          obtain ⟨kq, x100_75, rfl, HA, HJ75, BK131, BK132, BK133, BK134, HB⟩ := hcut
          cases kq with
          | zero => exact absurd HA.out (by simp [paternosterlaw14_GateTells.j3])
          | succ kj75 =>
           have H := HA.out
           clear HA
           simp only [paternosterlaw14_GateTells.j3] at H
           have HC83 := Aside0.mk H
           clear H
           go_upto_if 100 with (fail)
           go_cut [23] (fun v23 wc => ∃ (kq : Nat) (x23_82 : Int), v23 = .int .i64 x23_82 ∧ Aside0 (paternosterlaw14_GateTells.j4 kq a4 a5 a6 a8 (wrap64 (Int.tmod a7 201)) x23_82 a0_0 a0_1 a0_2 a1_0 a1_1 a2_0 a2_1 a3_0 a3_1 = some r) ∧ Aside0 (kq ≤ kj75) ∧ Aside0 (wc.heap[gb131]? = some (.cells #[.int .i64 a0_0, .int .i64 a0_1, .int .i64 a0_2] 23 (0, 0))) ∧ Aside0 (wc.heap[gb132]? = some (.cells #[.int .i64 a1_0, .int .i64 a1_1] 25 (0, 0))) ∧ Aside0 (wc.heap[gb133]? = some (.cells #[.int .i64 a2_0, .int .i64 a2_1] 25 (0, 0))) ∧ Aside0 (wc.heap[gb134]? = some (.cells #[.int .i64 a3_0, .int .i64 a3_1] 37 (0, 0))) ∧ Aside0 (Below w.heap.size w wc))
           case first => as_aux_lemma =>
            have H := HC83.out
            clear HC83
            by_cases c84 : x100_75 = true
            ·subst c84
             have H1 : (paternosterlaw14_GateTells.j4 kj75 a4 a5 a6 a8 (wrap64 (Int.tmod a7 201)) 2 a0_0 a0_1 a0_2 a1_0 a1_1 a2_0 a2_1 a3_0 a3_1) = some r := by rw [if_pos rfl] at H; exact H
             clear H
             have H := H1
             clear H1
             have H' := Aside0.mk H
             clear H
             go_wp2
             go_meet
             case rel => exact ⟨_, (2), (by first | rfl | (simp; done) | (simp [*]; done)), H', ⟨by have := HJ13.out; have := HJ53.out; have := HJ73.out; have := HJ75.out; first | omega | exact Nat.le_refl _⟩, ⟨by (with_reducible repeat (first | refine blk_drewN ?_ _ | refine blk_drew ?_ | refine blk_alloc ?_ _)); exact BK131.out⟩, ⟨by (with_reducible repeat (first | refine blk_drewN ?_ _ | refine blk_drew ?_ | refine blk_alloc ?_ _)); exact BK132.out⟩, ⟨by (with_reducible repeat (first | refine blk_drewN ?_ _ | refine blk_drew ?_ | refine blk_alloc ?_ _)); exact BK133.out⟩, ⟨by (with_reducible repeat (first | refine blk_drewN ?_ _ | refine blk_drew ?_ | refine blk_alloc ?_ _)); exact BK134.out⟩, ⟨by repeat (first | (with_reducible first | exact HB.out | apply below_alloc | apply pw_below_drewN | apply below_drew1 | refine below_set ?_ GE131.out | refine below_set ?_ GE132.out | refine below_set ?_ GE133.out | refine below_set ?_ GE134.out) | exact HB.out)⟩⟩
            ·replace c84 := Bool.eq_false_iff.mpr c84
             subst c84
             have H1 : (paternosterlaw14_GateTells.j4 kj75 a4 a5 a6 a8 (wrap64 (Int.tmod a7 201)) x23_73 a0_0 a0_1 a0_2 a1_0 a1_1 a2_0 a2_1 a3_0 a3_1) = some r := by rw [if_neg (show ¬ (false = true) by decide)] at H; exact H
             clear H
             have H := H1
             clear H1
             have H' := Aside0.mk H
             clear H
             go_wp2
             go_meet
             case rel => exact ⟨_, (x23_73), (by first | rfl | (simp; done) | (simp [*]; done)), H', ⟨by have := HJ13.out; have := HJ53.out; have := HJ73.out; have := HJ75.out; first | omega | exact Nat.le_refl _⟩, ⟨by (with_reducible repeat (first | refine blk_drewN ?_ _ | refine blk_drew ?_ | refine blk_alloc ?_ _)); exact BK131.out⟩, ⟨by (with_reducible repeat (first | refine blk_drewN ?_ _ | refine blk_drew ?_ | refine blk_alloc ?_ _)); exact BK132.out⟩, ⟨by (with_reducible repeat (first | refine blk_drewN ?_ _ | refine blk_drew ?_ | refine blk_alloc ?_ _)); exact BK133.out⟩, ⟨by (with_reducible repeat (first | refine blk_drewN ?_ _ | refine blk_drew ?_ | refine blk_alloc ?_ _)); exact BK134.out⟩, ⟨by repeat (first | (with_reducible first | exact HB.out | apply below_alloc | apply pw_below_drewN | apply below_drew1 | refine below_set ?_ GE131.out | refine below_set ?_ GE132.out | refine below_set ?_ GE133.out | refine below_set ?_ GE134.out) | exact HB.out)⟩⟩
           case rest => as_aux_lemma =>
            clear HC83
            try clear c1
            try clear c2
            try clear p2
            try clear c3
            try clear c4
            try clear c5
            try clear c6
            try clear p6
            try clear c7
            try clear c8
            try clear c11
            try clear c18
            try clear c20
            try clear c21
            try clear c22
            try clear c24
            try clear c25
            try clear c29
            try clear c32
            try clear c33
            try clear c34
            try clear c34b0
            try clear c35
            try clear c36
            try clear c37
            try clear c39
            try clear c39b0
            try clear c40
            try clear c41
            try clear c42
            try clear c44
            try clear c44b0
            try clear c45
            try clear c46
            try clear c47
            try clear c49
            try clear c50
            try clear c51
            try clear c53
            try clear c55
            try clear c56
            try clear c57
            try clear c57b0
            try clear c57b1
            try clear c58
            try clear c58b0
            try clear c58b1
            try clear c59
            try clear c60
            try clear c61
            try clear c63
            try clear c64
            try clear p64
            try clear c66
            try clear c67
            try clear c68
            try clear c70
            try clear c71
            try clear c72
            try clear c75
            try clear c77
            try clear c78
            try clear c79
            try clear c80
            try clear c81
            try clear c84
            try clear hcz23_0
            try clear hcz23_1
            try clear hcz23_2
            try clear hcz26_0
            try clear hcz26_1
            try clear hcz28_0
            try clear hcz28_1
            try clear hcz28_2
            try clear hcz30_0
            try clear hcz30_1
            try clear hcz38_0
            try clear hcz38_1
            try clear hcz43_0
            try clear hcz43_1
            try clear hcz48_0
            try clear hcz48_1
            try clear hcz52_0
            try clear hcz52_1
            try clear hcz62_0
            try clear hcz62_1
            try clear hcz62_2
            try clear hcz65_0
            try clear hcz65_1
            try clear hcz69_0
            try clear hcz69_1
            try clear hcz69_2
            try clear hcz73_0
            try clear hcz73_1
            try clear hcz73_2
            try clear hcz82_0
            try clear hcz82_1
            try clear hfz23_0
            try clear hfz23_1
            try clear hfz23_2
            try clear hfz26_0
            try clear hfz26_1
            try clear hfz28_0
            try clear hfz28_1
            try clear hfz28_2
            try clear hfz30_0
            try clear hfz30_1
            try clear hfz38_0
            try clear hfz38_1
            try clear hfz43_0
            try clear hfz43_1
            try clear hfz48_0
            try clear hfz48_1
            try clear hfz52_0
            try clear hfz52_1
            try clear hfz62_0
            try clear hfz62_1
            try clear hfz62_2
            try clear hfz65_0
            try clear hfz65_1
            try clear hfz69_0
            try clear hfz69_1
            try clear hfz69_2
            try clear hfz73_0
            try clear hfz73_1
            try clear hfz73_2
            try clear hfz82_0
            try clear hfz82_1
            try clear p2
            try clear p6
            try clear p64
            obtain ⟨kq, x23_82, rfl, HA, HJ82, BK131, BK132, BK133, BK134, HB⟩ := hcut
            cases kq with
            | zero => exact absurd HA.out (by simp [paternosterlaw14_GateTells.j4])
            | succ kj82 =>
             have H := HA.out
             clear HA
             simp only [paternosterlaw14_GateTells.j4] at H
             replace H := Option.bind_eq_some_iff.mp H
             obtain ⟨⟨t138, t139⟩, A850, H⟩ := H
             replace H : (if a2_0 = a2_1 then (if a1_0 = a1_1 then (paternosterlaw14_GateTells.j5 kj82 a4 a5 a6 a8 x23_82 (mx (wrap64 (a3_0 - 1)) 0) a0_0 a0_1 a0_2 a1_0 a1_1 a2_0 a2_1 a3_0 a3_1 t138 t139) else (paternosterlaw14_GateTells.j5 kj82 a4 a5 a6 a8 x23_82 (wrap64 (Int.tmod a7 201)) a0_0 a0_1 a0_2 a1_0 a1_1 a2_0 a2_1 a3_0 a3_1 t138 t139)) else (paternosterlaw14_GateTells.j5 kj82 a4 a5 a6 a8 x23_82 0 a0_0 a0_1 a0_2 a1_0 a1_1 a2_0 a2_1 a3_0 a3_1 t138 t139)) = some r := H
             have A85 := Aside0.mk A850
             clear A850
             have HC86 := Aside0.mk H
             clear H
             have hnb87 := NB134_131.out
             have hnc87 := NB131_134.out
             have hnb88 := NB134_132.out
             have hnc88 := NB132_134.out
             have hnb89 := NB134_133.out
             have hnc89 := NB133_134.out
             have hcz90_0 : wc.cell? ⟨gb134, 0, none⟩ = some (.int .i64 a3_0) := (blk_cell BK134.out 0).trans rfl
             have hcz90_1 : wc.cell? ⟨gb134, 1, none⟩ = some (.int .i64 a3_1) := (blk_cell BK134.out 1).trans rfl
             have hfz90_0 := blk_frozen BK134.out 0
             have hfz90_1 := blk_frozen BK134.out 1
             have hnb91 := NB132_131.out
             have hnc91 := NB131_132.out
             have hnb92 := NB132_133.out
             have hnc92 := NB133_132.out
             have hcz93_0 : wc.cell? ⟨gb132, 0, none⟩ = some (.int .i64 a1_0) := (blk_cell BK132.out 0).trans rfl
             have hcz93_1 : wc.cell? ⟨gb132, 1, none⟩ = some (.int .i64 a1_1) := (blk_cell BK132.out 1).trans rfl
             have hfz93_0 := blk_frozen BK132.out 0
             have hfz93_1 := blk_frozen BK132.out 1
             have hnb94 := NB133_131.out
             have hnc94 := NB131_133.out
             have hcz95_0 : wc.cell? ⟨gb133, 0, none⟩ = some (.int .i64 a2_0) := (blk_cell BK133.out 0).trans rfl
             have hcz95_1 : wc.cell? ⟨gb133, 1, none⟩ = some (.int .i64 a2_1) := (blk_cell BK133.out 1).trans rfl
             have hfz95_0 := blk_frozen BK133.out 0
             have hfz95_1 := blk_frozen BK133.out 1
             go_upto_if 110 with (first | ((with_reducible refine gate_callee (f := 19) rfl ?_); refine goesL_ (some 105) rfl rfl Try.func19 (by kernel_rfl) rfl #[.agg #[.int .i64 a3_0, .int .i64 a3_1], .agg #[.int .i64 a1_0, .int .i64 a1_1], .agg #[.int .i64 a2_0, .int .i64 a2_1], .int .i64 (wrap64 (Int.tmod a7 201))] rfl (by (try simp only [List.map_toArray, List.map_cons, List.map_nil]); first | done | rfl | (simp only [List.length_drop, List.length_take]; rfl)) ?_; (with_reducible refine (gate_Gate_Step.calls a3_0 a3_1 a1_0 a1_1 a2_0 a2_1 (wrap64 (Int.tmod a7 201)) t138 t139 _ A85.out).mono ?_); rintro e w96 ⟨rfl, hb⟩; refine ⟨_, rfl, ?_⟩; have n0_ := Aside0.mk (blk_below (g := gb131) (o := .cells #[.int .i64 a0_0, .int .i64 a0_1, .int .i64 a0_2] 23 (0, 0)) (by (with_reducible repeat (first | refine blk_drewN ?_ _ | refine blk_drew ?_ | refine blk_alloc ?_ _)); exact BK131.out) hb); have n1_ := Aside0.mk (blk_below (g := gb132) (o := .cells #[.int .i64 a1_0, .int .i64 a1_1] 25 (0, 0)) (by (with_reducible repeat (first | refine blk_drewN ?_ _ | refine blk_drew ?_ | refine blk_alloc ?_ _)); exact BK132.out) hb); have n2_ := Aside0.mk (blk_below (g := gb133) (o := .cells #[.int .i64 a2_0, .int .i64 a2_1] 25 (0, 0)) (by (with_reducible repeat (first | refine blk_drewN ?_ _ | refine blk_drew ?_ | refine blk_alloc ?_ _)); exact BK133.out) hb); have n3_ := Aside0.mk (blk_below (g := gb134) (o := .cells #[.int .i64 a3_0, .int .i64 a3_1] 37 (0, 0)) (by (with_reducible repeat (first | refine blk_drewN ?_ _ | refine blk_drew ?_ | refine blk_alloc ?_ _)); exact BK134.out) hb); have n4_ := Aside0.mk (below_step (by repeat (first | (with_reducible first | exact HB.out | apply below_alloc | apply pw_below_drewN | apply below_drew1 | refine below_set ?_ GE131.out | refine below_set ?_ GE132.out | refine below_set ?_ GE133.out | refine below_set ?_ GE134.out) | exact HB.out)) hb); clear BK131; clear BK132; clear BK133; clear BK134; clear HB; have BK131 := n0_; have BK132 := n1_; have BK133 := n2_; have BK134 := n3_; have HB := n4_; clear n0_ n1_ n2_ n3_ n4_; (try clear hb); (try clear hb2); (try clear hk); (try clear hi)) | ((with_reducible refine gate_dst (N := 24) rfl ?_); refine box_event ?hg (N := 24) ?hd (cs := #[.int .i64 0, .int .i64 0]) (t := 37) ?hr ?_; (case hd => rfl); (case hg => rfl); (case hr => first | (go_simp; done) | (go_simp; rfl)); intro gb140 hg w97 hbox hb; have n0_ := Aside0.mk (blk_below (g := gb131) (o := .cells #[.int .i64 a0_0, .int .i64 a0_1, .int .i64 a0_2] 23 (0, 0)) (by (with_reducible repeat (first | refine blk_drewN ?_ _ | refine blk_drew ?_ | refine blk_alloc ?_ _)); exact BK131.out) hb); have n1_ := Aside0.mk (blk_below (g := gb132) (o := .cells #[.int .i64 a1_0, .int .i64 a1_1] 25 (0, 0)) (by (with_reducible repeat (first | refine blk_drewN ?_ _ | refine blk_drew ?_ | refine blk_alloc ?_ _)); exact BK132.out) hb); have n2_ := Aside0.mk (blk_below (g := gb133) (o := .cells #[.int .i64 a2_0, .int .i64 a2_1] 25 (0, 0)) (by (with_reducible repeat (first | refine blk_drewN ?_ _ | refine blk_drew ?_ | refine blk_alloc ?_ _)); exact BK133.out) hb); have n3_ := Aside0.mk (blk_below (g := gb134) (o := .cells #[.int .i64 a3_0, .int .i64 a3_1] 37 (0, 0)) (by (with_reducible repeat (first | refine blk_drewN ?_ _ | refine blk_drew ?_ | refine blk_alloc ?_ _)); exact BK134.out) hb); have n4_ := Aside0.mk (below_step (by repeat (first | (with_reducible first | exact HB.out | apply below_alloc | apply pw_below_drewN | apply below_drew1 | refine below_set ?_ GE131.out | refine below_set ?_ GE132.out | refine below_set ?_ GE133.out | refine below_set ?_ GE134.out) | exact HB.out)) hb); have n5_ := Aside0.mk (hbox); have n6_ := Aside0.mk ((by rw [hg]; exact (below_size (by repeat (first | (with_reducible first | exact HB.out | apply below_alloc | apply pw_below_drewN | apply below_drew1 | refine below_set ?_ GE131.out | refine below_set ?_ GE132.out | refine below_set ?_ GE133.out | refine below_set ?_ GE134.out) | exact HB.out))) : w.heap.size ≤ gb140)); have n7_ := Aside0.mk ((by rw [hg]; exact (below_size (by repeat (first | (with_reducible first | exact HB.out | apply below_alloc | apply pw_below_drewN | apply below_drew1 | refine below_set ?_ GE131.out | refine below_set ?_ GE132.out | refine below_set ?_ GE133.out | refine below_set ?_ GE134.out) | exact HB.out))) : w.heap.size ≤ gb140)); have n8_ := Aside0.mk ((by rw [hg]; exact Nat.ne_of_lt (blk_lt (g := gb131) (o := .cells #[.int .i64 a0_0, .int .i64 a0_1, .int .i64 a0_2] 23 (0, 0)) (by (with_reducible repeat (first | refine blk_drewN ?_ _ | refine blk_drew ?_ | refine blk_alloc ?_ _)); exact BK131.out)) : gb131 ≠ gb140)); have n9_ := Aside0.mk ((by rw [hg]; exact Nat.ne_of_gt (blk_lt (g := gb131) (o := .cells #[.int .i64 a0_0, .int .i64 a0_1, .int .i64 a0_2] 23 (0, 0)) (by (with_reducible repeat (first | refine blk_drewN ?_ _ | refine blk_drew ?_ | refine blk_alloc ?_ _)); exact BK131.out)) : gb140 ≠ gb131)); have n10_ := Aside0.mk ((by rw [hg]; exact Nat.ne_of_lt (blk_lt (g := gb132) (o := .cells #[.int .i64 a1_0, .int .i64 a1_1] 25 (0, 0)) (by (with_reducible repeat (first | refine blk_drewN ?_ _ | refine blk_drew ?_ | refine blk_alloc ?_ _)); exact BK132.out)) : gb132 ≠ gb140)); have n11_ := Aside0.mk ((by rw [hg]; exact Nat.ne_of_gt (blk_lt (g := gb132) (o := .cells #[.int .i64 a1_0, .int .i64 a1_1] 25 (0, 0)) (by (with_reducible repeat (first | refine blk_drewN ?_ _ | refine blk_drew ?_ | refine blk_alloc ?_ _)); exact BK132.out)) : gb140 ≠ gb132)); have n12_ := Aside0.mk ((by rw [hg]; exact Nat.ne_of_lt (blk_lt (g := gb133) (o := .cells #[.int .i64 a2_0, .int .i64 a2_1] 25 (0, 0)) (by (with_reducible repeat (first | refine blk_drewN ?_ _ | refine blk_drew ?_ | refine blk_alloc ?_ _)); exact BK133.out)) : gb133 ≠ gb140)); have n13_ := Aside0.mk ((by rw [hg]; exact Nat.ne_of_gt (blk_lt (g := gb133) (o := .cells #[.int .i64 a2_0, .int .i64 a2_1] 25 (0, 0)) (by (with_reducible repeat (first | refine blk_drewN ?_ _ | refine blk_drew ?_ | refine blk_alloc ?_ _)); exact BK133.out)) : gb140 ≠ gb133)); have n14_ := Aside0.mk ((by rw [hg]; exact Nat.ne_of_lt (blk_lt (g := gb134) (o := .cells #[.int .i64 a3_0, .int .i64 a3_1] 37 (0, 0)) (by (with_reducible repeat (first | refine blk_drewN ?_ _ | refine blk_drew ?_ | refine blk_alloc ?_ _)); exact BK134.out)) : gb134 ≠ gb140)); have n15_ := Aside0.mk ((by rw [hg]; exact Nat.ne_of_gt (blk_lt (g := gb134) (o := .cells #[.int .i64 a3_0, .int .i64 a3_1] 37 (0, 0)) (by (with_reducible repeat (first | refine blk_drewN ?_ _ | refine blk_drew ?_ | refine blk_alloc ?_ _)); exact BK134.out)) : gb140 ≠ gb134)); clear BK131; clear BK132; clear BK133; clear BK134; clear HB; have BK131 := n0_; have BK132 := n1_; have BK133 := n2_; have BK134 := n3_; have HB := n4_; have BK140 := n5_; have GW140 := n6_; have GE140 := n7_; have NB131_140 := n8_; have NB140_131 := n9_; have NB132_140 := n10_; have NB140_132 := n11_; have NB133_140 := n12_; have NB140_133 := n13_; have NB134_140 := n14_; have NB140_134 := n15_; clear n0_ n1_ n2_ n3_ n4_ n5_ n6_ n7_ n8_ n9_ n10_ n11_ n12_ n13_ n14_ n15_; clear hb hbox hg; have hnb98 := NB140_131.out; have hnc98 := NB131_140.out; have hnb99 := NB140_132.out; have hnc99 := NB132_140.out; have hnb100 := NB140_133.out; have hnc100 := NB133_140.out; have hnb101 := NB140_134.out; have hnc101 := NB134_140.out; have hcz102_0 : w97.cell? ⟨gb140, 0, none⟩ = some (.int .i64 0) := (blk_cell BK140.out 0).trans rfl; have hcz102_1 : w97.cell? ⟨gb140, 1, none⟩ = some (.int .i64 0) := (blk_cell BK140.out 1).trans rfl; have hfz102_0 := blk_frozen BK140.out 0; have hfz102_1 := blk_frozen BK140.out 1; have hcz103_0 : w97.cell? ⟨gb133, 0, none⟩ = some (.int .i64 a2_0) := (blk_cell BK133.out 0).trans rfl; have hcz103_1 : w97.cell? ⟨gb133, 1, none⟩ = some (.int .i64 a2_1) := (blk_cell BK133.out 1).trans rfl; have hfz103_0 := blk_frozen BK133.out 0; have hfz103_1 := blk_frozen BK133.out 1))
             (try simp only [Act.put, sA, sB, sC])
             go_cut [25] (fun v25 wc => ∃ (kq : Nat) (x25_85 : Int), v25 = .int .i64 x25_85 ∧ Aside0 (paternosterlaw14_GateTells.j5 kq a4 a5 a6 a8 x23_82 x25_85 a0_0 a0_1 a0_2 a1_0 a1_1 a2_0 a2_1 a3_0 a3_1 t138 t139 = some r) ∧ Aside0 (kq ≤ kj82) ∧ Aside0 (wc.heap[gb131]? = some (.cells #[.int .i64 a0_0, .int .i64 a0_1, .int .i64 a0_2] 23 (0, 0))) ∧ Aside0 (wc.heap[gb132]? = some (.cells #[.int .i64 a1_0, .int .i64 a1_1] 25 (0, 0))) ∧ Aside0 (wc.heap[gb133]? = some (.cells #[.int .i64 a2_0, .int .i64 a2_1] 25 (0, 0))) ∧ Aside0 (wc.heap[gb134]? = some (.cells #[.int .i64 a3_0, .int .i64 a3_1] 37 (0, 0))) ∧ Aside0 (wc.heap[gb140]? = some (.cells #[.int .i64 t138, .int .i64 t139] 37 (0, 0))) ∧ Aside0 (Below w.heap.size w wc))
             case first => as_aux_lemma =>
              have H := HC86.out
              clear HC86
              by_cases c104 : a2_0 = a2_1
              ·rw [if_pos c104] at H
               have c104b0 : (a2_0 == a2_1) = true := beq_iff_eq.mpr c104
               have c104b1 : (a2_0 != a2_1) = false := bne_eq_false_iff_eq.mpr c104
               clear c104
               (first | rw [c104b0] | (simp only [i64_w, i32_w]; rw [c104b0]) | skip)
               by_cases c105 : a1_0 = a1_1
               ·rw [if_pos c105] at H
                have c105b0 : (a1_0 == a1_1) = true := beq_iff_eq.mpr c105
                have c105b1 : (a1_0 != a1_1) = false := bne_eq_false_iff_eq.mpr c105
                clear c105
                obtain ⟨ji106, hji106⟩ : ∃ j_ : Int, (mx (wrap64 (a3_0 - 1)) 0) = j_ := ⟨_, rfl⟩
                replace H : (paternosterlaw14_GateTells.j5 kj82 a4 a5 a6 a8 x23_82 ji106 a0_0 a0_1 a0_2 a1_0 a1_1 a2_0 a2_1 a3_0 a3_1 t138 t139) = some r := by first | (rw [hji106] at H; exact H) | (simp only [hji106] at H ⊢; exact H)
                have hji106_ : (if (wrap64 (a3_0 - 1)) < 0 then 0 else (wrap64 (a3_0 - 1))) = ji106 := hji106
                have H' := Aside0.mk H
                clear H
                have hnb107 := NB132_131.out
                have hnc107 := NB131_132.out
                have hnb108 := NB132_133.out
                have hnc108 := NB133_132.out
                have hnb109 := NB132_134.out
                have hnc109 := NB134_132.out
                have hnb110 := NB132_140.out
                have hnc110 := NB140_132.out
                have hcz111_0 : w97.cell? ⟨gb132, 0, none⟩ = some (.int .i64 a1_0) := (blk_cell BK132.out 0).trans rfl
                have hcz111_1 : w97.cell? ⟨gb132, 1, none⟩ = some (.int .i64 a1_1) := (blk_cell BK132.out 1).trans rfl
                have hfz111_0 := blk_frozen BK132.out 0
                have hfz111_1 := blk_frozen BK132.out 1
                have hnb112 := NB134_131.out
                have hnc112 := NB131_134.out
                have hnb113 := NB134_133.out
                have hnc113 := NB133_134.out
                have hnb114 := NB134_140.out
                have hnc114 := NB140_134.out
                have hcz115_0 : w97.cell? ⟨gb134, 0, none⟩ = some (.int .i64 a3_0) := (blk_cell BK134.out 0).trans rfl
                have hcz115_1 : w97.cell? ⟨gb134, 1, none⟩ = some (.int .i64 a3_1) := (blk_cell BK134.out 1).trans rfl
                have hfz115_0 := blk_frozen BK134.out 0
                have hfz115_1 := blk_frozen BK134.out 1
                go_wp2
                go_meet
                case rel => exact ⟨_, (ji106), (by first | rfl | (simp; done) | (simp only [← hji106] <;> (first | rfl | simp)) | (simp [*]; done)), H', ⟨by have := HJ13.out; have := HJ53.out; have := HJ73.out; have := HJ75.out; have := HJ82.out; first | omega | exact Nat.le_refl _⟩, ⟨by (with_reducible repeat (first | refine blk_drewN ?_ _ | refine blk_drew ?_ | refine blk_alloc ?_ _)); refine blk_far ?_ NB131_140.out _; (with_reducible repeat (first | refine blk_drewN ?_ _ | refine blk_drew ?_ | refine blk_alloc ?_ _)); refine blk_far ?_ NB131_140.out _; (with_reducible repeat (first | refine blk_drewN ?_ _ | refine blk_drew ?_ | refine blk_alloc ?_ _)); exact BK131.out⟩, ⟨by (with_reducible repeat (first | refine blk_drewN ?_ _ | refine blk_drew ?_ | refine blk_alloc ?_ _)); refine blk_far ?_ NB132_140.out _; (with_reducible repeat (first | refine blk_drewN ?_ _ | refine blk_drew ?_ | refine blk_alloc ?_ _)); refine blk_far ?_ NB132_140.out _; (with_reducible repeat (first | refine blk_drewN ?_ _ | refine blk_drew ?_ | refine blk_alloc ?_ _)); exact BK132.out⟩, ⟨by (with_reducible repeat (first | refine blk_drewN ?_ _ | refine blk_drew ?_ | refine blk_alloc ?_ _)); refine blk_far ?_ NB133_140.out _; (with_reducible repeat (first | refine blk_drewN ?_ _ | refine blk_drew ?_ | refine blk_alloc ?_ _)); refine blk_far ?_ NB133_140.out _; (with_reducible repeat (first | refine blk_drewN ?_ _ | refine blk_drew ?_ | refine blk_alloc ?_ _)); exact BK133.out⟩, ⟨by (with_reducible repeat (first | refine blk_drewN ?_ _ | refine blk_drew ?_ | refine blk_alloc ?_ _)); refine blk_far ?_ NB134_140.out _; (with_reducible repeat (first | refine blk_drewN ?_ _ | refine blk_drew ?_ | refine blk_alloc ?_ _)); refine blk_far ?_ NB134_140.out _; (with_reducible repeat (first | refine blk_drewN ?_ _ | refine blk_drew ?_ | refine blk_alloc ?_ _)); exact BK134.out⟩, ⟨by (with_reducible repeat (first | refine blk_drewN ?_ _ | refine blk_drew ?_ | refine blk_alloc ?_ _)); refine blk_put (cs := #[.int .i64 t138, .int .i64 0]) ?_ 1 _ rfl; (with_reducible repeat (first | refine blk_drewN ?_ _ | refine blk_drew ?_ | refine blk_alloc ?_ _)); refine blk_put (cs := #[.int .i64 0, .int .i64 0]) ?_ 0 _ rfl; (with_reducible repeat (first | refine blk_drewN ?_ _ | refine blk_drew ?_ | refine blk_alloc ?_ _)); exact BK140.out⟩, ⟨by repeat (first | (with_reducible first | exact HB.out | apply below_alloc | apply pw_below_drewN | apply below_drew1 | refine below_set ?_ GE131.out | refine below_set ?_ GE132.out | refine below_set ?_ GE133.out | refine below_set ?_ GE134.out | refine below_set ?_ GE140.out) | exact HB.out)⟩⟩
               ·rw [if_neg c105] at H
                have c105b0 : (a1_0 == a1_1) = false := beq_eq_false_iff_ne.mpr c105
                have c105b1 : (a1_0 != a1_1) = true := bne_iff_ne.mpr c105
                have H' := Aside0.mk H
                clear H
                have hnb116 := NB132_131.out
                have hnc116 := NB131_132.out
                have hnb117 := NB132_133.out
                have hnc117 := NB133_132.out
                have hnb118 := NB132_134.out
                have hnc118 := NB134_132.out
                have hnb119 := NB132_140.out
                have hnc119 := NB140_132.out
                have hcz120_0 : w97.cell? ⟨gb132, 0, none⟩ = some (.int .i64 a1_0) := (blk_cell BK132.out 0).trans rfl
                have hcz120_1 : w97.cell? ⟨gb132, 1, none⟩ = some (.int .i64 a1_1) := (blk_cell BK132.out 1).trans rfl
                have hfz120_0 := blk_frozen BK132.out 0
                have hfz120_1 := blk_frozen BK132.out 1
                go_wp2
                go_meet
                case rel => exact ⟨_, ((wrap64 (Int.tmod a7 201))), (by first | rfl | (simp; done) | (simp [*]; done)), H', ⟨by have := HJ13.out; have := HJ53.out; have := HJ73.out; have := HJ75.out; have := HJ82.out; first | omega | exact Nat.le_refl _⟩, ⟨by (with_reducible repeat (first | refine blk_drewN ?_ _ | refine blk_drew ?_ | refine blk_alloc ?_ _)); refine blk_far ?_ NB131_140.out _; (with_reducible repeat (first | refine blk_drewN ?_ _ | refine blk_drew ?_ | refine blk_alloc ?_ _)); refine blk_far ?_ NB131_140.out _; (with_reducible repeat (first | refine blk_drewN ?_ _ | refine blk_drew ?_ | refine blk_alloc ?_ _)); exact BK131.out⟩, ⟨by (with_reducible repeat (first | refine blk_drewN ?_ _ | refine blk_drew ?_ | refine blk_alloc ?_ _)); refine blk_far ?_ NB132_140.out _; (with_reducible repeat (first | refine blk_drewN ?_ _ | refine blk_drew ?_ | refine blk_alloc ?_ _)); refine blk_far ?_ NB132_140.out _; (with_reducible repeat (first | refine blk_drewN ?_ _ | refine blk_drew ?_ | refine blk_alloc ?_ _)); exact BK132.out⟩, ⟨by (with_reducible repeat (first | refine blk_drewN ?_ _ | refine blk_drew ?_ | refine blk_alloc ?_ _)); refine blk_far ?_ NB133_140.out _; (with_reducible repeat (first | refine blk_drewN ?_ _ | refine blk_drew ?_ | refine blk_alloc ?_ _)); refine blk_far ?_ NB133_140.out _; (with_reducible repeat (first | refine blk_drewN ?_ _ | refine blk_drew ?_ | refine blk_alloc ?_ _)); exact BK133.out⟩, ⟨by (with_reducible repeat (first | refine blk_drewN ?_ _ | refine blk_drew ?_ | refine blk_alloc ?_ _)); refine blk_far ?_ NB134_140.out _; (with_reducible repeat (first | refine blk_drewN ?_ _ | refine blk_drew ?_ | refine blk_alloc ?_ _)); refine blk_far ?_ NB134_140.out _; (with_reducible repeat (first | refine blk_drewN ?_ _ | refine blk_drew ?_ | refine blk_alloc ?_ _)); exact BK134.out⟩, ⟨by (with_reducible repeat (first | refine blk_drewN ?_ _ | refine blk_drew ?_ | refine blk_alloc ?_ _)); refine blk_put (cs := #[.int .i64 t138, .int .i64 0]) ?_ 1 _ rfl; (with_reducible repeat (first | refine blk_drewN ?_ _ | refine blk_drew ?_ | refine blk_alloc ?_ _)); refine blk_put (cs := #[.int .i64 0, .int .i64 0]) ?_ 0 _ rfl; (with_reducible repeat (first | refine blk_drewN ?_ _ | refine blk_drew ?_ | refine blk_alloc ?_ _)); exact BK140.out⟩, ⟨by repeat (first | (with_reducible first | exact HB.out | apply below_alloc | apply pw_below_drewN | apply below_drew1 | refine below_set ?_ GE131.out | refine below_set ?_ GE132.out | refine below_set ?_ GE133.out | refine below_set ?_ GE134.out | refine below_set ?_ GE140.out) | exact HB.out)⟩⟩
              ·rw [if_neg c104] at H
               have c104b0 : (a2_0 == a2_1) = false := beq_eq_false_iff_ne.mpr c104
               have c104b1 : (a2_0 != a2_1) = true := bne_iff_ne.mpr c104
               (first | rw [c104b0] | (simp only [i64_w, i32_w]; rw [c104b0]) | skip)
               have H' := Aside0.mk H
               clear H
               go_wp2
               go_meet
               case rel => exact ⟨_, (0), (by first | rfl | (simp; done) | (simp [*]; done)), H', ⟨by have := HJ13.out; have := HJ53.out; have := HJ73.out; have := HJ75.out; have := HJ82.out; first | omega | exact Nat.le_refl _⟩, ⟨by (with_reducible repeat (first | refine blk_drewN ?_ _ | refine blk_drew ?_ | refine blk_alloc ?_ _)); refine blk_far ?_ NB131_140.out _; (with_reducible repeat (first | refine blk_drewN ?_ _ | refine blk_drew ?_ | refine blk_alloc ?_ _)); refine blk_far ?_ NB131_140.out _; (with_reducible repeat (first | refine blk_drewN ?_ _ | refine blk_drew ?_ | refine blk_alloc ?_ _)); exact BK131.out⟩, ⟨by (with_reducible repeat (first | refine blk_drewN ?_ _ | refine blk_drew ?_ | refine blk_alloc ?_ _)); refine blk_far ?_ NB132_140.out _; (with_reducible repeat (first | refine blk_drewN ?_ _ | refine blk_drew ?_ | refine blk_alloc ?_ _)); refine blk_far ?_ NB132_140.out _; (with_reducible repeat (first | refine blk_drewN ?_ _ | refine blk_drew ?_ | refine blk_alloc ?_ _)); exact BK132.out⟩, ⟨by (with_reducible repeat (first | refine blk_drewN ?_ _ | refine blk_drew ?_ | refine blk_alloc ?_ _)); refine blk_far ?_ NB133_140.out _; (with_reducible repeat (first | refine blk_drewN ?_ _ | refine blk_drew ?_ | refine blk_alloc ?_ _)); refine blk_far ?_ NB133_140.out _; (with_reducible repeat (first | refine blk_drewN ?_ _ | refine blk_drew ?_ | refine blk_alloc ?_ _)); exact BK133.out⟩, ⟨by (with_reducible repeat (first | refine blk_drewN ?_ _ | refine blk_drew ?_ | refine blk_alloc ?_ _)); refine blk_far ?_ NB134_140.out _; (with_reducible repeat (first | refine blk_drewN ?_ _ | refine blk_drew ?_ | refine blk_alloc ?_ _)); refine blk_far ?_ NB134_140.out _; (with_reducible repeat (first | refine blk_drewN ?_ _ | refine blk_drew ?_ | refine blk_alloc ?_ _)); exact BK134.out⟩, ⟨by (with_reducible repeat (first | refine blk_drewN ?_ _ | refine blk_drew ?_ | refine blk_alloc ?_ _)); refine blk_put (cs := #[.int .i64 t138, .int .i64 0]) ?_ 1 _ rfl; (with_reducible repeat (first | refine blk_drewN ?_ _ | refine blk_drew ?_ | refine blk_alloc ?_ _)); refine blk_put (cs := #[.int .i64 0, .int .i64 0]) ?_ 0 _ rfl; (with_reducible repeat (first | refine blk_drewN ?_ _ | refine blk_drew ?_ | refine blk_alloc ?_ _)); exact BK140.out⟩, ⟨by repeat (first | (with_reducible first | exact HB.out | apply below_alloc | apply pw_below_drewN | apply below_drew1 | refine below_set ?_ GE131.out | refine below_set ?_ GE132.out | refine below_set ?_ GE133.out | refine below_set ?_ GE134.out | refine below_set ?_ GE140.out) | exact HB.out)⟩⟩
             case rest => as_aux_lemma =>
              clear HC86
              try clear c1
              try clear c2
              try clear p2
              try clear c3
              try clear c4
              try clear c5
              try clear c6
              try clear p6
              try clear c7
              try clear c8
              try clear c9
              try clear c10
              try clear c11
              try clear c18
              try clear c19
              try clear c20
              try clear c21
              try clear c22
              try clear c24
              try clear c25
              try clear c29
              try clear c32
              try clear c33
              try clear c34
              try clear c34b0
              try clear c35
              try clear c36
              try clear c37
              try clear c39
              try clear c39b0
              try clear c40
              try clear c41
              try clear c42
              try clear c44
              try clear c44b0
              try clear c45
              try clear c46
              try clear c47
              try clear c49
              try clear c50
              try clear c51
              try clear c53
              try clear c55
              try clear c56
              try clear c57
              try clear c57b0
              try clear c57b1
              try clear c58
              try clear c58b0
              try clear c58b1
              try clear c59
              try clear c60
              try clear c61
              try clear c63
              try clear c64
              try clear p64
              try clear c66
              try clear c67
              try clear c68
              try clear c70
              try clear c71
              try clear c72
              try clear c75
              try clear c77
              try clear c78
              try clear c79
              try clear c80
              try clear c81
              try clear c84
              try clear c87
              try clear c88
              try clear c89
              try clear c91
              try clear c92
              try clear c94
              try clear c98
              try clear c99
              try clear c100
              try clear c101
              try clear c104
              try clear c104b0
              try clear c104b1
              try clear c105
              try clear c105b0
              try clear c105b1
              try clear c107
              try clear c108
              try clear c109
              try clear c110
              try clear c112
              try clear c113
              try clear c114
              try clear c116
              try clear c117
              try clear c118
              try clear c119
              try clear hcz102_0
              try clear hcz102_1
              try clear hcz103_0
              try clear hcz103_1
              try clear hcz111_0
              try clear hcz111_1
              try clear hcz115_0
              try clear hcz115_1
              try clear hcz120_0
              try clear hcz120_1
              try clear hcz23_0
              try clear hcz23_1
              try clear hcz23_2
              try clear hcz26_0
              try clear hcz26_1
              try clear hcz28_0
              try clear hcz28_1
              try clear hcz28_2
              try clear hcz30_0
              try clear hcz30_1
              try clear hcz38_0
              try clear hcz38_1
              try clear hcz43_0
              try clear hcz43_1
              try clear hcz48_0
              try clear hcz48_1
              try clear hcz52_0
              try clear hcz52_1
              try clear hcz62_0
              try clear hcz62_1
              try clear hcz62_2
              try clear hcz65_0
              try clear hcz65_1
              try clear hcz69_0
              try clear hcz69_1
              try clear hcz69_2
              try clear hcz73_0
              try clear hcz73_1
              try clear hcz73_2
              try clear hcz82_0
              try clear hcz82_1
              try clear hcz90_0
              try clear hcz90_1
              try clear hcz93_0
              try clear hcz93_1
              try clear hcz95_0
              try clear hcz95_1
              try clear hfz102_0
              try clear hfz102_1
              try clear hfz103_0
              try clear hfz103_1
              try clear hfz111_0
              try clear hfz111_1
              try clear hfz115_0
              try clear hfz115_1
              try clear hfz120_0
              try clear hfz120_1
              try clear hfz23_0
              try clear hfz23_1
              try clear hfz23_2
              try clear hfz26_0
              try clear hfz26_1
              try clear hfz28_0
              try clear hfz28_1
              try clear hfz28_2
              try clear hfz30_0
              try clear hfz30_1
              try clear hfz38_0
              try clear hfz38_1
              try clear hfz43_0
              try clear hfz43_1
              try clear hfz48_0
              try clear hfz48_1
              try clear hfz52_0
              try clear hfz52_1
              try clear hfz62_0
              try clear hfz62_1
              try clear hfz62_2
              try clear hfz65_0
              try clear hfz65_1
              try clear hfz69_0
              try clear hfz69_1
              try clear hfz69_2
              try clear hfz73_0
              try clear hfz73_1
              try clear hfz73_2
              try clear hfz82_0
              try clear hfz82_1
              try clear hfz90_0
              try clear hfz90_1
              try clear hfz93_0
              try clear hfz93_1
              try clear hfz95_0
              try clear hfz95_1
              try clear p2
              try clear p6
              try clear p64
              obtain ⟨kq, x25_85, rfl, HA, HJ85, BK131, BK132, BK133, BK134, BK140, HB⟩ := hcut
              cases kq with
              | zero => exact absurd HA.out (by simp [paternosterlaw14_GateTells.j5])
              | succ kj85 =>
               have H := HA.out
               clear HA
               simp only [paternosterlaw14_GateTells.j5] at H
               have HC121 := Aside0.mk H
               clear H
               have hnb122 := NB134_131.out
               have hnc122 := NB131_134.out
               have hnb123 := NB134_132.out
               have hnc123 := NB132_134.out
               have hnb124 := NB134_133.out
               have hnc124 := NB133_134.out
               have hnb125 := NB134_140.out
               have hnc125 := NB140_134.out
               have hcz126_0 : wc.cell? ⟨gb134, 0, none⟩ = some (.int .i64 a3_0) := (blk_cell BK134.out 0).trans rfl
               have hcz126_1 : wc.cell? ⟨gb134, 1, none⟩ = some (.int .i64 a3_1) := (blk_cell BK134.out 1).trans rfl
               have hfz126_0 := blk_frozen BK134.out 0
               have hfz126_1 := blk_frozen BK134.out 1
               have hnb127 := NB133_131.out
               have hnc127 := NB131_133.out
               have hnb128 := NB133_132.out
               have hnc128 := NB132_133.out
               have hnb129 := NB133_140.out
               have hnc129 := NB140_133.out
               have hcz130_0 : wc.cell? ⟨gb133, 0, none⟩ = some (.int .i64 a2_0) := (blk_cell BK133.out 0).trans rfl
               have hcz130_1 : wc.cell? ⟨gb133, 1, none⟩ = some (.int .i64 a2_1) := (blk_cell BK133.out 1).trans rfl
               have hfz130_0 := blk_frozen BK133.out 0
               have hfz130_1 := blk_frozen BK133.out 1
               go_upto_if 125 with (fail)
               go_cut [26] (fun v26 wc => ∃ (kq : Nat) (x26_120 : Int), v26 = .int .i64 x26_120 ∧ Aside0 (paternosterlaw14_GateTells.j6 kq a4 a5 a6 a8 x23_82 x25_85 x26_120 a0_0 a0_1 a0_2 a1_0 a1_1 a3_0 a3_1 t138 t139 = some r) ∧ Aside0 (kq ≤ kj85) ∧ Aside0 (wc.heap[gb131]? = some (.cells #[.int .i64 a0_0, .int .i64 a0_1, .int .i64 a0_2] 23 (0, 0))) ∧ Aside0 (wc.heap[gb132]? = some (.cells #[.int .i64 a1_0, .int .i64 a1_1] 25 (0, 0))) ∧ Aside0 (wc.heap[gb133]? = some (.cells #[.int .i64 a2_0, .int .i64 a2_1] 25 (0, 0))) ∧ Aside0 (wc.heap[gb134]? = some (.cells #[.int .i64 a3_0, .int .i64 a3_1] 37 (0, 0))) ∧ Aside0 (wc.heap[gb140]? = some (.cells #[.int .i64 t138, .int .i64 t139] 37 (0, 0))) ∧ Aside0 (Below w.heap.size w wc))
               case first => as_aux_lemma =>
                have H := HC121.out
                clear HC121
                by_cases c131 : a2_0 = 0
                ·rw [if_pos c131] at H
                 have c131b0 : (a2_0 == 0) = true := beq_iff_eq.mpr c131
                 have c131b1 : (a2_0 != 0) = false := bne_eq_false_iff_eq.mpr c131
                 clear c131
                 (first | rw [c131b0] | (simp only [i64_w, i32_w]; rw [c131b0]) | skip)
                 have H' := Aside0.mk H
                 clear H
                 go_wp2
                 go_meet
                 case rel => exact ⟨_, (0), (by first | rfl | (simp; done) | (simp [*]; done)), H', ⟨by have := HJ13.out; have := HJ53.out; have := HJ73.out; have := HJ75.out; have := HJ82.out; have := HJ85.out; first | omega | exact Nat.le_refl _⟩, ⟨by (with_reducible repeat (first | refine blk_drewN ?_ _ | refine blk_drew ?_ | refine blk_alloc ?_ _)); exact BK131.out⟩, ⟨by (with_reducible repeat (first | refine blk_drewN ?_ _ | refine blk_drew ?_ | refine blk_alloc ?_ _)); exact BK132.out⟩, ⟨by (with_reducible repeat (first | refine blk_drewN ?_ _ | refine blk_drew ?_ | refine blk_alloc ?_ _)); exact BK133.out⟩, ⟨by (with_reducible repeat (first | refine blk_drewN ?_ _ | refine blk_drew ?_ | refine blk_alloc ?_ _)); exact BK134.out⟩, ⟨by (with_reducible repeat (first | refine blk_drewN ?_ _ | refine blk_drew ?_ | refine blk_alloc ?_ _)); exact BK140.out⟩, ⟨by repeat (first | (with_reducible first | exact HB.out | apply below_alloc | apply pw_below_drewN | apply below_drew1 | refine below_set ?_ GE131.out | refine below_set ?_ GE132.out | refine below_set ?_ GE133.out | refine below_set ?_ GE134.out | refine below_set ?_ GE140.out) | exact HB.out)⟩⟩
                ·rw [if_neg c131] at H
                 have c131b0 : (a2_0 == 0) = false := beq_eq_false_iff_ne.mpr c131
                 have c131b1 : (a2_0 != 0) = true := bne_iff_ne.mpr c131
                 (first | rw [c131b0] | (simp only [i64_w, i32_w]; rw [c131b0]) | skip)
                 have H' := Aside0.mk H
                 clear H
                 go_wp2
                 go_meet
                 case rel => exact ⟨_, (a3_1), (by first | rfl | (simp; done) | (simp [*]; done)), H', ⟨by have := HJ13.out; have := HJ53.out; have := HJ73.out; have := HJ75.out; have := HJ82.out; have := HJ85.out; first | omega | exact Nat.le_refl _⟩, ⟨by (with_reducible repeat (first | refine blk_drewN ?_ _ | refine blk_drew ?_ | refine blk_alloc ?_ _)); exact BK131.out⟩, ⟨by (with_reducible repeat (first | refine blk_drewN ?_ _ | refine blk_drew ?_ | refine blk_alloc ?_ _)); exact BK132.out⟩, ⟨by (with_reducible repeat (first | refine blk_drewN ?_ _ | refine blk_drew ?_ | refine blk_alloc ?_ _)); exact BK133.out⟩, ⟨by (with_reducible repeat (first | refine blk_drewN ?_ _ | refine blk_drew ?_ | refine blk_alloc ?_ _)); exact BK134.out⟩, ⟨by (with_reducible repeat (first | refine blk_drewN ?_ _ | refine blk_drew ?_ | refine blk_alloc ?_ _)); exact BK140.out⟩, ⟨by repeat (first | (with_reducible first | exact HB.out | apply below_alloc | apply pw_below_drewN | apply below_drew1 | refine below_set ?_ GE131.out | refine below_set ?_ GE132.out | refine below_set ?_ GE133.out | refine below_set ?_ GE134.out | refine below_set ?_ GE140.out) | exact HB.out)⟩⟩
               case rest => as_aux_lemma =>
                clear HC121
                try clear c1
                try clear c2
                try clear p2
                try clear c3
                try clear c4
                try clear c5
                try clear c6
                try clear p6
                try clear c7
                try clear c8
                try clear c9
                try clear c10
                try clear c11
                try clear c12
                try clear c13
                try clear c18
                try clear c19
                try clear c20
                try clear c21
                try clear c22
                try clear c24
                try clear c25
                try clear c29
                try clear c32
                try clear c33
                try clear c34
                try clear c34b0
                try clear c35
                try clear c36
                try clear c37
                try clear c39
                try clear c39b0
                try clear c40
                try clear c41
                try clear c42
                try clear c44
                try clear c44b0
                try clear c45
                try clear c46
                try clear c47
                try clear c49
                try clear c50
                try clear c51
                try clear c53
                try clear c55
                try clear c56
                try clear c57
                try clear c57b0
                try clear c57b1
                try clear c58
                try clear c58b0
                try clear c58b1
                try clear c59
                try clear c60
                try clear c61
                try clear c63
                try clear c64
                try clear p64
                try clear c66
                try clear c67
                try clear c68
                try clear c70
                try clear c71
                try clear c72
                try clear c75
                try clear c77
                try clear c78
                try clear c79
                try clear c80
                try clear c81
                try clear c84
                try clear c87
                try clear c88
                try clear c89
                try clear c91
                try clear c92
                try clear c94
                try clear c98
                try clear c99
                try clear c100
                try clear c101
                try clear c104
                try clear c104b0
                try clear c104b1
                try clear c105
                try clear c105b0
                try clear c105b1
                try clear c107
                try clear c108
                try clear c109
                try clear c110
                try clear c112
                try clear c113
                try clear c114
                try clear c116
                try clear c117
                try clear c118
                try clear c119
                try clear c122
                try clear c123
                try clear c124
                try clear c125
                try clear c127
                try clear c128
                try clear c129
                try clear c131
                try clear c131b0
                try clear c131b1
                try clear hcz102_0
                try clear hcz102_1
                try clear hcz103_0
                try clear hcz103_1
                try clear hcz111_0
                try clear hcz111_1
                try clear hcz115_0
                try clear hcz115_1
                try clear hcz120_0
                try clear hcz120_1
                try clear hcz126_0
                try clear hcz126_1
                try clear hcz130_0
                try clear hcz130_1
                try clear hcz23_0
                try clear hcz23_1
                try clear hcz23_2
                try clear hcz26_0
                try clear hcz26_1
                try clear hcz28_0
                try clear hcz28_1
                try clear hcz28_2
                try clear hcz30_0
                try clear hcz30_1
                try clear hcz38_0
                try clear hcz38_1
                try clear hcz43_0
                try clear hcz43_1
                try clear hcz48_0
                try clear hcz48_1
                try clear hcz52_0
                try clear hcz52_1
                try clear hcz62_0
                try clear hcz62_1
                try clear hcz62_2
                try clear hcz65_0
                try clear hcz65_1
                try clear hcz69_0
                try clear hcz69_1
                try clear hcz69_2
                try clear hcz73_0
                try clear hcz73_1
                try clear hcz73_2
                try clear hcz82_0
                try clear hcz82_1
                try clear hcz90_0
                try clear hcz90_1
                try clear hcz93_0
                try clear hcz93_1
                try clear hcz95_0
                try clear hcz95_1
                try clear hfz102_0
                try clear hfz102_1
                try clear hfz103_0
                try clear hfz103_1
                try clear hfz111_0
                try clear hfz111_1
                try clear hfz115_0
                try clear hfz115_1
                try clear hfz120_0
                try clear hfz120_1
                try clear hfz126_0
                try clear hfz126_1
                try clear hfz130_0
                try clear hfz130_1
                try clear hfz23_0
                try clear hfz23_1
                try clear hfz23_2
                try clear hfz26_0
                try clear hfz26_1
                try clear hfz28_0
                try clear hfz28_1
                try clear hfz28_2
                try clear hfz30_0
                try clear hfz30_1
                try clear hfz38_0
                try clear hfz38_1
                try clear hfz43_0
                try clear hfz43_1
                try clear hfz48_0
                try clear hfz48_1
                try clear hfz52_0
                try clear hfz52_1
                try clear hfz62_0
                try clear hfz62_1
                try clear hfz62_2
                try clear hfz65_0
                try clear hfz65_1
                try clear hfz69_0
                try clear hfz69_1
                try clear hfz69_2
                try clear hfz73_0
                try clear hfz73_1
                try clear hfz73_2
                try clear hfz82_0
                try clear hfz82_1
                try clear hfz90_0
                try clear hfz90_1
                try clear hfz93_0
                try clear hfz93_1
                try clear hfz95_0
                try clear hfz95_1
                try clear p2
                try clear p6
                try clear p64
                obtain ⟨kq, x26_120, rfl, HA, HJ120, BK131, BK132, BK133, BK134, BK140, HB⟩ := hcut
                cases kq with
                | zero => exact absurd HA.out (by simp [paternosterlaw14_GateTells.j6])
                | succ kj120 =>
                 have H := HA.out
                 clear HA
                 simp only [paternosterlaw14_GateTells.j6] at H
                 replace H := Option.bind_eq_some_iff.mp H
                 obtain ⟨⟨t141, t142, t143⟩, A1320, H⟩ := H
                 replace H : (if a6 = true then (if a1_0 > 0 then (if a1_0 < a1_1 then (paternosterlaw14_GateTells.j7 kj120 a4 a5 x23_82 x25_85 x26_120 t143 (decide (a3_1 < a8)) a0_0 a0_1 a0_2 a1_0 a1_1 a3_0 a3_1 t138 t139 t141 t142) else (paternosterlaw14_GateTells.j7 kj120 a4 a5 x23_82 x25_85 x26_120 t143 false a0_0 a0_1 a0_2 a1_0 a1_1 a3_0 a3_1 t138 t139 t141 t142)) else (paternosterlaw14_GateTells.j7 kj120 a4 a5 x23_82 x25_85 x26_120 t143 false a0_0 a0_1 a0_2 a1_0 a1_1 a3_0 a3_1 t138 t139 t141 t142)) else (paternosterlaw14_GateTells.j7 kj120 a4 a5 x23_82 x25_85 x26_120 t143 false a0_0 a0_1 a0_2 a1_0 a1_1 a3_0 a3_1 t138 t139 t141 t142)) = some r := H
                 have A132 := Aside0.mk A1320
                 clear A1320
                 have HC133 := Aside0.mk H
                 clear H
                 have hnb134 := NB134_131.out
                 have hnc134 := NB131_134.out
                 have hnb135 := NB134_132.out
                 have hnc135 := NB132_134.out
                 have hnb136 := NB134_133.out
                 have hnc136 := NB133_134.out
                 have hnb137 := NB134_140.out
                 have hnc137 := NB140_134.out
                 have hcz138_0 : wc.cell? ⟨gb134, 0, none⟩ = some (.int .i64 a3_0) := (blk_cell BK134.out 0).trans rfl
                 have hcz138_1 : wc.cell? ⟨gb134, 1, none⟩ = some (.int .i64 a3_1) := (blk_cell BK134.out 1).trans rfl
                 have hfz138_0 := blk_frozen BK134.out 0
                 have hfz138_1 := blk_frozen BK134.out 1
                 have hnb139 := NB132_131.out
                 have hnc139 := NB131_132.out
                 have hnb140 := NB132_133.out
                 have hnc140 := NB133_132.out
                 have hnb141 := NB132_140.out
                 have hnc141 := NB140_132.out
                 have hcz142_0 : wc.cell? ⟨gb132, 0, none⟩ = some (.int .i64 a1_0) := (blk_cell BK132.out 0).trans rfl
                 have hcz142_1 : wc.cell? ⟨gb132, 1, none⟩ = some (.int .i64 a1_1) := (blk_cell BK132.out 1).trans rfl
                 have hfz142_0 := blk_frozen BK132.out 0
                 have hfz142_1 := blk_frozen BK132.out 1
                 go_upto_region 24 with (first | ((with_reducible refine gate_callee (f := 23) rfl ?_); refine goesL_ (some 131) rfl rfl Try.func23 (by kernel_rfl) rfl #[.agg #[.int .i64 a3_0, .int .i64 a3_1], .agg #[.int .i64 a1_0, .int .i64 a1_1], .bool a6, .int .i64 a8] rfl (by (try simp only [List.map_toArray, List.map_cons, List.map_nil]); first | done | rfl | (simp only [List.length_drop, List.length_take]; rfl)) ?_; (with_reducible refine (gate_Gate_Again.calls a3_0 a3_1 a1_0 a1_1 a6 a8 t141 t142 t143 _ A132.out).mono ?_); rintro e w143 ⟨rfl, hb⟩; refine ⟨_, rfl, ?_⟩; have n0_ := Aside0.mk (blk_below (g := gb131) (o := .cells #[.int .i64 a0_0, .int .i64 a0_1, .int .i64 a0_2] 23 (0, 0)) (by (with_reducible repeat (first | refine blk_drewN ?_ _ | refine blk_drew ?_ | refine blk_alloc ?_ _)); exact BK131.out) hb); have n1_ := Aside0.mk (blk_below (g := gb132) (o := .cells #[.int .i64 a1_0, .int .i64 a1_1] 25 (0, 0)) (by (with_reducible repeat (first | refine blk_drewN ?_ _ | refine blk_drew ?_ | refine blk_alloc ?_ _)); exact BK132.out) hb); have n2_ := Aside0.mk (blk_below (g := gb133) (o := .cells #[.int .i64 a2_0, .int .i64 a2_1] 25 (0, 0)) (by (with_reducible repeat (first | refine blk_drewN ?_ _ | refine blk_drew ?_ | refine blk_alloc ?_ _)); exact BK133.out) hb); have n3_ := Aside0.mk (blk_below (g := gb134) (o := .cells #[.int .i64 a3_0, .int .i64 a3_1] 37 (0, 0)) (by (with_reducible repeat (first | refine blk_drewN ?_ _ | refine blk_drew ?_ | refine blk_alloc ?_ _)); exact BK134.out) hb); have n4_ := Aside0.mk (blk_below (g := gb140) (o := .cells #[.int .i64 t138, .int .i64 t139] 37 (0, 0)) (by (with_reducible repeat (first | refine blk_drewN ?_ _ | refine blk_drew ?_ | refine blk_alloc ?_ _)); exact BK140.out) hb); have n5_ := Aside0.mk (below_step (by repeat (first | (with_reducible first | exact HB.out | apply below_alloc | apply pw_below_drewN | apply below_drew1 | refine below_set ?_ GE131.out | refine below_set ?_ GE132.out | refine below_set ?_ GE133.out | refine below_set ?_ GE134.out | refine below_set ?_ GE140.out) | exact HB.out)) hb); clear BK131; clear BK132; clear BK133; clear BK134; clear BK140; clear HB; have BK131 := n0_; have BK132 := n1_; have BK133 := n2_; have BK134 := n3_; have BK140 := n4_; have HB := n5_; clear n0_ n1_ n2_ n3_ n4_ n5_; (try clear hb); (try clear hb2); (try clear hk); (try clear hi)) | ((with_reducible refine gate_dst (N := 27) rfl ?_); refine box_event ?hg (N := 27) ?hd (cs := #[.int .i64 0, .int .i64 0]) (t := 37) ?hr ?_; (case hd => rfl); (case hg => rfl); (case hr => first | (go_simp; done) | (go_simp; rfl)); intro gb144 hg w144 hbox hb; have n0_ := Aside0.mk (blk_below (g := gb131) (o := .cells #[.int .i64 a0_0, .int .i64 a0_1, .int .i64 a0_2] 23 (0, 0)) (by (with_reducible repeat (first | refine blk_drewN ?_ _ | refine blk_drew ?_ | refine blk_alloc ?_ _)); exact BK131.out) hb); have n1_ := Aside0.mk (blk_below (g := gb132) (o := .cells #[.int .i64 a1_0, .int .i64 a1_1] 25 (0, 0)) (by (with_reducible repeat (first | refine blk_drewN ?_ _ | refine blk_drew ?_ | refine blk_alloc ?_ _)); exact BK132.out) hb); have n2_ := Aside0.mk (blk_below (g := gb133) (o := .cells #[.int .i64 a2_0, .int .i64 a2_1] 25 (0, 0)) (by (with_reducible repeat (first | refine blk_drewN ?_ _ | refine blk_drew ?_ | refine blk_alloc ?_ _)); exact BK133.out) hb); have n3_ := Aside0.mk (blk_below (g := gb134) (o := .cells #[.int .i64 a3_0, .int .i64 a3_1] 37 (0, 0)) (by (with_reducible repeat (first | refine blk_drewN ?_ _ | refine blk_drew ?_ | refine blk_alloc ?_ _)); exact BK134.out) hb); have n4_ := Aside0.mk (blk_below (g := gb140) (o := .cells #[.int .i64 t138, .int .i64 t139] 37 (0, 0)) (by (with_reducible repeat (first | refine blk_drewN ?_ _ | refine blk_drew ?_ | refine blk_alloc ?_ _)); exact BK140.out) hb); have n5_ := Aside0.mk (below_step (by repeat (first | (with_reducible first | exact HB.out | apply below_alloc | apply pw_below_drewN | apply below_drew1 | refine below_set ?_ GE131.out | refine below_set ?_ GE132.out | refine below_set ?_ GE133.out | refine below_set ?_ GE134.out | refine below_set ?_ GE140.out) | exact HB.out)) hb); have n6_ := Aside0.mk (hbox); have n7_ := Aside0.mk ((by rw [hg]; exact (below_size (by repeat (first | (with_reducible first | exact HB.out | apply below_alloc | apply pw_below_drewN | apply below_drew1 | refine below_set ?_ GE131.out | refine below_set ?_ GE132.out | refine below_set ?_ GE133.out | refine below_set ?_ GE134.out | refine below_set ?_ GE140.out) | exact HB.out))) : w.heap.size ≤ gb144)); have n8_ := Aside0.mk ((by rw [hg]; exact (below_size (by repeat (first | (with_reducible first | exact HB.out | apply below_alloc | apply pw_below_drewN | apply below_drew1 | refine below_set ?_ GE131.out | refine below_set ?_ GE132.out | refine below_set ?_ GE133.out | refine below_set ?_ GE134.out | refine below_set ?_ GE140.out) | exact HB.out))) : w.heap.size ≤ gb144)); have n9_ := Aside0.mk ((by rw [hg]; exact Nat.ne_of_lt (blk_lt (g := gb131) (o := .cells #[.int .i64 a0_0, .int .i64 a0_1, .int .i64 a0_2] 23 (0, 0)) (by (with_reducible repeat (first | refine blk_drewN ?_ _ | refine blk_drew ?_ | refine blk_alloc ?_ _)); exact BK131.out)) : gb131 ≠ gb144)); have n10_ := Aside0.mk ((by rw [hg]; exact Nat.ne_of_gt (blk_lt (g := gb131) (o := .cells #[.int .i64 a0_0, .int .i64 a0_1, .int .i64 a0_2] 23 (0, 0)) (by (with_reducible repeat (first | refine blk_drewN ?_ _ | refine blk_drew ?_ | refine blk_alloc ?_ _)); exact BK131.out)) : gb144 ≠ gb131)); have n11_ := Aside0.mk ((by rw [hg]; exact Nat.ne_of_lt (blk_lt (g := gb132) (o := .cells #[.int .i64 a1_0, .int .i64 a1_1] 25 (0, 0)) (by (with_reducible repeat (first | refine blk_drewN ?_ _ | refine blk_drew ?_ | refine blk_alloc ?_ _)); exact BK132.out)) : gb132 ≠ gb144)); have n12_ := Aside0.mk ((by rw [hg]; exact Nat.ne_of_gt (blk_lt (g := gb132) (o := .cells #[.int .i64 a1_0, .int .i64 a1_1] 25 (0, 0)) (by (with_reducible repeat (first | refine blk_drewN ?_ _ | refine blk_drew ?_ | refine blk_alloc ?_ _)); exact BK132.out)) : gb144 ≠ gb132)); have n13_ := Aside0.mk ((by rw [hg]; exact Nat.ne_of_lt (blk_lt (g := gb133) (o := .cells #[.int .i64 a2_0, .int .i64 a2_1] 25 (0, 0)) (by (with_reducible repeat (first | refine blk_drewN ?_ _ | refine blk_drew ?_ | refine blk_alloc ?_ _)); exact BK133.out)) : gb133 ≠ gb144)); have n14_ := Aside0.mk ((by rw [hg]; exact Nat.ne_of_gt (blk_lt (g := gb133) (o := .cells #[.int .i64 a2_0, .int .i64 a2_1] 25 (0, 0)) (by (with_reducible repeat (first | refine blk_drewN ?_ _ | refine blk_drew ?_ | refine blk_alloc ?_ _)); exact BK133.out)) : gb144 ≠ gb133)); have n15_ := Aside0.mk ((by rw [hg]; exact Nat.ne_of_lt (blk_lt (g := gb134) (o := .cells #[.int .i64 a3_0, .int .i64 a3_1] 37 (0, 0)) (by (with_reducible repeat (first | refine blk_drewN ?_ _ | refine blk_drew ?_ | refine blk_alloc ?_ _)); exact BK134.out)) : gb134 ≠ gb144)); have n16_ := Aside0.mk ((by rw [hg]; exact Nat.ne_of_gt (blk_lt (g := gb134) (o := .cells #[.int .i64 a3_0, .int .i64 a3_1] 37 (0, 0)) (by (with_reducible repeat (first | refine blk_drewN ?_ _ | refine blk_drew ?_ | refine blk_alloc ?_ _)); exact BK134.out)) : gb144 ≠ gb134)); have n17_ := Aside0.mk ((by rw [hg]; exact Nat.ne_of_lt (blk_lt (g := gb140) (o := .cells #[.int .i64 t138, .int .i64 t139] 37 (0, 0)) (by (with_reducible repeat (first | refine blk_drewN ?_ _ | refine blk_drew ?_ | refine blk_alloc ?_ _)); exact BK140.out)) : gb140 ≠ gb144)); have n18_ := Aside0.mk ((by rw [hg]; exact Nat.ne_of_gt (blk_lt (g := gb140) (o := .cells #[.int .i64 t138, .int .i64 t139] 37 (0, 0)) (by (with_reducible repeat (first | refine blk_drewN ?_ _ | refine blk_drew ?_ | refine blk_alloc ?_ _)); exact BK140.out)) : gb144 ≠ gb140)); clear BK131; clear BK132; clear BK133; clear BK134; clear BK140; clear HB; have BK131 := n0_; have BK132 := n1_; have BK133 := n2_; have BK134 := n3_; have BK140 := n4_; have HB := n5_; have BK144 := n6_; have GW144 := n7_; have GE144 := n8_; have NB131_144 := n9_; have NB144_131 := n10_; have NB132_144 := n11_; have NB144_132 := n12_; have NB133_144 := n13_; have NB144_133 := n14_; have NB134_144 := n15_; have NB144_134 := n16_; have NB140_144 := n17_; have NB144_140 := n18_; clear n0_ n1_ n2_ n3_ n4_ n5_ n6_ n7_ n8_ n9_ n10_ n11_ n12_ n13_ n14_ n15_ n16_ n17_ n18_; clear hb hbox hg; have hnb145 := NB144_131.out; have hnc145 := NB131_144.out; have hnb146 := NB144_132.out; have hnc146 := NB132_144.out; have hnb147 := NB144_133.out; have hnc147 := NB133_144.out; have hnb148 := NB144_134.out; have hnc148 := NB134_144.out; have hnb149 := NB144_140.out; have hnc149 := NB140_144.out; have hcz150_0 : w144.cell? ⟨gb144, 0, none⟩ = some (.int .i64 0) := (blk_cell BK144.out 0).trans rfl; have hcz150_1 : w144.cell? ⟨gb144, 1, none⟩ = some (.int .i64 0) := (blk_cell BK144.out 1).trans rfl; have hfz150_0 := blk_frozen BK144.out 0; have hfz150_1 := blk_frozen BK144.out 1))
                 (try simp only [Act.put, sA, sB, sC])
                 go_cut [29] (fun v29 wc => ∃ (kq : Nat) (x29_132 : Bool), v29 = .bool x29_132 ∧ Aside0 (x29_132 = againB a1_0 a1_1 a3_1 a8 a6) ∧ Aside0 (paternosterlaw14_GateTells.j7 kq a4 a5 x23_82 x25_85 x26_120 t143 x29_132 a0_0 a0_1 a0_2 a1_0 a1_1 a3_0 a3_1 t138 t139 t141 t142 = some r) ∧ Aside0 (kq ≤ kj120) ∧ Aside0 (wc.heap[gb131]? = some (.cells #[.int .i64 a0_0, .int .i64 a0_1, .int .i64 a0_2] 23 (0, 0))) ∧ Aside0 (wc.heap[gb132]? = some (.cells #[.int .i64 a1_0, .int .i64 a1_1] 25 (0, 0))) ∧ Aside0 (wc.heap[gb133]? = some (.cells #[.int .i64 a2_0, .int .i64 a2_1] 25 (0, 0))) ∧ Aside0 (wc.heap[gb134]? = some (.cells #[.int .i64 a3_0, .int .i64 a3_1] 37 (0, 0))) ∧ Aside0 (wc.heap[gb140]? = some (.cells #[.int .i64 t138, .int .i64 t139] 37 (0, 0))) ∧ Aside0 (wc.heap[gb144]? = some (.cells #[.int .i64 t141, .int .i64 t142] 37 (0, 0))) ∧ Aside0 (Below w.heap.size w wc))
                 case first => as_aux_lemma =>
                  have H := HC133.out
                  clear HC133
                  by_cases c151 : a6 = true
                  ·subst c151
                   have H1 : (if a1_0 > 0 then (if a1_0 < a1_1 then (paternosterlaw14_GateTells.j7 kj120 a4 a5 x23_82 x25_85 x26_120 t143 (decide (a3_1 < a8)) a0_0 a0_1 a0_2 a1_0 a1_1 a3_0 a3_1 t138 t139 t141 t142) else (paternosterlaw14_GateTells.j7 kj120 a4 a5 x23_82 x25_85 x26_120 t143 false a0_0 a0_1 a0_2 a1_0 a1_1 a3_0 a3_1 t138 t139 t141 t142)) else (paternosterlaw14_GateTells.j7 kj120 a4 a5 x23_82 x25_85 x26_120 t143 false a0_0 a0_1 a0_2 a1_0 a1_1 a3_0 a3_1 t138 t139 t141 t142)) = some r := by rw [if_pos rfl] at H; exact H
                   clear H
                   have H := H1
                   clear H1
                   by_cases c152 : a1_0 > 0
                   ·rw [if_pos c152] at H
                    have c152b0 : decide (0 < a1_0) = true := decide_eq_true c152
                    clear c152
                    (first | rw [c152b0] | (simp only [i64_w, i32_w]; rw [c152b0]) | skip)
                    by_cases c153 : a1_0 < a1_1
                    ·rw [if_pos c153] at H
                     have c153b0 : decide (a1_0 < a1_1) = true := decide_eq_true c153
                     clear c153
                     have H' := Aside0.mk H
                     clear H
                     have hnb154 := NB132_131.out
                     have hnc154 := NB131_132.out
                     have hnb155 := NB132_133.out
                     have hnc155 := NB133_132.out
                     have hnb156 := NB132_134.out
                     have hnc156 := NB134_132.out
                     have hnb157 := NB132_140.out
                     have hnc157 := NB140_132.out
                     have hnb158 := NB132_144.out
                     have hnc158 := NB144_132.out
                     have hcz159_0 : w144.cell? ⟨gb132, 0, none⟩ = some (.int .i64 a1_0) := (blk_cell BK132.out 0).trans rfl
                     have hcz159_1 : w144.cell? ⟨gb132, 1, none⟩ = some (.int .i64 a1_1) := (blk_cell BK132.out 1).trans rfl
                     have hfz159_0 := blk_frozen BK132.out 0
                     have hfz159_1 := blk_frozen BK132.out 1
                     have hnb160 := NB134_131.out
                     have hnc160 := NB131_134.out
                     have hnb161 := NB134_133.out
                     have hnc161 := NB133_134.out
                     have hnb162 := NB134_140.out
                     have hnc162 := NB140_134.out
                     have hnb163 := NB134_144.out
                     have hnc163 := NB144_134.out
                     have hcz164_0 : w144.cell? ⟨gb134, 0, none⟩ = some (.int .i64 a3_0) := (blk_cell BK134.out 0).trans rfl
                     have hcz164_1 : w144.cell? ⟨gb134, 1, none⟩ = some (.int .i64 a3_1) := (blk_cell BK134.out 1).trans rfl
                     have hfz164_0 := blk_frozen BK134.out 0
                     have hfz164_1 := blk_frozen BK134.out 1
                     go_wp2
                     go_meet
                     case rel => exact ⟨_, (decide (a3_1 < a8)), (by first | rfl | (simp; done) | (simp [*]; done)), ⟨by first | (simp [againB, c152b0, c153b0]; done) | (simp [againB, c152b0]; done) | (simp [againB]; done)⟩, H', ⟨by have := HJ13.out; have := HJ53.out; have := HJ73.out; have := HJ75.out; have := HJ82.out; have := HJ85.out; have := HJ120.out; first | omega | exact Nat.le_refl _⟩, ⟨by (with_reducible repeat (first | refine blk_drewN ?_ _ | refine blk_drew ?_ | refine blk_alloc ?_ _)); refine blk_far ?_ NB131_144.out _; (with_reducible repeat (first | refine blk_drewN ?_ _ | refine blk_drew ?_ | refine blk_alloc ?_ _)); refine blk_far ?_ NB131_144.out _; (with_reducible repeat (first | refine blk_drewN ?_ _ | refine blk_drew ?_ | refine blk_alloc ?_ _)); exact BK131.out⟩, ⟨by (with_reducible repeat (first | refine blk_drewN ?_ _ | refine blk_drew ?_ | refine blk_alloc ?_ _)); refine blk_far ?_ NB132_144.out _; (with_reducible repeat (first | refine blk_drewN ?_ _ | refine blk_drew ?_ | refine blk_alloc ?_ _)); refine blk_far ?_ NB132_144.out _; (with_reducible repeat (first | refine blk_drewN ?_ _ | refine blk_drew ?_ | refine blk_alloc ?_ _)); exact BK132.out⟩, ⟨by (with_reducible repeat (first | refine blk_drewN ?_ _ | refine blk_drew ?_ | refine blk_alloc ?_ _)); refine blk_far ?_ NB133_144.out _; (with_reducible repeat (first | refine blk_drewN ?_ _ | refine blk_drew ?_ | refine blk_alloc ?_ _)); refine blk_far ?_ NB133_144.out _; (with_reducible repeat (first | refine blk_drewN ?_ _ | refine blk_drew ?_ | refine blk_alloc ?_ _)); exact BK133.out⟩, ⟨by (with_reducible repeat (first | refine blk_drewN ?_ _ | refine blk_drew ?_ | refine blk_alloc ?_ _)); refine blk_far ?_ NB134_144.out _; (with_reducible repeat (first | refine blk_drewN ?_ _ | refine blk_drew ?_ | refine blk_alloc ?_ _)); refine blk_far ?_ NB134_144.out _; (with_reducible repeat (first | refine blk_drewN ?_ _ | refine blk_drew ?_ | refine blk_alloc ?_ _)); exact BK134.out⟩, ⟨by (with_reducible repeat (first | refine blk_drewN ?_ _ | refine blk_drew ?_ | refine blk_alloc ?_ _)); refine blk_far ?_ NB140_144.out _; (with_reducible repeat (first | refine blk_drewN ?_ _ | refine blk_drew ?_ | refine blk_alloc ?_ _)); refine blk_far ?_ NB140_144.out _; (with_reducible repeat (first | refine blk_drewN ?_ _ | refine blk_drew ?_ | refine blk_alloc ?_ _)); exact BK140.out⟩, ⟨by (with_reducible repeat (first | refine blk_drewN ?_ _ | refine blk_drew ?_ | refine blk_alloc ?_ _)); refine blk_put (cs := #[.int .i64 t141, .int .i64 0]) ?_ 1 _ rfl; (with_reducible repeat (first | refine blk_drewN ?_ _ | refine blk_drew ?_ | refine blk_alloc ?_ _)); refine blk_put (cs := #[.int .i64 0, .int .i64 0]) ?_ 0 _ rfl; (with_reducible repeat (first | refine blk_drewN ?_ _ | refine blk_drew ?_ | refine blk_alloc ?_ _)); exact BK144.out⟩, ⟨by repeat (first | (with_reducible first | exact HB.out | apply below_alloc | apply pw_below_drewN | apply below_drew1 | refine below_set ?_ GE131.out | refine below_set ?_ GE132.out | refine below_set ?_ GE133.out | refine below_set ?_ GE134.out | refine below_set ?_ GE140.out | refine below_set ?_ GE144.out) | exact HB.out)⟩⟩
                    ·rw [if_neg c153] at H
                     have c153b0 : decide (a1_0 < a1_1) = false := decide_eq_false c153
                     clear c153
                     have H' := Aside0.mk H
                     clear H
                     have hnb165 := NB132_131.out
                     have hnc165 := NB131_132.out
                     have hnb166 := NB132_133.out
                     have hnc166 := NB133_132.out
                     have hnb167 := NB132_134.out
                     have hnc167 := NB134_132.out
                     have hnb168 := NB132_140.out
                     have hnc168 := NB140_132.out
                     have hnb169 := NB132_144.out
                     have hnc169 := NB144_132.out
                     have hcz170_0 : w144.cell? ⟨gb132, 0, none⟩ = some (.int .i64 a1_0) := (blk_cell BK132.out 0).trans rfl
                     have hcz170_1 : w144.cell? ⟨gb132, 1, none⟩ = some (.int .i64 a1_1) := (blk_cell BK132.out 1).trans rfl
                     have hfz170_0 := blk_frozen BK132.out 0
                     have hfz170_1 := blk_frozen BK132.out 1
                     go_wp2
                     go_meet
                     case rel => exact ⟨_, (false), (by first | rfl | (simp; done) | (simp [*]; done)), ⟨by first | (simp [againB, c152b0, c153b0]; done) | (simp [againB, c152b0]; done) | (simp [againB]; done)⟩, H', ⟨by have := HJ13.out; have := HJ53.out; have := HJ73.out; have := HJ75.out; have := HJ82.out; have := HJ85.out; have := HJ120.out; first | omega | exact Nat.le_refl _⟩, ⟨by (with_reducible repeat (first | refine blk_drewN ?_ _ | refine blk_drew ?_ | refine blk_alloc ?_ _)); refine blk_far ?_ NB131_144.out _; (with_reducible repeat (first | refine blk_drewN ?_ _ | refine blk_drew ?_ | refine blk_alloc ?_ _)); refine blk_far ?_ NB131_144.out _; (with_reducible repeat (first | refine blk_drewN ?_ _ | refine blk_drew ?_ | refine blk_alloc ?_ _)); exact BK131.out⟩, ⟨by (with_reducible repeat (first | refine blk_drewN ?_ _ | refine blk_drew ?_ | refine blk_alloc ?_ _)); refine blk_far ?_ NB132_144.out _; (with_reducible repeat (first | refine blk_drewN ?_ _ | refine blk_drew ?_ | refine blk_alloc ?_ _)); refine blk_far ?_ NB132_144.out _; (with_reducible repeat (first | refine blk_drewN ?_ _ | refine blk_drew ?_ | refine blk_alloc ?_ _)); exact BK132.out⟩, ⟨by (with_reducible repeat (first | refine blk_drewN ?_ _ | refine blk_drew ?_ | refine blk_alloc ?_ _)); refine blk_far ?_ NB133_144.out _; (with_reducible repeat (first | refine blk_drewN ?_ _ | refine blk_drew ?_ | refine blk_alloc ?_ _)); refine blk_far ?_ NB133_144.out _; (with_reducible repeat (first | refine blk_drewN ?_ _ | refine blk_drew ?_ | refine blk_alloc ?_ _)); exact BK133.out⟩, ⟨by (with_reducible repeat (first | refine blk_drewN ?_ _ | refine blk_drew ?_ | refine blk_alloc ?_ _)); refine blk_far ?_ NB134_144.out _; (with_reducible repeat (first | refine blk_drewN ?_ _ | refine blk_drew ?_ | refine blk_alloc ?_ _)); refine blk_far ?_ NB134_144.out _; (with_reducible repeat (first | refine blk_drewN ?_ _ | refine blk_drew ?_ | refine blk_alloc ?_ _)); exact BK134.out⟩, ⟨by (with_reducible repeat (first | refine blk_drewN ?_ _ | refine blk_drew ?_ | refine blk_alloc ?_ _)); refine blk_far ?_ NB140_144.out _; (with_reducible repeat (first | refine blk_drewN ?_ _ | refine blk_drew ?_ | refine blk_alloc ?_ _)); refine blk_far ?_ NB140_144.out _; (with_reducible repeat (first | refine blk_drewN ?_ _ | refine blk_drew ?_ | refine blk_alloc ?_ _)); exact BK140.out⟩, ⟨by (with_reducible repeat (first | refine blk_drewN ?_ _ | refine blk_drew ?_ | refine blk_alloc ?_ _)); refine blk_put (cs := #[.int .i64 t141, .int .i64 0]) ?_ 1 _ rfl; (with_reducible repeat (first | refine blk_drewN ?_ _ | refine blk_drew ?_ | refine blk_alloc ?_ _)); refine blk_put (cs := #[.int .i64 0, .int .i64 0]) ?_ 0 _ rfl; (with_reducible repeat (first | refine blk_drewN ?_ _ | refine blk_drew ?_ | refine blk_alloc ?_ _)); exact BK144.out⟩, ⟨by repeat (first | (with_reducible first | exact HB.out | apply below_alloc | apply pw_below_drewN | apply below_drew1 | refine below_set ?_ GE131.out | refine below_set ?_ GE132.out | refine below_set ?_ GE133.out | refine below_set ?_ GE134.out | refine below_set ?_ GE140.out | refine below_set ?_ GE144.out) | exact HB.out)⟩⟩
                   ·rw [if_neg c152] at H
                    have c152b0 : decide (0 < a1_0) = false := decide_eq_false c152
                    clear c152
                    (first | rw [c152b0] | (simp only [i64_w, i32_w]; rw [c152b0]) | skip)
                    have H' := Aside0.mk H
                    clear H
                    have hnb171 := NB132_131.out
                    have hnc171 := NB131_132.out
                    have hnb172 := NB132_133.out
                    have hnc172 := NB133_132.out
                    have hnb173 := NB132_134.out
                    have hnc173 := NB134_132.out
                    have hnb174 := NB132_140.out
                    have hnc174 := NB140_132.out
                    have hnb175 := NB132_144.out
                    have hnc175 := NB144_132.out
                    have hcz176_0 : w144.cell? ⟨gb132, 0, none⟩ = some (.int .i64 a1_0) := (blk_cell BK132.out 0).trans rfl
                    have hcz176_1 : w144.cell? ⟨gb132, 1, none⟩ = some (.int .i64 a1_1) := (blk_cell BK132.out 1).trans rfl
                    have hfz176_0 := blk_frozen BK132.out 0
                    have hfz176_1 := blk_frozen BK132.out 1
                    go_wp2
                    go_meet
                    case rel => exact ⟨_, (false), (by first | rfl | (simp; done) | (simp [*]; done)), ⟨by first | (simp [againB, c152b0, c153b0]; done) | (simp [againB, c152b0]; done) | (simp [againB]; done)⟩, H', ⟨by have := HJ13.out; have := HJ53.out; have := HJ73.out; have := HJ75.out; have := HJ82.out; have := HJ85.out; have := HJ120.out; first | omega | exact Nat.le_refl _⟩, ⟨by (with_reducible repeat (first | refine blk_drewN ?_ _ | refine blk_drew ?_ | refine blk_alloc ?_ _)); refine blk_far ?_ NB131_144.out _; (with_reducible repeat (first | refine blk_drewN ?_ _ | refine blk_drew ?_ | refine blk_alloc ?_ _)); refine blk_far ?_ NB131_144.out _; (with_reducible repeat (first | refine blk_drewN ?_ _ | refine blk_drew ?_ | refine blk_alloc ?_ _)); exact BK131.out⟩, ⟨by (with_reducible repeat (first | refine blk_drewN ?_ _ | refine blk_drew ?_ | refine blk_alloc ?_ _)); refine blk_far ?_ NB132_144.out _; (with_reducible repeat (first | refine blk_drewN ?_ _ | refine blk_drew ?_ | refine blk_alloc ?_ _)); refine blk_far ?_ NB132_144.out _; (with_reducible repeat (first | refine blk_drewN ?_ _ | refine blk_drew ?_ | refine blk_alloc ?_ _)); exact BK132.out⟩, ⟨by (with_reducible repeat (first | refine blk_drewN ?_ _ | refine blk_drew ?_ | refine blk_alloc ?_ _)); refine blk_far ?_ NB133_144.out _; (with_reducible repeat (first | refine blk_drewN ?_ _ | refine blk_drew ?_ | refine blk_alloc ?_ _)); refine blk_far ?_ NB133_144.out _; (with_reducible repeat (first | refine blk_drewN ?_ _ | refine blk_drew ?_ | refine blk_alloc ?_ _)); exact BK133.out⟩, ⟨by (with_reducible repeat (first | refine blk_drewN ?_ _ | refine blk_drew ?_ | refine blk_alloc ?_ _)); refine blk_far ?_ NB134_144.out _; (with_reducible repeat (first | refine blk_drewN ?_ _ | refine blk_drew ?_ | refine blk_alloc ?_ _)); refine blk_far ?_ NB134_144.out _; (with_reducible repeat (first | refine blk_drewN ?_ _ | refine blk_drew ?_ | refine blk_alloc ?_ _)); exact BK134.out⟩, ⟨by (with_reducible repeat (first | refine blk_drewN ?_ _ | refine blk_drew ?_ | refine blk_alloc ?_ _)); refine blk_far ?_ NB140_144.out _; (with_reducible repeat (first | refine blk_drewN ?_ _ | refine blk_drew ?_ | refine blk_alloc ?_ _)); refine blk_far ?_ NB140_144.out _; (with_reducible repeat (first | refine blk_drewN ?_ _ | refine blk_drew ?_ | refine blk_alloc ?_ _)); exact BK140.out⟩, ⟨by (with_reducible repeat (first | refine blk_drewN ?_ _ | refine blk_drew ?_ | refine blk_alloc ?_ _)); refine blk_put (cs := #[.int .i64 t141, .int .i64 0]) ?_ 1 _ rfl; (with_reducible repeat (first | refine blk_drewN ?_ _ | refine blk_drew ?_ | refine blk_alloc ?_ _)); refine blk_put (cs := #[.int .i64 0, .int .i64 0]) ?_ 0 _ rfl; (with_reducible repeat (first | refine blk_drewN ?_ _ | refine blk_drew ?_ | refine blk_alloc ?_ _)); exact BK144.out⟩, ⟨by repeat (first | (with_reducible first | exact HB.out | apply below_alloc | apply pw_below_drewN | apply below_drew1 | refine below_set ?_ GE131.out | refine below_set ?_ GE132.out | refine below_set ?_ GE133.out | refine below_set ?_ GE134.out | refine below_set ?_ GE140.out | refine below_set ?_ GE144.out) | exact HB.out)⟩⟩
                  ·replace c151 := Bool.eq_false_iff.mpr c151
                   subst c151
                   have H1 : (paternosterlaw14_GateTells.j7 kj120 a4 a5 x23_82 x25_85 x26_120 t143 false a0_0 a0_1 a0_2 a1_0 a1_1 a3_0 a3_1 t138 t139 t141 t142) = some r := by rw [if_neg (show ¬ (false = true) by decide)] at H; exact H
                   clear H
                   have H := H1
                   clear H1
                   have H' := Aside0.mk H
                   clear H
                   go_wp2
                   go_meet
                   case rel => exact ⟨_, (false), (by first | rfl | (simp; done) | (simp [*]; done)), ⟨by first | (simp [againB, c152b0, c153b0]; done) | (simp [againB, c152b0]; done) | (simp [againB]; done)⟩, H', ⟨by have := HJ13.out; have := HJ53.out; have := HJ73.out; have := HJ75.out; have := HJ82.out; have := HJ85.out; have := HJ120.out; first | omega | exact Nat.le_refl _⟩, ⟨by (with_reducible repeat (first | refine blk_drewN ?_ _ | refine blk_drew ?_ | refine blk_alloc ?_ _)); refine blk_far ?_ NB131_144.out _; (with_reducible repeat (first | refine blk_drewN ?_ _ | refine blk_drew ?_ | refine blk_alloc ?_ _)); refine blk_far ?_ NB131_144.out _; (with_reducible repeat (first | refine blk_drewN ?_ _ | refine blk_drew ?_ | refine blk_alloc ?_ _)); exact BK131.out⟩, ⟨by (with_reducible repeat (first | refine blk_drewN ?_ _ | refine blk_drew ?_ | refine blk_alloc ?_ _)); refine blk_far ?_ NB132_144.out _; (with_reducible repeat (first | refine blk_drewN ?_ _ | refine blk_drew ?_ | refine blk_alloc ?_ _)); refine blk_far ?_ NB132_144.out _; (with_reducible repeat (first | refine blk_drewN ?_ _ | refine blk_drew ?_ | refine blk_alloc ?_ _)); exact BK132.out⟩, ⟨by (with_reducible repeat (first | refine blk_drewN ?_ _ | refine blk_drew ?_ | refine blk_alloc ?_ _)); refine blk_far ?_ NB133_144.out _; (with_reducible repeat (first | refine blk_drewN ?_ _ | refine blk_drew ?_ | refine blk_alloc ?_ _)); refine blk_far ?_ NB133_144.out _; (with_reducible repeat (first | refine blk_drewN ?_ _ | refine blk_drew ?_ | refine blk_alloc ?_ _)); exact BK133.out⟩, ⟨by (with_reducible repeat (first | refine blk_drewN ?_ _ | refine blk_drew ?_ | refine blk_alloc ?_ _)); refine blk_far ?_ NB134_144.out _; (with_reducible repeat (first | refine blk_drewN ?_ _ | refine blk_drew ?_ | refine blk_alloc ?_ _)); refine blk_far ?_ NB134_144.out _; (with_reducible repeat (first | refine blk_drewN ?_ _ | refine blk_drew ?_ | refine blk_alloc ?_ _)); exact BK134.out⟩, ⟨by (with_reducible repeat (first | refine blk_drewN ?_ _ | refine blk_drew ?_ | refine blk_alloc ?_ _)); refine blk_far ?_ NB140_144.out _; (with_reducible repeat (first | refine blk_drewN ?_ _ | refine blk_drew ?_ | refine blk_alloc ?_ _)); refine blk_far ?_ NB140_144.out _; (with_reducible repeat (first | refine blk_drewN ?_ _ | refine blk_drew ?_ | refine blk_alloc ?_ _)); exact BK140.out⟩, ⟨by (with_reducible repeat (first | refine blk_drewN ?_ _ | refine blk_drew ?_ | refine blk_alloc ?_ _)); refine blk_put (cs := #[.int .i64 t141, .int .i64 0]) ?_ 1 _ rfl; (with_reducible repeat (first | refine blk_drewN ?_ _ | refine blk_drew ?_ | refine blk_alloc ?_ _)); refine blk_put (cs := #[.int .i64 0, .int .i64 0]) ?_ 0 _ rfl; (with_reducible repeat (first | refine blk_drewN ?_ _ | refine blk_drew ?_ | refine blk_alloc ?_ _)); exact BK144.out⟩, ⟨by repeat (first | (with_reducible first | exact HB.out | apply below_alloc | apply pw_below_drewN | apply below_drew1 | refine below_set ?_ GE131.out | refine below_set ?_ GE132.out | refine below_set ?_ GE133.out | refine below_set ?_ GE134.out | refine below_set ?_ GE140.out | refine below_set ?_ GE144.out) | exact HB.out)⟩⟩
                 case rest => as_aux_lemma =>
                  clear HC133
                  try clear c1
                  try clear c2
                  try clear p2
                  try clear c3
                  try clear c4
                  try clear c5
                  try clear c6
                  try clear p6
                  try clear c7
                  try clear c8
                  try clear c9
                  try clear c10
                  try clear c11
                  try clear c12
                  try clear c13
                  try clear c14
                  try clear c15
                  try clear c16
                  try clear c17
                  try clear c18
                  try clear c19
                  try clear c20
                  try clear c21
                  try clear c22
                  try clear c23
                  try clear c24
                  try clear c25
                  try clear c29
                  try clear c32
                  try clear c33
                  try clear c34
                  try clear c34b0
                  try clear c35
                  try clear c36
                  try clear c37
                  try clear c39
                  try clear c39b0
                  try clear c40
                  try clear c41
                  try clear c42
                  try clear c44
                  try clear c44b0
                  try clear c45
                  try clear c46
                  try clear c47
                  try clear c49
                  try clear c50
                  try clear c51
                  try clear c53
                  try clear c55
                  try clear c56
                  try clear c57
                  try clear c57b0
                  try clear c57b1
                  try clear c58
                  try clear c58b0
                  try clear c58b1
                  try clear c59
                  try clear c60
                  try clear c61
                  try clear c63
                  try clear c64
                  try clear p64
                  try clear c66
                  try clear c67
                  try clear c68
                  try clear c70
                  try clear c71
                  try clear c72
                  try clear c75
                  try clear c77
                  try clear c78
                  try clear c79
                  try clear c80
                  try clear c81
                  try clear c84
                  try clear c87
                  try clear c88
                  try clear c89
                  try clear c91
                  try clear c92
                  try clear c94
                  try clear c98
                  try clear c99
                  try clear c100
                  try clear c101
                  try clear c104
                  try clear c104b0
                  try clear c104b1
                  try clear c105
                  try clear c105b0
                  try clear c105b1
                  try clear c107
                  try clear c108
                  try clear c109
                  try clear c110
                  try clear c112
                  try clear c113
                  try clear c114
                  try clear c116
                  try clear c117
                  try clear c118
                  try clear c119
                  try clear c122
                  try clear c123
                  try clear c124
                  try clear c125
                  try clear c127
                  try clear c128
                  try clear c129
                  try clear c131
                  try clear c131b0
                  try clear c131b1
                  try clear c134
                  try clear c135
                  try clear c136
                  try clear c137
                  try clear c139
                  try clear c140
                  try clear c141
                  try clear c145
                  try clear c146
                  try clear c147
                  try clear c148
                  try clear c149
                  try clear c151
                  try clear c152
                  try clear c152b0
                  try clear c153
                  try clear c153b0
                  try clear c154
                  try clear c155
                  try clear c156
                  try clear c157
                  try clear c158
                  try clear c160
                  try clear c161
                  try clear c162
                  try clear c163
                  try clear c165
                  try clear c166
                  try clear c167
                  try clear c168
                  try clear c169
                  try clear c171
                  try clear c172
                  try clear c173
                  try clear c174
                  try clear c175
                  try clear hcz102_0
                  try clear hcz102_1
                  try clear hcz103_0
                  try clear hcz103_1
                  try clear hcz111_0
                  try clear hcz111_1
                  try clear hcz115_0
                  try clear hcz115_1
                  try clear hcz120_0
                  try clear hcz120_1
                  try clear hcz126_0
                  try clear hcz126_1
                  try clear hcz130_0
                  try clear hcz130_1
                  try clear hcz138_0
                  try clear hcz138_1
                  try clear hcz142_0
                  try clear hcz142_1
                  try clear hcz150_0
                  try clear hcz150_1
                  try clear hcz159_0
                  try clear hcz159_1
                  try clear hcz164_0
                  try clear hcz164_1
                  try clear hcz170_0
                  try clear hcz170_1
                  try clear hcz176_0
                  try clear hcz176_1
                  try clear hcz23_0
                  try clear hcz23_1
                  try clear hcz23_2
                  try clear hcz26_0
                  try clear hcz26_1
                  try clear hcz28_0
                  try clear hcz28_1
                  try clear hcz28_2
                  try clear hcz30_0
                  try clear hcz30_1
                  try clear hcz38_0
                  try clear hcz38_1
                  try clear hcz43_0
                  try clear hcz43_1
                  try clear hcz48_0
                  try clear hcz48_1
                  try clear hcz52_0
                  try clear hcz52_1
                  try clear hcz62_0
                  try clear hcz62_1
                  try clear hcz62_2
                  try clear hcz65_0
                  try clear hcz65_1
                  try clear hcz69_0
                  try clear hcz69_1
                  try clear hcz69_2
                  try clear hcz73_0
                  try clear hcz73_1
                  try clear hcz73_2
                  try clear hcz82_0
                  try clear hcz82_1
                  try clear hcz90_0
                  try clear hcz90_1
                  try clear hcz93_0
                  try clear hcz93_1
                  try clear hcz95_0
                  try clear hcz95_1
                  try clear hfz102_0
                  try clear hfz102_1
                  try clear hfz103_0
                  try clear hfz103_1
                  try clear hfz111_0
                  try clear hfz111_1
                  try clear hfz115_0
                  try clear hfz115_1
                  try clear hfz120_0
                  try clear hfz120_1
                  try clear hfz126_0
                  try clear hfz126_1
                  try clear hfz130_0
                  try clear hfz130_1
                  try clear hfz138_0
                  try clear hfz138_1
                  try clear hfz142_0
                  try clear hfz142_1
                  try clear hfz150_0
                  try clear hfz150_1
                  try clear hfz159_0
                  try clear hfz159_1
                  try clear hfz164_0
                  try clear hfz164_1
                  try clear hfz170_0
                  try clear hfz170_1
                  try clear hfz176_0
                  try clear hfz176_1
                  try clear hfz23_0
                  try clear hfz23_1
                  try clear hfz23_2
                  try clear hfz26_0
                  try clear hfz26_1
                  try clear hfz28_0
                  try clear hfz28_1
                  try clear hfz28_2
                  try clear hfz30_0
                  try clear hfz30_1
                  try clear hfz38_0
                  try clear hfz38_1
                  try clear hfz43_0
                  try clear hfz43_1
                  try clear hfz48_0
                  try clear hfz48_1
                  try clear hfz52_0
                  try clear hfz52_1
                  try clear hfz62_0
                  try clear hfz62_1
                  try clear hfz62_2
                  try clear hfz65_0
                  try clear hfz65_1
                  try clear hfz69_0
                  try clear hfz69_1
                  try clear hfz69_2
                  try clear hfz73_0
                  try clear hfz73_1
                  try clear hfz73_2
                  try clear hfz82_0
                  try clear hfz82_1
                  try clear hfz90_0
                  try clear hfz90_1
                  try clear hfz93_0
                  try clear hfz93_1
                  try clear hfz95_0
                  try clear hfz95_1
                  try clear p2
                  try clear p6
                  try clear p64
                  obtain ⟨kq, x29_132, rfl, HG, HA, HJ132, BK131, BK132, BK133, BK134, BK140, BK144, HB⟩ := hcut
                  cases kq with
                  | zero => exact absurd HA.out (by simp [paternosterlaw14_GateTells.j7])
                  | succ kj132 =>
                   have H := HA.out
                   clear HA
                   simp only [paternosterlaw14_GateTells.j7] at H
                   by_cases c177 : x29_132 = true
                   ·exact absurd (c177.symm.trans (HG.out.trans HAG.out)) (by decide)
                   ·replace c177 := Bool.eq_false_iff.mpr c177
                    subst c177
                    have H1 : ((gate_What.f a0_0 a0_1 a0_2 a1_0 a1_1 a4 a5).bind fun t148 => (if t148 = x23_82 then (if (t138 == x25_85 && (t139 == x26_120)) = true then (if (t143 == false) = true then (if (t141 == a3_0 && (t142 == a3_1)) = true then ((gate_Gate_Ready.f a3_0 a3_1 a1_0 a1_1).bind fun t149 => (if a1_0 < a1_1 then (some (t149 == true)) else (some (t149 == (a3_0 == 0))))) else (some false)) else (some false)) else (some false)) else (some false))) = some r := by rw [if_neg (show ¬ (false = true) by decide)] at H; exact H
                    clear H
                    have H := H1
                    clear H1
                    replace H := Option.bind_eq_some_iff.mp H
                    obtain ⟨t148, A2210, H⟩ := H
                    replace H : (if t148 = x23_82 then (if (t138 == x25_85 && (t139 == x26_120)) = true then (if (t143 == false) = true then (if (t141 == a3_0 && (t142 == a3_1)) = true then ((gate_Gate_Ready.f a3_0 a3_1 a1_0 a1_1).bind fun t149 => (if a1_0 < a1_1 then (some (t149 == true)) else (some (t149 == (a3_0 == 0))))) else (some false)) else (some false)) else (some false)) else (some false)) = some r := H
                    have A221 := Aside0.mk A2210
                    clear A2210
                    by_cases c222 : t148 = x23_82
                    ·rw [if_pos c222] at H
                     have c222b0 : (t148 == x23_82) = true := beq_iff_eq.mpr c222
                     have c222b1 : (t148 != x23_82) = false := bne_eq_false_iff_eq.mpr c222
                     clear c222
                     by_cases c223 : (t138 == x25_85 && (t139 == x26_120)) = true
                     ·rw [if_pos c223] at H
                      have c223b0 : (t138 == x25_85 && (t139 == x26_120)) = true := c223
                      (try (have c223b1 : decide (t138 = x25_85 && (t139 == x26_120)) = true := by simpa using c223))
                      (try (have c223b2 : (t138 == x25_85 && (t139 == x26_120)) = true := by simpa using c223))
                      clear c223
                      by_cases c224 : (t143 == false) = true
                      ·rw [if_pos c224] at H
                       have c224b0 : (t143 == false) = true := c224
                       (try (have c224b1 : decide (t143 = false) = true := by simpa using c224))
                       (try (have c224b2 : (t143 == false) = true := by simpa using c224))
                       clear c224
                       by_cases c225 : (t141 == a3_0 && (t142 == a3_1)) = true
                       ·rw [if_pos c225] at H
                        have c225b0 : (t141 == a3_0 && (t142 == a3_1)) = true := c225
                        (try (have c225b1 : decide (t141 = a3_0 && (t142 == a3_1)) = true := by simpa using c225))
                        (try (have c225b2 : (t141 == a3_0 && (t142 == a3_1)) = true := by simpa using c225))
                        clear c225
                        replace H := Option.bind_eq_some_iff.mp H
                        obtain ⟨t149, A2260, H⟩ := H
                        replace H : (if a1_0 < a1_1 then (some (t149 == true)) else (some (t149 == (a3_0 == 0)))) = some r := H
                        have A226 := Aside0.mk A2260
                        clear A2260
                        by_cases c227 : a1_0 < a1_1
                        ·rw [if_pos c227] at H
                         have c227b0 : decide (a1_0 < a1_1) = true := decide_eq_true c227
                         clear c227
                         obtain rfl := Option.some.inj H
                         have hnb228 := NB134_131.out
                         have hnc228 := NB131_134.out
                         have hnb229 := NB134_132.out
                         have hnc229 := NB132_134.out
                         have hnb230 := NB134_133.out
                         have hnc230 := NB133_134.out
                         have hnb231 := NB134_140.out
                         have hnc231 := NB140_134.out
                         have hnb232 := NB134_144.out
                         have hnc232 := NB144_134.out
                         have hcz233_0 : wc.cell? ⟨gb134, 0, none⟩ = some (.int .i64 a3_0) := (blk_cell BK134.out 0).trans rfl
                         have hcz233_1 : wc.cell? ⟨gb134, 1, none⟩ = some (.int .i64 a3_1) := (blk_cell BK134.out 1).trans rfl
                         have hfz233_0 := blk_frozen BK134.out 0
                         have hfz233_1 := blk_frozen BK134.out 1
                         try go_wp2_with (first | ((with_reducible refine gate_dst (N := 30) rfl ?_); refine box_event ?hg (N := 30) ?hd (cs := #[.int .i64 0, .int .i64 0]) (t := 37) ?hr ?_; (case hd => rfl); (case hg => rfl); (case hr => first | (go_simp; done) | (go_simp; rfl)); intro gb145 hg w234 hbox hb; have n0_ := Aside0.mk (blk_below (g := gb131) (o := .cells #[.int .i64 a0_0, .int .i64 a0_1, .int .i64 a0_2] 23 (0, 0)) (by (with_reducible repeat (first | refine blk_drewN ?_ _ | refine blk_drew ?_ | refine blk_alloc ?_ _)); exact BK131.out) hb); have n1_ := Aside0.mk (blk_below (g := gb132) (o := .cells #[.int .i64 a1_0, .int .i64 a1_1] 25 (0, 0)) (by (with_reducible repeat (first | refine blk_drewN ?_ _ | refine blk_drew ?_ | refine blk_alloc ?_ _)); exact BK132.out) hb); have n2_ := Aside0.mk (blk_below (g := gb133) (o := .cells #[.int .i64 a2_0, .int .i64 a2_1] 25 (0, 0)) (by (with_reducible repeat (first | refine blk_drewN ?_ _ | refine blk_drew ?_ | refine blk_alloc ?_ _)); exact BK133.out) hb); have n3_ := Aside0.mk (blk_below (g := gb134) (o := .cells #[.int .i64 a3_0, .int .i64 a3_1] 37 (0, 0)) (by (with_reducible repeat (first | refine blk_drewN ?_ _ | refine blk_drew ?_ | refine blk_alloc ?_ _)); exact BK134.out) hb); have n4_ := Aside0.mk (blk_below (g := gb140) (o := .cells #[.int .i64 t138, .int .i64 t139] 37 (0, 0)) (by (with_reducible repeat (first | refine blk_drewN ?_ _ | refine blk_drew ?_ | refine blk_alloc ?_ _)); exact BK140.out) hb); have n5_ := Aside0.mk (blk_below (g := gb144) (o := .cells #[.int .i64 t141, .int .i64 t142] 37 (0, 0)) (by (with_reducible repeat (first | refine blk_drewN ?_ _ | refine blk_drew ?_ | refine blk_alloc ?_ _)); exact BK144.out) hb); have n6_ := Aside0.mk (below_step (by repeat (first | (with_reducible first | exact HB.out | apply below_alloc | apply pw_below_drewN | apply below_drew1 | refine below_set ?_ GE131.out | refine below_set ?_ GE132.out | refine below_set ?_ GE133.out | refine below_set ?_ GE134.out | refine below_set ?_ GE140.out | refine below_set ?_ GE144.out) | exact HB.out)) hb); have n7_ := Aside0.mk (hbox); have n8_ := Aside0.mk ((by rw [hg]; exact (below_size (by repeat (first | (with_reducible first | exact HB.out | apply below_alloc | apply pw_below_drewN | apply below_drew1 | refine below_set ?_ GE131.out | refine below_set ?_ GE132.out | refine below_set ?_ GE133.out | refine below_set ?_ GE134.out | refine below_set ?_ GE140.out | refine below_set ?_ GE144.out) | exact HB.out))) : w.heap.size ≤ gb145)); have n9_ := Aside0.mk ((by rw [hg]; exact (below_size (by repeat (first | (with_reducible first | exact HB.out | apply below_alloc | apply pw_below_drewN | apply below_drew1 | refine below_set ?_ GE131.out | refine below_set ?_ GE132.out | refine below_set ?_ GE133.out | refine below_set ?_ GE134.out | refine below_set ?_ GE140.out | refine below_set ?_ GE144.out) | exact HB.out))) : w.heap.size ≤ gb145)); have n10_ := Aside0.mk ((by rw [hg]; exact Nat.ne_of_lt (blk_lt (g := gb131) (o := .cells #[.int .i64 a0_0, .int .i64 a0_1, .int .i64 a0_2] 23 (0, 0)) (by (with_reducible repeat (first | refine blk_drewN ?_ _ | refine blk_drew ?_ | refine blk_alloc ?_ _)); exact BK131.out)) : gb131 ≠ gb145)); have n11_ := Aside0.mk ((by rw [hg]; exact Nat.ne_of_gt (blk_lt (g := gb131) (o := .cells #[.int .i64 a0_0, .int .i64 a0_1, .int .i64 a0_2] 23 (0, 0)) (by (with_reducible repeat (first | refine blk_drewN ?_ _ | refine blk_drew ?_ | refine blk_alloc ?_ _)); exact BK131.out)) : gb145 ≠ gb131)); have n12_ := Aside0.mk ((by rw [hg]; exact Nat.ne_of_lt (blk_lt (g := gb132) (o := .cells #[.int .i64 a1_0, .int .i64 a1_1] 25 (0, 0)) (by (with_reducible repeat (first | refine blk_drewN ?_ _ | refine blk_drew ?_ | refine blk_alloc ?_ _)); exact BK132.out)) : gb132 ≠ gb145)); have n13_ := Aside0.mk ((by rw [hg]; exact Nat.ne_of_gt (blk_lt (g := gb132) (o := .cells #[.int .i64 a1_0, .int .i64 a1_1] 25 (0, 0)) (by (with_reducible repeat (first | refine blk_drewN ?_ _ | refine blk_drew ?_ | refine blk_alloc ?_ _)); exact BK132.out)) : gb145 ≠ gb132)); have n14_ := Aside0.mk ((by rw [hg]; exact Nat.ne_of_lt (blk_lt (g := gb133) (o := .cells #[.int .i64 a2_0, .int .i64 a2_1] 25 (0, 0)) (by (with_reducible repeat (first | refine blk_drewN ?_ _ | refine blk_drew ?_ | refine blk_alloc ?_ _)); exact BK133.out)) : gb133 ≠ gb145)); have n15_ := Aside0.mk ((by rw [hg]; exact Nat.ne_of_gt (blk_lt (g := gb133) (o := .cells #[.int .i64 a2_0, .int .i64 a2_1] 25 (0, 0)) (by (with_reducible repeat (first | refine blk_drewN ?_ _ | refine blk_drew ?_ | refine blk_alloc ?_ _)); exact BK133.out)) : gb145 ≠ gb133)); have n16_ := Aside0.mk ((by rw [hg]; exact Nat.ne_of_lt (blk_lt (g := gb134) (o := .cells #[.int .i64 a3_0, .int .i64 a3_1] 37 (0, 0)) (by (with_reducible repeat (first | refine blk_drewN ?_ _ | refine blk_drew ?_ | refine blk_alloc ?_ _)); exact BK134.out)) : gb134 ≠ gb145)); have n17_ := Aside0.mk ((by rw [hg]; exact Nat.ne_of_gt (blk_lt (g := gb134) (o := .cells #[.int .i64 a3_0, .int .i64 a3_1] 37 (0, 0)) (by (with_reducible repeat (first | refine blk_drewN ?_ _ | refine blk_drew ?_ | refine blk_alloc ?_ _)); exact BK134.out)) : gb145 ≠ gb134)); have n18_ := Aside0.mk ((by rw [hg]; exact Nat.ne_of_lt (blk_lt (g := gb140) (o := .cells #[.int .i64 t138, .int .i64 t139] 37 (0, 0)) (by (with_reducible repeat (first | refine blk_drewN ?_ _ | refine blk_drew ?_ | refine blk_alloc ?_ _)); exact BK140.out)) : gb140 ≠ gb145)); have n19_ := Aside0.mk ((by rw [hg]; exact Nat.ne_of_gt (blk_lt (g := gb140) (o := .cells #[.int .i64 t138, .int .i64 t139] 37 (0, 0)) (by (with_reducible repeat (first | refine blk_drewN ?_ _ | refine blk_drew ?_ | refine blk_alloc ?_ _)); exact BK140.out)) : gb145 ≠ gb140)); have n20_ := Aside0.mk ((by rw [hg]; exact Nat.ne_of_lt (blk_lt (g := gb144) (o := .cells #[.int .i64 t141, .int .i64 t142] 37 (0, 0)) (by (with_reducible repeat (first | refine blk_drewN ?_ _ | refine blk_drew ?_ | refine blk_alloc ?_ _)); exact BK144.out)) : gb144 ≠ gb145)); have n21_ := Aside0.mk ((by rw [hg]; exact Nat.ne_of_gt (blk_lt (g := gb144) (o := .cells #[.int .i64 t141, .int .i64 t142] 37 (0, 0)) (by (with_reducible repeat (first | refine blk_drewN ?_ _ | refine blk_drew ?_ | refine blk_alloc ?_ _)); exact BK144.out)) : gb145 ≠ gb144)); clear BK131; clear BK132; clear BK133; clear BK134; clear BK140; clear BK144; clear HB; have BK131 := n0_; have BK132 := n1_; have BK133 := n2_; have BK134 := n3_; have BK140 := n4_; have BK144 := n5_; have HB := n6_; have BK145 := n7_; have GW145 := n8_; have GE145 := n9_; have NB131_145 := n10_; have NB145_131 := n11_; have NB132_145 := n12_; have NB145_132 := n13_; have NB133_145 := n14_; have NB145_133 := n15_; have NB134_145 := n16_; have NB145_134 := n17_; have NB140_145 := n18_; have NB145_140 := n19_; have NB144_145 := n20_; have NB145_144 := n21_; clear n0_ n1_ n2_ n3_ n4_ n5_ n6_ n7_ n8_ n9_ n10_ n11_ n12_ n13_ n14_ n15_ n16_ n17_ n18_ n19_ n20_ n21_; clear hb hbox hg; have hnb235 := NB145_131.out; have hnc235 := NB131_145.out; have hnb236 := NB145_132.out; have hnc236 := NB132_145.out; have hnb237 := NB145_133.out; have hnc237 := NB133_145.out; have hnb238 := NB145_134.out; have hnc238 := NB134_145.out; have hnb239 := NB145_140.out; have hnc239 := NB140_145.out; have hnb240 := NB145_144.out; have hnc240 := NB144_145.out; have hcz241_0 : w234.cell? ⟨gb145, 0, none⟩ = some (.int .i64 0) := (blk_cell BK145.out 0).trans rfl; have hcz241_1 : w234.cell? ⟨gb145, 1, none⟩ = some (.int .i64 0) := (blk_cell BK145.out 1).trans rfl; have hfz241_0 := blk_frozen BK145.out 0; have hfz241_1 := blk_frozen BK145.out 1))
                         have n0_ : Aside0 (((w234.setCell ⟨gb145, 0, none⟩ (.int .i64 a3_0)).setCell ⟨gb145, 1, none⟩ (.int .i64 a3_1)).heap[gb131]? = some (.cells #[.int .i64 a0_0, .int .i64 a0_1, .int .i64 a0_2] 23 (0, 0))) := ⟨by (with_reducible repeat (first | refine blk_drewN ?_ _ | refine blk_drew ?_ | refine blk_alloc ?_ _)); refine blk_far ?_ NB131_145.out _; (with_reducible repeat (first | refine blk_drewN ?_ _ | refine blk_drew ?_ | refine blk_alloc ?_ _)); refine blk_far ?_ NB131_145.out _; (with_reducible repeat (first | refine blk_drewN ?_ _ | refine blk_drew ?_ | refine blk_alloc ?_ _)); exact BK131.out⟩
                         have n1_ : Aside0 (((w234.setCell ⟨gb145, 0, none⟩ (.int .i64 a3_0)).setCell ⟨gb145, 1, none⟩ (.int .i64 a3_1)).heap[gb132]? = some (.cells #[.int .i64 a1_0, .int .i64 a1_1] 25 (0, 0))) := ⟨by (with_reducible repeat (first | refine blk_drewN ?_ _ | refine blk_drew ?_ | refine blk_alloc ?_ _)); refine blk_far ?_ NB132_145.out _; (with_reducible repeat (first | refine blk_drewN ?_ _ | refine blk_drew ?_ | refine blk_alloc ?_ _)); refine blk_far ?_ NB132_145.out _; (with_reducible repeat (first | refine blk_drewN ?_ _ | refine blk_drew ?_ | refine blk_alloc ?_ _)); exact BK132.out⟩
                         have n2_ : Aside0 (((w234.setCell ⟨gb145, 0, none⟩ (.int .i64 a3_0)).setCell ⟨gb145, 1, none⟩ (.int .i64 a3_1)).heap[gb133]? = some (.cells #[.int .i64 a2_0, .int .i64 a2_1] 25 (0, 0))) := ⟨by (with_reducible repeat (first | refine blk_drewN ?_ _ | refine blk_drew ?_ | refine blk_alloc ?_ _)); refine blk_far ?_ NB133_145.out _; (with_reducible repeat (first | refine blk_drewN ?_ _ | refine blk_drew ?_ | refine blk_alloc ?_ _)); refine blk_far ?_ NB133_145.out _; (with_reducible repeat (first | refine blk_drewN ?_ _ | refine blk_drew ?_ | refine blk_alloc ?_ _)); exact BK133.out⟩
                         have n3_ : Aside0 (((w234.setCell ⟨gb145, 0, none⟩ (.int .i64 a3_0)).setCell ⟨gb145, 1, none⟩ (.int .i64 a3_1)).heap[gb134]? = some (.cells #[.int .i64 a3_0, .int .i64 a3_1] 37 (0, 0))) := ⟨by (with_reducible repeat (first | refine blk_drewN ?_ _ | refine blk_drew ?_ | refine blk_alloc ?_ _)); refine blk_far ?_ NB134_145.out _; (with_reducible repeat (first | refine blk_drewN ?_ _ | refine blk_drew ?_ | refine blk_alloc ?_ _)); refine blk_far ?_ NB134_145.out _; (with_reducible repeat (first | refine blk_drewN ?_ _ | refine blk_drew ?_ | refine blk_alloc ?_ _)); exact BK134.out⟩
                         have n4_ : Aside0 (((w234.setCell ⟨gb145, 0, none⟩ (.int .i64 a3_0)).setCell ⟨gb145, 1, none⟩ (.int .i64 a3_1)).heap[gb140]? = some (.cells #[.int .i64 t138, .int .i64 t139] 37 (0, 0))) := ⟨by (with_reducible repeat (first | refine blk_drewN ?_ _ | refine blk_drew ?_ | refine blk_alloc ?_ _)); refine blk_far ?_ NB140_145.out _; (with_reducible repeat (first | refine blk_drewN ?_ _ | refine blk_drew ?_ | refine blk_alloc ?_ _)); refine blk_far ?_ NB140_145.out _; (with_reducible repeat (first | refine blk_drewN ?_ _ | refine blk_drew ?_ | refine blk_alloc ?_ _)); exact BK140.out⟩
                         have n5_ : Aside0 (((w234.setCell ⟨gb145, 0, none⟩ (.int .i64 a3_0)).setCell ⟨gb145, 1, none⟩ (.int .i64 a3_1)).heap[gb144]? = some (.cells #[.int .i64 t141, .int .i64 t142] 37 (0, 0))) := ⟨by (with_reducible repeat (first | refine blk_drewN ?_ _ | refine blk_drew ?_ | refine blk_alloc ?_ _)); refine blk_far ?_ NB144_145.out _; (with_reducible repeat (first | refine blk_drewN ?_ _ | refine blk_drew ?_ | refine blk_alloc ?_ _)); refine blk_far ?_ NB144_145.out _; (with_reducible repeat (first | refine blk_drewN ?_ _ | refine blk_drew ?_ | refine blk_alloc ?_ _)); exact BK144.out⟩
                         have n6_ : Aside0 (((w234.setCell ⟨gb145, 0, none⟩ (.int .i64 a3_0)).setCell ⟨gb145, 1, none⟩ (.int .i64 a3_1)).heap[gb145]? = some (.cells #[.int .i64 a3_0, .int .i64 a3_1] 37 (0, 0))) := ⟨by (with_reducible repeat (first | refine blk_drewN ?_ _ | refine blk_drew ?_ | refine blk_alloc ?_ _)); refine blk_put (cs := #[.int .i64 a3_0, .int .i64 0]) ?_ 1 _ rfl; (with_reducible repeat (first | refine blk_drewN ?_ _ | refine blk_drew ?_ | refine blk_alloc ?_ _)); refine blk_put (cs := #[.int .i64 0, .int .i64 0]) ?_ 0 _ rfl; (with_reducible repeat (first | refine blk_drewN ?_ _ | refine blk_drew ?_ | refine blk_alloc ?_ _)); exact BK145.out⟩
                         have n7_ : Aside0 (Below w.heap.size w ((w234.setCell ⟨gb145, 0, none⟩ (.int .i64 a3_0)).setCell ⟨gb145, 1, none⟩ (.int .i64 a3_1))) := ⟨by repeat (first | (with_reducible first | exact HB.out | apply below_alloc | apply pw_below_drewN | apply below_drew1 | refine below_set ?_ GE131.out | refine below_set ?_ GE132.out | refine below_set ?_ GE133.out | refine below_set ?_ GE134.out | refine below_set ?_ GE140.out | refine below_set ?_ GE144.out | refine below_set ?_ GE145.out) | exact HB.out)⟩
                         (try clear BK131)
                         (try clear BK132)
                         (try clear BK133)
                         (try clear BK134)
                         (try clear BK140)
                         (try clear BK144)
                         (try clear BK145)
                         (try clear HB)
                         generalize ((w234.setCell ⟨gb145, 0, none⟩ (.int .i64 a3_0)).setCell ⟨gb145, 1, none⟩ (.int .i64 a3_1)) = w242 at n0_ n1_ n2_ n3_ n4_ n5_ n6_ n7_ ⊢
                         have BK131 := n0_
                         have BK132 := n1_
                         have BK133 := n2_
                         have BK134 := n3_
                         have BK140 := n4_
                         have BK144 := n5_
                         have BK145 := n6_
                         have HB := n7_
                         clear n0_ n1_ n2_ n3_ n4_ n5_ n6_ n7_
                         have n0_ := Aside0.mk (blk_drew BK131.out)
                         have n1_ := Aside0.mk (blk_drew BK132.out)
                         have n2_ := Aside0.mk (blk_drew BK133.out)
                         have n3_ := Aside0.mk (blk_drew BK134.out)
                         have n4_ := Aside0.mk (blk_drew BK140.out)
                         have n5_ := Aside0.mk (blk_drew BK144.out)
                         have n6_ := Aside0.mk (blk_drew BK145.out)
                         have n7_ := Aside0.mk (below_drew1 HB.out)
                         clear BK131
                         clear BK132
                         clear BK133
                         clear BK134
                         clear BK140
                         clear BK144
                         clear BK145
                         clear HB
                         have BK131 := n0_
                         have BK132 := n1_
                         have BK133 := n2_
                         have BK134 := n3_
                         have BK140 := n4_
                         have BK144 := n5_
                         have BK145 := n6_
                         have HB := n7_
                         clear n0_ n1_ n2_ n3_ n4_ n5_ n6_ n7_
                         refine start_ (n := 41) (S := fun w' => w'.cell? ⟨gb131, 0, none⟩ = some (.int .i64 a0_0) ∧ w'.cell? ⟨gb131, 1, none⟩ = some (.int .i64 a0_1) ∧ w'.cell? ⟨gb131, 2, none⟩ = some (.int .i64 a0_2) ∧ w'.cell? ⟨gb132, 0, none⟩ = some (.int .i64 a1_0) ∧ w'.cell? ⟨gb132, 1, none⟩ = some (.int .i64 a1_1) ∧ w'.cell? ⟨gb140, 0, none⟩ = some (.int .i64 t138) ∧ w'.cell? ⟨gb140, 1, none⟩ = some (.int .i64 t139) ∧ w'.cell? ⟨gb144, 0, none⟩ = some (.int .i64 t141) ∧ w'.cell? ⟨gb144, 1, none⟩ = some (.int .i64 t142) ∧ w'.cell? ⟨gb145, 0, none⟩ = some (.int .i64 a3_0) ∧ w'.cell? ⟨gb145, 1, none⟩ = some (.int .i64 a3_1) ∧ w'.cell? ⟨gb134, 0, none⟩ = some (.int .i64 a3_0) ∧ w'.cell? ⟨gb134, 1, none⟩ = some (.int .i64 a3_1)) (ds := []) #[false,false,false,false,false,false,false,false,false,false,false,false,false,false,false,false,false,false,false,false,false,false,false,false,false,false,false,false,false,false,false,false,false,false,false,false,false,false,false,false,false] (by kernel_rfl) rfl rfl ⟨(blk_cell BK131.out 0).trans rfl, (blk_cell BK131.out 1).trans rfl, (blk_cell BK131.out 2).trans rfl, (blk_cell BK132.out 0).trans rfl, (blk_cell BK132.out 1).trans rfl, (blk_cell BK140.out 0).trans rfl, (blk_cell BK140.out 1).trans rfl, (blk_cell BK144.out 0).trans rfl, (blk_cell BK144.out 1).trans rfl, (blk_cell BK145.out 0).trans rfl, (blk_cell BK145.out 1).trans rfl, (blk_cell BK134.out 0).trans rfl, (blk_cell BK134.out 1).trans rfl⟩ (fun hHeld => ?_); refine with_tabW paternosterlaw14_GateTells.tab28 paternosterlaw14_GateTells.bits28 (fun HT_ HW_ => ?_)
                         generalize w242.drew = w243 at BK131 BK132 BK133 BK134 BK140 BK144 BK145 HB hHeld ⊢
                         refine pure_ (i := 2) (N := some 161) (v := ?_) (a' := ?_) #[false,false,true,false,false,false,false,false,false,false,false,false,false,false,false,false,false,false,false,false,false,false,false,false,false,false,false,false,false,false,false,false,false,false,false,false,false,false,false,false,false] rfl rfl (any_of HT_.out (by kernel_rfl)) (fun _ _ _ h => h) (Or.inl ⟨by rfl, ?_⟩) ?_ ?_
                         rotate_left
                         ·intro w'
                          go_simp
                          with_reducible rfl
                         rotate_left
                         ·simp only [Act.put, sA, sB, sC, i64_w, i32_w]
                          rfl
                         refine pure_ (i := 3) (N := some 162) (v := ?_) (a' := ?_) #[false,false,true,true,false,false,false,false,false,false,false,false,false,false,false,false,false,false,false,false,false,false,false,false,false,false,false,false,false,false,false,false,false,false,false,false,false,false,false,false,false] rfl rfl (any_of HT_.out (by kernel_rfl)) (fun _ _ _ h => h) (Or.inl ⟨by rfl, ?_⟩) ?_ ?_
                         rotate_left
                         ·intro w'
                          go_simp
                          with_reducible rfl
                         rotate_left
                         ·simp only [Act.put, sA, sB, sC, i64_w, i32_w]
                          rfl
                         refine pure_ (i := 5) (N := some 164) (v := ?_) (a' := ?_) #[false,false,true,true,false,true,false,false,false,false,false,false,false,false,false,false,false,false,false,false,false,false,false,false,false,false,false,false,false,false,false,false,false,false,false,false,false,false,false,false,false] rfl rfl (any_of HT_.out (by kernel_rfl)) (fun _ _ _ h => h) (Or.inl ⟨by rfl, ?_⟩) ?_ ?_
                         rotate_left
                         ·intro w'
                          go_simp
                          with_reducible rfl
                         rotate_left
                         ·simp only [Act.put, sA, sB, sC, i64_w, i32_w]
                          rfl
                         refine take_ (i := 0) (N := some 159) (v := ?_) (a' := ?_) #[true,false,true,true,false,true,false,false,false,false,false,false,false,false,false,false,false,false,false,false,false,false,false,false,false,false,false,false,false,false,false,false,false,false,false,false,false,false,false,false,false] rfl rfl (take_ofW HT_.out HW_.out (by kernel_rfl)) (fun _ _ _ h => h) (Or.inl ⟨by rfl, ?_⟩) hHeld ?_ ?_
                         rotate_left
                         ·rintro w' ⟨s0, s1, s2, s3, s4, s5, s6, s7, s8, s9, s10, s11, s12⟩
                          go_simp
                          with_reducible rfl
                         rotate_left
                         ·simp only [Act.put, sA, sB, sC, i64_w, i32_w]
                          rfl
                         refine take_ (i := 1) (N := some 160) (v := ?_) (a' := ?_) #[true,true,true,true,false,true,false,false,false,false,false,false,false,false,false,false,false,false,false,false,false,false,false,false,false,false,false,false,false,false,false,false,false,false,false,false,false,false,false,false,false] rfl rfl (take_ofW HT_.out HW_.out (by kernel_rfl)) (fun _ _ _ h => h) (Or.inl ⟨by rfl, ?_⟩) hHeld ?_ ?_
                         rotate_left
                         ·rintro w' ⟨s0, s1, s2, s3, s4, s5, s6, s7, s8, s9, s10, s11, s12⟩
                          go_simp
                          with_reducible rfl
                         rotate_left
                         ·simp only [Act.put, sA, sB, sC, i64_w, i32_w]
                          rfl
                         refine one_ (i := 4) (N := some 163) #[true,true,true,true,true,true,false,false,false,false,false,false,false,false,false,false,false,false,false,false,false,false,false,false,false,false,false,false,false,false,false,false,false,false,false,false,false,false,false,false,false] rfl rfl (one_of HT_.out (by kernel_rfl)) (by decide) (fun K hK => ?_)
                         refine goes_ Try.func24 (by kernel_rfl) rfl #[.agg #[.int .i64 a0_0, .int .i64 a0_1, .int .i64 a0_2], .agg #[.int .i64 a1_0, .int .i64 a1_1], .bool a4, .bool a5] (by rfl) rfl rfl (by (try simp only [List.map_toArray, List.map_cons, List.map_nil]); first | done | rfl | (simp only [List.length_drop, List.length_take]; rfl)) ?_
                         with_reducible refine (gate_What.calls a0_0 a0_1 a0_2 a1_0 a1_1 a4 a5 t148 _ A221.out).mono ?_
                         rintro e w244 ⟨rfl, hb⟩
                         refine ⟨_, rfl, ?_⟩
                         have n0_ := Aside0.mk (blk_below (g := gb131) (o := .cells #[.int .i64 a0_0, .int .i64 a0_1, .int .i64 a0_2] 23 (0, 0)) (by (with_reducible repeat (first | refine blk_drewN ?_ _ | refine blk_drew ?_ | refine blk_alloc ?_ _)); exact BK131.out) hb)
                         have n1_ := Aside0.mk (blk_below (g := gb132) (o := .cells #[.int .i64 a1_0, .int .i64 a1_1] 25 (0, 0)) (by (with_reducible repeat (first | refine blk_drewN ?_ _ | refine blk_drew ?_ | refine blk_alloc ?_ _)); exact BK132.out) hb)
                         have n2_ := Aside0.mk (blk_below (g := gb133) (o := .cells #[.int .i64 a2_0, .int .i64 a2_1] 25 (0, 0)) (by (with_reducible repeat (first | refine blk_drewN ?_ _ | refine blk_drew ?_ | refine blk_alloc ?_ _)); exact BK133.out) hb)
                         have n3_ := Aside0.mk (blk_below (g := gb134) (o := .cells #[.int .i64 a3_0, .int .i64 a3_1] 37 (0, 0)) (by (with_reducible repeat (first | refine blk_drewN ?_ _ | refine blk_drew ?_ | refine blk_alloc ?_ _)); exact BK134.out) hb)
                         have n4_ := Aside0.mk (blk_below (g := gb140) (o := .cells #[.int .i64 t138, .int .i64 t139] 37 (0, 0)) (by (with_reducible repeat (first | refine blk_drewN ?_ _ | refine blk_drew ?_ | refine blk_alloc ?_ _)); exact BK140.out) hb)
                         have n5_ := Aside0.mk (blk_below (g := gb144) (o := .cells #[.int .i64 t141, .int .i64 t142] 37 (0, 0)) (by (with_reducible repeat (first | refine blk_drewN ?_ _ | refine blk_drew ?_ | refine blk_alloc ?_ _)); exact BK144.out) hb)
                         have n6_ := Aside0.mk (blk_below (g := gb145) (o := .cells #[.int .i64 a3_0, .int .i64 a3_1] 37 (0, 0)) (by (with_reducible repeat (first | refine blk_drewN ?_ _ | refine blk_drew ?_ | refine blk_alloc ?_ _)); exact BK145.out) hb)
                         have n7_ := Aside0.mk (below_step (by repeat (first | (with_reducible first | exact HB.out | apply below_alloc | apply pw_below_drewN | apply below_drew1 | refine below_set ?_ GE131.out | refine below_set ?_ GE132.out | refine below_set ?_ GE133.out | refine below_set ?_ GE134.out | refine below_set ?_ GE140.out | refine below_set ?_ GE144.out | refine below_set ?_ GE145.out) | exact HB.out)) hb)
                         clear BK131
                         clear BK132
                         clear BK133
                         clear BK134
                         clear BK140
                         clear BK144
                         clear BK145
                         clear HB
                         have BK131 := n0_
                         have BK132 := n1_
                         have BK133 := n2_
                         have BK134 := n3_
                         have BK140 := n4_
                         have BK144 := n5_
                         have BK145 := n6_
                         have HB := n7_
                         clear n0_ n1_ n2_ n3_ n4_ n5_ n6_ n7_
                         (try clear hb)
                         (try clear hb2)
                         (try clear hk)
                         (try clear hi)
                         refine hK.out _ _ ⟨(blk_cell BK131.out 0).trans rfl, (blk_cell BK131.out 1).trans rfl, (blk_cell BK131.out 2).trans rfl, (blk_cell BK132.out 0).trans rfl, (blk_cell BK132.out 1).trans rfl, (blk_cell BK140.out 0).trans rfl, (blk_cell BK140.out 1).trans rfl, (blk_cell BK144.out 0).trans rfl, (blk_cell BK144.out 1).trans rfl, (blk_cell BK145.out 0).trans rfl, (blk_cell BK145.out 1).trans rfl, (blk_cell BK134.out 0).trans rfl, (blk_cell BK134.out 1).trans rfl⟩ (fun hHeld => ?_)
                         clear hK K
                         refine norm_ (a' := ?_) ?_ ?_
                         rotate_left
                         ·show Act.put _ (some 163) _ = _
                          simp only [Act.put, sA, sB, sC, i64_w, i32_w]
                          rfl
                         refine pure_ (i := 6) (N := some 165) (v := ?_) (a' := ?_) #[true,true,true,true,true,true,true,false,false,false,false,false,false,false,false,false,false,false,false,false,false,false,false,false,false,false,false,false,false,false,false,false,false,false,false,false,false,false,false,false,false] rfl rfl (any_of HT_.out (by kernel_rfl)) (fun _ _ _ h => h) (Or.inl ⟨by rfl, ?_⟩) ?_ ?_
                         rotate_left
                         ·intro w'
                          go_simp
                          with_reducible rfl
                         rotate_left
                         ·simp only [Act.put, sA, sB, sC, i64_w, i32_w]
                          rfl
                         refine pure_ (i := 7) (N := some 166) (v := ?_) (a' := ?_) #[true,true,true,true,true,true,true,true,false,false,false,false,false,false,false,false,false,false,false,false,false,false,false,false,false,false,false,false,false,false,false,false,false,false,false,false,false,false,false,false,false] rfl rfl (any_of HT_.out (by kernel_rfl)) (fun _ _ _ h => h) (Or.inl ⟨by rfl, ?_⟩) ?_ ?_
                         rotate_left
                         ·intro w'
                          go_simp
                          with_reducible rfl
                         rotate_left
                         ·simp only [Act.put, sA, sB, sC, i64_w, i32_w]
                          rfl
                         refine pure_ (i := 9) (N := some 168) (v := ?_) (a' := ?_) #[true,true,true,true,true,true,true,true,false,true,false,false,false,false,false,false,false,false,false,false,false,false,false,false,false,false,false,false,false,false,false,false,false,false,false,false,false,false,false,false,false] rfl rfl (any_of HT_.out (by kernel_rfl)) (fun _ _ _ h => h) (Or.inl ⟨by rfl, ?_⟩) ?_ ?_
                         rotate_left
                         ·intro w'
                          go_simp
                          with_reducible rfl
                         rotate_left
                         ·simp only [Act.put, sA, sB, sC, i64_w, i32_w]
                          rfl
                         refine pure_ (i := 10) (N := some 169) (v := ?_) (a' := ?_) #[true,true,true,true,true,true,true,true,false,true,true,false,false,false,false,false,false,false,false,false,false,false,false,false,false,false,false,false,false,false,false,false,false,false,false,false,false,false,false,false,false] rfl rfl (any_of HT_.out (by kernel_rfl)) (fun _ _ _ h => h) (Or.inl ⟨by rfl, ?_⟩) ?_ ?_
                         rotate_left
                         ·intro w'
                          go_simp
                          with_reducible rfl
                         rotate_left
                         ·simp only [Act.put, sA, sB, sC, i64_w, i32_w]
                          rfl
                         refine pure_ (i := 11) (N := some 170) (v := ?_) (a' := ?_) #[true,true,true,true,true,true,true,true,false,true,true,true,false,false,false,false,false,false,false,false,false,false,false,false,false,false,false,false,false,false,false,false,false,false,false,false,false,false,false,false,false] rfl rfl (any_of HT_.out (by kernel_rfl)) (fun _ _ _ h => h) (Or.inl ⟨by rfl, ?_⟩) ?_ ?_
                         rotate_left
                         ·intro w'
                          go_simp
                          with_reducible rfl
                         rotate_left
                         ·simp only [Act.put, sA, sB, sC, i64_w, i32_w]
                          rfl
                         refine take_ (i := 8) (N := some 167) (v := ?_) (a' := ?_) #[true,true,true,true,true,true,true,true,true,true,true,true,false,false,false,false,false,false,false,false,false,false,false,false,false,false,false,false,false,false,false,false,false,false,false,false,false,false,false,false,false] rfl rfl (take_ofW HT_.out HW_.out (by kernel_rfl)) (fun _ _ _ h => h) (Or.inl ⟨by rfl, ?_⟩) hHeld ?_ ?_
                         rotate_left
                         ·rintro w' ⟨s0, s1, s2, s3, s4, s5, s6, s7, s8, s9, s10, s11, s12⟩
                          go_simp
                          with_reducible rfl
                         rotate_left
                         ·simp only [Act.put, sA, sB, sC, i64_w, i32_w]
                          rfl
                         refine pure_ (i := 12) (N := some 171) (v := ?_) (a' := ?_) #[true,true,true,true,true,true,true,true,true,true,true,true,true,false,false,false,false,false,false,false,false,false,false,false,false,false,false,false,false,false,false,false,false,false,false,false,false,false,false,false,false] rfl rfl (any_of HT_.out (by kernel_rfl)) (fun _ _ _ h => h) (Or.inl ⟨by rfl, ?_⟩) ?_ ?_
                         rotate_left
                         ·intro w'
                          go_simp
                          with_reducible rfl
                         rotate_left
                         ·simp only [Act.put, sA, sB, sC, i64_w, i32_w]
                          rfl
                         refine pure_ (i := 13) (N := some 172) (v := ?_) (a' := ?_) #[true,true,true,true,true,true,true,true,true,true,true,true,true,true,false,false,false,false,false,false,false,false,false,false,false,false,false,false,false,false,false,false,false,false,false,false,false,false,false,false,false] rfl rfl (any_of HT_.out (by kernel_rfl)) (fun _ _ _ h => h) (Or.inl ⟨by rfl, ?_⟩) ?_ ?_
                         rotate_left
                         ·intro w'
                          go_simp
                          with_reducible rfl
                         rotate_left
                         ·simp only [Act.put, sA, sB, sC, i64_w, i32_w]
                          rfl
                         refine pure_ (i := 14) (N := some 173) (v := ?_) (a' := ?_) #[true,true,true,true,true,true,true,true,true,true,true,true,true,true,true,false,false,false,false,false,false,false,false,false,false,false,false,false,false,false,false,false,false,false,false,false,false,false,false,false,false] rfl rfl (any_of HT_.out (by kernel_rfl)) (fun _ _ _ h => h) (Or.inl ⟨by rfl, ?_⟩) ?_ ?_
                         rotate_left
                         ·intro w'
                          go_simp
                          with_reducible rfl
                         rotate_left
                         ·simp only [Act.put, sA, sB, sC, i64_w, i32_w]
                          rfl
                         refine pure_ (i := 15) (N := some 174) (v := ?_) (a' := ?_) #[true,true,true,true,true,true,true,true,true,true,true,true,true,true,true,true,false,false,false,false,false,false,false,false,false,false,false,false,false,false,false,false,false,false,false,false,false,false,false,false,false] rfl rfl (any_of HT_.out (by kernel_rfl)) (fun _ _ _ h => h) (Or.inl ⟨by rfl, ?_⟩) ?_ ?_
                         rotate_left
                         ·intro w'
                          go_simp
                          with_reducible rfl
                         rotate_left
                         ·simp only [Act.put, sA, sB, sC, i64_w, i32_w]
                          rfl
                         refine pure_ (i := 16) (N := some 175) (v := ?_) (a' := ?_) #[true,true,true,true,true,true,true,true,true,true,true,true,true,true,true,true,true,false,false,false,false,false,false,false,false,false,false,false,false,false,false,false,false,false,false,false,false,false,false,false,false] rfl rfl (any_of HT_.out (by kernel_rfl)) (fun _ _ _ h => h) (Or.inl ⟨by rfl, ?_⟩) ?_ ?_
                         rotate_left
                         ·intro w'
                          go_simp
                          with_reducible rfl
                         rotate_left
                         ·simp only [Act.put, sA, sB, sC, i64_w, i32_w]
                          rfl
                         refine pure_ (i := 17) (N := some 176) (v := ?_) (a' := ?_) #[true,true,true,true,true,true,true,true,true,true,true,true,true,true,true,true,true,true,false,false,false,false,false,false,false,false,false,false,false,false,false,false,false,false,false,false,false,false,false,false,false] rfl rfl (any_of HT_.out (by kernel_rfl)) (fun _ _ _ h => h) (Or.inl ⟨by rfl, ?_⟩) ?_ ?_
                         rotate_left
                         ·intro w'
                          go_simp
                          with_reducible rfl
                         rotate_left
                         ·simp only [Act.put, sA, sB, sC, i64_w, i32_w]
                          rfl
                         refine pure_ (i := 18) (N := some 177) (v := ?_) (a' := ?_) #[true,true,true,true,true,true,true,true,true,true,true,true,true,true,true,true,true,true,true,false,false,false,false,false,false,false,false,false,false,false,false,false,false,false,false,false,false,false,false,false,false] rfl rfl (any_of HT_.out (by kernel_rfl)) (fun _ _ _ h => h) (Or.inl ⟨by rfl, ?_⟩) ?_ ?_
                         rotate_left
                         ·intro w'
                          go_simp
                          with_reducible rfl
                         rotate_left
                         ·simp only [Act.put, sA, sB, sC, i64_w, i32_w]
                          rfl
                         refine pure_ (i := 19) (N := some 178) (v := ?_) (a' := ?_) #[true,true,true,true,true,true,true,true,true,true,true,true,true,true,true,true,true,true,true,true,false,false,false,false,false,false,false,false,false,false,false,false,false,false,false,false,false,false,false,false,false] rfl rfl (any_of HT_.out (by kernel_rfl)) (fun _ _ _ h => h) (Or.inl ⟨by rfl, ?_⟩) ?_ ?_
                         rotate_left
                         ·intro w'
                          go_simp
                          with_reducible rfl
                         rotate_left
                         ·simp only [Act.put, sA, sB, sC, i64_w, i32_w]
                          rfl
                         refine take_ (i := 20) (N := some 179) (v := ?_) (a' := ?_) #[true,true,true,true,true,true,true,true,true,true,true,true,true,true,true,true,true,true,true,true,true,false,false,false,false,false,false,false,false,false,false,false,false,false,false,false,false,false,false,false,false] rfl rfl (take_ofW HT_.out HW_.out (by kernel_rfl)) (fun _ _ _ h => h) (Or.inl ⟨by rfl, ?_⟩) hHeld ?_ ?_
                         rotate_left
                         ·rintro w' ⟨s0, s1, s2, s3, s4, s5, s6, s7, s8, s9, s10, s11, s12⟩
                          go_simp
                          with_reducible rfl
                         rotate_left
                         ·simp only [Act.put, sA, sB, sC, i64_w, i32_w]
                          rfl
                         refine take_ (i := 21) (N := some 180) (v := ?_) (a' := ?_) #[true,true,true,true,true,true,true,true,true,true,true,true,true,true,true,true,true,true,true,true,true,true,false,false,false,false,false,false,false,false,false,false,false,false,false,false,false,false,false,false,false] rfl rfl (take_ofW HT_.out HW_.out (by kernel_rfl)) (fun _ _ _ h => h) (Or.inl ⟨by rfl, ?_⟩) hHeld ?_ ?_
                         rotate_left
                         ·rintro w' ⟨s0, s1, s2, s3, s4, s5, s6, s7, s8, s9, s10, s11, s12⟩
                          go_simp
                          with_reducible rfl
                         rotate_left
                         ·simp only [Act.put, sA, sB, sC, i64_w, i32_w]
                          rfl
                         refine pure_ (i := 22) (N := some 181) (v := ?_) (a' := ?_) #[true,true,true,true,true,true,true,true,true,true,true,true,true,true,true,true,true,true,true,true,true,true,true,false,false,false,false,false,false,false,false,false,false,false,false,false,false,false,false,false,false] rfl rfl (any_of HT_.out (by kernel_rfl)) (fun _ _ _ h => h) (Or.inl ⟨by rfl, ?_⟩) ?_ ?_
                         rotate_left
                         ·intro w'
                          go_simp
                          with_reducible rfl
                         rotate_left
                         ·simp only [Act.put, sA, sB, sC, i64_w, i32_w]
                          rfl
                         refine pure_ (i := 23) (N := some 182) (v := ?_) (a' := ?_) #[true,true,true,true,true,true,true,true,true,true,true,true,true,true,true,true,true,true,true,true,true,true,true,true,false,false,false,false,false,false,false,false,false,false,false,false,false,false,false,false,false] rfl rfl (any_of HT_.out (by kernel_rfl)) (fun _ _ _ h => h) (Or.inl ⟨by rfl, ?_⟩) ?_ ?_
                         rotate_left
                         ·intro w'
                          go_simp
                          with_reducible rfl
                         rotate_left
                         ·simp only [Act.put, sA, sB, sC, i64_w, i32_w]
                          rfl
                         refine pure_ (i := 24) (N := some 183) (v := ?_) (a' := ?_) #[true,true,true,true,true,true,true,true,true,true,true,true,true,true,true,true,true,true,true,true,true,true,true,true,true,false,false,false,false,false,false,false,false,false,false,false,false,false,false,false,false] rfl rfl (any_of HT_.out (by kernel_rfl)) (fun _ _ _ h => h) (Or.inl ⟨by rfl, ?_⟩) ?_ ?_
                         rotate_left
                         ·intro w'
                          go_simp
                          with_reducible rfl
                         rotate_left
                         ·simp only [Act.put, sA, sB, sC, i64_w, i32_w]
                          rfl
                         refine pure_ (i := 28) (N := some 187) (v := ?_) (a' := ?_) #[true,true,true,true,true,true,true,true,true,true,true,true,true,true,true,true,true,true,true,true,true,true,true,true,true,false,false,false,true,false,false,false,false,false,false,false,false,false,false,false,false] rfl rfl (any_of HT_.out (by kernel_rfl)) (fun _ _ _ h => h) (Or.inl ⟨by rfl, ?_⟩) ?_ ?_
                         rotate_left
                         ·intro w'
                          go_simp
                          with_reducible rfl
                         rotate_left
                         ·simp only [Act.put, sA, sB, sC, i64_w, i32_w]
                          rfl
                         refine pure_ (i := 30) (N := some 189) (v := ?_) (a' := ?_) #[true,true,true,true,true,true,true,true,true,true,true,true,true,true,true,true,true,true,true,true,true,true,true,true,true,false,false,false,true,false,true,false,false,false,false,false,false,false,false,false,false] rfl rfl (any_of HT_.out (by kernel_rfl)) (fun _ _ _ h => h) (Or.inl ⟨by rfl, ?_⟩) ?_ ?_
                         rotate_left
                         ·intro w'
                          go_simp
                          with_reducible rfl
                         rotate_left
                         ·simp only [Act.put, sA, sB, sC, i64_w, i32_w]
                          rfl
                         refine take_ (i := 25) (N := some 184) (v := ?_) (a' := ?_) #[true,true,true,true,true,true,true,true,true,true,true,true,true,true,true,true,true,true,true,true,true,true,true,true,true,true,false,false,true,false,true,false,false,false,false,false,false,false,false,false,false] rfl rfl (take_ofW HT_.out HW_.out (by kernel_rfl)) (fun _ _ _ h => h) (Or.inl ⟨by rfl, ?_⟩) hHeld ?_ ?_
                         rotate_left
                         ·rintro w' ⟨s0, s1, s2, s3, s4, s5, s6, s7, s8, s9, s10, s11, s12⟩
                          go_simp
                          with_reducible rfl
                         rotate_left
                         ·simp only [Act.put, sA, sB, sC, i64_w, i32_w]
                          rfl
                         refine take_ (i := 26) (N := some 185) (v := ?_) (a' := ?_) #[true,true,true,true,true,true,true,true,true,true,true,true,true,true,true,true,true,true,true,true,true,true,true,true,true,true,true,false,true,false,true,false,false,false,false,false,false,false,false,false,false] rfl rfl (take_ofW HT_.out HW_.out (by kernel_rfl)) (fun _ _ _ h => h) (Or.inl ⟨by rfl, ?_⟩) hHeld ?_ ?_
                         rotate_left
                         ·rintro w' ⟨s0, s1, s2, s3, s4, s5, s6, s7, s8, s9, s10, s11, s12⟩
                          go_simp
                          with_reducible rfl
                         rotate_left
                         ·simp only [Act.put, sA, sB, sC, i64_w, i32_w]
                          rfl
                         refine take_ (i := 29) (N := some 188) (v := ?_) (a' := ?_) #[true,true,true,true,true,true,true,true,true,true,true,true,true,true,true,true,true,true,true,true,true,true,true,true,true,true,true,false,true,true,true,false,false,false,false,false,false,false,false,false,false] rfl rfl (take_ofW HT_.out HW_.out (by kernel_rfl)) (fun _ _ _ h => h) (Or.inl ⟨by rfl, ?_⟩) hHeld ?_ ?_
                         rotate_left
                         ·rintro w' ⟨s0, s1, s2, s3, s4, s5, s6, s7, s8, s9, s10, s11, s12⟩
                          go_simp
                          with_reducible rfl
                         rotate_left
                         ·simp only [Act.put, sA, sB, sC, i64_w, i32_w]
                          rfl
                         refine take_ (i := 31) (N := some 190) (v := ?_) (a' := ?_) #[true,true,true,true,true,true,true,true,true,true,true,true,true,true,true,true,true,true,true,true,true,true,true,true,true,true,true,false,true,true,true,true,false,false,false,false,false,false,false,false,false] rfl rfl (take_ofW HT_.out HW_.out (by kernel_rfl)) (fun _ _ _ h => h) (Or.inl ⟨by rfl, ?_⟩) hHeld ?_ ?_
                         rotate_left
                         ·rintro w' ⟨s0, s1, s2, s3, s4, s5, s6, s7, s8, s9, s10, s11, s12⟩
                          go_simp
                          with_reducible rfl
                         rotate_left
                         ·simp only [Act.put, sA, sB, sC, i64_w, i32_w]
                          rfl
                         refine pure_ (i := 32) (N := some 191) (v := ?_) (a' := ?_) #[true,true,true,true,true,true,true,true,true,true,true,true,true,true,true,true,true,true,true,true,true,true,true,true,true,true,true,false,true,true,true,true,true,false,false,false,false,false,false,false,false] rfl rfl (any_of HT_.out (by kernel_rfl)) (fun _ _ _ h => h) (Or.inl ⟨by rfl, ?_⟩) ?_ ?_
                         rotate_left
                         ·intro w'
                          go_simp
                          with_reducible rfl
                         rotate_left
                         ·simp only [Act.put, sA, sB, sC, i64_w, i32_w]
                          rfl
                         refine one_ (i := 27) (N := some 186) #[true,true,true,true,true,true,true,true,true,true,true,true,true,true,true,true,true,true,true,true,true,true,true,true,true,true,true,true,true,true,true,true,true,false,false,false,false,false,false,false,false] rfl rfl (one_of HT_.out (by kernel_rfl)) (by decide) (fun K hK => ?_)
                         refine goes_ Try.func20 (by kernel_rfl) rfl #[.agg #[.int .i64 a3_0, .int .i64 a3_1], .agg #[.int .i64 a1_0, .int .i64 a1_1]] (by rfl) rfl rfl (by (try simp only [List.map_toArray, List.map_cons, List.map_nil]); first | done | rfl | (simp only [List.length_drop, List.length_take]; rfl)) ?_
                         with_reducible refine (gate_Gate_Ready.calls a3_0 a3_1 a1_0 a1_1 t149 _ A226.out).mono ?_
                         rintro e w245 ⟨rfl, hb⟩
                         refine ⟨_, rfl, ?_⟩
                         have n0_ := Aside0.mk (blk_below (g := gb131) (o := .cells #[.int .i64 a0_0, .int .i64 a0_1, .int .i64 a0_2] 23 (0, 0)) (by (with_reducible repeat (first | refine blk_drewN ?_ _ | refine blk_drew ?_ | refine blk_alloc ?_ _)); exact BK131.out) hb)
                         have n1_ := Aside0.mk (blk_below (g := gb132) (o := .cells #[.int .i64 a1_0, .int .i64 a1_1] 25 (0, 0)) (by (with_reducible repeat (first | refine blk_drewN ?_ _ | refine blk_drew ?_ | refine blk_alloc ?_ _)); exact BK132.out) hb)
                         have n2_ := Aside0.mk (blk_below (g := gb133) (o := .cells #[.int .i64 a2_0, .int .i64 a2_1] 25 (0, 0)) (by (with_reducible repeat (first | refine blk_drewN ?_ _ | refine blk_drew ?_ | refine blk_alloc ?_ _)); exact BK133.out) hb)
                         have n3_ := Aside0.mk (blk_below (g := gb134) (o := .cells #[.int .i64 a3_0, .int .i64 a3_1] 37 (0, 0)) (by (with_reducible repeat (first | refine blk_drewN ?_ _ | refine blk_drew ?_ | refine blk_alloc ?_ _)); exact BK134.out) hb)
                         have n4_ := Aside0.mk (blk_below (g := gb140) (o := .cells #[.int .i64 t138, .int .i64 t139] 37 (0, 0)) (by (with_reducible repeat (first | refine blk_drewN ?_ _ | refine blk_drew ?_ | refine blk_alloc ?_ _)); exact BK140.out) hb)
                         have n5_ := Aside0.mk (blk_below (g := gb144) (o := .cells #[.int .i64 t141, .int .i64 t142] 37 (0, 0)) (by (with_reducible repeat (first | refine blk_drewN ?_ _ | refine blk_drew ?_ | refine blk_alloc ?_ _)); exact BK144.out) hb)
                         have n6_ := Aside0.mk (blk_below (g := gb145) (o := .cells #[.int .i64 a3_0, .int .i64 a3_1] 37 (0, 0)) (by (with_reducible repeat (first | refine blk_drewN ?_ _ | refine blk_drew ?_ | refine blk_alloc ?_ _)); exact BK145.out) hb)
                         have n7_ := Aside0.mk (below_step (by repeat (first | (with_reducible first | exact HB.out | apply below_alloc | apply pw_below_drewN | apply below_drew1 | refine below_set ?_ GE131.out | refine below_set ?_ GE132.out | refine below_set ?_ GE133.out | refine below_set ?_ GE134.out | refine below_set ?_ GE140.out | refine below_set ?_ GE144.out | refine below_set ?_ GE145.out) | exact HB.out)) hb)
                         clear BK131
                         clear BK132
                         clear BK133
                         clear BK134
                         clear BK140
                         clear BK144
                         clear BK145
                         clear HB
                         have BK131 := n0_
                         have BK132 := n1_
                         have BK133 := n2_
                         have BK134 := n3_
                         have BK140 := n4_
                         have BK144 := n5_
                         have BK145 := n6_
                         have HB := n7_
                         clear n0_ n1_ n2_ n3_ n4_ n5_ n6_ n7_
                         (try clear hb)
                         (try clear hb2)
                         (try clear hk)
                         (try clear hi)
                         refine hK.out _ _ ⟨(blk_cell BK131.out 0).trans rfl, (blk_cell BK131.out 1).trans rfl, (blk_cell BK131.out 2).trans rfl, (blk_cell BK132.out 0).trans rfl, (blk_cell BK132.out 1).trans rfl, (blk_cell BK140.out 0).trans rfl, (blk_cell BK140.out 1).trans rfl, (blk_cell BK144.out 0).trans rfl, (blk_cell BK144.out 1).trans rfl, (blk_cell BK145.out 0).trans rfl, (blk_cell BK145.out 1).trans rfl, (blk_cell BK134.out 0).trans rfl, (blk_cell BK134.out 1).trans rfl⟩ (fun hHeld => ?_)
                         clear hK K
                         refine norm_ (a' := ?_) ?_ ?_
                         rotate_left
                         ·show Act.put _ (some 186) _ = _
                          simp only [Act.put, sA, sB, sC, i64_w, i32_w]
                          rfl
                         refine pure_ (i := 33) (N := some 192) (v := ?_) (a' := ?_) #[true,true,true,true,true,true,true,true,true,true,true,true,true,true,true,true,true,true,true,true,true,true,true,true,true,true,true,true,true,true,true,true,true,true,false,false,false,false,false,false,false] rfl rfl (any_of HT_.out (by kernel_rfl)) (fun _ _ _ h => h) (Or.inl ⟨by rfl, ?_⟩) ?_ ?_
                         rotate_left
                         ·intro w'
                          go_simp
                          with_reducible rfl
                         rotate_left
                         ·simp only [Act.put, sA, sB, sC, i64_w, i32_w]
                          rfl
                         refine pure_ (i := 34) (N := some 193) (v := undef) (a' := ?_) #[true,true,true,true,true,true,true,true,true,true,true,true,true,true,true,true,true,true,true,true,true,true,true,true,true,true,true,true,true,true,true,true,true,true,true,false,false,false,false,false,false] rfl rfl (any_of HT_.out (by kernel_rfl)) (fun _ _ _ h => h) (Or.inr ⟨by rfl, rfl⟩) ?_ ?_
                         rotate_left
                         ·simp only [Act.put, sA, sB, sC, i64_w, i32_w]
                          rfl
                         refine pure_ (i := 35) (N := some 194) (v := undef) (a' := ?_) #[true,true,true,true,true,true,true,true,true,true,true,true,true,true,true,true,true,true,true,true,true,true,true,true,true,true,true,true,true,true,true,true,true,true,true,true,false,false,false,false,false] rfl rfl (any_of HT_.out (by kernel_rfl)) (fun _ _ _ h => h) (Or.inr ⟨by rfl, rfl⟩) ?_ ?_
                         rotate_left
                         ·simp only [Act.put, sA, sB, sC, i64_w, i32_w]
                          rfl
                         refine pure_ (i := 36) (N := some 195) (v := undef) (a' := ?_) #[true,true,true,true,true,true,true,true,true,true,true,true,true,true,true,true,true,true,true,true,true,true,true,true,true,true,true,true,true,true,true,true,true,true,true,true,true,false,false,false,false] rfl rfl (any_of HT_.out (by kernel_rfl)) (fun _ _ _ h => h) (Or.inr ⟨by rfl, rfl⟩) ?_ ?_
                         rotate_left
                         ·simp only [Act.put, sA, sB, sC, i64_w, i32_w]
                          rfl
                         refine pure_ (i := 37) (N := some 196) (v := ?_) (a' := ?_) #[true,true,true,true,true,true,true,true,true,true,true,true,true,true,true,true,true,true,true,true,true,true,true,true,true,true,true,true,true,true,true,true,true,true,true,true,true,true,false,false,false] rfl rfl (any_of HT_.out (by kernel_rfl)) (fun _ _ _ h => h) (Or.inl ⟨by rfl, ?_⟩) ?_ ?_
                         rotate_left
                         ·intro w'
                          go_simp
                          with_reducible rfl
                         rotate_left
                         ·simp only [Act.put, sA, sB, sC, i64_w, i32_w]
                          rfl
                         refine pure_ (i := 38) (N := some 197) (v := ?_) (a' := ?_) #[true,true,true,true,true,true,true,true,true,true,true,true,true,true,true,true,true,true,true,true,true,true,true,true,true,true,true,true,true,true,true,true,true,true,true,true,true,true,true,false,false] rfl rfl (any_of HT_.out (by kernel_rfl)) (fun _ _ _ h => h) (Or.inl ⟨by rfl, ?_⟩) ?_ ?_
                         rotate_left
                         ·intro w'
                          go_simp
                          with_reducible rfl
                         rotate_left
                         ·simp only [Act.put, sA, sB, sC, i64_w, i32_w]
                          rfl
                         refine pure_ (i := 39) (N := some 198) (v := ?_) (a' := ?_) #[true,true,true,true,true,true,true,true,true,true,true,true,true,true,true,true,true,true,true,true,true,true,true,true,true,true,true,true,true,true,true,true,true,true,true,true,true,true,true,true,false] rfl rfl (any_of HT_.out (by kernel_rfl)) (fun _ _ _ h => h) (Or.inl ⟨by rfl, ?_⟩) ?_ ?_
                         rotate_left
                         ·intro w'
                          go_simp
                          with_reducible rfl
                         rotate_left
                         ·simp only [Act.put, sA, sB, sC, i64_w, i32_w]
                          rfl
                         refine pure_ (i := 40) (N := some 18) (v := ?_) (a' := ?_) #[true,true,true,true,true,true,true,true,true,true,true,true,true,true,true,true,true,true,true,true,true,true,true,true,true,true,true,true,true,true,true,true,true,true,true,true,true,true,true,true,true] rfl rfl (any_of HT_.out (by kernel_rfl)) (fun _ _ _ h => h) (Or.inl ⟨by rfl, ?_⟩) ?_ ?_
                         rotate_left
                         ·intro w'
                          go_simp
                          with_reducible rfl
                         rotate_left
                         ·simp only [Act.put, sA, sB, sC, i64_w, i32_w]
                          rfl
                         refine done_ (done_of HT_.out (by kernel_rfl)) ?_
                         try go_wp2
                         go_ret
                         exact ⟨by first | rfl | (simp [errW_none, errW_some] <;> rfl) | (simp [*, errW_none, errW_some] <;> rfl), by repeat (first | (with_reducible first | exact HB.out | apply below_alloc | apply pw_below_drewN | apply below_drew1 | refine below_set ?_ GE131.out | refine below_set ?_ GE132.out | refine below_set ?_ GE133.out | refine below_set ?_ GE134.out | refine below_set ?_ GE140.out | refine below_set ?_ GE144.out | refine below_set ?_ GE145.out) | exact HB.out)⟩
                        ·rw [if_neg c227] at H
                         have c227b0 : decide (a1_0 < a1_1) = false := decide_eq_false c227
                         clear c227
                         obtain rfl := Option.some.inj H
                         have hnb246 := NB134_131.out
                         have hnc246 := NB131_134.out
                         have hnb247 := NB134_132.out
                         have hnc247 := NB132_134.out
                         have hnb248 := NB134_133.out
                         have hnc248 := NB133_134.out
                         have hnb249 := NB134_140.out
                         have hnc249 := NB140_134.out
                         have hnb250 := NB134_144.out
                         have hnc250 := NB144_134.out
                         have hcz251_0 : wc.cell? ⟨gb134, 0, none⟩ = some (.int .i64 a3_0) := (blk_cell BK134.out 0).trans rfl
                         have hcz251_1 : wc.cell? ⟨gb134, 1, none⟩ = some (.int .i64 a3_1) := (blk_cell BK134.out 1).trans rfl
                         have hfz251_0 := blk_frozen BK134.out 0
                         have hfz251_1 := blk_frozen BK134.out 1
                         try go_wp2_with (first | ((with_reducible refine gate_dst (N := 30) rfl ?_); refine box_event ?hg (N := 30) ?hd (cs := #[.int .i64 0, .int .i64 0]) (t := 37) ?hr ?_; (case hd => rfl); (case hg => rfl); (case hr => first | (go_simp; done) | (go_simp; rfl)); intro gb145 hg w252 hbox hb; have n0_ := Aside0.mk (blk_below (g := gb131) (o := .cells #[.int .i64 a0_0, .int .i64 a0_1, .int .i64 a0_2] 23 (0, 0)) (by (with_reducible repeat (first | refine blk_drewN ?_ _ | refine blk_drew ?_ | refine blk_alloc ?_ _)); exact BK131.out) hb); have n1_ := Aside0.mk (blk_below (g := gb132) (o := .cells #[.int .i64 a1_0, .int .i64 a1_1] 25 (0, 0)) (by (with_reducible repeat (first | refine blk_drewN ?_ _ | refine blk_drew ?_ | refine blk_alloc ?_ _)); exact BK132.out) hb); have n2_ := Aside0.mk (blk_below (g := gb133) (o := .cells #[.int .i64 a2_0, .int .i64 a2_1] 25 (0, 0)) (by (with_reducible repeat (first | refine blk_drewN ?_ _ | refine blk_drew ?_ | refine blk_alloc ?_ _)); exact BK133.out) hb); have n3_ := Aside0.mk (blk_below (g := gb134) (o := .cells #[.int .i64 a3_0, .int .i64 a3_1] 37 (0, 0)) (by (with_reducible repeat (first | refine blk_drewN ?_ _ | refine blk_drew ?_ | refine blk_alloc ?_ _)); exact BK134.out) hb); have n4_ := Aside0.mk (blk_below (g := gb140) (o := .cells #[.int .i64 t138, .int .i64 t139] 37 (0, 0)) (by (with_reducible repeat (first | refine blk_drewN ?_ _ | refine blk_drew ?_ | refine blk_alloc ?_ _)); exact BK140.out) hb); have n5_ := Aside0.mk (blk_below (g := gb144) (o := .cells #[.int .i64 t141, .int .i64 t142] 37 (0, 0)) (by (with_reducible repeat (first | refine blk_drewN ?_ _ | refine blk_drew ?_ | refine blk_alloc ?_ _)); exact BK144.out) hb); have n6_ := Aside0.mk (below_step (by repeat (first | (with_reducible first | exact HB.out | apply below_alloc | apply pw_below_drewN | apply below_drew1 | refine below_set ?_ GE131.out | refine below_set ?_ GE132.out | refine below_set ?_ GE133.out | refine below_set ?_ GE134.out | refine below_set ?_ GE140.out | refine below_set ?_ GE144.out) | exact HB.out)) hb); have n7_ := Aside0.mk (hbox); have n8_ := Aside0.mk ((by rw [hg]; exact (below_size (by repeat (first | (with_reducible first | exact HB.out | apply below_alloc | apply pw_below_drewN | apply below_drew1 | refine below_set ?_ GE131.out | refine below_set ?_ GE132.out | refine below_set ?_ GE133.out | refine below_set ?_ GE134.out | refine below_set ?_ GE140.out | refine below_set ?_ GE144.out) | exact HB.out))) : w.heap.size ≤ gb145)); have n9_ := Aside0.mk ((by rw [hg]; exact (below_size (by repeat (first | (with_reducible first | exact HB.out | apply below_alloc | apply pw_below_drewN | apply below_drew1 | refine below_set ?_ GE131.out | refine below_set ?_ GE132.out | refine below_set ?_ GE133.out | refine below_set ?_ GE134.out | refine below_set ?_ GE140.out | refine below_set ?_ GE144.out) | exact HB.out))) : w.heap.size ≤ gb145)); have n10_ := Aside0.mk ((by rw [hg]; exact Nat.ne_of_lt (blk_lt (g := gb131) (o := .cells #[.int .i64 a0_0, .int .i64 a0_1, .int .i64 a0_2] 23 (0, 0)) (by (with_reducible repeat (first | refine blk_drewN ?_ _ | refine blk_drew ?_ | refine blk_alloc ?_ _)); exact BK131.out)) : gb131 ≠ gb145)); have n11_ := Aside0.mk ((by rw [hg]; exact Nat.ne_of_gt (blk_lt (g := gb131) (o := .cells #[.int .i64 a0_0, .int .i64 a0_1, .int .i64 a0_2] 23 (0, 0)) (by (with_reducible repeat (first | refine blk_drewN ?_ _ | refine blk_drew ?_ | refine blk_alloc ?_ _)); exact BK131.out)) : gb145 ≠ gb131)); have n12_ := Aside0.mk ((by rw [hg]; exact Nat.ne_of_lt (blk_lt (g := gb132) (o := .cells #[.int .i64 a1_0, .int .i64 a1_1] 25 (0, 0)) (by (with_reducible repeat (first | refine blk_drewN ?_ _ | refine blk_drew ?_ | refine blk_alloc ?_ _)); exact BK132.out)) : gb132 ≠ gb145)); have n13_ := Aside0.mk ((by rw [hg]; exact Nat.ne_of_gt (blk_lt (g := gb132) (o := .cells #[.int .i64 a1_0, .int .i64 a1_1] 25 (0, 0)) (by (with_reducible repeat (first | refine blk_drewN ?_ _ | refine blk_drew ?_ | refine blk_alloc ?_ _)); exact BK132.out)) : gb145 ≠ gb132)); have n14_ := Aside0.mk ((by rw [hg]; exact Nat.ne_of_lt (blk_lt (g := gb133) (o := .cells #[.int .i64 a2_0, .int .i64 a2_1] 25 (0, 0)) (by (with_reducible repeat (first | refine blk_drewN ?_ _ | refine blk_drew ?_ | refine blk_alloc ?_ _)); exact BK133.out)) : gb133 ≠ gb145)); have n15_ := Aside0.mk ((by rw [hg]; exact Nat.ne_of_gt (blk_lt (g := gb133) (o := .cells #[.int .i64 a2_0, .int .i64 a2_1] 25 (0, 0)) (by (with_reducible repeat (first | refine blk_drewN ?_ _ | refine blk_drew ?_ | refine blk_alloc ?_ _)); exact BK133.out)) : gb145 ≠ gb133)); have n16_ := Aside0.mk ((by rw [hg]; exact Nat.ne_of_lt (blk_lt (g := gb134) (o := .cells #[.int .i64 a3_0, .int .i64 a3_1] 37 (0, 0)) (by (with_reducible repeat (first | refine blk_drewN ?_ _ | refine blk_drew ?_ | refine blk_alloc ?_ _)); exact BK134.out)) : gb134 ≠ gb145)); have n17_ := Aside0.mk ((by rw [hg]; exact Nat.ne_of_gt (blk_lt (g := gb134) (o := .cells #[.int .i64 a3_0, .int .i64 a3_1] 37 (0, 0)) (by (with_reducible repeat (first | refine blk_drewN ?_ _ | refine blk_drew ?_ | refine blk_alloc ?_ _)); exact BK134.out)) : gb145 ≠ gb134)); have n18_ := Aside0.mk ((by rw [hg]; exact Nat.ne_of_lt (blk_lt (g := gb140) (o := .cells #[.int .i64 t138, .int .i64 t139] 37 (0, 0)) (by (with_reducible repeat (first | refine blk_drewN ?_ _ | refine blk_drew ?_ | refine blk_alloc ?_ _)); exact BK140.out)) : gb140 ≠ gb145)); have n19_ := Aside0.mk ((by rw [hg]; exact Nat.ne_of_gt (blk_lt (g := gb140) (o := .cells #[.int .i64 t138, .int .i64 t139] 37 (0, 0)) (by (with_reducible repeat (first | refine blk_drewN ?_ _ | refine blk_drew ?_ | refine blk_alloc ?_ _)); exact BK140.out)) : gb145 ≠ gb140)); have n20_ := Aside0.mk ((by rw [hg]; exact Nat.ne_of_lt (blk_lt (g := gb144) (o := .cells #[.int .i64 t141, .int .i64 t142] 37 (0, 0)) (by (with_reducible repeat (first | refine blk_drewN ?_ _ | refine blk_drew ?_ | refine blk_alloc ?_ _)); exact BK144.out)) : gb144 ≠ gb145)); have n21_ := Aside0.mk ((by rw [hg]; exact Nat.ne_of_gt (blk_lt (g := gb144) (o := .cells #[.int .i64 t141, .int .i64 t142] 37 (0, 0)) (by (with_reducible repeat (first | refine blk_drewN ?_ _ | refine blk_drew ?_ | refine blk_alloc ?_ _)); exact BK144.out)) : gb145 ≠ gb144)); clear BK131; clear BK132; clear BK133; clear BK134; clear BK140; clear BK144; clear HB; have BK131 := n0_; have BK132 := n1_; have BK133 := n2_; have BK134 := n3_; have BK140 := n4_; have BK144 := n5_; have HB := n6_; have BK145 := n7_; have GW145 := n8_; have GE145 := n9_; have NB131_145 := n10_; have NB145_131 := n11_; have NB132_145 := n12_; have NB145_132 := n13_; have NB133_145 := n14_; have NB145_133 := n15_; have NB134_145 := n16_; have NB145_134 := n17_; have NB140_145 := n18_; have NB145_140 := n19_; have NB144_145 := n20_; have NB145_144 := n21_; clear n0_ n1_ n2_ n3_ n4_ n5_ n6_ n7_ n8_ n9_ n10_ n11_ n12_ n13_ n14_ n15_ n16_ n17_ n18_ n19_ n20_ n21_; clear hb hbox hg; have hnb253 := NB145_131.out; have hnc253 := NB131_145.out; have hnb254 := NB145_132.out; have hnc254 := NB132_145.out; have hnb255 := NB145_133.out; have hnc255 := NB133_145.out; have hnb256 := NB145_134.out; have hnc256 := NB134_145.out; have hnb257 := NB145_140.out; have hnc257 := NB140_145.out; have hnb258 := NB145_144.out; have hnc258 := NB144_145.out; have hcz259_0 : w252.cell? ⟨gb145, 0, none⟩ = some (.int .i64 0) := (blk_cell BK145.out 0).trans rfl; have hcz259_1 : w252.cell? ⟨gb145, 1, none⟩ = some (.int .i64 0) := (blk_cell BK145.out 1).trans rfl; have hfz259_0 := blk_frozen BK145.out 0; have hfz259_1 := blk_frozen BK145.out 1))
                         have n0_ : Aside0 (((w252.setCell ⟨gb145, 0, none⟩ (.int .i64 a3_0)).setCell ⟨gb145, 1, none⟩ (.int .i64 a3_1)).heap[gb131]? = some (.cells #[.int .i64 a0_0, .int .i64 a0_1, .int .i64 a0_2] 23 (0, 0))) := ⟨by (with_reducible repeat (first | refine blk_drewN ?_ _ | refine blk_drew ?_ | refine blk_alloc ?_ _)); refine blk_far ?_ NB131_145.out _; (with_reducible repeat (first | refine blk_drewN ?_ _ | refine blk_drew ?_ | refine blk_alloc ?_ _)); refine blk_far ?_ NB131_145.out _; (with_reducible repeat (first | refine blk_drewN ?_ _ | refine blk_drew ?_ | refine blk_alloc ?_ _)); exact BK131.out⟩
                         have n1_ : Aside0 (((w252.setCell ⟨gb145, 0, none⟩ (.int .i64 a3_0)).setCell ⟨gb145, 1, none⟩ (.int .i64 a3_1)).heap[gb132]? = some (.cells #[.int .i64 a1_0, .int .i64 a1_1] 25 (0, 0))) := ⟨by (with_reducible repeat (first | refine blk_drewN ?_ _ | refine blk_drew ?_ | refine blk_alloc ?_ _)); refine blk_far ?_ NB132_145.out _; (with_reducible repeat (first | refine blk_drewN ?_ _ | refine blk_drew ?_ | refine blk_alloc ?_ _)); refine blk_far ?_ NB132_145.out _; (with_reducible repeat (first | refine blk_drewN ?_ _ | refine blk_drew ?_ | refine blk_alloc ?_ _)); exact BK132.out⟩
                         have n2_ : Aside0 (((w252.setCell ⟨gb145, 0, none⟩ (.int .i64 a3_0)).setCell ⟨gb145, 1, none⟩ (.int .i64 a3_1)).heap[gb133]? = some (.cells #[.int .i64 a2_0, .int .i64 a2_1] 25 (0, 0))) := ⟨by (with_reducible repeat (first | refine blk_drewN ?_ _ | refine blk_drew ?_ | refine blk_alloc ?_ _)); refine blk_far ?_ NB133_145.out _; (with_reducible repeat (first | refine blk_drewN ?_ _ | refine blk_drew ?_ | refine blk_alloc ?_ _)); refine blk_far ?_ NB133_145.out _; (with_reducible repeat (first | refine blk_drewN ?_ _ | refine blk_drew ?_ | refine blk_alloc ?_ _)); exact BK133.out⟩
                         have n3_ : Aside0 (((w252.setCell ⟨gb145, 0, none⟩ (.int .i64 a3_0)).setCell ⟨gb145, 1, none⟩ (.int .i64 a3_1)).heap[gb134]? = some (.cells #[.int .i64 a3_0, .int .i64 a3_1] 37 (0, 0))) := ⟨by (with_reducible repeat (first | refine blk_drewN ?_ _ | refine blk_drew ?_ | refine blk_alloc ?_ _)); refine blk_far ?_ NB134_145.out _; (with_reducible repeat (first | refine blk_drewN ?_ _ | refine blk_drew ?_ | refine blk_alloc ?_ _)); refine blk_far ?_ NB134_145.out _; (with_reducible repeat (first | refine blk_drewN ?_ _ | refine blk_drew ?_ | refine blk_alloc ?_ _)); exact BK134.out⟩
                         have n4_ : Aside0 (((w252.setCell ⟨gb145, 0, none⟩ (.int .i64 a3_0)).setCell ⟨gb145, 1, none⟩ (.int .i64 a3_1)).heap[gb140]? = some (.cells #[.int .i64 t138, .int .i64 t139] 37 (0, 0))) := ⟨by (with_reducible repeat (first | refine blk_drewN ?_ _ | refine blk_drew ?_ | refine blk_alloc ?_ _)); refine blk_far ?_ NB140_145.out _; (with_reducible repeat (first | refine blk_drewN ?_ _ | refine blk_drew ?_ | refine blk_alloc ?_ _)); refine blk_far ?_ NB140_145.out _; (with_reducible repeat (first | refine blk_drewN ?_ _ | refine blk_drew ?_ | refine blk_alloc ?_ _)); exact BK140.out⟩
                         have n5_ : Aside0 (((w252.setCell ⟨gb145, 0, none⟩ (.int .i64 a3_0)).setCell ⟨gb145, 1, none⟩ (.int .i64 a3_1)).heap[gb144]? = some (.cells #[.int .i64 t141, .int .i64 t142] 37 (0, 0))) := ⟨by (with_reducible repeat (first | refine blk_drewN ?_ _ | refine blk_drew ?_ | refine blk_alloc ?_ _)); refine blk_far ?_ NB144_145.out _; (with_reducible repeat (first | refine blk_drewN ?_ _ | refine blk_drew ?_ | refine blk_alloc ?_ _)); refine blk_far ?_ NB144_145.out _; (with_reducible repeat (first | refine blk_drewN ?_ _ | refine blk_drew ?_ | refine blk_alloc ?_ _)); exact BK144.out⟩
                         have n6_ : Aside0 (((w252.setCell ⟨gb145, 0, none⟩ (.int .i64 a3_0)).setCell ⟨gb145, 1, none⟩ (.int .i64 a3_1)).heap[gb145]? = some (.cells #[.int .i64 a3_0, .int .i64 a3_1] 37 (0, 0))) := ⟨by (with_reducible repeat (first | refine blk_drewN ?_ _ | refine blk_drew ?_ | refine blk_alloc ?_ _)); refine blk_put (cs := #[.int .i64 a3_0, .int .i64 0]) ?_ 1 _ rfl; (with_reducible repeat (first | refine blk_drewN ?_ _ | refine blk_drew ?_ | refine blk_alloc ?_ _)); refine blk_put (cs := #[.int .i64 0, .int .i64 0]) ?_ 0 _ rfl; (with_reducible repeat (first | refine blk_drewN ?_ _ | refine blk_drew ?_ | refine blk_alloc ?_ _)); exact BK145.out⟩
                         have n7_ : Aside0 (Below w.heap.size w ((w252.setCell ⟨gb145, 0, none⟩ (.int .i64 a3_0)).setCell ⟨gb145, 1, none⟩ (.int .i64 a3_1))) := ⟨by repeat (first | (with_reducible first | exact HB.out | apply below_alloc | apply pw_below_drewN | apply below_drew1 | refine below_set ?_ GE131.out | refine below_set ?_ GE132.out | refine below_set ?_ GE133.out | refine below_set ?_ GE134.out | refine below_set ?_ GE140.out | refine below_set ?_ GE144.out | refine below_set ?_ GE145.out) | exact HB.out)⟩
                         (try clear BK131)
                         (try clear BK132)
                         (try clear BK133)
                         (try clear BK134)
                         (try clear BK140)
                         (try clear BK144)
                         (try clear BK145)
                         (try clear HB)
                         generalize ((w252.setCell ⟨gb145, 0, none⟩ (.int .i64 a3_0)).setCell ⟨gb145, 1, none⟩ (.int .i64 a3_1)) = w260 at n0_ n1_ n2_ n3_ n4_ n5_ n6_ n7_ ⊢
                         have BK131 := n0_
                         have BK132 := n1_
                         have BK133 := n2_
                         have BK134 := n3_
                         have BK140 := n4_
                         have BK144 := n5_
                         have BK145 := n6_
                         have HB := n7_
                         clear n0_ n1_ n2_ n3_ n4_ n5_ n6_ n7_
                         have n0_ := Aside0.mk (blk_drew BK131.out)
                         have n1_ := Aside0.mk (blk_drew BK132.out)
                         have n2_ := Aside0.mk (blk_drew BK133.out)
                         have n3_ := Aside0.mk (blk_drew BK134.out)
                         have n4_ := Aside0.mk (blk_drew BK140.out)
                         have n5_ := Aside0.mk (blk_drew BK144.out)
                         have n6_ := Aside0.mk (blk_drew BK145.out)
                         have n7_ := Aside0.mk (below_drew1 HB.out)
                         clear BK131
                         clear BK132
                         clear BK133
                         clear BK134
                         clear BK140
                         clear BK144
                         clear BK145
                         clear HB
                         have BK131 := n0_
                         have BK132 := n1_
                         have BK133 := n2_
                         have BK134 := n3_
                         have BK140 := n4_
                         have BK144 := n5_
                         have BK145 := n6_
                         have HB := n7_
                         clear n0_ n1_ n2_ n3_ n4_ n5_ n6_ n7_
                         refine start_ (n := 41) (S := fun w' => w'.cell? ⟨gb131, 0, none⟩ = some (.int .i64 a0_0) ∧ w'.cell? ⟨gb131, 1, none⟩ = some (.int .i64 a0_1) ∧ w'.cell? ⟨gb131, 2, none⟩ = some (.int .i64 a0_2) ∧ w'.cell? ⟨gb132, 0, none⟩ = some (.int .i64 a1_0) ∧ w'.cell? ⟨gb132, 1, none⟩ = some (.int .i64 a1_1) ∧ w'.cell? ⟨gb140, 0, none⟩ = some (.int .i64 t138) ∧ w'.cell? ⟨gb140, 1, none⟩ = some (.int .i64 t139) ∧ w'.cell? ⟨gb144, 0, none⟩ = some (.int .i64 t141) ∧ w'.cell? ⟨gb144, 1, none⟩ = some (.int .i64 t142) ∧ w'.cell? ⟨gb145, 0, none⟩ = some (.int .i64 a3_0) ∧ w'.cell? ⟨gb145, 1, none⟩ = some (.int .i64 a3_1) ∧ w'.cell? ⟨gb134, 0, none⟩ = some (.int .i64 a3_0) ∧ w'.cell? ⟨gb134, 1, none⟩ = some (.int .i64 a3_1)) (ds := []) #[false,false,false,false,false,false,false,false,false,false,false,false,false,false,false,false,false,false,false,false,false,false,false,false,false,false,false,false,false,false,false,false,false,false,false,false,false,false,false,false,false] (by kernel_rfl) rfl rfl ⟨(blk_cell BK131.out 0).trans rfl, (blk_cell BK131.out 1).trans rfl, (blk_cell BK131.out 2).trans rfl, (blk_cell BK132.out 0).trans rfl, (blk_cell BK132.out 1).trans rfl, (blk_cell BK140.out 0).trans rfl, (blk_cell BK140.out 1).trans rfl, (blk_cell BK144.out 0).trans rfl, (blk_cell BK144.out 1).trans rfl, (blk_cell BK145.out 0).trans rfl, (blk_cell BK145.out 1).trans rfl, (blk_cell BK134.out 0).trans rfl, (blk_cell BK134.out 1).trans rfl⟩ (fun hHeld => ?_); refine with_tabW paternosterlaw14_GateTells.tab28 paternosterlaw14_GateTells.bits28 (fun HT_ HW_ => ?_)
                         generalize w260.drew = w261 at BK131 BK132 BK133 BK134 BK140 BK144 BK145 HB hHeld ⊢
                         refine pure_ (i := 2) (N := some 161) (v := ?_) (a' := ?_) #[false,false,true,false,false,false,false,false,false,false,false,false,false,false,false,false,false,false,false,false,false,false,false,false,false,false,false,false,false,false,false,false,false,false,false,false,false,false,false,false,false] rfl rfl (any_of HT_.out (by kernel_rfl)) (fun _ _ _ h => h) (Or.inl ⟨by rfl, ?_⟩) ?_ ?_
                         rotate_left
                         ·intro w'
                          go_simp
                          with_reducible rfl
                         rotate_left
                         ·simp only [Act.put, sA, sB, sC, i64_w, i32_w]
                          rfl
                         refine pure_ (i := 3) (N := some 162) (v := ?_) (a' := ?_) #[false,false,true,true,false,false,false,false,false,false,false,false,false,false,false,false,false,false,false,false,false,false,false,false,false,false,false,false,false,false,false,false,false,false,false,false,false,false,false,false,false] rfl rfl (any_of HT_.out (by kernel_rfl)) (fun _ _ _ h => h) (Or.inl ⟨by rfl, ?_⟩) ?_ ?_
                         rotate_left
                         ·intro w'
                          go_simp
                          with_reducible rfl
                         rotate_left
                         ·simp only [Act.put, sA, sB, sC, i64_w, i32_w]
                          rfl
                         refine pure_ (i := 5) (N := some 164) (v := ?_) (a' := ?_) #[false,false,true,true,false,true,false,false,false,false,false,false,false,false,false,false,false,false,false,false,false,false,false,false,false,false,false,false,false,false,false,false,false,false,false,false,false,false,false,false,false] rfl rfl (any_of HT_.out (by kernel_rfl)) (fun _ _ _ h => h) (Or.inl ⟨by rfl, ?_⟩) ?_ ?_
                         rotate_left
                         ·intro w'
                          go_simp
                          with_reducible rfl
                         rotate_left
                         ·simp only [Act.put, sA, sB, sC, i64_w, i32_w]
                          rfl
                         refine take_ (i := 0) (N := some 159) (v := ?_) (a' := ?_) #[true,false,true,true,false,true,false,false,false,false,false,false,false,false,false,false,false,false,false,false,false,false,false,false,false,false,false,false,false,false,false,false,false,false,false,false,false,false,false,false,false] rfl rfl (take_ofW HT_.out HW_.out (by kernel_rfl)) (fun _ _ _ h => h) (Or.inl ⟨by rfl, ?_⟩) hHeld ?_ ?_
                         rotate_left
                         ·rintro w' ⟨s0, s1, s2, s3, s4, s5, s6, s7, s8, s9, s10, s11, s12⟩
                          go_simp
                          with_reducible rfl
                         rotate_left
                         ·simp only [Act.put, sA, sB, sC, i64_w, i32_w]
                          rfl
                         refine take_ (i := 1) (N := some 160) (v := ?_) (a' := ?_) #[true,true,true,true,false,true,false,false,false,false,false,false,false,false,false,false,false,false,false,false,false,false,false,false,false,false,false,false,false,false,false,false,false,false,false,false,false,false,false,false,false] rfl rfl (take_ofW HT_.out HW_.out (by kernel_rfl)) (fun _ _ _ h => h) (Or.inl ⟨by rfl, ?_⟩) hHeld ?_ ?_
                         rotate_left
                         ·rintro w' ⟨s0, s1, s2, s3, s4, s5, s6, s7, s8, s9, s10, s11, s12⟩
                          go_simp
                          with_reducible rfl
                         rotate_left
                         ·simp only [Act.put, sA, sB, sC, i64_w, i32_w]
                          rfl
                         refine one_ (i := 4) (N := some 163) #[true,true,true,true,true,true,false,false,false,false,false,false,false,false,false,false,false,false,false,false,false,false,false,false,false,false,false,false,false,false,false,false,false,false,false,false,false,false,false,false,false] rfl rfl (one_of HT_.out (by kernel_rfl)) (by decide) (fun K hK => ?_)
                         refine goes_ Try.func24 (by kernel_rfl) rfl #[.agg #[.int .i64 a0_0, .int .i64 a0_1, .int .i64 a0_2], .agg #[.int .i64 a1_0, .int .i64 a1_1], .bool a4, .bool a5] (by rfl) rfl rfl (by (try simp only [List.map_toArray, List.map_cons, List.map_nil]); first | done | rfl | (simp only [List.length_drop, List.length_take]; rfl)) ?_
                         with_reducible refine (gate_What.calls a0_0 a0_1 a0_2 a1_0 a1_1 a4 a5 t148 _ A221.out).mono ?_
                         rintro e w262 ⟨rfl, hb⟩
                         refine ⟨_, rfl, ?_⟩
                         have n0_ := Aside0.mk (blk_below (g := gb131) (o := .cells #[.int .i64 a0_0, .int .i64 a0_1, .int .i64 a0_2] 23 (0, 0)) (by (with_reducible repeat (first | refine blk_drewN ?_ _ | refine blk_drew ?_ | refine blk_alloc ?_ _)); exact BK131.out) hb)
                         have n1_ := Aside0.mk (blk_below (g := gb132) (o := .cells #[.int .i64 a1_0, .int .i64 a1_1] 25 (0, 0)) (by (with_reducible repeat (first | refine blk_drewN ?_ _ | refine blk_drew ?_ | refine blk_alloc ?_ _)); exact BK132.out) hb)
                         have n2_ := Aside0.mk (blk_below (g := gb133) (o := .cells #[.int .i64 a2_0, .int .i64 a2_1] 25 (0, 0)) (by (with_reducible repeat (first | refine blk_drewN ?_ _ | refine blk_drew ?_ | refine blk_alloc ?_ _)); exact BK133.out) hb)
                         have n3_ := Aside0.mk (blk_below (g := gb134) (o := .cells #[.int .i64 a3_0, .int .i64 a3_1] 37 (0, 0)) (by (with_reducible repeat (first | refine blk_drewN ?_ _ | refine blk_drew ?_ | refine blk_alloc ?_ _)); exact BK134.out) hb)
                         have n4_ := Aside0.mk (blk_below (g := gb140) (o := .cells #[.int .i64 t138, .int .i64 t139] 37 (0, 0)) (by (with_reducible repeat (first | refine blk_drewN ?_ _ | refine blk_drew ?_ | refine blk_alloc ?_ _)); exact BK140.out) hb)
                         have n5_ := Aside0.mk (blk_below (g := gb144) (o := .cells #[.int .i64 t141, .int .i64 t142] 37 (0, 0)) (by (with_reducible repeat (first | refine blk_drewN ?_ _ | refine blk_drew ?_ | refine blk_alloc ?_ _)); exact BK144.out) hb)
                         have n6_ := Aside0.mk (blk_below (g := gb145) (o := .cells #[.int .i64 a3_0, .int .i64 a3_1] 37 (0, 0)) (by (with_reducible repeat (first | refine blk_drewN ?_ _ | refine blk_drew ?_ | refine blk_alloc ?_ _)); exact BK145.out) hb)
                         have n7_ := Aside0.mk (below_step (by repeat (first | (with_reducible first | exact HB.out | apply below_alloc | apply pw_below_drewN | apply below_drew1 | refine below_set ?_ GE131.out | refine below_set ?_ GE132.out | refine below_set ?_ GE133.out | refine below_set ?_ GE134.out | refine below_set ?_ GE140.out | refine below_set ?_ GE144.out | refine below_set ?_ GE145.out) | exact HB.out)) hb)
                         clear BK131
                         clear BK132
                         clear BK133
                         clear BK134
                         clear BK140
                         clear BK144
                         clear BK145
                         clear HB
                         have BK131 := n0_
                         have BK132 := n1_
                         have BK133 := n2_
                         have BK134 := n3_
                         have BK140 := n4_
                         have BK144 := n5_
                         have BK145 := n6_
                         have HB := n7_
                         clear n0_ n1_ n2_ n3_ n4_ n5_ n6_ n7_
                         (try clear hb)
                         (try clear hb2)
                         (try clear hk)
                         (try clear hi)
                         refine hK.out _ _ ⟨(blk_cell BK131.out 0).trans rfl, (blk_cell BK131.out 1).trans rfl, (blk_cell BK131.out 2).trans rfl, (blk_cell BK132.out 0).trans rfl, (blk_cell BK132.out 1).trans rfl, (blk_cell BK140.out 0).trans rfl, (blk_cell BK140.out 1).trans rfl, (blk_cell BK144.out 0).trans rfl, (blk_cell BK144.out 1).trans rfl, (blk_cell BK145.out 0).trans rfl, (blk_cell BK145.out 1).trans rfl, (blk_cell BK134.out 0).trans rfl, (blk_cell BK134.out 1).trans rfl⟩ (fun hHeld => ?_)
                         clear hK K
                         refine norm_ (a' := ?_) ?_ ?_
                         rotate_left
                         ·show Act.put _ (some 163) _ = _
                          simp only [Act.put, sA, sB, sC, i64_w, i32_w]
                          rfl
                         refine pure_ (i := 6) (N := some 165) (v := ?_) (a' := ?_) #[true,true,true,true,true,true,true,false,false,false,false,false,false,false,false,false,false,false,false,false,false,false,false,false,false,false,false,false,false,false,false,false,false,false,false,false,false,false,false,false,false] rfl rfl (any_of HT_.out (by kernel_rfl)) (fun _ _ _ h => h) (Or.inl ⟨by rfl, ?_⟩) ?_ ?_
                         rotate_left
                         ·intro w'
                          go_simp
                          with_reducible rfl
                         rotate_left
                         ·simp only [Act.put, sA, sB, sC, i64_w, i32_w]
                          rfl
                         refine pure_ (i := 7) (N := some 166) (v := ?_) (a' := ?_) #[true,true,true,true,true,true,true,true,false,false,false,false,false,false,false,false,false,false,false,false,false,false,false,false,false,false,false,false,false,false,false,false,false,false,false,false,false,false,false,false,false] rfl rfl (any_of HT_.out (by kernel_rfl)) (fun _ _ _ h => h) (Or.inl ⟨by rfl, ?_⟩) ?_ ?_
                         rotate_left
                         ·intro w'
                          go_simp
                          with_reducible rfl
                         rotate_left
                         ·simp only [Act.put, sA, sB, sC, i64_w, i32_w]
                          rfl
                         refine pure_ (i := 9) (N := some 168) (v := ?_) (a' := ?_) #[true,true,true,true,true,true,true,true,false,true,false,false,false,false,false,false,false,false,false,false,false,false,false,false,false,false,false,false,false,false,false,false,false,false,false,false,false,false,false,false,false] rfl rfl (any_of HT_.out (by kernel_rfl)) (fun _ _ _ h => h) (Or.inl ⟨by rfl, ?_⟩) ?_ ?_
                         rotate_left
                         ·intro w'
                          go_simp
                          with_reducible rfl
                         rotate_left
                         ·simp only [Act.put, sA, sB, sC, i64_w, i32_w]
                          rfl
                         refine pure_ (i := 10) (N := some 169) (v := ?_) (a' := ?_) #[true,true,true,true,true,true,true,true,false,true,true,false,false,false,false,false,false,false,false,false,false,false,false,false,false,false,false,false,false,false,false,false,false,false,false,false,false,false,false,false,false] rfl rfl (any_of HT_.out (by kernel_rfl)) (fun _ _ _ h => h) (Or.inl ⟨by rfl, ?_⟩) ?_ ?_
                         rotate_left
                         ·intro w'
                          go_simp
                          with_reducible rfl
                         rotate_left
                         ·simp only [Act.put, sA, sB, sC, i64_w, i32_w]
                          rfl
                         refine pure_ (i := 11) (N := some 170) (v := ?_) (a' := ?_) #[true,true,true,true,true,true,true,true,false,true,true,true,false,false,false,false,false,false,false,false,false,false,false,false,false,false,false,false,false,false,false,false,false,false,false,false,false,false,false,false,false] rfl rfl (any_of HT_.out (by kernel_rfl)) (fun _ _ _ h => h) (Or.inl ⟨by rfl, ?_⟩) ?_ ?_
                         rotate_left
                         ·intro w'
                          go_simp
                          with_reducible rfl
                         rotate_left
                         ·simp only [Act.put, sA, sB, sC, i64_w, i32_w]
                          rfl
                         refine take_ (i := 8) (N := some 167) (v := ?_) (a' := ?_) #[true,true,true,true,true,true,true,true,true,true,true,true,false,false,false,false,false,false,false,false,false,false,false,false,false,false,false,false,false,false,false,false,false,false,false,false,false,false,false,false,false] rfl rfl (take_ofW HT_.out HW_.out (by kernel_rfl)) (fun _ _ _ h => h) (Or.inl ⟨by rfl, ?_⟩) hHeld ?_ ?_
                         rotate_left
                         ·rintro w' ⟨s0, s1, s2, s3, s4, s5, s6, s7, s8, s9, s10, s11, s12⟩
                          go_simp
                          with_reducible rfl
                         rotate_left
                         ·simp only [Act.put, sA, sB, sC, i64_w, i32_w]
                          rfl
                         refine pure_ (i := 12) (N := some 171) (v := ?_) (a' := ?_) #[true,true,true,true,true,true,true,true,true,true,true,true,true,false,false,false,false,false,false,false,false,false,false,false,false,false,false,false,false,false,false,false,false,false,false,false,false,false,false,false,false] rfl rfl (any_of HT_.out (by kernel_rfl)) (fun _ _ _ h => h) (Or.inl ⟨by rfl, ?_⟩) ?_ ?_
                         rotate_left
                         ·intro w'
                          go_simp
                          with_reducible rfl
                         rotate_left
                         ·simp only [Act.put, sA, sB, sC, i64_w, i32_w]
                          rfl
                         refine pure_ (i := 13) (N := some 172) (v := ?_) (a' := ?_) #[true,true,true,true,true,true,true,true,true,true,true,true,true,true,false,false,false,false,false,false,false,false,false,false,false,false,false,false,false,false,false,false,false,false,false,false,false,false,false,false,false] rfl rfl (any_of HT_.out (by kernel_rfl)) (fun _ _ _ h => h) (Or.inl ⟨by rfl, ?_⟩) ?_ ?_
                         rotate_left
                         ·intro w'
                          go_simp
                          with_reducible rfl
                         rotate_left
                         ·simp only [Act.put, sA, sB, sC, i64_w, i32_w]
                          rfl
                         refine pure_ (i := 14) (N := some 173) (v := ?_) (a' := ?_) #[true,true,true,true,true,true,true,true,true,true,true,true,true,true,true,false,false,false,false,false,false,false,false,false,false,false,false,false,false,false,false,false,false,false,false,false,false,false,false,false,false] rfl rfl (any_of HT_.out (by kernel_rfl)) (fun _ _ _ h => h) (Or.inl ⟨by rfl, ?_⟩) ?_ ?_
                         rotate_left
                         ·intro w'
                          go_simp
                          with_reducible rfl
                         rotate_left
                         ·simp only [Act.put, sA, sB, sC, i64_w, i32_w]
                          rfl
                         refine pure_ (i := 15) (N := some 174) (v := ?_) (a' := ?_) #[true,true,true,true,true,true,true,true,true,true,true,true,true,true,true,true,false,false,false,false,false,false,false,false,false,false,false,false,false,false,false,false,false,false,false,false,false,false,false,false,false] rfl rfl (any_of HT_.out (by kernel_rfl)) (fun _ _ _ h => h) (Or.inl ⟨by rfl, ?_⟩) ?_ ?_
                         rotate_left
                         ·intro w'
                          go_simp
                          with_reducible rfl
                         rotate_left
                         ·simp only [Act.put, sA, sB, sC, i64_w, i32_w]
                          rfl
                         refine pure_ (i := 16) (N := some 175) (v := ?_) (a' := ?_) #[true,true,true,true,true,true,true,true,true,true,true,true,true,true,true,true,true,false,false,false,false,false,false,false,false,false,false,false,false,false,false,false,false,false,false,false,false,false,false,false,false] rfl rfl (any_of HT_.out (by kernel_rfl)) (fun _ _ _ h => h) (Or.inl ⟨by rfl, ?_⟩) ?_ ?_
                         rotate_left
                         ·intro w'
                          go_simp
                          with_reducible rfl
                         rotate_left
                         ·simp only [Act.put, sA, sB, sC, i64_w, i32_w]
                          rfl
                         refine pure_ (i := 17) (N := some 176) (v := ?_) (a' := ?_) #[true,true,true,true,true,true,true,true,true,true,true,true,true,true,true,true,true,true,false,false,false,false,false,false,false,false,false,false,false,false,false,false,false,false,false,false,false,false,false,false,false] rfl rfl (any_of HT_.out (by kernel_rfl)) (fun _ _ _ h => h) (Or.inl ⟨by rfl, ?_⟩) ?_ ?_
                         rotate_left
                         ·intro w'
                          go_simp
                          with_reducible rfl
                         rotate_left
                         ·simp only [Act.put, sA, sB, sC, i64_w, i32_w]
                          rfl
                         refine pure_ (i := 18) (N := some 177) (v := ?_) (a' := ?_) #[true,true,true,true,true,true,true,true,true,true,true,true,true,true,true,true,true,true,true,false,false,false,false,false,false,false,false,false,false,false,false,false,false,false,false,false,false,false,false,false,false] rfl rfl (any_of HT_.out (by kernel_rfl)) (fun _ _ _ h => h) (Or.inl ⟨by rfl, ?_⟩) ?_ ?_
                         rotate_left
                         ·intro w'
                          go_simp
                          with_reducible rfl
                         rotate_left
                         ·simp only [Act.put, sA, sB, sC, i64_w, i32_w]
                          rfl
                         refine pure_ (i := 19) (N := some 178) (v := ?_) (a' := ?_) #[true,true,true,true,true,true,true,true,true,true,true,true,true,true,true,true,true,true,true,true,false,false,false,false,false,false,false,false,false,false,false,false,false,false,false,false,false,false,false,false,false] rfl rfl (any_of HT_.out (by kernel_rfl)) (fun _ _ _ h => h) (Or.inl ⟨by rfl, ?_⟩) ?_ ?_
                         rotate_left
                         ·intro w'
                          go_simp
                          with_reducible rfl
                         rotate_left
                         ·simp only [Act.put, sA, sB, sC, i64_w, i32_w]
                          rfl
                         refine take_ (i := 20) (N := some 179) (v := ?_) (a' := ?_) #[true,true,true,true,true,true,true,true,true,true,true,true,true,true,true,true,true,true,true,true,true,false,false,false,false,false,false,false,false,false,false,false,false,false,false,false,false,false,false,false,false] rfl rfl (take_ofW HT_.out HW_.out (by kernel_rfl)) (fun _ _ _ h => h) (Or.inl ⟨by rfl, ?_⟩) hHeld ?_ ?_
                         rotate_left
                         ·rintro w' ⟨s0, s1, s2, s3, s4, s5, s6, s7, s8, s9, s10, s11, s12⟩
                          go_simp
                          with_reducible rfl
                         rotate_left
                         ·simp only [Act.put, sA, sB, sC, i64_w, i32_w]
                          rfl
                         refine take_ (i := 21) (N := some 180) (v := ?_) (a' := ?_) #[true,true,true,true,true,true,true,true,true,true,true,true,true,true,true,true,true,true,true,true,true,true,false,false,false,false,false,false,false,false,false,false,false,false,false,false,false,false,false,false,false] rfl rfl (take_ofW HT_.out HW_.out (by kernel_rfl)) (fun _ _ _ h => h) (Or.inl ⟨by rfl, ?_⟩) hHeld ?_ ?_
                         rotate_left
                         ·rintro w' ⟨s0, s1, s2, s3, s4, s5, s6, s7, s8, s9, s10, s11, s12⟩
                          go_simp
                          with_reducible rfl
                         rotate_left
                         ·simp only [Act.put, sA, sB, sC, i64_w, i32_w]
                          rfl
                         refine pure_ (i := 22) (N := some 181) (v := ?_) (a' := ?_) #[true,true,true,true,true,true,true,true,true,true,true,true,true,true,true,true,true,true,true,true,true,true,true,false,false,false,false,false,false,false,false,false,false,false,false,false,false,false,false,false,false] rfl rfl (any_of HT_.out (by kernel_rfl)) (fun _ _ _ h => h) (Or.inl ⟨by rfl, ?_⟩) ?_ ?_
                         rotate_left
                         ·intro w'
                          go_simp
                          with_reducible rfl
                         rotate_left
                         ·simp only [Act.put, sA, sB, sC, i64_w, i32_w]
                          rfl
                         refine pure_ (i := 23) (N := some 182) (v := ?_) (a' := ?_) #[true,true,true,true,true,true,true,true,true,true,true,true,true,true,true,true,true,true,true,true,true,true,true,true,false,false,false,false,false,false,false,false,false,false,false,false,false,false,false,false,false] rfl rfl (any_of HT_.out (by kernel_rfl)) (fun _ _ _ h => h) (Or.inl ⟨by rfl, ?_⟩) ?_ ?_
                         rotate_left
                         ·intro w'
                          go_simp
                          with_reducible rfl
                         rotate_left
                         ·simp only [Act.put, sA, sB, sC, i64_w, i32_w]
                          rfl
                         refine pure_ (i := 24) (N := some 183) (v := ?_) (a' := ?_) #[true,true,true,true,true,true,true,true,true,true,true,true,true,true,true,true,true,true,true,true,true,true,true,true,true,false,false,false,false,false,false,false,false,false,false,false,false,false,false,false,false] rfl rfl (any_of HT_.out (by kernel_rfl)) (fun _ _ _ h => h) (Or.inl ⟨by rfl, ?_⟩) ?_ ?_
                         rotate_left
                         ·intro w'
                          go_simp
                          with_reducible rfl
                         rotate_left
                         ·simp only [Act.put, sA, sB, sC, i64_w, i32_w]
                          rfl
                         refine pure_ (i := 28) (N := some 187) (v := ?_) (a' := ?_) #[true,true,true,true,true,true,true,true,true,true,true,true,true,true,true,true,true,true,true,true,true,true,true,true,true,false,false,false,true,false,false,false,false,false,false,false,false,false,false,false,false] rfl rfl (any_of HT_.out (by kernel_rfl)) (fun _ _ _ h => h) (Or.inl ⟨by rfl, ?_⟩) ?_ ?_
                         rotate_left
                         ·intro w'
                          go_simp
                          with_reducible rfl
                         rotate_left
                         ·simp only [Act.put, sA, sB, sC, i64_w, i32_w]
                          rfl
                         refine pure_ (i := 30) (N := some 189) (v := ?_) (a' := ?_) #[true,true,true,true,true,true,true,true,true,true,true,true,true,true,true,true,true,true,true,true,true,true,true,true,true,false,false,false,true,false,true,false,false,false,false,false,false,false,false,false,false] rfl rfl (any_of HT_.out (by kernel_rfl)) (fun _ _ _ h => h) (Or.inl ⟨by rfl, ?_⟩) ?_ ?_
                         rotate_left
                         ·intro w'
                          go_simp
                          with_reducible rfl
                         rotate_left
                         ·simp only [Act.put, sA, sB, sC, i64_w, i32_w]
                          rfl
                         refine take_ (i := 25) (N := some 184) (v := ?_) (a' := ?_) #[true,true,true,true,true,true,true,true,true,true,true,true,true,true,true,true,true,true,true,true,true,true,true,true,true,true,false,false,true,false,true,false,false,false,false,false,false,false,false,false,false] rfl rfl (take_ofW HT_.out HW_.out (by kernel_rfl)) (fun _ _ _ h => h) (Or.inl ⟨by rfl, ?_⟩) hHeld ?_ ?_
                         rotate_left
                         ·rintro w' ⟨s0, s1, s2, s3, s4, s5, s6, s7, s8, s9, s10, s11, s12⟩
                          go_simp
                          with_reducible rfl
                         rotate_left
                         ·simp only [Act.put, sA, sB, sC, i64_w, i32_w]
                          rfl
                         refine take_ (i := 26) (N := some 185) (v := ?_) (a' := ?_) #[true,true,true,true,true,true,true,true,true,true,true,true,true,true,true,true,true,true,true,true,true,true,true,true,true,true,true,false,true,false,true,false,false,false,false,false,false,false,false,false,false] rfl rfl (take_ofW HT_.out HW_.out (by kernel_rfl)) (fun _ _ _ h => h) (Or.inl ⟨by rfl, ?_⟩) hHeld ?_ ?_
                         rotate_left
                         ·rintro w' ⟨s0, s1, s2, s3, s4, s5, s6, s7, s8, s9, s10, s11, s12⟩
                          go_simp
                          with_reducible rfl
                         rotate_left
                         ·simp only [Act.put, sA, sB, sC, i64_w, i32_w]
                          rfl
                         refine take_ (i := 29) (N := some 188) (v := ?_) (a' := ?_) #[true,true,true,true,true,true,true,true,true,true,true,true,true,true,true,true,true,true,true,true,true,true,true,true,true,true,true,false,true,true,true,false,false,false,false,false,false,false,false,false,false] rfl rfl (take_ofW HT_.out HW_.out (by kernel_rfl)) (fun _ _ _ h => h) (Or.inl ⟨by rfl, ?_⟩) hHeld ?_ ?_
                         rotate_left
                         ·rintro w' ⟨s0, s1, s2, s3, s4, s5, s6, s7, s8, s9, s10, s11, s12⟩
                          go_simp
                          with_reducible rfl
                         rotate_left
                         ·simp only [Act.put, sA, sB, sC, i64_w, i32_w]
                          rfl
                         refine take_ (i := 31) (N := some 190) (v := ?_) (a' := ?_) #[true,true,true,true,true,true,true,true,true,true,true,true,true,true,true,true,true,true,true,true,true,true,true,true,true,true,true,false,true,true,true,true,false,false,false,false,false,false,false,false,false] rfl rfl (take_ofW HT_.out HW_.out (by kernel_rfl)) (fun _ _ _ h => h) (Or.inl ⟨by rfl, ?_⟩) hHeld ?_ ?_
                         rotate_left
                         ·rintro w' ⟨s0, s1, s2, s3, s4, s5, s6, s7, s8, s9, s10, s11, s12⟩
                          go_simp
                          with_reducible rfl
                         rotate_left
                         ·simp only [Act.put, sA, sB, sC, i64_w, i32_w]
                          rfl
                         refine pure_ (i := 32) (N := some 191) (v := ?_) (a' := ?_) #[true,true,true,true,true,true,true,true,true,true,true,true,true,true,true,true,true,true,true,true,true,true,true,true,true,true,true,false,true,true,true,true,true,false,false,false,false,false,false,false,false] rfl rfl (any_of HT_.out (by kernel_rfl)) (fun _ _ _ h => h) (Or.inl ⟨by rfl, ?_⟩) ?_ ?_
                         rotate_left
                         ·intro w'
                          go_simp
                          with_reducible rfl
                         rotate_left
                         ·simp only [Act.put, sA, sB, sC, i64_w, i32_w]
                          rfl
                         refine one_ (i := 27) (N := some 186) #[true,true,true,true,true,true,true,true,true,true,true,true,true,true,true,true,true,true,true,true,true,true,true,true,true,true,true,true,true,true,true,true,true,false,false,false,false,false,false,false,false] rfl rfl (one_of HT_.out (by kernel_rfl)) (by decide) (fun K hK => ?_)
                         refine goes_ Try.func20 (by kernel_rfl) rfl #[.agg #[.int .i64 a3_0, .int .i64 a3_1], .agg #[.int .i64 a1_0, .int .i64 a1_1]] (by rfl) rfl rfl (by (try simp only [List.map_toArray, List.map_cons, List.map_nil]); first | done | rfl | (simp only [List.length_drop, List.length_take]; rfl)) ?_
                         with_reducible refine (gate_Gate_Ready.calls a3_0 a3_1 a1_0 a1_1 t149 _ A226.out).mono ?_
                         rintro e w263 ⟨rfl, hb⟩
                         refine ⟨_, rfl, ?_⟩
                         have n0_ := Aside0.mk (blk_below (g := gb131) (o := .cells #[.int .i64 a0_0, .int .i64 a0_1, .int .i64 a0_2] 23 (0, 0)) (by (with_reducible repeat (first | refine blk_drewN ?_ _ | refine blk_drew ?_ | refine blk_alloc ?_ _)); exact BK131.out) hb)
                         have n1_ := Aside0.mk (blk_below (g := gb132) (o := .cells #[.int .i64 a1_0, .int .i64 a1_1] 25 (0, 0)) (by (with_reducible repeat (first | refine blk_drewN ?_ _ | refine blk_drew ?_ | refine blk_alloc ?_ _)); exact BK132.out) hb)
                         have n2_ := Aside0.mk (blk_below (g := gb133) (o := .cells #[.int .i64 a2_0, .int .i64 a2_1] 25 (0, 0)) (by (with_reducible repeat (first | refine blk_drewN ?_ _ | refine blk_drew ?_ | refine blk_alloc ?_ _)); exact BK133.out) hb)
                         have n3_ := Aside0.mk (blk_below (g := gb134) (o := .cells #[.int .i64 a3_0, .int .i64 a3_1] 37 (0, 0)) (by (with_reducible repeat (first | refine blk_drewN ?_ _ | refine blk_drew ?_ | refine blk_alloc ?_ _)); exact BK134.out) hb)
                         have n4_ := Aside0.mk (blk_below (g := gb140) (o := .cells #[.int .i64 t138, .int .i64 t139] 37 (0, 0)) (by (with_reducible repeat (first | refine blk_drewN ?_ _ | refine blk_drew ?_ | refine blk_alloc ?_ _)); exact BK140.out) hb)
                         have n5_ := Aside0.mk (blk_below (g := gb144) (o := .cells #[.int .i64 t141, .int .i64 t142] 37 (0, 0)) (by (with_reducible repeat (first | refine blk_drewN ?_ _ | refine blk_drew ?_ | refine blk_alloc ?_ _)); exact BK144.out) hb)
                         have n6_ := Aside0.mk (blk_below (g := gb145) (o := .cells #[.int .i64 a3_0, .int .i64 a3_1] 37 (0, 0)) (by (with_reducible repeat (first | refine blk_drewN ?_ _ | refine blk_drew ?_ | refine blk_alloc ?_ _)); exact BK145.out) hb)
                         have n7_ := Aside0.mk (below_step (by repeat (first | (with_reducible first | exact HB.out | apply below_alloc | apply pw_below_drewN | apply below_drew1 | refine below_set ?_ GE131.out | refine below_set ?_ GE132.out | refine below_set ?_ GE133.out | refine below_set ?_ GE134.out | refine below_set ?_ GE140.out | refine below_set ?_ GE144.out | refine below_set ?_ GE145.out) | exact HB.out)) hb)
                         clear BK131
                         clear BK132
                         clear BK133
                         clear BK134
                         clear BK140
                         clear BK144
                         clear BK145
                         clear HB
                         have BK131 := n0_
                         have BK132 := n1_
                         have BK133 := n2_
                         have BK134 := n3_
                         have BK140 := n4_
                         have BK144 := n5_
                         have BK145 := n6_
                         have HB := n7_
                         clear n0_ n1_ n2_ n3_ n4_ n5_ n6_ n7_
                         (try clear hb)
                         (try clear hb2)
                         (try clear hk)
                         (try clear hi)
                         refine hK.out _ _ ⟨(blk_cell BK131.out 0).trans rfl, (blk_cell BK131.out 1).trans rfl, (blk_cell BK131.out 2).trans rfl, (blk_cell BK132.out 0).trans rfl, (blk_cell BK132.out 1).trans rfl, (blk_cell BK140.out 0).trans rfl, (blk_cell BK140.out 1).trans rfl, (blk_cell BK144.out 0).trans rfl, (blk_cell BK144.out 1).trans rfl, (blk_cell BK145.out 0).trans rfl, (blk_cell BK145.out 1).trans rfl, (blk_cell BK134.out 0).trans rfl, (blk_cell BK134.out 1).trans rfl⟩ (fun hHeld => ?_)
                         clear hK K
                         refine norm_ (a' := ?_) ?_ ?_
                         rotate_left
                         ·show Act.put _ (some 186) _ = _
                          simp only [Act.put, sA, sB, sC, i64_w, i32_w]
                          rfl
                         refine pure_ (i := 33) (N := some 192) (v := ?_) (a' := ?_) #[true,true,true,true,true,true,true,true,true,true,true,true,true,true,true,true,true,true,true,true,true,true,true,true,true,true,true,true,true,true,true,true,true,true,false,false,false,false,false,false,false] rfl rfl (any_of HT_.out (by kernel_rfl)) (fun _ _ _ h => h) (Or.inl ⟨by rfl, ?_⟩) ?_ ?_
                         rotate_left
                         ·intro w'
                          go_simp
                          with_reducible rfl
                         rotate_left
                         ·simp only [Act.put, sA, sB, sC, i64_w, i32_w]
                          rfl
                         refine pure_ (i := 34) (N := some 193) (v := ?_) (a' := ?_) #[true,true,true,true,true,true,true,true,true,true,true,true,true,true,true,true,true,true,true,true,true,true,true,true,true,true,true,true,true,true,true,true,true,true,true,false,false,false,false,false,false] rfl rfl (any_of HT_.out (by kernel_rfl)) (fun _ _ _ h => h) (Or.inl ⟨by rfl, ?_⟩) ?_ ?_
                         rotate_left
                         ·intro w'
                          go_simp
                          with_reducible rfl
                         rotate_left
                         ·simp only [Act.put, sA, sB, sC, i64_w, i32_w]
                          rfl
                         refine take_ (i := 35) (N := some 194) (v := ?_) (a' := ?_) #[true,true,true,true,true,true,true,true,true,true,true,true,true,true,true,true,true,true,true,true,true,true,true,true,true,true,true,true,true,true,true,true,true,true,true,true,false,false,false,false,false] rfl rfl (take_ofW HT_.out HW_.out (by kernel_rfl)) (fun _ _ _ h => h) (Or.inl ⟨by rfl, ?_⟩) hHeld ?_ ?_
                         rotate_left
                         ·rintro w' ⟨s0, s1, s2, s3, s4, s5, s6, s7, s8, s9, s10, s11, s12⟩
                          go_simp
                          with_reducible rfl
                         rotate_left
                         ·simp only [Act.put, sA, sB, sC, i64_w, i32_w]
                          rfl
                         refine pure_ (i := 36) (N := some 195) (v := ?_) (a' := ?_) #[true,true,true,true,true,true,true,true,true,true,true,true,true,true,true,true,true,true,true,true,true,true,true,true,true,true,true,true,true,true,true,true,true,true,true,true,true,false,false,false,false] rfl rfl (any_of HT_.out (by kernel_rfl)) (fun _ _ _ h => h) (Or.inl ⟨by rfl, ?_⟩) ?_ ?_
                         rotate_left
                         ·intro w'
                          go_simp
                          with_reducible rfl
                         rotate_left
                         ·simp only [Act.put, sA, sB, sC, i64_w, i32_w]
                          rfl
                         refine pure_ (i := 37) (N := some 196) (v := ?_) (a' := ?_) #[true,true,true,true,true,true,true,true,true,true,true,true,true,true,true,true,true,true,true,true,true,true,true,true,true,true,true,true,true,true,true,true,true,true,true,true,true,true,false,false,false] rfl rfl (any_of HT_.out (by kernel_rfl)) (fun _ _ _ h => h) (Or.inl ⟨by rfl, ?_⟩) ?_ ?_
                         rotate_left
                         ·intro w'
                          go_simp
                          with_reducible rfl
                         rotate_left
                         ·simp only [Act.put, sA, sB, sC, i64_w, i32_w]
                          rfl
                         refine pure_ (i := 38) (N := some 197) (v := ?_) (a' := ?_) #[true,true,true,true,true,true,true,true,true,true,true,true,true,true,true,true,true,true,true,true,true,true,true,true,true,true,true,true,true,true,true,true,true,true,true,true,true,true,true,false,false] rfl rfl (any_of HT_.out (by kernel_rfl)) (fun _ _ _ h => h) (Or.inl ⟨by rfl, ?_⟩) ?_ ?_
                         rotate_left
                         ·intro w'
                          go_simp
                          with_reducible rfl
                         rotate_left
                         ·simp only [Act.put, sA, sB, sC, i64_w, i32_w]
                          rfl
                         refine pure_ (i := 39) (N := some 198) (v := ?_) (a' := ?_) #[true,true,true,true,true,true,true,true,true,true,true,true,true,true,true,true,true,true,true,true,true,true,true,true,true,true,true,true,true,true,true,true,true,true,true,true,true,true,true,true,false] rfl rfl (any_of HT_.out (by kernel_rfl)) (fun _ _ _ h => h) (Or.inl ⟨by rfl, ?_⟩) ?_ ?_
                         rotate_left
                         ·intro w'
                          go_simp
                          with_reducible rfl
                         rotate_left
                         ·simp only [Act.put, sA, sB, sC, i64_w, i32_w]
                          rfl
                         refine pure_ (i := 40) (N := some 18) (v := ?_) (a' := ?_) #[true,true,true,true,true,true,true,true,true,true,true,true,true,true,true,true,true,true,true,true,true,true,true,true,true,true,true,true,true,true,true,true,true,true,true,true,true,true,true,true,true] rfl rfl (any_of HT_.out (by kernel_rfl)) (fun _ _ _ h => h) (Or.inl ⟨by rfl, ?_⟩) ?_ ?_
                         rotate_left
                         ·intro w'
                          go_simp
                          with_reducible rfl
                         rotate_left
                         ·simp only [Act.put, sA, sB, sC, i64_w, i32_w]
                          rfl
                         refine done_ (done_of HT_.out (by kernel_rfl)) ?_
                         try go_wp2
                         go_ret
                         exact ⟨by first | rfl | (simp [errW_none, errW_some] <;> rfl) | (simp [*, errW_none, errW_some] <;> rfl), by repeat (first | (with_reducible first | exact HB.out | apply below_alloc | apply pw_below_drewN | apply below_drew1 | refine below_set ?_ GE131.out | refine below_set ?_ GE132.out | refine below_set ?_ GE133.out | refine below_set ?_ GE134.out | refine below_set ?_ GE140.out | refine below_set ?_ GE144.out | refine below_set ?_ GE145.out) | exact HB.out)⟩
                       ·rw [if_neg c225] at H
                        have c225b0 : (t141 == a3_0 && (t142 == a3_1)) = false := by simpa using c225
                        (try (have c225b1 : decide (t141 = a3_0 && (t142 == a3_1)) = false := by simpa using c225))
                        (try (have c225b2 : (t141 == a3_0 && (t142 == a3_1)) = false := by simpa using c225))
                        (try (have c225b3 : ¬ (t141 = a3_0 && (t142 == a3_1)) := by simpa using c225))
                        clear c225
                        exact absurd (Option.some.inj H) (by rw [HT.out]; decide)
                      ·rw [if_neg c224] at H
                       have c224b0 : (t143 == false) = false := by simpa using c224
                       (try (have c224b1 : decide (t143 = false) = false := by simpa using c224))
                       (try (have c224b2 : (t143 == false) = false := by simpa using c224))
                       (try (have c224b3 : ¬ (t143 = false) := by simpa using c224))
                       clear c224
                       exact absurd (Option.some.inj H) (by rw [HT.out]; decide)
                     ·rw [if_neg c223] at H
                      have c223b0 : (t138 == x25_85 && (t139 == x26_120)) = false := by simpa using c223
                      (try (have c223b1 : decide (t138 = x25_85 && (t139 == x26_120)) = false := by simpa using c223))
                      (try (have c223b2 : (t138 == x25_85 && (t139 == x26_120)) = false := by simpa using c223))
                      (try (have c223b3 : ¬ (t138 = x25_85 && (t139 == x26_120)) := by simpa using c223))
                      clear c223
                      exact absurd (Option.some.inj H) (by rw [HT.out]; decide)
                    ·rw [if_neg c222] at H
                     have c222b0 : (t148 == x23_82) = false := beq_eq_false_iff_ne.mpr c222
                     have c222b1 : (t148 != x23_82) = true := bne_iff_ne.mpr c222
                     exact absurd (Option.some.inj H) (by rw [HT.out]; decide)
 ·replace c11 := Bool.eq_false_iff.mpr c11
  subst c11
  have H1 : (some false) = some r := by rw [if_neg (show ¬ (false = true) by decide)] at H; exact H
  clear H
  have H := H1
  clear H1
  exact absurd (Option.some.inj H) (by rw [HT.out]; decide)
end Go.Proofs.Ytcegefhjgkoknaa.G
