-- Written by a program of this session (turned from the kit's print.py) out of the translation. Not trusted: Lean checks it.
import Derived.Test.YtgoagpjmnobjhaaQx0
import Derived.Test.YtgoagpjmnobjhaaQx2
import Derived.Test.YtgoagpjmnobjhaaQx9
import Derived.Test.YtgoagpjmnobjhaaQx11
namespace Go.Proofs.Ytgoagpjmnobjhaa.Q
open Go.RowKit Go.Proofs.YtgoagpjmnobjhaaW.PrintWords Go.Proofs.YtgoagpjmnobjhaaW.PrintLast Go.Proofs.YtgoagpjmnobjhaaW.PrintMore
attribute [local go_sem] max2_int min2_int max_two min_two max_three min_three max_four min_four   -- for this text's walks alone
set_option linter.unusedVariables false
set_option linter.unusedSimpArgs false

attribute [local go_sem] fld24_0 fld24_1 fld37_0 fld37_1 fld37_2 fld44_0 fld44_1 fld44_2
attribute [local go_sem high] eqA37
/-! ### paternosterlaw07_CarSlow: function 9 -/
def paternosterlaw07_CarSlow.l0 : Nat → Int → Int → Int → Int → Int → Int → Option (Bool)
  | 0, _, _, _, _, _, _ => none
  | k + 1, x1, x7, x9, x216000, x216001, x216002 => if x9 < 9 then ((car_Car_Step.f x216000 x216001 x216002 0 false x1).bind fun bt219 => (if x7 > 0 then (if bt219.2.1 = (wrap64 (x7 - 1)) then (paternosterlaw07_CarSlow.l0 k x1 (wrap64 (x7 - 1)) (wrap64 (x9 + 1)) bt219.1 bt219.2.1 bt219.2.2) else (if bt219.2.1 = 0 then (paternosterlaw07_CarSlow.l0 k x1 (wrap64 (x7 - 1)) (wrap64 (x9 + 1)) bt219.1 bt219.2.1 bt219.2.2) else (some false))) else (if x7 < 0 then (if bt219.2.1 = (wrap64 (x7 + 1)) then (paternosterlaw07_CarSlow.l0 k x1 (wrap64 (x7 + 1)) (wrap64 (x9 + 1)) bt219.1 bt219.2.1 bt219.2.2) else (if bt219.2.1 = 0 then (paternosterlaw07_CarSlow.l0 k x1 (wrap64 (x7 + 1)) (wrap64 (x9 + 1)) bt219.1 bt219.2.1 bt219.2.2) else (some false))) else (if bt219.2.1 = x7 then (paternosterlaw07_CarSlow.l0 k x1 x7 (wrap64 (x9 + 1)) bt219.1 bt219.2.1 bt219.2.2) else (if bt219.2.1 = 0 then (paternosterlaw07_CarSlow.l0 k x1 x7 (wrap64 (x9 + 1)) bt219.1 bt219.2.1 bt219.2.2) else (some false)))))) else (if x216001 = 0 then ((car_Car_Step.f x216000 x216001 x216002 0 false x1).bind fun bt216 => (some (bt216.1 == x216000 && (bt216.2.1 == x216001 && (bt216.2.2 == x216002))))) else (some false))
def paternosterlaw07_CarSlow.f (k : Nat) (a0_0 : Int) (a0_1 : Int) (a0_2 : Int) (a1 : Int) : Option (Bool) := (paternosterlaw07_awake.f k).bind fun t213 => (if t213 = true then ((paternosterlaw07_may.f a0_0 a0_1 a0_2).bind fun t214 => (if t214 = true then (paternosterlaw07_CarSlow.l0 k a1 a0_1 0 a0_0 a0_1 a0_2) else (some true))) else (some false))
theorem paternosterlaw07_CarSlow.mono_l : ∀ k, (∀ y0 y1 y2 y3 y4 y5, LeO (paternosterlaw07_CarSlow.l0 k y0 y1 y2 y3 y4 y5) (paternosterlaw07_CarSlow.l0 (k + 1) y0 y1 y2 y3 y4 y5))
  | 0 => fun _ _ _ _ _ _ r h => by simp [paternosterlaw07_CarSlow.l0] at h
  | k + 1 => by
    have ih0 := paternosterlaw07_CarSlow.mono_l k
    · intro y0 y1 y2 y3 y4 y5
      unfold paternosterlaw07_CarSlow.l0
      repeat' first
      | (with_reducible exact ih0 _ _ _ _ _ _)
      | (with_reducible exact paternosterlaw07_awake.mono _)
      | (with_reducible exact LeO.refl _)
      | (with_reducible exact LeO.none _)
      | (with_reducible refine LeO.ite ?_ ?_)
      | (with_reducible refine LeO.bind ?_ (fun _ => ?_))
      | exact ih0 _ _ _ _ _ _
      | exact paternosterlaw07_awake.mono _
      | exact LeO.none _
      | refine LeO.ite ?_ ?_
      | refine LeO.bind ?_ (fun _ => ?_)
theorem paternosterlaw07_CarSlow.mono : ∀ a0 a1 a2 a3 k, LeO (paternosterlaw07_CarSlow.f k a0 a1 a2 a3) (paternosterlaw07_CarSlow.f (k + 1) a0 a1 a2 a3) := by
  intro a0 a1 a2 a3 k
  have ih0 := paternosterlaw07_CarSlow.mono_l k
  unfold paternosterlaw07_CarSlow.f
  repeat' first
      | (with_reducible exact ih0 _ _ _ _ _ _)
      | (with_reducible exact paternosterlaw07_awake.mono _)
      | (with_reducible exact LeO.refl _)
      | (with_reducible exact LeO.none _)
      | (with_reducible refine LeO.ite ?_ ?_)
      | (with_reducible refine LeO.bind ?_ (fun _ => ?_))
      | exact ih0 _ _ _ _ _ _
      | exact paternosterlaw07_awake.mono _
      | exact LeO.none _
      | refine LeO.ite ?_ ?_
      | refine LeO.bind ?_ (fun _ => ?_)
def paternosterlaw07_CarSlow.T19 : Bool × List (List Nat × List Nat) := (true, [([], []), ([0], [0]), ([1], [1]), ([2], [2]), ([3], [3]), ([3], [3]), ([4, 5, 3, 3], [3, 4, 5]), ([3], [3]), ([6, 7, 3], [3, 6, 7]), ([3, 8], [3, 8]), ([9, 6, 0, 1, 2, 3, 4, 5, 6, 7, 8, 9], [9])])
def paternosterlaw07_CarSlow.B19 : List Nat := [0, 1, 3, 7, 15, 15, 63, 15, 255, 511, 1023]
theorem paternosterlaw07_CarSlow.tab19 : rtab .any (opsOf Try.f9 19) = paternosterlaw07_CarSlow.T19 := by kernel_rfl
theorem paternosterlaw07_CarSlow.bits19 : waitsOk paternosterlaw07_CarSlow.T19.2 paternosterlaw07_CarSlow.B19 = true := by kernel_rfl
set_option maxHeartbeats 8000000 in
set_option maxRecDepth 100000 in
theorem paternosterlaw07_CarSlow.calls (k : Nat) (a0_0 : Int) (a0_1 : Int) (a0_2 : Int) (a1 : Int) (r : Bool) (w : World) (hT : r = true) (h : paternosterlaw07_CarSlow.f k a0_0 a0_1 a0_2 a1 = some r) :
    Calls Try.prog 9 #[.agg #[.int .i64 a0_0, .int .i64 a0_1, .int .i64 a0_2], .int .i64 a1] w fun e w' => e = .returned (.bool r) ∧ Below w.heap.size w w' := by
  have hu37 := Try.underlying37
  have HT := Aside0.mk hT
  clear hT
  have HB := Aside0.mk (Below.refl w.heap.size w)
  have H : ((paternosterlaw07_awake.f k).bind fun t213 => (if t213 = true then ((paternosterlaw07_may.f a0_0 a0_1 a0_2).bind fun t214 => (if t214 = true then (paternosterlaw07_CarSlow.l0 k a1 a0_1 0 a0_0 a0_1 a0_2) else (some true))) else (some false))) = some r := h
  clear h
  replace H := Option.bind_eq_some_iff.mp H
  obtain ⟨t213, A30, H⟩ := H
  replace H : (if t213 = true then ((paternosterlaw07_may.f a0_0 a0_1 a0_2).bind fun t214 => (if t214 = true then (paternosterlaw07_CarSlow.l0 k a1 a0_1 0 a0_0 a0_1 a0_2) else (some true))) else (some false)) = some r := H
  have A3 := Aside0.mk A30
  clear A30
  by_cases c4 : t213 = true
  · subst c4
    have H1 : ((paternosterlaw07_may.f a0_0 a0_1 a0_2).bind fun t214 => (if t214 = true then (paternosterlaw07_CarSlow.l0 k a1 a0_1 0 a0_0 a0_1 a0_2) else (some true))) = some r := by rw [if_pos rfl] at H; exact H
    clear H
    have H := H1
    clear H1
    replace H := Option.bind_eq_some_iff.mp H
    obtain ⟨t214, A50, H⟩ := H
    replace H : (if t214 = true then (paternosterlaw07_CarSlow.l0 k a1 a0_1 0 a0_0 a0_1 a0_2) else (some true)) = some r := H
    have A5 := Aside0.mk A50
    clear A50
    by_cases c6 : t214 = true
    · subst c6
      have H1 : (paternosterlaw07_CarSlow.l0 k a1 a0_1 0 a0_0 a0_1 a0_2) = some r := by rw [if_pos rfl] at H; exact H
      clear H
      have H := H1
      clear H1
      have H' := Aside0.mk H
      clear H
      go_enter Try.func9, Try.ntmps9
      go_wp2_with (first | ((with_reducible refine gate_dst (N := 2) rfl ?_); refine box_event ?hg (N := 2) ?hd (cs := #[.int .i64 a0_0, .int .i64 a0_1, .int .i64 a0_2]) (t := 37) ?hr ?_; (case hd => rfl); (case hg => rfl); (case hr => first | (go_simp; done) | (go_simp; rfl)); intro gb212 hg w7 hbox hb; have n0_ := Aside0.mk (below_step (by repeat (first | (with_reducible first | exact HB.out | apply below_alloc | apply pw_below_drewN | apply below_drew1) | exact HB.out)) hb); have n1_ := Aside0.mk (hbox); have n2_ := Aside0.mk ((by rw [hg]; exact (below_size (by repeat (first | (with_reducible first | exact HB.out | apply below_alloc | apply pw_below_drewN | apply below_drew1) | exact HB.out))) : w.heap.size ≤ gb212)); have n3_ := Aside0.mk ((by rw [hg]; exact (below_size (by repeat (first | (with_reducible first | exact HB.out | apply below_alloc | apply pw_below_drewN | apply below_drew1) | exact HB.out))) : w.heap.size ≤ gb212)); clear HB; have HB := n0_; have BK212 := n1_; have GW212 := n2_; have GE212 := n3_; clear n0_ n1_ n2_ n3_; clear hb hbox hg) | ((with_reducible refine gate_callee (f := 18) rfl ?_); refine goesL_ (some 10) rfl rfl Try.func18 (by kernel_rfl) rfl #[] rfl (by (try simp only [List.map_toArray, List.map_cons, List.map_nil]); first | done | rfl | (simp only [List.length_drop, List.length_take]; rfl)) ?_; (with_reducible refine (paternosterlaw07_awake.calls k  true _ A3.out).mono ?_); rintro e w8 ⟨rfl, hb⟩; refine ⟨_, rfl, ?_⟩; have n0_ := Aside0.mk (blk_below (g := gb212) (o := .cells #[.int .i64 a0_0, .int .i64 a0_1, .int .i64 a0_2] 37 (0, 0)) (by (with_reducible repeat (first | refine blk_drewN ?_ _ | refine blk_drew ?_ | refine blk_alloc ?_ _)); exact BK212.out) hb); have n1_ := Aside0.mk (below_step (by repeat (first | (with_reducible first | exact HB.out | apply below_alloc | apply pw_below_drewN | apply below_drew1 | refine below_set ?_ GE212.out) | exact HB.out)) hb); clear BK212; clear HB; have BK212 := n0_; have HB := n1_; clear n0_ n1_; (try clear hb); (try clear hb2); (try clear hk); (try clear hi); have hcz9_0 : w8.cell? ⟨gb212, 0, none⟩ = some (.int .i64 a0_0) := (blk_cell BK212.out 0).trans rfl; have hcz9_1 : w8.cell? ⟨gb212, 1, none⟩ = some (.int .i64 a0_1) := (blk_cell BK212.out 1).trans rfl; have hcz9_2 : w8.cell? ⟨gb212, 2, none⟩ = some (.int .i64 a0_2) := (blk_cell BK212.out 2).trans rfl; have hfz9_0 := blk_frozen BK212.out 0; have hfz9_1 := blk_frozen BK212.out 1; have hfz9_2 := blk_frozen BK212.out 2) | ((with_reducible refine gate_callee (f := 21) rfl ?_); refine goesL_ (some 14) rfl rfl Try.func21 (by kernel_rfl) rfl #[.agg #[.int .i64 a0_0, .int .i64 a0_1, .int .i64 a0_2]] rfl (by (try simp only [List.map_toArray, List.map_cons, List.map_nil]); first | done | rfl | (simp only [List.length_drop, List.length_take]; rfl)) ?_; (with_reducible refine (paternosterlaw07_may.calls a0_0 a0_1 a0_2 true _ A5.out).mono ?_); rintro e w10 ⟨rfl, hb⟩; refine ⟨_, rfl, ?_⟩; have n0_ := Aside0.mk (blk_below (g := gb212) (o := .cells #[.int .i64 a0_0, .int .i64 a0_1, .int .i64 a0_2] 37 (0, 0)) (by (with_reducible repeat (first | refine blk_drewN ?_ _ | refine blk_drew ?_ | refine blk_alloc ?_ _)); exact BK212.out) hb); have n1_ := Aside0.mk (below_step (by repeat (first | (with_reducible first | exact HB.out | apply below_alloc | apply pw_below_drewN | apply below_drew1 | refine below_set ?_ GE212.out) | exact HB.out)) hb); clear BK212; clear HB; have BK212 := n0_; have HB := n1_; clear n0_ n1_; (try clear hb); (try clear hb2); (try clear hk); (try clear hi); have hcz11_0 : w10.cell? ⟨gb212, 0, none⟩ = some (.int .i64 a0_0) := (blk_cell BK212.out 0).trans rfl; have hcz11_1 : w10.cell? ⟨gb212, 1, none⟩ = some (.int .i64 a0_1) := (blk_cell BK212.out 1).trans rfl; have hcz11_2 : w10.cell? ⟨gb212, 2, none⟩ = some (.int .i64 a0_2) := (blk_cell BK212.out 2).trans rfl; have hfz11_0 := blk_frozen BK212.out 0; have hfz11_1 := blk_frozen BK212.out 1; have hfz11_2 := blk_frozen BK212.out 2) | ((with_reducible refine gate_dst (N := 8) rfl ?_); refine box_event ?hg (N := 8) ?hd (cs := #[.int .i64 0, .int .i64 0, .int .i64 0]) (t := 37) ?hr ?_; (case hd => rfl); (case hg => rfl); (case hr => first | (go_simp; done) | (go_simp; rfl)); intro gb215 hg w12 hbox hb; have n0_ := Aside0.mk (blk_below (g := gb212) (o := .cells #[.int .i64 a0_0, .int .i64 a0_1, .int .i64 a0_2] 37 (0, 0)) (by (with_reducible repeat (first | refine blk_drewN ?_ _ | refine blk_drew ?_ | refine blk_alloc ?_ _)); exact BK212.out) hb); have n1_ := Aside0.mk (below_step (by repeat (first | (with_reducible first | exact HB.out | apply below_alloc | apply pw_below_drewN | apply below_drew1 | refine below_set ?_ GE212.out) | exact HB.out)) hb); have n2_ := Aside0.mk (hbox); have n3_ := Aside0.mk ((by rw [hg]; exact (below_size (by repeat (first | (with_reducible first | exact HB.out | apply below_alloc | apply pw_below_drewN | apply below_drew1 | refine below_set ?_ GE212.out) | exact HB.out))) : w.heap.size ≤ gb215)); have n4_ := Aside0.mk ((by rw [hg]; exact (below_size (by repeat (first | (with_reducible first | exact HB.out | apply below_alloc | apply pw_below_drewN | apply below_drew1 | refine below_set ?_ GE212.out) | exact HB.out))) : w.heap.size ≤ gb215)); have n5_ := Aside0.mk ((by rw [hg]; exact Nat.ne_of_lt (blk_lt (g := gb212) (o := .cells #[.int .i64 a0_0, .int .i64 a0_1, .int .i64 a0_2] 37 (0, 0)) (by (with_reducible repeat (first | refine blk_drewN ?_ _ | refine blk_drew ?_ | refine blk_alloc ?_ _)); exact BK212.out)) : gb212 ≠ gb215)); have n6_ := Aside0.mk ((by rw [hg]; exact Nat.ne_of_gt (blk_lt (g := gb212) (o := .cells #[.int .i64 a0_0, .int .i64 a0_1, .int .i64 a0_2] 37 (0, 0)) (by (with_reducible repeat (first | refine blk_drewN ?_ _ | refine blk_drew ?_ | refine blk_alloc ?_ _)); exact BK212.out)) : gb215 ≠ gb212)); clear BK212; clear HB; have BK212 := n0_; have HB := n1_; have BK215 := n2_; have GW215 := n3_; have GE215 := n4_; have NB212_215 := n5_; have NB215_212 := n6_; clear n0_ n1_ n2_ n3_ n4_ n5_ n6_; clear hb hbox hg; have hnb13 := NB215_212.out; have hnc13 := NB212_215.out; have hcz14_0 : w12.cell? ⟨gb215, 0, none⟩ = some (.int .i64 0) := (blk_cell BK215.out 0).trans rfl; have hcz14_1 : w12.cell? ⟨gb215, 1, none⟩ = some (.int .i64 0) := (blk_cell BK215.out 1).trans rfl; have hcz14_2 : w12.cell? ⟨gb215, 2, none⟩ = some (.int .i64 0) := (blk_cell BK215.out 2).trans rfl; have hfz14_0 := blk_frozen BK215.out 0; have hfz14_1 := blk_frozen BK215.out 1; have hfz14_2 := blk_frozen BK215.out 2))
      go_loopg [7, 9] k (fun kq v7 v9 w' => ∃ (x7_1 : Int) (x9_1 : Int) (x216000_1 : Int) (x216001_1 : Int) (x216002_1 : Int), v7 = .int .i64 x7_1 ∧ v9 = .int .i64 x9_1 ∧ Aside0 (paternosterlaw07_CarSlow.l0 kq a1 x7_1 x9_1 x216000_1 x216001_1 x216002_1 = some r) ∧ Aside0 (kq ≤ k) ∧ Aside0 (w'.heap[gb212]? = some (.cells #[.int .i64 a0_0, .int .i64 a0_1, .int .i64 a0_2] 37 (0, 0))) ∧ Aside0 (w'.heap[gb215]? = some (.cells #[.int .i64 x216000_1, .int .i64 x216001_1, .int .i64 x216002_1] 37 (0, 0))) ∧ Aside0 (Below w.heap.size w w'))
      case atStart => exact ⟨(a0_1), (0), (a0_0), (a0_1), (a0_2), (by first | rfl | (simp; done) | (simp [*]; done)), (by first | rfl | (simp; done) | (simp [*]; done)), H', ⟨Nat.le_refl _⟩, ⟨by (with_reducible repeat (first | refine blk_drewN ?_ _ | refine blk_drew ?_ | refine blk_alloc ?_ _)); refine blk_far ?_ NB212_215.out _; (with_reducible repeat (first | refine blk_drewN ?_ _ | refine blk_drew ?_ | refine blk_alloc ?_ _)); refine blk_far ?_ NB212_215.out _; (with_reducible repeat (first | refine blk_drewN ?_ _ | refine blk_drew ?_ | refine blk_alloc ?_ _)); refine blk_far ?_ NB212_215.out _; (with_reducible repeat (first | refine blk_drewN ?_ _ | refine blk_drew ?_ | refine blk_alloc ?_ _)); exact BK212.out⟩, ⟨by (with_reducible repeat (first | refine blk_drewN ?_ _ | refine blk_drew ?_ | refine blk_alloc ?_ _)); refine blk_put (cs := #[.int .i64 a0_0, .int .i64 a0_1, .int .i64 0]) ?_ 2 _ rfl; (with_reducible repeat (first | refine blk_drewN ?_ _ | refine blk_drew ?_ | refine blk_alloc ?_ _)); refine blk_put (cs := #[.int .i64 a0_0, .int .i64 0, .int .i64 0]) ?_ 1 _ rfl; (with_reducible repeat (first | refine blk_drewN ?_ _ | refine blk_drew ?_ | refine blk_alloc ?_ _)); refine blk_put (cs := #[.int .i64 0, .int .i64 0, .int .i64 0]) ?_ 0 _ rfl; (with_reducible repeat (first | refine blk_drewN ?_ _ | refine blk_drew ?_ | refine blk_alloc ?_ _)); exact BK215.out⟩, ⟨by repeat (first | (with_reducible first | exact HB.out | apply below_alloc | apply pw_below_drewN | apply below_drew1 | refine below_set ?_ GE212.out | refine below_set ?_ GE215.out) | exact HB.out)⟩⟩
      case round =>
        clear H'
        try clear c1
        try clear c2
        try clear p2
        try clear c4
        try clear c6
        try clear c9
        try clear c13
        try clear hcz11_0
        try clear hcz11_1
        try clear hcz11_2
        try clear hcz14_0
        try clear hcz14_1
        try clear hcz14_2
        try clear hcz9_0
        try clear hcz9_1
        try clear hcz9_2
        try clear hfz11_0
        try clear hfz11_1
        try clear hfz11_2
        try clear hfz14_0
        try clear hfz14_1
        try clear hfz14_2
        try clear hfz9_0
        try clear hfz9_1
        try clear hfz9_2
        obtain ⟨x7_1, x9_1, x216000_1, x216001_1, x216002_1, rfl, rfl, HA, HK1, BK212, BK215, HB⟩ := hrel
        cases gk with
        | zero => exact absurd HA.out (by simp [paternosterlaw07_CarSlow.l0])
        | succ k1 =>
          have H := HA.out
          clear HA
          simp only [paternosterlaw07_CarSlow.l0] at H
          by_cases c15 : x9_1 < 9
          · rw [if_pos c15] at H
            have c15b0 : decide (x9_1 < 9) = true := decide_eq_true c15
            clear c15
            replace H := Option.bind_eq_some_iff.mp H
            obtain ⟨⟨t219, t220, t221⟩, A160, H⟩ := H
            replace H : (if x7_1 > 0 then (if t220 = (wrap64 (x7_1 - 1)) then (paternosterlaw07_CarSlow.l0 k1 a1 (wrap64 (x7_1 - 1)) (wrap64 (x9_1 + 1)) t219 t220 t221) else (if t220 = 0 then (paternosterlaw07_CarSlow.l0 k1 a1 (wrap64 (x7_1 - 1)) (wrap64 (x9_1 + 1)) t219 t220 t221) else (some false))) else (if x7_1 < 0 then (if t220 = (wrap64 (x7_1 + 1)) then (paternosterlaw07_CarSlow.l0 k1 a1 (wrap64 (x7_1 + 1)) (wrap64 (x9_1 + 1)) t219 t220 t221) else (if t220 = 0 then (paternosterlaw07_CarSlow.l0 k1 a1 (wrap64 (x7_1 + 1)) (wrap64 (x9_1 + 1)) t219 t220 t221) else (some false))) else (if t220 = x7_1 then (paternosterlaw07_CarSlow.l0 k1 a1 x7_1 (wrap64 (x9_1 + 1)) t219 t220 t221) else (if t220 = 0 then (paternosterlaw07_CarSlow.l0 k1 a1 x7_1 (wrap64 (x9_1 + 1)) t219 t220 t221) else (some false))))) = some r := H
            have A16 := Aside0.mk A160
            clear A160
            by_cases c17 : x7_1 > 0
            · rw [if_pos c17] at H
              have c17b0 : decide (0 < x7_1) = true := decide_eq_true c17
              clear c17
              by_cases c18 : t220 = (wrap64 (x7_1 - 1))
              · rw [if_pos c18] at H
                have c18b0 : (t220 == (wrap64 (x7_1 - 1))) = true := beq_iff_eq.mpr c18
                have c18b1 : (t220 != (wrap64 (x7_1 - 1))) = false := bne_eq_false_iff_eq.mpr c18
                clear c18
                have H' := Aside0.mk H
                clear H
                have hnb19 := NB215_212.out
                have hnc19 := NB212_215.out
                have hcz20_0 : wr.cell? ⟨gb215, 0, none⟩ = some (.int .i64 x216000_1) := (blk_cell BK215.out 0).trans rfl
                have hcz20_1 : wr.cell? ⟨gb215, 1, none⟩ = some (.int .i64 x216001_1) := (blk_cell BK215.out 1).trans rfl
                have hcz20_2 : wr.cell? ⟨gb215, 2, none⟩ = some (.int .i64 x216002_1) := (blk_cell BK215.out 2).trans rfl
                have hfz20_0 := blk_frozen BK215.out 0
                have hfz20_1 := blk_frozen BK215.out 1
                have hfz20_2 := blk_frozen BK215.out 2
                go_wp2_with (first | ((with_reducible refine gate_callee (f := 19) rfl ?_); refine goesL_ (some 26) rfl rfl Try.func19 (by kernel_rfl) rfl #[.agg #[.int .i64 x216000_1, .int .i64 x216001_1, .int .i64 x216002_1], .int .i64 0, .bool false, .int .i64 a1] rfl (by (try simp only [List.map_toArray, List.map_cons, List.map_nil]); first | done | rfl | (simp only [List.length_drop, List.length_take]; rfl)) ?_; (with_reducible refine (car_Car_Step.calls x216000_1 x216001_1 x216002_1 0 false a1 t219 t220 t221 _ A16.out).mono ?_); rintro e w21 ⟨rfl, hb⟩; refine ⟨_, rfl, ?_⟩; have n0_ := Aside0.mk (blk_below (g := gb212) (o := .cells #[.int .i64 a0_0, .int .i64 a0_1, .int .i64 a0_2] 37 (0, 0)) (by (with_reducible repeat (first | refine blk_drewN ?_ _ | refine blk_drew ?_ | refine blk_alloc ?_ _)); exact BK212.out) hb); have n1_ := Aside0.mk (blk_below (g := gb215) (o := .cells #[.int .i64 x216000_1, .int .i64 x216001_1, .int .i64 x216002_1] 37 (0, 0)) (by (with_reducible repeat (first | refine blk_drewN ?_ _ | refine blk_drew ?_ | refine blk_alloc ?_ _)); exact BK215.out) hb); have n2_ := Aside0.mk (below_step (by repeat (first | (with_reducible first | exact HB.out | apply below_alloc | apply pw_below_drewN | apply below_drew1 | refine below_set ?_ GE212.out | refine below_set ?_ GE215.out) | exact HB.out)) hb); clear BK212; clear BK215; clear HB; have BK212 := n0_; have BK215 := n1_; have HB := n2_; clear n0_ n1_ n2_; (try clear hb); (try clear hb2); (try clear hk); (try clear hi); have hcz22_0 : w21.cell? ⟨gb215, 0, none⟩ = some (.int .i64 x216000_1) := (blk_cell BK215.out 0).trans rfl; have hcz22_1 : w21.cell? ⟨gb215, 1, none⟩ = some (.int .i64 x216001_1) := (blk_cell BK215.out 1).trans rfl; have hcz22_2 : w21.cell? ⟨gb215, 2, none⟩ = some (.int .i64 x216002_1) := (blk_cell BK215.out 2).trans rfl; have hfz22_0 := blk_frozen BK215.out 0; have hfz22_1 := blk_frozen BK215.out 1; have hfz22_2 := blk_frozen BK215.out 2))
                go_roundg k1
                case measure => have := HK1.out; omega
                case rel => exact ⟨(wrap64 (x7_1 - 1)), (wrap64 (x9_1 + 1)), (t219), (t220), (t221), (by first | rfl | (simp; done) | (simp [*]; done)), (by first | rfl | (simp; done) | (simp [*]; done)), H', ⟨by have := HK1.out; omega⟩, ⟨by (with_reducible repeat (first | refine blk_drewN ?_ _ | refine blk_drew ?_ | refine blk_alloc ?_ _)); refine blk_far ?_ NB212_215.out _; (with_reducible repeat (first | refine blk_drewN ?_ _ | refine blk_drew ?_ | refine blk_alloc ?_ _)); refine blk_far ?_ NB212_215.out _; (with_reducible repeat (first | refine blk_drewN ?_ _ | refine blk_drew ?_ | refine blk_alloc ?_ _)); refine blk_far ?_ NB212_215.out _; (with_reducible repeat (first | refine blk_drewN ?_ _ | refine blk_drew ?_ | refine blk_alloc ?_ _)); exact BK212.out⟩, ⟨by (with_reducible repeat (first | refine blk_drewN ?_ _ | refine blk_drew ?_ | refine blk_alloc ?_ _)); refine blk_put (cs := #[.int .i64 t219, .int .i64 t220, .int .i64 x216002_1]) ?_ 2 _ rfl; (with_reducible repeat (first | refine blk_drewN ?_ _ | refine blk_drew ?_ | refine blk_alloc ?_ _)); refine blk_put (cs := #[.int .i64 t219, .int .i64 x216001_1, .int .i64 x216002_1]) ?_ 1 _ rfl; (with_reducible repeat (first | refine blk_drewN ?_ _ | refine blk_drew ?_ | refine blk_alloc ?_ _)); refine blk_put (cs := #[.int .i64 x216000_1, .int .i64 x216001_1, .int .i64 x216002_1]) ?_ 0 _ rfl; (with_reducible repeat (first | refine blk_drewN ?_ _ | refine blk_drew ?_ | refine blk_alloc ?_ _)); exact BK215.out⟩, ⟨by repeat (first | (with_reducible first | exact HB.out | apply below_alloc | apply pw_below_drewN | apply below_drew1 | refine below_set ?_ GE212.out | refine below_set ?_ GE215.out) | exact HB.out)⟩⟩
              · rw [if_neg c18] at H
                have c18b0 : (t220 == (wrap64 (x7_1 - 1))) = false := beq_eq_false_iff_ne.mpr c18
                have c18b1 : (t220 != (wrap64 (x7_1 - 1))) = true := bne_iff_ne.mpr c18
                by_cases c23 : t220 = 0
                · rw [if_pos c23] at H
                  have c23b0 : (t220 == 0) = true := beq_iff_eq.mpr c23
                  have c23b1 : (t220 != 0) = false := bne_eq_false_iff_eq.mpr c23
                  clear c23
                  have H' := Aside0.mk H
                  clear H
                  have hnb24 := NB215_212.out
                  have hnc24 := NB212_215.out
                  have hcz25_0 : wr.cell? ⟨gb215, 0, none⟩ = some (.int .i64 x216000_1) := (blk_cell BK215.out 0).trans rfl
                  have hcz25_1 : wr.cell? ⟨gb215, 1, none⟩ = some (.int .i64 x216001_1) := (blk_cell BK215.out 1).trans rfl
                  have hcz25_2 : wr.cell? ⟨gb215, 2, none⟩ = some (.int .i64 x216002_1) := (blk_cell BK215.out 2).trans rfl
                  have hfz25_0 := blk_frozen BK215.out 0
                  have hfz25_1 := blk_frozen BK215.out 1
                  have hfz25_2 := blk_frozen BK215.out 2
                  go_wp2_with (first | ((with_reducible refine gate_callee (f := 19) rfl ?_); refine goesL_ (some 26) rfl rfl Try.func19 (by kernel_rfl) rfl #[.agg #[.int .i64 x216000_1, .int .i64 x216001_1, .int .i64 x216002_1], .int .i64 0, .bool false, .int .i64 a1] rfl (by (try simp only [List.map_toArray, List.map_cons, List.map_nil]); first | done | rfl | (simp only [List.length_drop, List.length_take]; rfl)) ?_; (with_reducible refine (car_Car_Step.calls x216000_1 x216001_1 x216002_1 0 false a1 t219 t220 t221 _ A16.out).mono ?_); rintro e w26 ⟨rfl, hb⟩; refine ⟨_, rfl, ?_⟩; have n0_ := Aside0.mk (blk_below (g := gb212) (o := .cells #[.int .i64 a0_0, .int .i64 a0_1, .int .i64 a0_2] 37 (0, 0)) (by (with_reducible repeat (first | refine blk_drewN ?_ _ | refine blk_drew ?_ | refine blk_alloc ?_ _)); exact BK212.out) hb); have n1_ := Aside0.mk (blk_below (g := gb215) (o := .cells #[.int .i64 x216000_1, .int .i64 x216001_1, .int .i64 x216002_1] 37 (0, 0)) (by (with_reducible repeat (first | refine blk_drewN ?_ _ | refine blk_drew ?_ | refine blk_alloc ?_ _)); exact BK215.out) hb); have n2_ := Aside0.mk (below_step (by repeat (first | (with_reducible first | exact HB.out | apply below_alloc | apply pw_below_drewN | apply below_drew1 | refine below_set ?_ GE212.out | refine below_set ?_ GE215.out) | exact HB.out)) hb); clear BK212; clear BK215; clear HB; have BK212 := n0_; have BK215 := n1_; have HB := n2_; clear n0_ n1_ n2_; (try clear hb); (try clear hb2); (try clear hk); (try clear hi); have hcz27_0 : w26.cell? ⟨gb215, 0, none⟩ = some (.int .i64 x216000_1) := (blk_cell BK215.out 0).trans rfl; have hcz27_1 : w26.cell? ⟨gb215, 1, none⟩ = some (.int .i64 x216001_1) := (blk_cell BK215.out 1).trans rfl; have hcz27_2 : w26.cell? ⟨gb215, 2, none⟩ = some (.int .i64 x216002_1) := (blk_cell BK215.out 2).trans rfl; have hfz27_0 := blk_frozen BK215.out 0; have hfz27_1 := blk_frozen BK215.out 1; have hfz27_2 := blk_frozen BK215.out 2))
                  go_roundg k1
                  case measure => have := HK1.out; omega
                  case rel => exact ⟨(wrap64 (x7_1 - 1)), (wrap64 (x9_1 + 1)), (t219), (t220), (t221), (by first | rfl | (simp; done) | (simp [*]; done)), (by first | rfl | (simp; done) | (simp [*]; done)), H', ⟨by have := HK1.out; omega⟩, ⟨by (with_reducible repeat (first | refine blk_drewN ?_ _ | refine blk_drew ?_ | refine blk_alloc ?_ _)); refine blk_far ?_ NB212_215.out _; (with_reducible repeat (first | refine blk_drewN ?_ _ | refine blk_drew ?_ | refine blk_alloc ?_ _)); refine blk_far ?_ NB212_215.out _; (with_reducible repeat (first | refine blk_drewN ?_ _ | refine blk_drew ?_ | refine blk_alloc ?_ _)); refine blk_far ?_ NB212_215.out _; (with_reducible repeat (first | refine blk_drewN ?_ _ | refine blk_drew ?_ | refine blk_alloc ?_ _)); exact BK212.out⟩, ⟨by (with_reducible repeat (first | refine blk_drewN ?_ _ | refine blk_drew ?_ | refine blk_alloc ?_ _)); refine blk_put (cs := #[.int .i64 t219, .int .i64 t220, .int .i64 x216002_1]) ?_ 2 _ rfl; (with_reducible repeat (first | refine blk_drewN ?_ _ | refine blk_drew ?_ | refine blk_alloc ?_ _)); refine blk_put (cs := #[.int .i64 t219, .int .i64 x216001_1, .int .i64 x216002_1]) ?_ 1 _ rfl; (with_reducible repeat (first | refine blk_drewN ?_ _ | refine blk_drew ?_ | refine blk_alloc ?_ _)); refine blk_put (cs := #[.int .i64 x216000_1, .int .i64 x216001_1, .int .i64 x216002_1]) ?_ 0 _ rfl; (with_reducible repeat (first | refine blk_drewN ?_ _ | refine blk_drew ?_ | refine blk_alloc ?_ _)); exact BK215.out⟩, ⟨by repeat (first | (with_reducible first | exact HB.out | apply below_alloc | apply pw_below_drewN | apply below_drew1 | refine below_set ?_ GE212.out | refine below_set ?_ GE215.out) | exact HB.out)⟩⟩
                · rw [if_neg c23] at H
                  have c23b0 : (t220 == 0) = false := beq_eq_false_iff_ne.mpr c23
                  have c23b1 : (t220 != 0) = true := bne_iff_ne.mpr c23
                  exact absurd (Option.some.inj H) (by rw [HT.out]; decide)
            · rw [if_neg c17] at H
              have c17b0 : decide (0 < x7_1) = false := decide_eq_false c17
              clear c17
              by_cases c28 : x7_1 < 0
              · rw [if_pos c28] at H
                have c28b0 : decide (x7_1 < 0) = true := decide_eq_true c28
                clear c28
                by_cases c29 : t220 = (wrap64 (x7_1 + 1))
                · rw [if_pos c29] at H
                  have c29b0 : (t220 == (wrap64 (x7_1 + 1))) = true := beq_iff_eq.mpr c29
                  have c29b1 : (t220 != (wrap64 (x7_1 + 1))) = false := bne_eq_false_iff_eq.mpr c29
                  clear c29
                  have H' := Aside0.mk H
                  clear H
                  have hnb30 := NB215_212.out
                  have hnc30 := NB212_215.out
                  have hcz31_0 : wr.cell? ⟨gb215, 0, none⟩ = some (.int .i64 x216000_1) := (blk_cell BK215.out 0).trans rfl
                  have hcz31_1 : wr.cell? ⟨gb215, 1, none⟩ = some (.int .i64 x216001_1) := (blk_cell BK215.out 1).trans rfl
                  have hcz31_2 : wr.cell? ⟨gb215, 2, none⟩ = some (.int .i64 x216002_1) := (blk_cell BK215.out 2).trans rfl
                  have hfz31_0 := blk_frozen BK215.out 0
                  have hfz31_1 := blk_frozen BK215.out 1
                  have hfz31_2 := blk_frozen BK215.out 2
                  go_wp2_with (first | ((with_reducible refine gate_callee (f := 19) rfl ?_); refine goesL_ (some 26) rfl rfl Try.func19 (by kernel_rfl) rfl #[.agg #[.int .i64 x216000_1, .int .i64 x216001_1, .int .i64 x216002_1], .int .i64 0, .bool false, .int .i64 a1] rfl (by (try simp only [List.map_toArray, List.map_cons, List.map_nil]); first | done | rfl | (simp only [List.length_drop, List.length_take]; rfl)) ?_; (with_reducible refine (car_Car_Step.calls x216000_1 x216001_1 x216002_1 0 false a1 t219 t220 t221 _ A16.out).mono ?_); rintro e w32 ⟨rfl, hb⟩; refine ⟨_, rfl, ?_⟩; have n0_ := Aside0.mk (blk_below (g := gb212) (o := .cells #[.int .i64 a0_0, .int .i64 a0_1, .int .i64 a0_2] 37 (0, 0)) (by (with_reducible repeat (first | refine blk_drewN ?_ _ | refine blk_drew ?_ | refine blk_alloc ?_ _)); exact BK212.out) hb); have n1_ := Aside0.mk (blk_below (g := gb215) (o := .cells #[.int .i64 x216000_1, .int .i64 x216001_1, .int .i64 x216002_1] 37 (0, 0)) (by (with_reducible repeat (first | refine blk_drewN ?_ _ | refine blk_drew ?_ | refine blk_alloc ?_ _)); exact BK215.out) hb); have n2_ := Aside0.mk (below_step (by repeat (first | (with_reducible first | exact HB.out | apply below_alloc | apply pw_below_drewN | apply below_drew1 | refine below_set ?_ GE212.out | refine below_set ?_ GE215.out) | exact HB.out)) hb); clear BK212; clear BK215; clear HB; have BK212 := n0_; have BK215 := n1_; have HB := n2_; clear n0_ n1_ n2_; (try clear hb); (try clear hb2); (try clear hk); (try clear hi); have hcz33_0 : w32.cell? ⟨gb215, 0, none⟩ = some (.int .i64 x216000_1) := (blk_cell BK215.out 0).trans rfl; have hcz33_1 : w32.cell? ⟨gb215, 1, none⟩ = some (.int .i64 x216001_1) := (blk_cell BK215.out 1).trans rfl; have hcz33_2 : w32.cell? ⟨gb215, 2, none⟩ = some (.int .i64 x216002_1) := (blk_cell BK215.out 2).trans rfl; have hfz33_0 := blk_frozen BK215.out 0; have hfz33_1 := blk_frozen BK215.out 1; have hfz33_2 := blk_frozen BK215.out 2))
                  go_roundg k1
                  case measure => have := HK1.out; omega
                  case rel => exact ⟨(wrap64 (x7_1 + 1)), (wrap64 (x9_1 + 1)), (t219), (t220), (t221), (by first | rfl | (simp; done) | (simp [*]; done)), (by first | rfl | (simp; done) | (simp [*]; done)), H', ⟨by have := HK1.out; omega⟩, ⟨by (with_reducible repeat (first | refine blk_drewN ?_ _ | refine blk_drew ?_ | refine blk_alloc ?_ _)); refine blk_far ?_ NB212_215.out _; (with_reducible repeat (first | refine blk_drewN ?_ _ | refine blk_drew ?_ | refine blk_alloc ?_ _)); refine blk_far ?_ NB212_215.out _; (with_reducible repeat (first | refine blk_drewN ?_ _ | refine blk_drew ?_ | refine blk_alloc ?_ _)); refine blk_far ?_ NB212_215.out _; (with_reducible repeat (first | refine blk_drewN ?_ _ | refine blk_drew ?_ | refine blk_alloc ?_ _)); exact BK212.out⟩, ⟨by (with_reducible repeat (first | refine blk_drewN ?_ _ | refine blk_drew ?_ | refine blk_alloc ?_ _)); refine blk_put (cs := #[.int .i64 t219, .int .i64 t220, .int .i64 x216002_1]) ?_ 2 _ rfl; (with_reducible repeat (first | refine blk_drewN ?_ _ | refine blk_drew ?_ | refine blk_alloc ?_ _)); refine blk_put (cs := #[.int .i64 t219, .int .i64 x216001_1, .int .i64 x216002_1]) ?_ 1 _ rfl; (with_reducible repeat (first | refine blk_drewN ?_ _ | refine blk_drew ?_ | refine blk_alloc ?_ _)); refine blk_put (cs := #[.int .i64 x216000_1, .int .i64 x216001_1, .int .i64 x216002_1]) ?_ 0 _ rfl; (with_reducible repeat (first | refine blk_drewN ?_ _ | refine blk_drew ?_ | refine blk_alloc ?_ _)); exact BK215.out⟩, ⟨by repeat (first | (with_reducible first | exact HB.out | apply below_alloc | apply pw_below_drewN | apply below_drew1 | refine below_set ?_ GE212.out | refine below_set ?_ GE215.out) | exact HB.out)⟩⟩
                · rw [if_neg c29] at H
                  have c29b0 : (t220 == (wrap64 (x7_1 + 1))) = false := beq_eq_false_iff_ne.mpr c29
                  have c29b1 : (t220 != (wrap64 (x7_1 + 1))) = true := bne_iff_ne.mpr c29
                  by_cases c34 : t220 = 0
                  · rw [if_pos c34] at H
                    have c34b0 : (t220 == 0) = true := beq_iff_eq.mpr c34
                    have c34b1 : (t220 != 0) = false := bne_eq_false_iff_eq.mpr c34
                    clear c34
                    have H' := Aside0.mk H
                    clear H
                    have hnb35 := NB215_212.out
                    have hnc35 := NB212_215.out
                    have hcz36_0 : wr.cell? ⟨gb215, 0, none⟩ = some (.int .i64 x216000_1) := (blk_cell BK215.out 0).trans rfl
                    have hcz36_1 : wr.cell? ⟨gb215, 1, none⟩ = some (.int .i64 x216001_1) := (blk_cell BK215.out 1).trans rfl
                    have hcz36_2 : wr.cell? ⟨gb215, 2, none⟩ = some (.int .i64 x216002_1) := (blk_cell BK215.out 2).trans rfl
                    have hfz36_0 := blk_frozen BK215.out 0
                    have hfz36_1 := blk_frozen BK215.out 1
                    have hfz36_2 := blk_frozen BK215.out 2
                    go_wp2_with (first | ((with_reducible refine gate_callee (f := 19) rfl ?_); refine goesL_ (some 26) rfl rfl Try.func19 (by kernel_rfl) rfl #[.agg #[.int .i64 x216000_1, .int .i64 x216001_1, .int .i64 x216002_1], .int .i64 0, .bool false, .int .i64 a1] rfl (by (try simp only [List.map_toArray, List.map_cons, List.map_nil]); first | done | rfl | (simp only [List.length_drop, List.length_take]; rfl)) ?_; (with_reducible refine (car_Car_Step.calls x216000_1 x216001_1 x216002_1 0 false a1 t219 t220 t221 _ A16.out).mono ?_); rintro e w37 ⟨rfl, hb⟩; refine ⟨_, rfl, ?_⟩; have n0_ := Aside0.mk (blk_below (g := gb212) (o := .cells #[.int .i64 a0_0, .int .i64 a0_1, .int .i64 a0_2] 37 (0, 0)) (by (with_reducible repeat (first | refine blk_drewN ?_ _ | refine blk_drew ?_ | refine blk_alloc ?_ _)); exact BK212.out) hb); have n1_ := Aside0.mk (blk_below (g := gb215) (o := .cells #[.int .i64 x216000_1, .int .i64 x216001_1, .int .i64 x216002_1] 37 (0, 0)) (by (with_reducible repeat (first | refine blk_drewN ?_ _ | refine blk_drew ?_ | refine blk_alloc ?_ _)); exact BK215.out) hb); have n2_ := Aside0.mk (below_step (by repeat (first | (with_reducible first | exact HB.out | apply below_alloc | apply pw_below_drewN | apply below_drew1 | refine below_set ?_ GE212.out | refine below_set ?_ GE215.out) | exact HB.out)) hb); clear BK212; clear BK215; clear HB; have BK212 := n0_; have BK215 := n1_; have HB := n2_; clear n0_ n1_ n2_; (try clear hb); (try clear hb2); (try clear hk); (try clear hi); have hcz38_0 : w37.cell? ⟨gb215, 0, none⟩ = some (.int .i64 x216000_1) := (blk_cell BK215.out 0).trans rfl; have hcz38_1 : w37.cell? ⟨gb215, 1, none⟩ = some (.int .i64 x216001_1) := (blk_cell BK215.out 1).trans rfl; have hcz38_2 : w37.cell? ⟨gb215, 2, none⟩ = some (.int .i64 x216002_1) := (blk_cell BK215.out 2).trans rfl; have hfz38_0 := blk_frozen BK215.out 0; have hfz38_1 := blk_frozen BK215.out 1; have hfz38_2 := blk_frozen BK215.out 2))
                    go_roundg k1
                    case measure => have := HK1.out; omega
                    case rel => exact ⟨(wrap64 (x7_1 + 1)), (wrap64 (x9_1 + 1)), (t219), (t220), (t221), (by first | rfl | (simp; done) | (simp [*]; done)), (by first | rfl | (simp; done) | (simp [*]; done)), H', ⟨by have := HK1.out; omega⟩, ⟨by (with_reducible repeat (first | refine blk_drewN ?_ _ | refine blk_drew ?_ | refine blk_alloc ?_ _)); refine blk_far ?_ NB212_215.out _; (with_reducible repeat (first | refine blk_drewN ?_ _ | refine blk_drew ?_ | refine blk_alloc ?_ _)); refine blk_far ?_ NB212_215.out _; (with_reducible repeat (first | refine blk_drewN ?_ _ | refine blk_drew ?_ | refine blk_alloc ?_ _)); refine blk_far ?_ NB212_215.out _; (with_reducible repeat (first | refine blk_drewN ?_ _ | refine blk_drew ?_ | refine blk_alloc ?_ _)); exact BK212.out⟩, ⟨by (with_reducible repeat (first | refine blk_drewN ?_ _ | refine blk_drew ?_ | refine blk_alloc ?_ _)); refine blk_put (cs := #[.int .i64 t219, .int .i64 t220, .int .i64 x216002_1]) ?_ 2 _ rfl; (with_reducible repeat (first | refine blk_drewN ?_ _ | refine blk_drew ?_ | refine blk_alloc ?_ _)); refine blk_put (cs := #[.int .i64 t219, .int .i64 x216001_1, .int .i64 x216002_1]) ?_ 1 _ rfl; (with_reducible repeat (first | refine blk_drewN ?_ _ | refine blk_drew ?_ | refine blk_alloc ?_ _)); refine blk_put (cs := #[.int .i64 x216000_1, .int .i64 x216001_1, .int .i64 x216002_1]) ?_ 0 _ rfl; (with_reducible repeat (first | refine blk_drewN ?_ _ | refine blk_drew ?_ | refine blk_alloc ?_ _)); exact BK215.out⟩, ⟨by repeat (first | (with_reducible first | exact HB.out | apply below_alloc | apply pw_below_drewN | apply below_drew1 | refine below_set ?_ GE212.out | refine below_set ?_ GE215.out) | exact HB.out)⟩⟩
                  · rw [if_neg c34] at H
                    have c34b0 : (t220 == 0) = false := beq_eq_false_iff_ne.mpr c34
                    have c34b1 : (t220 != 0) = true := bne_iff_ne.mpr c34
                    exact absurd (Option.some.inj H) (by rw [HT.out]; decide)
              · rw [if_neg c28] at H
                have c28b0 : decide (x7_1 < 0) = false := decide_eq_false c28
                clear c28
                by_cases c39 : t220 = x7_1
                · rw [if_pos c39] at H
                  have c39b0 : (t220 == x7_1) = true := beq_iff_eq.mpr c39
                  have c39b1 : (t220 != x7_1) = false := bne_eq_false_iff_eq.mpr c39
                  clear c39
                  have H' := Aside0.mk H
                  clear H
                  have hnb40 := NB215_212.out
                  have hnc40 := NB212_215.out
                  have hcz41_0 : wr.cell? ⟨gb215, 0, none⟩ = some (.int .i64 x216000_1) := (blk_cell BK215.out 0).trans rfl
                  have hcz41_1 : wr.cell? ⟨gb215, 1, none⟩ = some (.int .i64 x216001_1) := (blk_cell BK215.out 1).trans rfl
                  have hcz41_2 : wr.cell? ⟨gb215, 2, none⟩ = some (.int .i64 x216002_1) := (blk_cell BK215.out 2).trans rfl
                  have hfz41_0 := blk_frozen BK215.out 0
                  have hfz41_1 := blk_frozen BK215.out 1
                  have hfz41_2 := blk_frozen BK215.out 2
                  go_wp2_with (first | ((with_reducible refine gate_callee (f := 19) rfl ?_); refine goesL_ (some 26) rfl rfl Try.func19 (by kernel_rfl) rfl #[.agg #[.int .i64 x216000_1, .int .i64 x216001_1, .int .i64 x216002_1], .int .i64 0, .bool false, .int .i64 a1] rfl (by (try simp only [List.map_toArray, List.map_cons, List.map_nil]); first | done | rfl | (simp only [List.length_drop, List.length_take]; rfl)) ?_; (with_reducible refine (car_Car_Step.calls x216000_1 x216001_1 x216002_1 0 false a1 t219 t220 t221 _ A16.out).mono ?_); rintro e w42 ⟨rfl, hb⟩; refine ⟨_, rfl, ?_⟩; have n0_ := Aside0.mk (blk_below (g := gb212) (o := .cells #[.int .i64 a0_0, .int .i64 a0_1, .int .i64 a0_2] 37 (0, 0)) (by (with_reducible repeat (first | refine blk_drewN ?_ _ | refine blk_drew ?_ | refine blk_alloc ?_ _)); exact BK212.out) hb); have n1_ := Aside0.mk (blk_below (g := gb215) (o := .cells #[.int .i64 x216000_1, .int .i64 x216001_1, .int .i64 x216002_1] 37 (0, 0)) (by (with_reducible repeat (first | refine blk_drewN ?_ _ | refine blk_drew ?_ | refine blk_alloc ?_ _)); exact BK215.out) hb); have n2_ := Aside0.mk (below_step (by repeat (first | (with_reducible first | exact HB.out | apply below_alloc | apply pw_below_drewN | apply below_drew1 | refine below_set ?_ GE212.out | refine below_set ?_ GE215.out) | exact HB.out)) hb); clear BK212; clear BK215; clear HB; have BK212 := n0_; have BK215 := n1_; have HB := n2_; clear n0_ n1_ n2_; (try clear hb); (try clear hb2); (try clear hk); (try clear hi); have hcz43_0 : w42.cell? ⟨gb215, 0, none⟩ = some (.int .i64 x216000_1) := (blk_cell BK215.out 0).trans rfl; have hcz43_1 : w42.cell? ⟨gb215, 1, none⟩ = some (.int .i64 x216001_1) := (blk_cell BK215.out 1).trans rfl; have hcz43_2 : w42.cell? ⟨gb215, 2, none⟩ = some (.int .i64 x216002_1) := (blk_cell BK215.out 2).trans rfl; have hfz43_0 := blk_frozen BK215.out 0; have hfz43_1 := blk_frozen BK215.out 1; have hfz43_2 := blk_frozen BK215.out 2))
                  go_roundg k1
                  case measure => have := HK1.out; omega
                  case rel => exact ⟨(x7_1), (wrap64 (x9_1 + 1)), (t219), (t220), (t221), (by first | rfl | (simp; done) | (simp [*]; done)), (by first | rfl | (simp; done) | (simp [*]; done)), H', ⟨by have := HK1.out; omega⟩, ⟨by (with_reducible repeat (first | refine blk_drewN ?_ _ | refine blk_drew ?_ | refine blk_alloc ?_ _)); refine blk_far ?_ NB212_215.out _; (with_reducible repeat (first | refine blk_drewN ?_ _ | refine blk_drew ?_ | refine blk_alloc ?_ _)); refine blk_far ?_ NB212_215.out _; (with_reducible repeat (first | refine blk_drewN ?_ _ | refine blk_drew ?_ | refine blk_alloc ?_ _)); refine blk_far ?_ NB212_215.out _; (with_reducible repeat (first | refine blk_drewN ?_ _ | refine blk_drew ?_ | refine blk_alloc ?_ _)); exact BK212.out⟩, ⟨by (with_reducible repeat (first | refine blk_drewN ?_ _ | refine blk_drew ?_ | refine blk_alloc ?_ _)); refine blk_put (cs := #[.int .i64 t219, .int .i64 t220, .int .i64 x216002_1]) ?_ 2 _ rfl; (with_reducible repeat (first | refine blk_drewN ?_ _ | refine blk_drew ?_ | refine blk_alloc ?_ _)); refine blk_put (cs := #[.int .i64 t219, .int .i64 x216001_1, .int .i64 x216002_1]) ?_ 1 _ rfl; (with_reducible repeat (first | refine blk_drewN ?_ _ | refine blk_drew ?_ | refine blk_alloc ?_ _)); refine blk_put (cs := #[.int .i64 x216000_1, .int .i64 x216001_1, .int .i64 x216002_1]) ?_ 0 _ rfl; (with_reducible repeat (first | refine blk_drewN ?_ _ | refine blk_drew ?_ | refine blk_alloc ?_ _)); exact BK215.out⟩, ⟨by repeat (first | (with_reducible first | exact HB.out | apply below_alloc | apply pw_below_drewN | apply below_drew1 | refine below_set ?_ GE212.out | refine below_set ?_ GE215.out) | exact HB.out)⟩⟩
                · rw [if_neg c39] at H
                  have c39b0 : (t220 == x7_1) = false := beq_eq_false_iff_ne.mpr c39
                  have c39b1 : (t220 != x7_1) = true := bne_iff_ne.mpr c39
                  by_cases c44 : t220 = 0
                  · rw [if_pos c44] at H
                    have c44b0 : (t220 == 0) = true := beq_iff_eq.mpr c44
                    have c44b1 : (t220 != 0) = false := bne_eq_false_iff_eq.mpr c44
                    clear c44
                    have H' := Aside0.mk H
                    clear H
                    have hnb45 := NB215_212.out
                    have hnc45 := NB212_215.out
                    have hcz46_0 : wr.cell? ⟨gb215, 0, none⟩ = some (.int .i64 x216000_1) := (blk_cell BK215.out 0).trans rfl
                    have hcz46_1 : wr.cell? ⟨gb215, 1, none⟩ = some (.int .i64 x216001_1) := (blk_cell BK215.out 1).trans rfl
                    have hcz46_2 : wr.cell? ⟨gb215, 2, none⟩ = some (.int .i64 x216002_1) := (blk_cell BK215.out 2).trans rfl
                    have hfz46_0 := blk_frozen BK215.out 0
                    have hfz46_1 := blk_frozen BK215.out 1
                    have hfz46_2 := blk_frozen BK215.out 2
                    go_wp2_with (first | ((with_reducible refine gate_callee (f := 19) rfl ?_); refine goesL_ (some 26) rfl rfl Try.func19 (by kernel_rfl) rfl #[.agg #[.int .i64 x216000_1, .int .i64 x216001_1, .int .i64 x216002_1], .int .i64 0, .bool false, .int .i64 a1] rfl (by (try simp only [List.map_toArray, List.map_cons, List.map_nil]); first | done | rfl | (simp only [List.length_drop, List.length_take]; rfl)) ?_; (with_reducible refine (car_Car_Step.calls x216000_1 x216001_1 x216002_1 0 false a1 t219 t220 t221 _ A16.out).mono ?_); rintro e w47 ⟨rfl, hb⟩; refine ⟨_, rfl, ?_⟩; have n0_ := Aside0.mk (blk_below (g := gb212) (o := .cells #[.int .i64 a0_0, .int .i64 a0_1, .int .i64 a0_2] 37 (0, 0)) (by (with_reducible repeat (first | refine blk_drewN ?_ _ | refine blk_drew ?_ | refine blk_alloc ?_ _)); exact BK212.out) hb); have n1_ := Aside0.mk (blk_below (g := gb215) (o := .cells #[.int .i64 x216000_1, .int .i64 x216001_1, .int .i64 x216002_1] 37 (0, 0)) (by (with_reducible repeat (first | refine blk_drewN ?_ _ | refine blk_drew ?_ | refine blk_alloc ?_ _)); exact BK215.out) hb); have n2_ := Aside0.mk (below_step (by repeat (first | (with_reducible first | exact HB.out | apply below_alloc | apply pw_below_drewN | apply below_drew1 | refine below_set ?_ GE212.out | refine below_set ?_ GE215.out) | exact HB.out)) hb); clear BK212; clear BK215; clear HB; have BK212 := n0_; have BK215 := n1_; have HB := n2_; clear n0_ n1_ n2_; (try clear hb); (try clear hb2); (try clear hk); (try clear hi); have hcz48_0 : w47.cell? ⟨gb215, 0, none⟩ = some (.int .i64 x216000_1) := (blk_cell BK215.out 0).trans rfl; have hcz48_1 : w47.cell? ⟨gb215, 1, none⟩ = some (.int .i64 x216001_1) := (blk_cell BK215.out 1).trans rfl; have hcz48_2 : w47.cell? ⟨gb215, 2, none⟩ = some (.int .i64 x216002_1) := (blk_cell BK215.out 2).trans rfl; have hfz48_0 := blk_frozen BK215.out 0; have hfz48_1 := blk_frozen BK215.out 1; have hfz48_2 := blk_frozen BK215.out 2))
                    go_roundg k1
                    case measure => have := HK1.out; omega
                    case rel => exact ⟨(x7_1), (wrap64 (x9_1 + 1)), (t219), (t220), (t221), (by first | rfl | (simp; done) | (simp [*]; done)), (by first | rfl | (simp; done) | (simp [*]; done)), H', ⟨by have := HK1.out; omega⟩, ⟨by (with_reducible repeat (first | refine blk_drewN ?_ _ | refine blk_drew ?_ | refine blk_alloc ?_ _)); refine blk_far ?_ NB212_215.out _; (with_reducible repeat (first | refine blk_drewN ?_ _ | refine blk_drew ?_ | refine blk_alloc ?_ _)); refine blk_far ?_ NB212_215.out _; (with_reducible repeat (first | refine blk_drewN ?_ _ | refine blk_drew ?_ | refine blk_alloc ?_ _)); refine blk_far ?_ NB212_215.out _; (with_reducible repeat (first | refine blk_drewN ?_ _ | refine blk_drew ?_ | refine blk_alloc ?_ _)); exact BK212.out⟩, ⟨by (with_reducible repeat (first | refine blk_drewN ?_ _ | refine blk_drew ?_ | refine blk_alloc ?_ _)); refine blk_put (cs := #[.int .i64 t219, .int .i64 t220, .int .i64 x216002_1]) ?_ 2 _ rfl; (with_reducible repeat (first | refine blk_drewN ?_ _ | refine blk_drew ?_ | refine blk_alloc ?_ _)); refine blk_put (cs := #[.int .i64 t219, .int .i64 x216001_1, .int .i64 x216002_1]) ?_ 1 _ rfl; (with_reducible repeat (first | refine blk_drewN ?_ _ | refine blk_drew ?_ | refine blk_alloc ?_ _)); refine blk_put (cs := #[.int .i64 x216000_1, .int .i64 x216001_1, .int .i64 x216002_1]) ?_ 0 _ rfl; (with_reducible repeat (first | refine blk_drewN ?_ _ | refine blk_drew ?_ | refine blk_alloc ?_ _)); exact BK215.out⟩, ⟨by repeat (first | (with_reducible first | exact HB.out | apply below_alloc | apply pw_below_drewN | apply below_drew1 | refine below_set ?_ GE212.out | refine below_set ?_ GE215.out) | exact HB.out)⟩⟩
                  · rw [if_neg c44] at H
                    have c44b0 : (t220 == 0) = false := beq_eq_false_iff_ne.mpr c44
                    have c44b1 : (t220 != 0) = true := bne_iff_ne.mpr c44
                    exact absurd (Option.some.inj H) (by rw [HT.out]; decide)
          · rw [if_neg c15] at H
            have c15b0 : decide (x9_1 < 9) = false := decide_eq_false c15
            clear c15
            by_cases c49 : x216001_1 = 0
            · rw [if_pos c49] at H
              have c49b0 : (x216001_1 == 0) = true := beq_iff_eq.mpr c49
              have c49b1 : (x216001_1 != 0) = false := bne_eq_false_iff_eq.mpr c49
              clear c49
              replace H := Option.bind_eq_some_iff.mp H
              obtain ⟨⟨t216, t217, t218⟩, A500, H⟩ := H
              replace H : (some (t216 == x216000_1 && (t217 == x216001_1 && (t218 == x216002_1)))) = some r := H
              have A50 := Aside0.mk A500
              clear A500
              obtain rfl := Option.some.inj H
              try go_wp2
              have n0_ := Aside0.mk (blk_drew BK212.out)
              have n1_ := Aside0.mk (blk_drew BK215.out)
              have n2_ := Aside0.mk (below_drew1 HB.out)
              clear BK212
              clear BK215
              clear HB
              have BK212 := n0_
              have BK215 := n1_
              have HB := n2_
              clear n0_ n1_ n2_
              refine start_ (n := 11) (S := fun w' => w'.cell? ⟨gb215, 0, none⟩ = some (.int .i64 x216000_1) ∧ w'.cell? ⟨gb215, 1, none⟩ = some (.int .i64 x216001_1) ∧ w'.cell? ⟨gb215, 2, none⟩ = some (.int .i64 x216002_1)) (ds := []) #[false, false, false, false, false, false, false, false, false, false, false] (by kernel_rfl) rfl rfl ⟨(blk_cell BK215.out 0).trans rfl, (blk_cell BK215.out 1).trans rfl, (blk_cell BK215.out 2).trans rfl⟩ (fun hHeld => ?_); refine with_tabW paternosterlaw07_CarSlow.tab19 paternosterlaw07_CarSlow.bits19 (fun HT_ HW_ => ?_)
              generalize wr.drew = w51 at BK212 BK215 HB hHeld ⊢
              refine pure_ (i := 0) (N := some 44) (v := ?_) (a' := ?_) #[true, false, false, false, false, false, false, false, false, false, false] rfl rfl (any_of HT_.out (by kernel_rfl)) (fun _ _ _ h => h) (Or.inl ⟨by rfl, ?_⟩) ?_ ?_
              rotate_left
              · intro w'
                go_simp
                with_reducible rfl
              rotate_left
              · simp only [Act.put, List.setIfInBounds_toArray, List.set_cons_zero, List.set_cons_succ, i64_w, i32_w]
                rfl
              refine take_ (i := 1) (N := some 45) (v := ?_) (a' := ?_) #[true, true, false, false, false, false, false, false, false, false, false] rfl rfl (take_ofW HT_.out HW_.out (by kernel_rfl)) (fun _ _ _ h => h) (Or.inl ⟨by rfl, ?_⟩) hHeld ?_ ?_
              rotate_left
              · rintro w' ⟨s0, s1, s2⟩
                go_simp
                with_reducible rfl
              rotate_left
              · simp only [Act.put, List.setIfInBounds_toArray, List.set_cons_zero, List.set_cons_succ, i64_w, i32_w]
                rfl
              refine pure_ (i := 2) (N := some 46) (v := ?_) (a' := ?_) #[true, true, true, false, false, false, false, false, false, false, false] rfl rfl (any_of HT_.out (by kernel_rfl)) (fun _ _ _ h => h) (Or.inl ⟨by rfl, ?_⟩) ?_ ?_
              rotate_left
              · intro w'
                go_simp
                with_reducible rfl
              rotate_left
              · simp only [Act.put, List.setIfInBounds_toArray, List.set_cons_zero, List.set_cons_succ, i64_w, i32_w]
                rfl
              refine pure_ (i := 3) (N := some 47) (v := ?_) (a' := ?_) #[true, true, true, true, false, false, false, false, false, false, false] rfl rfl (any_of HT_.out (by kernel_rfl)) (fun _ _ _ h => h) (Or.inl ⟨by rfl, ?_⟩) ?_ ?_
              rotate_left
              · intro w'
                go_simp
                with_reducible rfl
              rotate_left
              · simp only [Act.put, List.setIfInBounds_toArray, List.set_cons_zero, List.set_cons_succ, i64_w, i32_w]
                rfl
              refine pure_ (i := 5) (N := some 49) (v := ?_) (a' := ?_) #[true, true, true, true, false, true, false, false, false, false, false] rfl rfl (any_of HT_.out (by kernel_rfl)) (fun _ _ _ h => h) (Or.inl ⟨by rfl, ?_⟩) ?_ ?_
              rotate_left
              · intro w'
                go_simp
                with_reducible rfl
              rotate_left
              · simp only [Act.put, List.setIfInBounds_toArray, List.set_cons_zero, List.set_cons_succ, i64_w, i32_w]
                rfl
              refine take_ (i := 4) (N := some 48) (v := ?_) (a' := ?_) #[true, true, true, true, true, true, false, false, false, false, false] rfl rfl (take_ofW HT_.out HW_.out (by kernel_rfl)) (fun _ _ _ h => h) (Or.inl ⟨by rfl, ?_⟩) hHeld ?_ ?_
              rotate_left
              · rintro w' ⟨s0, s1, s2⟩
                go_simp
                with_reducible rfl
              rotate_left
              · simp only [Act.put, List.setIfInBounds_toArray, List.set_cons_zero, List.set_cons_succ, i64_w, i32_w]
                rfl
              refine take_ (i := 7) (N := some 51) (v := ?_) (a' := ?_) #[true, true, true, true, true, true, false, true, false, false, false] rfl rfl (take_ofW HT_.out HW_.out (by kernel_rfl)) (fun _ _ _ h => h) (Or.inl ⟨by rfl, ?_⟩) hHeld ?_ ?_
              rotate_left
              · rintro w' ⟨s0, s1, s2⟩
                go_simp
                with_reducible rfl
              rotate_left
              · simp only [Act.put, List.setIfInBounds_toArray, List.set_cons_zero, List.set_cons_succ, i64_w, i32_w]
                rfl
              refine one_ (i := 6) (N := some 50) #[true, true, true, true, true, true, true, true, false, false, false] rfl rfl (one_of HT_.out (by kernel_rfl)) (by decide) (fun K hK => ?_)
              refine goes_ Try.func19 (by kernel_rfl) rfl #[.agg #[.int .i64 x216000_1, .int .i64 x216001_1, .int .i64 x216002_1], .int .i64 0, .bool false, .int .i64 a1] (by rfl) rfl rfl (by (try simp only [List.map_toArray, List.map_cons, List.map_nil]); first | done | rfl | (simp only [List.length_drop, List.length_take]; rfl)) ?_
              with_reducible refine (car_Car_Step.calls x216000_1 x216001_1 x216002_1 0 false a1 t216 t217 t218 _ A50.out).mono ?_
              rintro e w52 ⟨rfl, hb⟩
              refine ⟨_, rfl, ?_⟩
              have n0_ := Aside0.mk (blk_below (g := gb212) (o := .cells #[.int .i64 a0_0, .int .i64 a0_1, .int .i64 a0_2] 37 (0, 0)) (by (with_reducible repeat (first | refine blk_drewN ?_ _ | refine blk_drew ?_ | refine blk_alloc ?_ _)); exact BK212.out) hb)
              have n1_ := Aside0.mk (blk_below (g := gb215) (o := .cells #[.int .i64 x216000_1, .int .i64 x216001_1, .int .i64 x216002_1] 37 (0, 0)) (by (with_reducible repeat (first | refine blk_drewN ?_ _ | refine blk_drew ?_ | refine blk_alloc ?_ _)); exact BK215.out) hb)
              have n2_ := Aside0.mk (below_step (by repeat (first | (with_reducible first | exact HB.out | apply below_alloc | apply pw_below_drewN | apply below_drew1 | refine below_set ?_ GE212.out | refine below_set ?_ GE215.out) | exact HB.out)) hb)
              clear BK212
              clear BK215
              clear HB
              have BK212 := n0_
              have BK215 := n1_
              have HB := n2_
              clear n0_ n1_ n2_
              (try clear hb)
              (try clear hb2)
              (try clear hk)
              (try clear hi)
              refine hK.out _ _ ⟨(blk_cell BK215.out 0).trans rfl, (blk_cell BK215.out 1).trans rfl, (blk_cell BK215.out 2).trans rfl⟩ (fun hHeld => ?_)
              clear hK K
              refine norm_ (a' := ?_) ?_ ?_
              rotate_left
              · show Act.put _ (some 50) _ = _
                simp only [Act.put, List.setIfInBounds_toArray, List.set_cons_zero, List.set_cons_succ, i64_w, i32_w]
                rfl
              refine pure_ (i := 8) (N := some 52) (v := ?_) (a' := ?_) #[true, true, true, true, true, true, true, true, true, false, false] rfl rfl (any_of HT_.out (by kernel_rfl)) (fun _ _ _ h => h) (Or.inl ⟨by rfl, ?_⟩) ?_ ?_
              rotate_left
              · intro w'
                go_simp
                with_reducible rfl
              rotate_left
              · simp only [Act.put, List.setIfInBounds_toArray, List.set_cons_zero, List.set_cons_succ, i64_w, i32_w]
                rfl
              refine pure_ (i := 9) (N := some 53) (v := ?_) (a' := ?_) #[true, true, true, true, true, true, true, true, true, true, false] rfl rfl (any_of HT_.out (by kernel_rfl)) (fun _ _ _ h => h) (Or.inl ⟨by rfl, ?_⟩) ?_ ?_
              rotate_left
              · intro w'
                go_simp
                with_reducible rfl
              rotate_left
              · simp only [Act.put, List.setIfInBounds_toArray, List.set_cons_zero, List.set_cons_succ, i64_w, i32_w]
                rfl
              refine pure_ (i := 10) (N := some 4) (v := ?_) (a' := ?_) #[true, true, true, true, true, true, true, true, true, true, true] rfl rfl (any_of HT_.out (by kernel_rfl)) (fun _ _ _ h => h) (Or.inl ⟨by rfl, ?_⟩) ?_ ?_
              rotate_left
              · intro w'
                go_simp
                with_reducible rfl
              rotate_left
              · simp only [Act.put, List.setIfInBounds_toArray, List.set_cons_zero, List.set_cons_succ, i64_w, i32_w]
                rfl
              refine done_ (done_of HT_.out (by kernel_rfl)) ?_
              try go_wp2
              go_ret
              exact ⟨by first | rfl | (simp [errW_none, errW_some] <;> rfl) | (simp [*, errW_none, errW_some] <;> rfl), by repeat (first | (with_reducible first | exact HB.out | apply below_alloc | apply pw_below_drewN | apply below_drew1 | refine below_set ?_ GE212.out | refine below_set ?_ GE215.out) | exact HB.out)⟩
            · rw [if_neg c49] at H
              have c49b0 : (x216001_1 == 0) = false := beq_eq_false_iff_ne.mpr c49
              have c49b1 : (x216001_1 != 0) = true := bne_iff_ne.mpr c49
              exact absurd (Option.some.inj H) (by rw [HT.out]; decide)
    · replace c6 := Bool.eq_false_iff.mpr c6
      subst c6
      have H1 : (some true) = some r := by rw [if_neg (show ¬ (false = true) by decide)] at H; exact H
      clear H
      have H := H1
      clear H1
      obtain rfl := Option.some.inj H
      go_enter Try.func9, Try.ntmps9
      go_wp2_with (first | ((with_reducible refine gate_dst (N := 2) rfl ?_); refine box_event ?hg (N := 2) ?hd (cs := #[.int .i64 a0_0, .int .i64 a0_1, .int .i64 a0_2]) (t := 37) ?hr ?_; (case hd => rfl); (case hg => rfl); (case hr => first | (go_simp; done) | (go_simp; rfl)); intro gb212 hg w53 hbox hb; have n0_ := Aside0.mk (below_step (by repeat (first | (with_reducible first | exact HB.out | apply below_alloc | apply pw_below_drewN | apply below_drew1) | exact HB.out)) hb); have n1_ := Aside0.mk (hbox); have n2_ := Aside0.mk ((by rw [hg]; exact (below_size (by repeat (first | (with_reducible first | exact HB.out | apply below_alloc | apply pw_below_drewN | apply below_drew1) | exact HB.out))) : w.heap.size ≤ gb212)); have n3_ := Aside0.mk ((by rw [hg]; exact (below_size (by repeat (first | (with_reducible first | exact HB.out | apply below_alloc | apply pw_below_drewN | apply below_drew1) | exact HB.out))) : w.heap.size ≤ gb212)); clear HB; have HB := n0_; have BK212 := n1_; have GW212 := n2_; have GE212 := n3_; clear n0_ n1_ n2_ n3_; clear hb hbox hg) | ((with_reducible refine gate_callee (f := 18) rfl ?_); refine goesL_ (some 10) rfl rfl Try.func18 (by kernel_rfl) rfl #[] rfl (by (try simp only [List.map_toArray, List.map_cons, List.map_nil]); first | done | rfl | (simp only [List.length_drop, List.length_take]; rfl)) ?_; (with_reducible refine (paternosterlaw07_awake.calls k  true _ A3.out).mono ?_); rintro e w54 ⟨rfl, hb⟩; refine ⟨_, rfl, ?_⟩; have n0_ := Aside0.mk (blk_below (g := gb212) (o := .cells #[.int .i64 a0_0, .int .i64 a0_1, .int .i64 a0_2] 37 (0, 0)) (by (with_reducible repeat (first | refine blk_drewN ?_ _ | refine blk_drew ?_ | refine blk_alloc ?_ _)); exact BK212.out) hb); have n1_ := Aside0.mk (below_step (by repeat (first | (with_reducible first | exact HB.out | apply below_alloc | apply pw_below_drewN | apply below_drew1 | refine below_set ?_ GE212.out) | exact HB.out)) hb); clear BK212; clear HB; have BK212 := n0_; have HB := n1_; clear n0_ n1_; (try clear hb); (try clear hb2); (try clear hk); (try clear hi); have hcz55_0 : w54.cell? ⟨gb212, 0, none⟩ = some (.int .i64 a0_0) := (blk_cell BK212.out 0).trans rfl; have hcz55_1 : w54.cell? ⟨gb212, 1, none⟩ = some (.int .i64 a0_1) := (blk_cell BK212.out 1).trans rfl; have hcz55_2 : w54.cell? ⟨gb212, 2, none⟩ = some (.int .i64 a0_2) := (blk_cell BK212.out 2).trans rfl; have hfz55_0 := blk_frozen BK212.out 0; have hfz55_1 := blk_frozen BK212.out 1; have hfz55_2 := blk_frozen BK212.out 2) | ((with_reducible refine gate_callee (f := 21) rfl ?_); refine goesL_ (some 14) rfl rfl Try.func21 (by kernel_rfl) rfl #[.agg #[.int .i64 a0_0, .int .i64 a0_1, .int .i64 a0_2]] rfl (by (try simp only [List.map_toArray, List.map_cons, List.map_nil]); first | done | rfl | (simp only [List.length_drop, List.length_take]; rfl)) ?_; (with_reducible refine (paternosterlaw07_may.calls a0_0 a0_1 a0_2 false _ A5.out).mono ?_); rintro e w56 ⟨rfl, hb⟩; refine ⟨_, rfl, ?_⟩; have n0_ := Aside0.mk (blk_below (g := gb212) (o := .cells #[.int .i64 a0_0, .int .i64 a0_1, .int .i64 a0_2] 37 (0, 0)) (by (with_reducible repeat (first | refine blk_drewN ?_ _ | refine blk_drew ?_ | refine blk_alloc ?_ _)); exact BK212.out) hb); have n1_ := Aside0.mk (below_step (by repeat (first | (with_reducible first | exact HB.out | apply below_alloc | apply pw_below_drewN | apply below_drew1 | refine below_set ?_ GE212.out) | exact HB.out)) hb); clear BK212; clear HB; have BK212 := n0_; have HB := n1_; clear n0_ n1_; (try clear hb); (try clear hb2); (try clear hk); (try clear hi)))
      go_ret
      exact ⟨by first | rfl | (simp [errW_none, errW_some] <;> rfl) | (simp [*, errW_none, errW_some] <;> rfl), by repeat (first | (with_reducible first | exact HB.out | apply below_alloc | apply pw_below_drewN | apply below_drew1 | refine below_set ?_ GE212.out) | exact HB.out)⟩
  · replace c4 := Bool.eq_false_iff.mpr c4
    subst c4
    have H1 : (some false) = some r := by rw [if_neg (show ¬ (false = true) by decide)] at H; exact H
    clear H
    have H := H1
    clear H1
    exact absurd (Option.some.inj H) (by rw [HT.out]; decide)

/-- THE ONE PURE STATEMENT of paternosterlaw07_CarSlow: yours. -/
def paternosterlaw07_CarSlow.Pure : Prop := ∀ (a0_0 : Int) (a0_1 : Int) (a0_2 : Int) (a1 : Int), (Lit.int .i64 a0_0).wf = true → (Lit.int .i64 a0_1).wf = true → (Lit.int .i64 a0_2).wf = true → (Lit.int .i64 a1).wf = true → ∃ k, paternosterlaw07_CarSlow.f k a0_0 a0_1 a0_2 a1 = some true
theorem paternosterlaw07_CarSlow.walk (P : paternosterlaw07_CarSlow.Pure) (a0_0 : Int) (a0_1 : Int) (a0_2 : Int) (a1 : Int) (w : World) (w0_0 : (Lit.int .i64 a0_0).wf = true) (w0_1 : (Lit.int .i64 a0_1).wf = true) (w0_2 : (Lit.int .i64 a0_2).wf = true) (w1 : (Lit.int .i64 a1).wf = true) :
    Calls Try.prog 9 #[.agg #[.int .i64 a0_0, .int .i64 a0_1, .int .i64 a0_2], .int .i64 a1] w fun e w' => e = .returned (.bool true) ∧ Below w.heap.size w w' := by
  obtain ⟨k, h⟩ := P a0_0 a0_1 a0_2 a1 w0_0 w0_1 w0_2 w1
  refine (paternosterlaw07_CarSlow.calls k a0_0 a0_1 a0_2 a1 true w rfl h).mono ?_
  rintro e w' ⟨rfl, hd⟩
  exact ⟨rfl, hd⟩

end Go.Proofs.Ytgoagpjmnobjhaa.Q
