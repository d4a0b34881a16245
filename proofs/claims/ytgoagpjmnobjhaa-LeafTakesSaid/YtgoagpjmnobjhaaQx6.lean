-- Written by a program of this session (turned from the kit's print.py) out of the translation. Not trusted: Lean checks it.
import Derived.Test.YtgoagpjmnobjhaaQx0
import Derived.Test.YtgoagpjmnobjhaaQx4
namespace Go.Proofs.Ytgoagpjmnobjhaa.Q
open Go.RowKit Go.Proofs.YtgoagpjmnobjhaaW.PrintWords Go.Proofs.YtgoagpjmnobjhaaW.PrintLast Go.Proofs.YtgoagpjmnobjhaaW.PrintMore
attribute [local go_sem] max2_int min2_int max_two min_two max_three min_three max_four min_four   -- for this text's walks alone
set_option linter.unusedVariables false
set_option linter.unusedSimpArgs false

attribute [local go_sem] fld24_0 fld24_1 fld37_0 fld37_1 fld37_2 fld44_0 fld44_1 fld44_2
/-! ### paternosterlaw08_LeafTakes: function 4 -/
mutual
def paternosterlaw08_LeafTakes.l0 : Nat → List Bool → Int → Int → Int → Int → Int → Int → Option (Bool)
  | 0, _, _, _, _, _, _, _ => none
  | k + 1, x2, x8, x11, x123000, x123001, x124000, x124001 => (leaf_Leaf_Left.f x123000 x123001).bind fun t124 => (if x11 < t124 then ((leaf_Leaf_Wide.f x124000 x124001).bind fun t125 => (if t125 = true then (some false) else ((leaf_Leaf_Step.f x124000 x124001 1 true).bind fun bt126 => (paternosterlaw08_LeafTakes.l0 k x2 x8 (wrap64 (x11 + 1)) x123000 x123001 bt126.1 bt126.2)))) else ((leaf_Leaf_Wide.f x124000 x124001).bind fun t128 => (if t128 = true then (paternosterlaw08_LeafTakes.l1 k x2 x8 0 0 x124000 x124001) else (some false))))
def paternosterlaw08_LeafTakes.l1 : Nat → List Bool → Int → Int → Int → Int → Int → Option (Bool)
  | 0, _, _, _, _, _, _ => none
  | k + 1, x2, x8, x12, x13, x124000, x124001 => if x13 < (x2.length : Int) then (if 0 ≤ x13 then ((leaf_Leaf_Step.f x124000 x124001 2 (rdOf false x2 x13)).bind fun bt130 => (if rdOf false x2 x13 = true then ((leaf_Leaf_Shut.f bt130.1 bt130.2).bind fun t133 => (if (t133 != (decide (x12 ≥ x8))) = true then (some false) else (if bt130.1 = (mx (wrap64 (x8 - x12)) 0) then (paternosterlaw08_LeafTakes.l1 k x2 x8 x12 (wrap64 (x13 + 1)) bt130.1 bt130.2) else (some false)))) else ((leaf_Leaf_Shut.f bt130.1 bt130.2).bind fun t134 => (if (t134 != (decide ((wrap64 (x12 + 1)) ≥ x8))) = true then (some false) else (if bt130.1 = (mx (wrap64 (x8 - (wrap64 (x12 + 1)))) 0) then (paternosterlaw08_LeafTakes.l1 k x2 x8 (wrap64 (x12 + 1)) (wrap64 (x13 + 1)) bt130.1 bt130.2) else (some false)))))) else (none)) else (some true)
end
def paternosterlaw08_LeafTakes.f (k : Nat) (a0 : Int) (a1 : Int) (l2 : List Bool) : Option (Bool) := (paternosterlaw08_awake.f).bind fun t121 => (if t121 = true then (if (l2.length : Int) > 200 then (some true) else (if (wrap64 ((wrap64 ((wrap64 (Int.tmod a1 16)) + 1)) + 1)) = 0 then (none) else (paternosterlaw08_LeafTakes.l0 k l2 (wrap64 ((wrap64 (Int.tmod a1 16)) + 1)) 0 (Int.tmod (wrap64 (a0)) (wrap64 ((wrap64 ((wrap64 (Int.tmod a1 16)) + 1)) + 1))) (wrap64 ((wrap64 (Int.tmod a1 16)) + 1)) (Int.tmod (wrap64 (a0)) (wrap64 ((wrap64 ((wrap64 (Int.tmod a1 16)) + 1)) + 1))) (wrap64 ((wrap64 (Int.tmod a1 16)) + 1))))) else (some false))
theorem paternosterlaw08_LeafTakes.mono_l : ∀ k, (∀ y0 y1 y2 y3 y4 y5 y6, LeO (paternosterlaw08_LeafTakes.l0 k y0 y1 y2 y3 y4 y5 y6) (paternosterlaw08_LeafTakes.l0 (k + 1) y0 y1 y2 y3 y4 y5 y6)) ∧ (∀ y0 y1 y2 y3 y4 y5, LeO (paternosterlaw08_LeafTakes.l1 k y0 y1 y2 y3 y4 y5) (paternosterlaw08_LeafTakes.l1 (k + 1) y0 y1 y2 y3 y4 y5))
  | 0 => ⟨fun _ _ _ _ _ _ _ r h => by simp [paternosterlaw08_LeafTakes.l0] at h, fun _ _ _ _ _ _ r h => by simp [paternosterlaw08_LeafTakes.l1] at h⟩
  | k + 1 => by
    obtain ⟨ih0, ih1⟩ := paternosterlaw08_LeafTakes.mono_l k
    refine ⟨?_, ?_⟩
    · intro y0 y1 y2 y3 y4 y5 y6
      unfold paternosterlaw08_LeafTakes.l0
      repeat' first
      | (with_reducible exact ih0 _ _ _ _ _ _ _)
      | (with_reducible exact ih1 _ _ _ _ _ _)
      | (with_reducible exact LeO.refl _)
      | (with_reducible exact LeO.none _)
      | (with_reducible refine LeO.ite ?_ ?_)
      | (with_reducible refine LeO.bind ?_ (fun _ => ?_))
      | exact ih0 _ _ _ _ _ _ _
      | exact ih1 _ _ _ _ _ _
      | exact LeO.none _
      | refine LeO.ite ?_ ?_
      | refine LeO.bind ?_ (fun _ => ?_)
    · intro y0 y1 y2 y3 y4 y5
      unfold paternosterlaw08_LeafTakes.l1
      repeat' first
      | (with_reducible exact ih0 _ _ _ _ _ _ _)
      | (with_reducible exact ih1 _ _ _ _ _ _)
      | (with_reducible exact LeO.refl _)
      | (with_reducible exact LeO.none _)
      | (with_reducible refine LeO.ite ?_ ?_)
      | (with_reducible refine LeO.bind ?_ (fun _ => ?_))
      | exact ih0 _ _ _ _ _ _ _
      | exact ih1 _ _ _ _ _ _
      | exact LeO.none _
      | refine LeO.ite ?_ ?_
      | refine LeO.bind ?_ (fun _ => ?_)
theorem paternosterlaw08_LeafTakes.mono : ∀ a0 a1 a2 k, LeO (paternosterlaw08_LeafTakes.f k a0 a1 a2) (paternosterlaw08_LeafTakes.f (k + 1) a0 a1 a2) := by
  intro a0 a1 a2 k
  obtain ⟨ih0, ih1⟩ := paternosterlaw08_LeafTakes.mono_l k
  unfold paternosterlaw08_LeafTakes.f
  repeat' first
      | (with_reducible exact ih0 _ _ _ _ _ _ _)
      | (with_reducible exact ih1 _ _ _ _ _ _)
      | (with_reducible exact LeO.refl _)
      | (with_reducible exact LeO.none _)
      | (with_reducible refine LeO.ite ?_ ?_)
      | (with_reducible refine LeO.bind ?_ (fun _ => ?_))
      | exact ih0 _ _ _ _ _ _ _
      | exact ih1 _ _ _ _ _ _
      | exact LeO.none _
      | refine LeO.ite ?_ ?_
      | refine LeO.bind ?_ (fun _ => ?_)
set_option maxHeartbeats 8000000 in
set_option maxRecDepth 100000 in
theorem paternosterlaw08_LeafTakes.calls (k : Nat) (a0 : Int) (a1 : Int) (A2 : Option Addr) (c2 : Nat) (l2 : List Bool) (r : Bool) (w : World) (hr2 : Kd.C Kd.bool w A2 l2.length l2) (hc2 : l2.length ≤ c2) (hT : r = true) (h : paternosterlaw08_LeafTakes.f k a0 a1 l2 = some r) :
    Calls Try.prog 4 #[.int .u8 a0, .int .u8 a1, .slice A2 l2.length c2] w fun e w' => e = .returned (.bool r) ∧ Below w.heap.size w w' := by
  have hu24 := Try.underlying24
  have HT := Aside0.mk hT
  clear hT
  have HR2 := Aside0.mk hr2
  have HC2 := Aside0.mk hc2
  clear hr2 hc2
  have HB := Aside0.mk (Below.refl w.heap.size w)
  have H : ((paternosterlaw08_awake.f).bind fun t121 => (if t121 = true then (if (l2.length : Int) > 200 then (some true) else (if (wrap64 ((wrap64 ((wrap64 (Int.tmod a1 16)) + 1)) + 1)) = 0 then (none) else (paternosterlaw08_LeafTakes.l0 k l2 (wrap64 ((wrap64 (Int.tmod a1 16)) + 1)) 0 (Int.tmod (wrap64 (a0)) (wrap64 ((wrap64 ((wrap64 (Int.tmod a1 16)) + 1)) + 1))) (wrap64 ((wrap64 (Int.tmod a1 16)) + 1)) (Int.tmod (wrap64 (a0)) (wrap64 ((wrap64 ((wrap64 (Int.tmod a1 16)) + 1)) + 1))) (wrap64 ((wrap64 (Int.tmod a1 16)) + 1))))) else (some false))) = some r := h
  clear h
  replace H := Option.bind_eq_some_iff.mp H
  obtain ⟨t121, A40, H⟩ := H
  replace H : (if t121 = true then (if (l2.length : Int) > 200 then (some true) else (if (wrap64 ((wrap64 ((wrap64 (Int.tmod a1 16)) + 1)) + 1)) = 0 then (none) else (paternosterlaw08_LeafTakes.l0 k l2 (wrap64 ((wrap64 (Int.tmod a1 16)) + 1)) 0 (Int.tmod (wrap64 (a0)) (wrap64 ((wrap64 ((wrap64 (Int.tmod a1 16)) + 1)) + 1))) (wrap64 ((wrap64 (Int.tmod a1 16)) + 1)) (Int.tmod (wrap64 (a0)) (wrap64 ((wrap64 ((wrap64 (Int.tmod a1 16)) + 1)) + 1))) (wrap64 ((wrap64 (Int.tmod a1 16)) + 1))))) else (some false)) = some r := H
  have A4 := Aside0.mk A40
  clear A40
  by_cases c5 : t121 = true
  · subst c5
    have H1 : (if (l2.length : Int) > 200 then (some true) else (if (wrap64 ((wrap64 ((wrap64 (Int.tmod a1 16)) + 1)) + 1)) = 0 then (none) else (paternosterlaw08_LeafTakes.l0 k l2 (wrap64 ((wrap64 (Int.tmod a1 16)) + 1)) 0 (Int.tmod (wrap64 (a0)) (wrap64 ((wrap64 ((wrap64 (Int.tmod a1 16)) + 1)) + 1))) (wrap64 ((wrap64 (Int.tmod a1 16)) + 1)) (Int.tmod (wrap64 (a0)) (wrap64 ((wrap64 ((wrap64 (Int.tmod a1 16)) + 1)) + 1))) (wrap64 ((wrap64 (Int.tmod a1 16)) + 1))))) = some r := by rw [if_pos rfl] at H; exact H
    clear H
    have H := H1
    clear H1
    by_cases c6 : (l2.length : Int) > 200
    · rw [if_pos c6] at H
      have c6b0 : decide (200 < (l2.length : Int)) = true := decide_eq_true c6
      have c6b1 : decide (200 < l2.length) = true := decide_eq_true (by omega)
      clear c6
      obtain rfl := Option.some.inj H
      go_enter Try.func4, Try.ntmps4
      go_wp2_with (first | ((with_reducible refine gate_callee (f := 12) rfl ?_); refine goesL_ (some 14) rfl rfl Try.func12 (by kernel_rfl) rfl #[] rfl (by (try simp only [List.map_toArray, List.map_cons, List.map_nil]); first | done | rfl | (simp only [List.length_drop, List.length_take]; rfl)) ?_; (with_reducible refine (paternosterlaw08_awake.calls  true _ (by first | exact A4.out | (rw [Nbq38.out]; exact A4.out))).mono ?_); rintro e w7 ⟨rfl, hb⟩; refine ⟨_, rfl, ?_⟩; have n0_ := Aside0.mk (below_step (by repeat (first | (with_reducible first | exact HB.out | apply below_alloc | apply pw_below_drewN | apply below_drew1) | exact HB.out)) hb); clear HB; have HB := n0_; clear n0_; (try clear hb); (try clear hb2); (try clear hk); (try clear hi)))
      go_ret
      exact ⟨by first | rfl | (simp [errW_none, errW_some] <;> rfl) | (simp [*, errW_none, errW_some] <;> rfl), by repeat (first | (with_reducible first | exact HB.out | apply below_alloc | apply pw_below_drewN | apply below_drew1) | exact HB.out)⟩
    · rw [if_neg c6] at H
      have c6b0 : decide (200 < (l2.length : Int)) = false := decide_eq_false c6
      have c6b1 : decide (200 < l2.length) = false := decide_eq_false (by omega)
      clear c6
      by_cases c8 : (wrap64 ((wrap64 ((wrap64 (Int.tmod a1 16)) + 1)) + 1)) = 0
      · rw [if_pos c8] at H
        exact absurd H (by simp)
      · rw [if_neg c8] at H
        have c8b0 : ((wrap64 ((wrap64 ((wrap64 (Int.tmod a1 16)) + 1)) + 1)) == 0) = false := beq_eq_false_iff_ne.mpr c8
        have c8b1 : ((wrap64 ((wrap64 ((wrap64 (Int.tmod a1 16)) + 1)) + 1)) != 0) = true := bne_iff_ne.mpr c8
        have H' := Aside0.mk H
        clear H
        go_enter Try.func4, Try.ntmps4
        go_wp2_with (first | ((with_reducible refine gate_callee (f := 12) rfl ?_); refine goesL_ (some 14) rfl rfl Try.func12 (by kernel_rfl) rfl #[] rfl (by (try simp only [List.map_toArray, List.map_cons, List.map_nil]); first | done | rfl | (simp only [List.length_drop, List.length_take]; rfl)) ?_; (with_reducible refine (paternosterlaw08_awake.calls  true _ (by first | exact A4.out | (rw [Nbq38.out]; exact A4.out))).mono ?_); rintro e w9 ⟨rfl, hb⟩; refine ⟨_, rfl, ?_⟩; have n0_ := Aside0.mk (below_step (by repeat (first | (with_reducible first | exact HB.out | apply below_alloc | apply pw_below_drewN | apply below_drew1) | exact HB.out)) hb); clear HB; have HB := n0_; clear n0_; (try clear hb); (try clear hb2); (try clear hk); (try clear hi)) | ((with_reducible refine gate_dst (N := 9) rfl ?_); (try (refine gate_guard (by rfl) ?_; dsimp only)); refine box_event ?hg (N := 9) ?hd (cs := #[.int .i64 0, .int .i64 0]) (t := 24) ?hr ?_; (case hd => rfl); (case hg => rfl); (case hr => first | (go_simp; done) | (go_simp; rfl)); intro gb122 hg w10 hbox hb; have n0_ := Aside0.mk (below_step (by repeat (first | (with_reducible first | exact HB.out | apply below_alloc | apply pw_below_drewN | apply below_drew1) | exact HB.out)) hb); have n1_ := Aside0.mk (hbox); have n2_ := Aside0.mk ((by rw [hg]; exact (below_size (by repeat (first | (with_reducible first | exact HB.out | apply below_alloc | apply pw_below_drewN | apply below_drew1) | exact HB.out))) : w.heap.size ≤ gb122)); have n3_ := Aside0.mk ((by rw [hg]; exact (below_size (by repeat (first | (with_reducible first | exact HB.out | apply below_alloc | apply pw_below_drewN | apply below_drew1) | exact HB.out))) : w.heap.size ≤ gb122)); clear HB; have HB := n0_; have BK122 := n1_; have GW122 := n2_; have GE122 := n3_; clear n0_ n1_ n2_ n3_; clear hb hbox hg; have hcz11_0 : w10.cell? ⟨gb122, 0, none⟩ = some (.int .i64 0) := (blk_cell BK122.out 0).trans rfl; have hcz11_1 : w10.cell? ⟨gb122, 1, none⟩ = some (.int .i64 0) := (blk_cell BK122.out 1).trans rfl; have hfz11_0 := blk_frozen BK122.out 0; have hfz11_1 := blk_frozen BK122.out 1) | ((with_reducible refine gate_dst (N := 10) rfl ?_); (try (refine gate_guard (by rfl) ?_; dsimp only)); refine box_event ?hg (N := 10) ?hd (cs := #[.int .i64 0, .int .i64 0]) (t := 24) ?hr ?_; (case hd => rfl); (case hg => rfl); (case hr => first | (go_simp; done) | (go_simp; rfl)); intro gb123 hg w12 hbox hb; have n0_ := Aside0.mk (blk_below (g := gb122) (o := .cells #[.int .i64 (Int.tmod (wrap64 (a0)) (wrap64 ((wrap64 ((wrap64 (Int.tmod a1 16)) + 1)) + 1))), .int .i64 (wrap64 ((wrap64 (Int.tmod a1 16)) + 1))] 24 (0, 0)) (by (with_reducible repeat (first | refine blk_drewN ?_ _ | refine blk_drew ?_ | refine blk_alloc ?_ _)); refine blk_put (cs := #[.int .i64 (Int.tmod (wrap64 (a0)) (wrap64 ((wrap64 ((wrap64 (Int.tmod a1 16)) + 1)) + 1))), .int .i64 0]) ?_ 1 _ rfl; (with_reducible repeat (first | refine blk_drewN ?_ _ | refine blk_drew ?_ | refine blk_alloc ?_ _)); refine blk_put (cs := #[.int .i64 0, .int .i64 0]) ?_ 0 _ rfl; (with_reducible repeat (first | refine blk_drewN ?_ _ | refine blk_drew ?_ | refine blk_alloc ?_ _)); exact BK122.out) hb); have n1_ := Aside0.mk (below_step (by repeat (first | (with_reducible first | exact HB.out | apply below_alloc | apply pw_below_drewN | apply below_drew1 | refine below_set ?_ GE122.out) | exact HB.out)) hb); have n2_ := Aside0.mk (hbox); have n3_ := Aside0.mk ((by rw [hg]; exact (below_size (by repeat (first | (with_reducible first | exact HB.out | apply below_alloc | apply pw_below_drewN | apply below_drew1 | refine below_set ?_ GE122.out) | exact HB.out))) : w.heap.size ≤ gb123)); have n4_ := Aside0.mk ((by rw [hg]; exact (below_size (by repeat (first | (with_reducible first | exact HB.out | apply below_alloc | apply pw_below_drewN | apply below_drew1 | refine below_set ?_ GE122.out) | exact HB.out))) : w.heap.size ≤ gb123)); have n5_ := Aside0.mk ((by rw [hg]; exact Nat.ne_of_lt (blk_lt (g := gb122) (o := .cells #[.int .i64 (Int.tmod (wrap64 (a0)) (wrap64 ((wrap64 ((wrap64 (Int.tmod a1 16)) + 1)) + 1))), .int .i64 (wrap64 ((wrap64 (Int.tmod a1 16)) + 1))] 24 (0, 0)) (by (with_reducible repeat (first | refine blk_drewN ?_ _ | refine blk_drew ?_ | refine blk_alloc ?_ _)); refine blk_put (cs := #[.int .i64 (Int.tmod (wrap64 (a0)) (wrap64 ((wrap64 ((wrap64 (Int.tmod a1 16)) + 1)) + 1))), .int .i64 0]) ?_ 1 _ rfl; (with_reducible repeat (first | refine blk_drewN ?_ _ | refine blk_drew ?_ | refine blk_alloc ?_ _)); refine blk_put (cs := #[.int .i64 0, .int .i64 0]) ?_ 0 _ rfl; (with_reducible repeat (first | refine blk_drewN ?_ _ | refine blk_drew ?_ | refine blk_alloc ?_ _)); exact BK122.out)) : gb122 ≠ gb123)); have n6_ := Aside0.mk ((by rw [hg]; exact Nat.ne_of_gt (blk_lt (g := gb122) (o := .cells #[.int .i64 (Int.tmod (wrap64 (a0)) (wrap64 ((wrap64 ((wrap64 (Int.tmod a1 16)) + 1)) + 1))), .int .i64 (wrap64 ((wrap64 (Int.tmod a1 16)) + 1))] 24 (0, 0)) (by (with_reducible repeat (first | refine blk_drewN ?_ _ | refine blk_drew ?_ | refine blk_alloc ?_ _)); refine blk_put (cs := #[.int .i64 (Int.tmod (wrap64 (a0)) (wrap64 ((wrap64 ((wrap64 (Int.tmod a1 16)) + 1)) + 1))), .int .i64 0]) ?_ 1 _ rfl; (with_reducible repeat (first | refine blk_drewN ?_ _ | refine blk_drew ?_ | refine blk_alloc ?_ _)); refine blk_put (cs := #[.int .i64 0, .int .i64 0]) ?_ 0 _ rfl; (with_reducible repeat (first | refine blk_drewN ?_ _ | refine blk_drew ?_ | refine blk_alloc ?_ _)); exact BK122.out)) : gb123 ≠ gb122)); clear BK122; clear HB; have BK122 := n0_; have HB := n1_; have BK123 := n2_; have GW123 := n3_; have GE123 := n4_; have NB122_123 := n5_; have NB123_122 := n6_; clear n0_ n1_ n2_ n3_ n4_ n5_ n6_; clear hb hbox hg; have hnb13 := NB123_122.out; have hnc13 := NB122_123.out; have hcz14_0 : w12.cell? ⟨gb123, 0, none⟩ = some (.int .i64 0) := (blk_cell BK123.out 0).trans rfl; have hcz14_1 : w12.cell? ⟨gb123, 1, none⟩ = some (.int .i64 0) := (blk_cell BK123.out 1).trans rfl; have hfz14_0 := blk_frozen BK123.out 0; have hfz14_1 := blk_frozen BK123.out 1))
        go_loopg [11] k (fun kq v11 w' => ∃ (x11_1 : Int) (x124000_1 : Int) (x124001_1 : Int), v11 = .int .i64 x11_1 ∧ Aside0 (paternosterlaw08_LeafTakes.l0 kq l2 (wrap64 ((wrap64 (Int.tmod a1 16)) + 1)) x11_1 (Int.tmod (wrap64 (a0)) (wrap64 ((wrap64 ((wrap64 (Int.tmod a1 16)) + 1)) + 1))) (wrap64 ((wrap64 (Int.tmod a1 16)) + 1)) x124000_1 x124001_1 = some r) ∧ Aside0 (kq ≤ k) ∧ Aside0 (w'.heap[gb122]? = some (.cells #[.int .i64 (Int.tmod (wrap64 (a0)) (wrap64 ((wrap64 ((wrap64 (Int.tmod a1 16)) + 1)) + 1))), .int .i64 (wrap64 ((wrap64 (Int.tmod a1 16)) + 1))] 24 (0, 0))) ∧ Aside0 (w'.heap[gb123]? = some (.cells #[.int .i64 x124000_1, .int .i64 x124001_1] 24 (0, 0))) ∧ Aside0 (Below w.heap.size w w'))
        case atStart => exact ⟨(0), (Int.tmod (wrap64 (a0)) (wrap64 ((wrap64 ((wrap64 (Int.tmod a1 16)) + 1)) + 1))), (wrap64 ((wrap64 (Int.tmod a1 16)) + 1)), (by first | rfl | (simp; done) | (simp [*]; done)), H', ⟨Nat.le_refl _⟩, ⟨by (with_reducible repeat (first | refine blk_drewN ?_ _ | refine blk_drew ?_ | refine blk_alloc ?_ _)); refine blk_far ?_ NB122_123.out _; (with_reducible repeat (first | refine blk_drewN ?_ _ | refine blk_drew ?_ | refine blk_alloc ?_ _)); refine blk_far ?_ NB122_123.out _; (with_reducible repeat (first | refine blk_drewN ?_ _ | refine blk_drew ?_ | refine blk_alloc ?_ _)); exact BK122.out⟩, ⟨by (with_reducible repeat (first | refine blk_drewN ?_ _ | refine blk_drew ?_ | refine blk_alloc ?_ _)); refine blk_put (cs := #[.int .i64 (Int.tmod (wrap64 (a0)) (wrap64 ((wrap64 ((wrap64 (Int.tmod a1 16)) + 1)) + 1))), .int .i64 0]) ?_ 1 _ rfl; (with_reducible repeat (first | refine blk_drewN ?_ _ | refine blk_drew ?_ | refine blk_alloc ?_ _)); refine blk_put (cs := #[.int .i64 0, .int .i64 0]) ?_ 0 _ rfl; (with_reducible repeat (first | refine blk_drewN ?_ _ | refine blk_drew ?_ | refine blk_alloc ?_ _)); exact BK123.out⟩, ⟨by repeat (first | (with_reducible first | exact HB.out | apply below_alloc | apply pw_below_drewN | apply below_drew1 | refine below_set ?_ GE122.out | refine below_set ?_ GE123.out) | exact HB.out)⟩⟩
        case round =>
          clear H'
          try clear c1
          try clear c2
          try clear p2
          try clear c4
          try clear c5
          try clear c6
          try clear c6b0
          try clear c6b1
          try clear p6
          try clear c8
          try clear c8b0
          try clear c8b1
          try clear c12
          try clear c13
          try clear hcz11_0
          try clear hcz11_1
          try clear hcz14_0
          try clear hcz14_1
          try clear hfz11_0
          try clear hfz11_1
          try clear hfz14_0
          try clear hfz14_1
          obtain ⟨x11_1, x124000_1, x124001_1, rfl, HA, HK1, BK122, BK123, HB⟩ := hrel
          cases gk with
          | zero => exact absurd HA.out (by simp [paternosterlaw08_LeafTakes.l0])
          | succ k1 =>
            have H := HA.out
            clear HA
            simp only [paternosterlaw08_LeafTakes.l0] at H
            replace H := Option.bind_eq_some_iff.mp H
            obtain ⟨t124, A150, H⟩ := H
            replace H : (if x11_1 < t124 then ((leaf_Leaf_Wide.f x124000_1 x124001_1).bind fun t125 => (if t125 = true then (some false) else ((leaf_Leaf_Step.f x124000_1 x124001_1 1 true).bind fun bt126 => (paternosterlaw08_LeafTakes.l0 k1 l2 (wrap64 ((wrap64 (Int.tmod a1 16)) + 1)) (wrap64 (x11_1 + 1)) (Int.tmod (wrap64 (a0)) (wrap64 ((wrap64 ((wrap64 (Int.tmod a1 16)) + 1)) + 1))) (wrap64 ((wrap64 (Int.tmod a1 16)) + 1)) bt126.1 bt126.2)))) else ((leaf_Leaf_Wide.f x124000_1 x124001_1).bind fun t128 => (if t128 = true then (paternosterlaw08_LeafTakes.l1 k1 l2 (wrap64 ((wrap64 (Int.tmod a1 16)) + 1)) 0 0 x124000_1 x124001_1) else (some false)))) = some r := H
            have A15 := Aside0.mk A150
            clear A150
            by_cases c16 : x11_1 < t124
            · rw [if_pos c16] at H
              have c16b0 : decide (x11_1 < t124) = true := decide_eq_true c16
              clear c16
              replace H := Option.bind_eq_some_iff.mp H
              obtain ⟨t125, A170, H⟩ := H
              replace H : (if t125 = true then (some false) else ((leaf_Leaf_Step.f x124000_1 x124001_1 1 true).bind fun bt126 => (paternosterlaw08_LeafTakes.l0 k1 l2 (wrap64 ((wrap64 (Int.tmod a1 16)) + 1)) (wrap64 (x11_1 + 1)) (Int.tmod (wrap64 (a0)) (wrap64 ((wrap64 ((wrap64 (Int.tmod a1 16)) + 1)) + 1))) (wrap64 ((wrap64 (Int.tmod a1 16)) + 1)) bt126.1 bt126.2))) = some r := H
              have A17 := Aside0.mk A170
              clear A170
              by_cases c18 : t125 = true
              · subst c18
                have H1 : (some false) = some r := by rw [if_pos rfl] at H; exact H
                clear H
                have H := H1
                clear H1
                exact absurd (Option.some.inj H) (by rw [HT.out]; decide)
              · replace c18 := Bool.eq_false_iff.mpr c18
                subst c18
                have H1 : ((leaf_Leaf_Step.f x124000_1 x124001_1 1 true).bind fun bt126 => (paternosterlaw08_LeafTakes.l0 k1 l2 (wrap64 ((wrap64 (Int.tmod a1 16)) + 1)) (wrap64 (x11_1 + 1)) (Int.tmod (wrap64 (a0)) (wrap64 ((wrap64 ((wrap64 (Int.tmod a1 16)) + 1)) + 1))) (wrap64 ((wrap64 (Int.tmod a1 16)) + 1)) bt126.1 bt126.2)) = some r := by rw [if_neg (show ¬ (false = true) by decide)] at H; exact H
                clear H
                have H := H1
                clear H1
                replace H := Option.bind_eq_some_iff.mp H
                obtain ⟨⟨t126, t127⟩, A190, H⟩ := H
                replace H : (paternosterlaw08_LeafTakes.l0 k1 l2 (wrap64 ((wrap64 (Int.tmod a1 16)) + 1)) (wrap64 (x11_1 + 1)) (Int.tmod (wrap64 (a0)) (wrap64 ((wrap64 ((wrap64 (Int.tmod a1 16)) + 1)) + 1))) (wrap64 ((wrap64 (Int.tmod a1 16)) + 1)) t126 t127) = some r := H
                have A19 := Aside0.mk A190
                clear A190
                have H' := Aside0.mk H
                clear H
                have hnb20 := NB122_123.out
                have hnc20 := NB123_122.out
                have hcz21_0 : wr.cell? ⟨gb122, 0, none⟩ = some (.int .i64 (Int.tmod (wrap64 (a0)) (wrap64 ((wrap64 ((wrap64 (Int.tmod a1 16)) + 1)) + 1)))) := (blk_cell BK122.out 0).trans rfl
                have hcz21_1 : wr.cell? ⟨gb122, 1, none⟩ = some (.int .i64 (wrap64 ((wrap64 (Int.tmod a1 16)) + 1))) := (blk_cell BK122.out 1).trans rfl
                have hfz21_0 := blk_frozen BK122.out 0
                have hfz21_1 := blk_frozen BK122.out 1
                go_wp2_with (first | ((with_reducible refine gate_callee (f := 17) rfl ?_); refine goesL_ (some 34) rfl rfl Try.func17 (by kernel_rfl) rfl #[.agg #[.int .i64 (Int.tmod (wrap64 (a0)) (wrap64 ((wrap64 ((wrap64 (Int.tmod a1 16)) + 1)) + 1))), .int .i64 (wrap64 ((wrap64 (Int.tmod a1 16)) + 1))]] rfl (by (try simp only [List.map_toArray, List.map_cons, List.map_nil]); first | done | rfl | (simp only [List.length_drop, List.length_take]; rfl)) ?_; (with_reducible refine (leaf_Leaf_Left.calls (Int.tmod (wrap64 (a0)) (wrap64 ((wrap64 ((wrap64 (Int.tmod a1 16)) + 1)) + 1))) (wrap64 ((wrap64 (Int.tmod a1 16)) + 1)) t124 _ (by first | exact A15.out | (rw [Nbq38.out]; exact A15.out))).mono ?_); rintro e w22 ⟨rfl, hb⟩; refine ⟨_, rfl, ?_⟩; have n0_ := Aside0.mk (blk_below (g := gb122) (o := .cells #[.int .i64 (Int.tmod (wrap64 (a0)) (wrap64 ((wrap64 ((wrap64 (Int.tmod a1 16)) + 1)) + 1))), .int .i64 (wrap64 ((wrap64 (Int.tmod a1 16)) + 1))] 24 (0, 0)) (by (with_reducible repeat (first | refine blk_drewN ?_ _ | refine blk_drew ?_ | refine blk_alloc ?_ _)); exact BK122.out) hb); have n1_ := Aside0.mk (blk_below (g := gb123) (o := .cells #[.int .i64 x124000_1, .int .i64 x124001_1] 24 (0, 0)) (by (with_reducible repeat (first | refine blk_drewN ?_ _ | refine blk_drew ?_ | refine blk_alloc ?_ _)); exact BK123.out) hb); have n2_ := Aside0.mk (below_step (by repeat (first | (with_reducible first | exact HB.out | apply below_alloc | apply pw_below_drewN | apply below_drew1 | refine below_set ?_ GE122.out | refine below_set ?_ GE123.out) | exact HB.out)) hb); clear BK122; clear BK123; clear HB; have BK122 := n0_; have BK123 := n1_; have HB := n2_; clear n0_ n1_ n2_; (try clear hb); (try clear hb2); (try clear hk); (try clear hi); have hcz23_0 : w22.cell? ⟨gb123, 0, none⟩ = some (.int .i64 x124000_1) := (blk_cell BK123.out 0).trans rfl; have hcz23_1 : w22.cell? ⟨gb123, 1, none⟩ = some (.int .i64 x124001_1) := (blk_cell BK123.out 1).trans rfl; have hfz23_0 := blk_frozen BK123.out 0; have hfz23_1 := blk_frozen BK123.out 1) | ((with_reducible refine gate_callee (f := 16) rfl ?_); refine goesL_ (some 39) rfl rfl Try.func16 (by kernel_rfl) rfl #[.agg #[.int .i64 x124000_1, .int .i64 x124001_1]] rfl (by (try simp only [List.map_toArray, List.map_cons, List.map_nil]); first | done | rfl | (simp only [List.length_drop, List.length_take]; rfl)) ?_; (with_reducible refine (leaf_Leaf_Wide.calls x124000_1 x124001_1 false _ (by first | exact A17.out | (rw [Nbq38.out]; exact A17.out))).mono ?_); rintro e w24 ⟨rfl, hb⟩; refine ⟨_, rfl, ?_⟩; have n0_ := Aside0.mk (blk_below (g := gb122) (o := .cells #[.int .i64 (Int.tmod (wrap64 (a0)) (wrap64 ((wrap64 ((wrap64 (Int.tmod a1 16)) + 1)) + 1))), .int .i64 (wrap64 ((wrap64 (Int.tmod a1 16)) + 1))] 24 (0, 0)) (by (with_reducible repeat (first | refine blk_drewN ?_ _ | refine blk_drew ?_ | refine blk_alloc ?_ _)); exact BK122.out) hb); have n1_ := Aside0.mk (blk_below (g := gb123) (o := .cells #[.int .i64 x124000_1, .int .i64 x124001_1] 24 (0, 0)) (by (with_reducible repeat (first | refine blk_drewN ?_ _ | refine blk_drew ?_ | refine blk_alloc ?_ _)); exact BK123.out) hb); have n2_ := Aside0.mk (below_step (by repeat (first | (with_reducible first | exact HB.out | apply below_alloc | apply pw_below_drewN | apply below_drew1 | refine below_set ?_ GE122.out | refine below_set ?_ GE123.out) | exact HB.out)) hb); clear BK122; clear BK123; clear HB; have BK122 := n0_; have BK123 := n1_; have HB := n2_; clear n0_ n1_ n2_; (try clear hb); (try clear hb2); (try clear hk); (try clear hi); have hcz25_0 : w24.cell? ⟨gb123, 0, none⟩ = some (.int .i64 x124000_1) := (blk_cell BK123.out 0).trans rfl; have hcz25_1 : w24.cell? ⟨gb123, 1, none⟩ = some (.int .i64 x124001_1) := (blk_cell BK123.out 1).trans rfl; have hfz25_0 := blk_frozen BK123.out 0; have hfz25_1 := blk_frozen BK123.out 1) | ((with_reducible refine gate_callee (f := 13) rfl ?_); refine goesL_ (some 41) rfl rfl Try.func13 (by kernel_rfl) rfl #[.agg #[.int .i64 x124000_1, .int .i64 x124001_1], .int .i64 1, .bool true] rfl (by (try simp only [List.map_toArray, List.map_cons, List.map_nil]); first | done | rfl | (simp only [List.length_drop, List.length_take]; rfl)) ?_; (with_reducible refine (leaf_Leaf_Step.calls x124000_1 x124001_1 1 true t126 t127 _ (by first | exact A19.out | (rw [Nbq38.out]; exact A19.out))).mono ?_); rintro e w26 ⟨rfl, hb⟩; refine ⟨_, rfl, ?_⟩; have n0_ := Aside0.mk (blk_below (g := gb122) (o := .cells #[.int .i64 (Int.tmod (wrap64 (a0)) (wrap64 ((wrap64 ((wrap64 (Int.tmod a1 16)) + 1)) + 1))), .int .i64 (wrap64 ((wrap64 (Int.tmod a1 16)) + 1))] 24 (0, 0)) (by (with_reducible repeat (first | refine blk_drewN ?_ _ | refine blk_drew ?_ | refine blk_alloc ?_ _)); exact BK122.out) hb); have n1_ := Aside0.mk (blk_below (g := gb123) (o := .cells #[.int .i64 x124000_1, .int .i64 x124001_1] 24 (0, 0)) (by (with_reducible repeat (first | refine blk_drewN ?_ _ | refine blk_drew ?_ | refine blk_alloc ?_ _)); exact BK123.out) hb); have n2_ := Aside0.mk (below_step (by repeat (first | (with_reducible first | exact HB.out | apply below_alloc | apply pw_below_drewN | apply below_drew1 | refine below_set ?_ GE122.out | refine below_set ?_ GE123.out) | exact HB.out)) hb); clear BK122; clear BK123; clear HB; have BK122 := n0_; have BK123 := n1_; have HB := n2_; clear n0_ n1_ n2_; (try clear hb); (try clear hb2); (try clear hk); (try clear hi); have hcz27_0 : w26.cell? ⟨gb123, 0, none⟩ = some (.int .i64 x124000_1) := (blk_cell BK123.out 0).trans rfl; have hcz27_1 : w26.cell? ⟨gb123, 1, none⟩ = some (.int .i64 x124001_1) := (blk_cell BK123.out 1).trans rfl; have hfz27_0 := blk_frozen BK123.out 0; have hfz27_1 := blk_frozen BK123.out 1))
                go_roundg k1
                case measure => have := HK1.out; omega
                case rel => exact ⟨(wrap64 (x11_1 + 1)), (t126), (t127), (by first | rfl | (simp; done) | (simp [*]; done)), H', ⟨by have := HK1.out; omega⟩, ⟨by (with_reducible repeat (first | refine blk_drewN ?_ _ | refine blk_drew ?_ | refine blk_alloc ?_ _)); refine blk_far ?_ NB122_123.out _; (with_reducible repeat (first | refine blk_drewN ?_ _ | refine blk_drew ?_ | refine blk_alloc ?_ _)); refine blk_far ?_ NB122_123.out _; (with_reducible repeat (first | refine blk_drewN ?_ _ | refine blk_drew ?_ | refine blk_alloc ?_ _)); exact BK122.out⟩, ⟨by (with_reducible repeat (first | refine blk_drewN ?_ _ | refine blk_drew ?_ | refine blk_alloc ?_ _)); refine blk_put (cs := #[.int .i64 t126, .int .i64 x124001_1]) ?_ 1 _ rfl; (with_reducible repeat (first | refine blk_drewN ?_ _ | refine blk_drew ?_ | refine blk_alloc ?_ _)); refine blk_put (cs := #[.int .i64 x124000_1, .int .i64 x124001_1]) ?_ 0 _ rfl; (with_reducible repeat (first | refine blk_drewN ?_ _ | refine blk_drew ?_ | refine blk_alloc ?_ _)); exact BK123.out⟩, ⟨by repeat (first | (with_reducible first | exact HB.out | apply below_alloc | apply pw_below_drewN | apply below_drew1 | refine below_set ?_ GE122.out | refine below_set ?_ GE123.out) | exact HB.out)⟩⟩
            · rw [if_neg c16] at H
              have c16b0 : decide (x11_1 < t124) = false := decide_eq_false c16
              clear c16
              replace H := Option.bind_eq_some_iff.mp H
              obtain ⟨t128, A280, H⟩ := H
              replace H : (if t128 = true then (paternosterlaw08_LeafTakes.l1 k1 l2 (wrap64 ((wrap64 (Int.tmod a1 16)) + 1)) 0 0 x124000_1 x124001_1) else (some false)) = some r := H
              have A28 := Aside0.mk A280
              clear A280
              by_cases c29 : t128 = true
              · subst c29
                have H1 : (paternosterlaw08_LeafTakes.l1 k1 l2 (wrap64 ((wrap64 (Int.tmod a1 16)) + 1)) 0 0 x124000_1 x124001_1) = some r := by rw [if_pos rfl] at H; exact H
                clear H
                have H := H1
                clear H1
                have H' := Aside0.mk H
                clear H
                have hnb30 := NB122_123.out
                have hnc30 := NB123_122.out
                have hcz31_0 : wr.cell? ⟨gb122, 0, none⟩ = some (.int .i64 (Int.tmod (wrap64 (a0)) (wrap64 ((wrap64 ((wrap64 (Int.tmod a1 16)) + 1)) + 1)))) := (blk_cell BK122.out 0).trans rfl
                have hcz31_1 : wr.cell? ⟨gb122, 1, none⟩ = some (.int .i64 (wrap64 ((wrap64 (Int.tmod a1 16)) + 1))) := (blk_cell BK122.out 1).trans rfl
                have hfz31_0 := blk_frozen BK122.out 0
                have hfz31_1 := blk_frozen BK122.out 1
                go_wp2_with (first | ((with_reducible refine gate_callee (f := 17) rfl ?_); refine goesL_ (some 34) rfl rfl Try.func17 (by kernel_rfl) rfl #[.agg #[.int .i64 (Int.tmod (wrap64 (a0)) (wrap64 ((wrap64 ((wrap64 (Int.tmod a1 16)) + 1)) + 1))), .int .i64 (wrap64 ((wrap64 (Int.tmod a1 16)) + 1))]] rfl (by (try simp only [List.map_toArray, List.map_cons, List.map_nil]); first | done | rfl | (simp only [List.length_drop, List.length_take]; rfl)) ?_; (with_reducible refine (leaf_Leaf_Left.calls (Int.tmod (wrap64 (a0)) (wrap64 ((wrap64 ((wrap64 (Int.tmod a1 16)) + 1)) + 1))) (wrap64 ((wrap64 (Int.tmod a1 16)) + 1)) t124 _ (by first | exact A15.out | (rw [Nbq38.out]; exact A15.out))).mono ?_); rintro e w32 ⟨rfl, hb⟩; refine ⟨_, rfl, ?_⟩; have n0_ := Aside0.mk (blk_below (g := gb122) (o := .cells #[.int .i64 (Int.tmod (wrap64 (a0)) (wrap64 ((wrap64 ((wrap64 (Int.tmod a1 16)) + 1)) + 1))), .int .i64 (wrap64 ((wrap64 (Int.tmod a1 16)) + 1))] 24 (0, 0)) (by (with_reducible repeat (first | refine blk_drewN ?_ _ | refine blk_drew ?_ | refine blk_alloc ?_ _)); exact BK122.out) hb); have n1_ := Aside0.mk (blk_below (g := gb123) (o := .cells #[.int .i64 x124000_1, .int .i64 x124001_1] 24 (0, 0)) (by (with_reducible repeat (first | refine blk_drewN ?_ _ | refine blk_drew ?_ | refine blk_alloc ?_ _)); exact BK123.out) hb); have n2_ := Aside0.mk (below_step (by repeat (first | (with_reducible first | exact HB.out | apply below_alloc | apply pw_below_drewN | apply below_drew1 | refine below_set ?_ GE122.out | refine below_set ?_ GE123.out) | exact HB.out)) hb); clear BK122; clear BK123; clear HB; have BK122 := n0_; have BK123 := n1_; have HB := n2_; clear n0_ n1_ n2_; (try clear hb); (try clear hb2); (try clear hk); (try clear hi); have hcz33_0 : w32.cell? ⟨gb123, 0, none⟩ = some (.int .i64 x124000_1) := (blk_cell BK123.out 0).trans rfl; have hcz33_1 : w32.cell? ⟨gb123, 1, none⟩ = some (.int .i64 x124001_1) := (blk_cell BK123.out 1).trans rfl; have hfz33_0 := blk_frozen BK123.out 0; have hfz33_1 := blk_frozen BK123.out 1) | ((with_reducible refine gate_callee (f := 16) rfl ?_); refine goesL_ (some 43) rfl rfl Try.func16 (by kernel_rfl) rfl #[.agg #[.int .i64 x124000_1, .int .i64 x124001_1]] rfl (by (try simp only [List.map_toArray, List.map_cons, List.map_nil]); first | done | rfl | (simp only [List.length_drop, List.length_take]; rfl)) ?_; (with_reducible refine (leaf_Leaf_Wide.calls x124000_1 x124001_1 true _ (by first | exact A28.out | (rw [Nbq38.out]; exact A28.out))).mono ?_); rintro e w34 ⟨rfl, hb⟩; refine ⟨_, rfl, ?_⟩; have n0_ := Aside0.mk (blk_below (g := gb122) (o := .cells #[.int .i64 (Int.tmod (wrap64 (a0)) (wrap64 ((wrap64 ((wrap64 (Int.tmod a1 16)) + 1)) + 1))), .int .i64 (wrap64 ((wrap64 (Int.tmod a1 16)) + 1))] 24 (0, 0)) (by (with_reducible repeat (first | refine blk_drewN ?_ _ | refine blk_drew ?_ | refine blk_alloc ?_ _)); exact BK122.out) hb); have n1_ := Aside0.mk (blk_below (g := gb123) (o := .cells #[.int .i64 x124000_1, .int .i64 x124001_1] 24 (0, 0)) (by (with_reducible repeat (first | refine blk_drewN ?_ _ | refine blk_drew ?_ | refine blk_alloc ?_ _)); exact BK123.out) hb); have n2_ := Aside0.mk (below_step (by repeat (first | (with_reducible first | exact HB.out | apply below_alloc | apply pw_below_drewN | apply below_drew1 | refine below_set ?_ GE122.out | refine below_set ?_ GE123.out) | exact HB.out)) hb); clear BK122; clear BK123; clear HB; have BK122 := n0_; have BK123 := n1_; have HB := n2_; clear n0_ n1_ n2_; (try clear hb); (try clear hb2); (try clear hk); (try clear hi)))
                go_loopg [12, 13] k1 (fun kq v12 v13 w' => ∃ (x12_2 : Int) (x13_2 : Int) (x124000_2 : Int) (x124001_2 : Int), v12 = .int .i64 x12_2 ∧ v13 = .int .i64 x13_2 ∧ Aside0 (paternosterlaw08_LeafTakes.l1 kq l2 (wrap64 ((wrap64 (Int.tmod a1 16)) + 1)) x12_2 x13_2 x124000_2 x124001_2 = some r) ∧ Aside0 (kq ≤ k1) ∧ Aside0 (w'.heap[gb122]? = some (.cells #[.int .i64 (Int.tmod (wrap64 (a0)) (wrap64 ((wrap64 ((wrap64 (Int.tmod a1 16)) + 1)) + 1))), .int .i64 (wrap64 ((wrap64 (Int.tmod a1 16)) + 1))] 24 (0, 0))) ∧ Aside0 (w'.heap[gb123]? = some (.cells #[.int .i64 x124000_2, .int .i64 x124001_2] 24 (0, 0))) ∧ Aside0 (Below w.heap.size w w'))
                case atStart => exact ⟨(0), (0), (x124000_1), (x124001_1), (by first | rfl | (simp; done) | (simp [*]; done)), (by first | rfl | (simp; done) | (simp [*]; done)), H', ⟨Nat.le_refl _⟩, ⟨by (with_reducible repeat (first | refine blk_drewN ?_ _ | refine blk_drew ?_ | refine blk_alloc ?_ _)); exact BK122.out⟩, ⟨by (with_reducible repeat (first | refine blk_drewN ?_ _ | refine blk_drew ?_ | refine blk_alloc ?_ _)); exact BK123.out⟩, ⟨by repeat (first | (with_reducible first | exact HB.out | apply below_alloc | apply pw_below_drewN | apply below_drew1 | refine below_set ?_ GE122.out | refine below_set ?_ GE123.out) | exact HB.out)⟩⟩
                case round =>
                  clear H'
                  try clear c1
                  try clear c2
                  try clear p2
                  try clear c3
                  try clear c4
                  try clear c5
                  try clear c6
                  try clear c6b0
                  try clear c6b1
                  try clear p6
                  try clear c8
                  try clear c8b0
                  try clear c8b1
                  try clear c12
                  try clear c13
                  try clear c16
                  try clear c16b0
                  try clear c17
                  try clear c18
                  try clear c20
                  try clear c29
                  try clear c30
                  try clear hcz11_0
                  try clear hcz11_1
                  try clear hcz14_0
                  try clear hcz14_1
                  try clear hcz21_0
                  try clear hcz21_1
                  try clear hcz23_0
                  try clear hcz23_1
                  try clear hcz25_0
                  try clear hcz25_1
                  try clear hcz27_0
                  try clear hcz27_1
                  try clear hcz31_0
                  try clear hcz31_1
                  try clear hcz33_0
                  try clear hcz33_1
                  try clear hfz11_0
                  try clear hfz11_1
                  try clear hfz14_0
                  try clear hfz14_1
                  try clear hfz21_0
                  try clear hfz21_1
                  try clear hfz23_0
                  try clear hfz23_1
                  try clear hfz25_0
                  try clear hfz25_1
                  try clear hfz27_0
                  try clear hfz27_1
                  try clear hfz31_0
                  try clear hfz31_1
                  try clear hfz33_0
                  try clear hfz33_1
                  try clear p2
                  try clear p6
                  obtain ⟨x12_2, x13_2, x124000_2, x124001_2, rfl, rfl, HA, HK2, BK122, BK123, HB⟩ := hrel
                  cases gk with
                  | zero => exact absurd HA.out (by simp [paternosterlaw08_LeafTakes.l1])
                  | succ k2 =>
                    have H := HA.out
                    clear HA
                    simp only [paternosterlaw08_LeafTakes.l1] at H
                    by_cases c35 : x13_2 < (l2.length : Int)
                    · rw [if_pos c35] at H
                      have c35b0 : decide (x13_2 < (l2.length : Int)) = true := decide_eq_true c35
                      clear c35
                      by_cases c36 : 0 ≤ x13_2
                      · rw [if_pos c36] at H
                        have c36b0 : decide (0 ≤ x13_2) = true := decide_eq_true c36
                        clear c36
                        replace H := Option.bind_eq_some_iff.mp H
                        obtain ⟨⟨t130, t131⟩, A370, H⟩ := H
                        replace H : (if rdOf false l2 x13_2 = true then ((leaf_Leaf_Shut.f t130 t131).bind fun t133 => (if (t133 != (decide (x12_2 ≥ (wrap64 ((wrap64 (Int.tmod a1 16)) + 1))))) = true then (some false) else (if t130 = (mx (wrap64 ((wrap64 ((wrap64 (Int.tmod a1 16)) + 1)) - x12_2)) 0) then (paternosterlaw08_LeafTakes.l1 k2 l2 (wrap64 ((wrap64 (Int.tmod a1 16)) + 1)) x12_2 (wrap64 (x13_2 + 1)) t130 t131) else (some false)))) else ((leaf_Leaf_Shut.f t130 t131).bind fun t134 => (if (t134 != (decide ((wrap64 (x12_2 + 1)) ≥ (wrap64 ((wrap64 (Int.tmod a1 16)) + 1))))) = true then (some false) else (if t130 = (mx (wrap64 ((wrap64 ((wrap64 (Int.tmod a1 16)) + 1)) - (wrap64 (x12_2 + 1)))) 0) then (paternosterlaw08_LeafTakes.l1 k2 l2 (wrap64 ((wrap64 (Int.tmod a1 16)) + 1)) (wrap64 (x12_2 + 1)) (wrap64 (x13_2 + 1)) t130 t131) else (some false))))) = some r := H
                        have A37 := Aside0.mk A370
                        clear A370
                        obtain ⟨bq38, hbq38⟩ : ∃ b_ : Bool, b_ = (rdOf false l2 x13_2) := ⟨_, rfl⟩
                        replace H : (if bq38 = true then ((leaf_Leaf_Shut.f t130 t131).bind fun t133 => (if (t133 != (decide (x12_2 ≥ (wrap64 ((wrap64 (Int.tmod a1 16)) + 1))))) = true then (some false) else (if t130 = (mx (wrap64 ((wrap64 ((wrap64 (Int.tmod a1 16)) + 1)) - x12_2)) 0) then (paternosterlaw08_LeafTakes.l1 k2 l2 (wrap64 ((wrap64 (Int.tmod a1 16)) + 1)) x12_2 (wrap64 (x13_2 + 1)) t130 t131) else (some false)))) else ((leaf_Leaf_Shut.f t130 t131).bind fun t134 => (if (t134 != (decide ((wrap64 (x12_2 + 1)) ≥ (wrap64 ((wrap64 (Int.tmod a1 16)) + 1))))) = true then (some false) else (if t130 = (mx (wrap64 ((wrap64 ((wrap64 (Int.tmod a1 16)) + 1)) - (wrap64 (x12_2 + 1)))) 0) then (paternosterlaw08_LeafTakes.l1 k2 l2 (wrap64 ((wrap64 (Int.tmod a1 16)) + 1)) (wrap64 (x12_2 + 1)) (wrap64 (x13_2 + 1)) t130 t131) else (some false))))) = some r := by rw [← hbq38] at H; exact H
                        have Nbq38 := Aside0.mk hbq38
                        clear hbq38
                        by_cases c39 : bq38 = true
                        · subst c39
                          have H1 : ((leaf_Leaf_Shut.f t130 t131).bind fun t133 => (if (t133 != (decide (x12_2 ≥ (wrap64 ((wrap64 (Int.tmod a1 16)) + 1))))) = true then (some false) else (if t130 = (mx (wrap64 ((wrap64 ((wrap64 (Int.tmod a1 16)) + 1)) - x12_2)) 0) then (paternosterlaw08_LeafTakes.l1 k2 l2 (wrap64 ((wrap64 (Int.tmod a1 16)) + 1)) x12_2 (wrap64 (x13_2 + 1)) t130 t131) else (some false)))) = some r := by rw [if_pos rfl] at H; exact H
                          clear H
                          have H := H1
                          clear H1
                          replace H := Option.bind_eq_some_iff.mp H
                          obtain ⟨t133, A400, H⟩ := H
                          replace H : (if (t133 != (decide (x12_2 ≥ (wrap64 ((wrap64 (Int.tmod a1 16)) + 1))))) = true then (some false) else (if t130 = (mx (wrap64 ((wrap64 ((wrap64 (Int.tmod a1 16)) + 1)) - x12_2)) 0) then (paternosterlaw08_LeafTakes.l1 k2 l2 (wrap64 ((wrap64 (Int.tmod a1 16)) + 1)) x12_2 (wrap64 (x13_2 + 1)) t130 t131) else (some false))) = some r := H
                          have A40 := Aside0.mk A400
                          clear A400
                          by_cases c41 : (t133 != (decide (x12_2 ≥ (wrap64 ((wrap64 (Int.tmod a1 16)) + 1))))) = true
                          · rw [if_pos c41] at H
                            have c41b0 : (t133 != (decide (x12_2 ≥ (wrap64 ((wrap64 (Int.tmod a1 16)) + 1))))) = true := c41
                            (try (have c41b1 : decide (t133 = (decide (x12_2 ≥ (wrap64 ((wrap64 (Int.tmod a1 16)) + 1))))) = false := by simpa using c41))
                            (try (have c41b2 : (t133 == (decide (x12_2 ≥ (wrap64 ((wrap64 (Int.tmod a1 16)) + 1))))) = false := by simpa using c41))
                            (try (have c41b3 : ¬ (t133 = (decide (x12_2 ≥ (wrap64 ((wrap64 (Int.tmod a1 16)) + 1))))) := by simpa using c41))
                            clear c41
                            exact absurd (Option.some.inj H) (by rw [HT.out]; decide)
                          · rw [if_neg c41] at H
                            have c41b0 : (t133 != (decide (x12_2 ≥ (wrap64 ((wrap64 (Int.tmod a1 16)) + 1))))) = false := by simpa using c41
                            (try (have c41b1 : decide (t133 = (decide (x12_2 ≥ (wrap64 ((wrap64 (Int.tmod a1 16)) + 1))))) = true := by simpa using c41))
                            (try (have c41b2 : (t133 == (decide (x12_2 ≥ (wrap64 ((wrap64 (Int.tmod a1 16)) + 1))))) = true := by simpa using c41))
                            clear c41
                            obtain ⟨ji42, hji42⟩ : ∃ j_ : Int, (mx (wrap64 ((wrap64 ((wrap64 (Int.tmod a1 16)) + 1)) - x12_2)) 0) = j_ := ⟨_, rfl⟩
                            replace H : (if t130 = (ji42) then (paternosterlaw08_LeafTakes.l1 k2 l2 (wrap64 ((wrap64 (Int.tmod a1 16)) + 1)) x12_2 (wrap64 (x13_2 + 1)) t130 t131) else (some false)) = some r := by first | (rw [hji42] at H; exact H) | (simp only [hji42] at H ⊢; exact H)
                            (try rw [hji42] at A37)
                            (try rw [hji42] at A40)
                            have hji42_ : (if (wrap64 ((wrap64 ((wrap64 (Int.tmod a1 16)) + 1)) - x12_2)) < 0 then 0 else (wrap64 ((wrap64 ((wrap64 (Int.tmod a1 16)) + 1)) - x12_2))) = ji42 := hji42
                            by_cases c43 : t130 = (ji42)
                            · rw [if_pos c43] at H
                              have c43b0 : (t130 == (ji42)) = true := beq_iff_eq.mpr c43
                              have c43b1 : (t130 != (ji42)) = false := bne_eq_false_iff_eq.mpr c43
                              clear c43
                              have H' := Aside0.mk H
                              clear H
                              try go_wp2
                              have n0_ := Aside0.mk (blk_drew BK122.out)
                              have n1_ := Aside0.mk (blk_drew BK123.out)
                              have n2_ := Aside0.mk (below_drew1 HB.out)
                              clear BK122
                              clear BK123
                              clear HB
                              have BK122 := n0_
                              have BK123 := n1_
                              have HB := n2_
                              clear n0_ n1_ n2_
                              have p129 : 0 ≤ (x13_2 : Int) := of_decide_eq_true (by first | (with_reducible assumption) | assumption)
                              have q129 : x13_2 < (l2.length : Int) := of_decide_eq_true (by first | (with_reducible assumption) | assumption)
                              obtain ⟨ad129, e129, hx129_0⟩ := Kd.at_bool HR2.out x13_2 p129 q129
                              have hw129_0 := hx129_0
                              (try rw [← Nbq38.out] at hx129_0)
                              (try rw [← Nbq38.out] at hw129_0)
                              cases e129
                              replace hx129_0 := (HB.out.cell (World.block_lt_of_cell? w _ hx129_0)).trans hx129_0
                              replace p129 := eq_true p129
                              replace q129 := eq_true q129
                              refine start_ (n := 7) (S := fun w' => w'.cell? ⟨gb123, 0, none⟩ = some (.int .i64 x124000_2) ∧ w'.cell? ⟨gb123, 1, none⟩ = some (.int .i64 x124001_2) ∧ w'.cell? (ad129.add (x13_2).toNat) = some (.bool true)) (ds := [6]) #[false, false, false, false, false, false, false] (by kernel_rfl) rfl rfl ⟨(blk_cell BK123.out 0).trans rfl, (blk_cell BK123.out 1).trans rfl, ((HB.out.cell (World.block_lt_of_cell? w _ hw129_0)).trans hw129_0)⟩ (fun hHeld => ?_)
                              generalize wr.drew = w44 at BK122 BK123 HB hx129_0 hHeld ⊢
                              refine pure_ (i := 1) (N := some 52) (v := ?_) (a' := ?_) #[false, true, false, false, false, false, false] rfl rfl (by kernel_rfl) (fun _ _ _ h => h) (Or.inl ⟨by rfl, ?_⟩) ?_ ?_
                              rotate_left
                              · intro w'
                                go_simp
                                with_reducible rfl
                              rotate_left
                              · simp only [Act.put, List.setIfInBounds_toArray, List.set_cons_zero, List.set_cons_succ, i64_w, i32_w]
                                rfl
                              refine pure_ (i := 2) (N := some 53) (v := ?_) (a' := ?_) #[false, true, true, false, false, false, false] rfl rfl (by kernel_rfl) (fun _ _ _ h => h) (Or.inl ⟨by rfl, ?_⟩) ?_ ?_
                              rotate_left
                              · intro w'
                                go_simp
                                with_reducible rfl
                              rotate_left
                              · simp only [Act.put, List.setIfInBounds_toArray, List.set_cons_zero, List.set_cons_succ, i64_w, i32_w]
                                rfl
                              refine pure_ (i := 3) (N := some 54) (v := ?_) (a' := ?_) #[false, true, true, true, false, false, false] rfl rfl (by kernel_rfl) (fun _ _ _ h => h) (Or.inl ⟨by rfl, ?_⟩) ?_ ?_
                              rotate_left
                              · intro w'
                                go_simp
                                with_reducible rfl
                              rotate_left
                              · simp only [Act.put, List.setIfInBounds_toArray, List.set_cons_zero, List.set_cons_succ, i64_w, i32_w]
                                rfl
                              refine take_ (i := 0) (N := some 51) (v := ?_) (a' := ?_) #[true, true, true, true, false, false, false] rfl rfl (by kernel_rfl) (fun _ _ _ h => h) (Or.inl ⟨by rfl, ?_⟩) hHeld ?_ ?_
                              rotate_left
                              · rintro w' ⟨s0, s1, s2⟩
                                go_simp
                                with_reducible rfl
                              rotate_left
                              · simp only [Act.put, List.setIfInBounds_toArray, List.set_cons_zero, List.set_cons_succ, i64_w, i32_w]
                                rfl
                              refine take_ (i := 4) (N := some 55) (v := ?_) (a' := ?_) #[true, true, true, true, true, false, false] rfl rfl (by kernel_rfl) (fun _ _ _ h => h) (Or.inl ⟨by rfl, ?_⟩) hHeld ?_ ?_
                              rotate_left
                              · rintro w' ⟨s0, s1, s2⟩
                                go_simp
                                with_reducible rfl
                              rotate_left
                              · simp only [Act.put, List.setIfInBounds_toArray, List.set_cons_zero, List.set_cons_succ, i64_w, i32_w]
                                rfl
                              refine one_ (i := 5) (N := some 56) #[true, true, true, true, true, true, false] rfl rfl (by kernel_rfl) (by decide) (fun K hK => ?_)
                              refine goes_ Try.func13 (by kernel_rfl) rfl #[.agg #[.int .i64 x124000_2, .int .i64 x124001_2], .int .i64 2, .bool true] (by rfl) rfl rfl (by (try simp only [List.map_toArray, List.map_cons, List.map_nil]); first | done | rfl | (simp only [List.length_drop, List.length_take]; rfl)) ?_
                              with_reducible refine (leaf_Leaf_Step.calls x124000_2 x124001_2 2 true t130 t131 _ (by first | exact A37.out | (rw [Nbq38.out]; exact A37.out))).mono ?_
                              rintro e w45 ⟨rfl, hb⟩
                              refine ⟨_, rfl, ?_⟩
                              have n0_ := Aside0.mk (blk_below (g := gb122) (o := .cells #[.int .i64 (Int.tmod (wrap64 (a0)) (wrap64 ((wrap64 ((wrap64 (Int.tmod a1 16)) + 1)) + 1))), .int .i64 (wrap64 ((wrap64 (Int.tmod a1 16)) + 1))] 24 (0, 0)) (by (with_reducible repeat (first | refine blk_drewN ?_ _ | refine blk_drew ?_ | refine blk_alloc ?_ _)); exact BK122.out) hb)
                              have n1_ := Aside0.mk (blk_below (g := gb123) (o := .cells #[.int .i64 x124000_2, .int .i64 x124001_2] 24 (0, 0)) (by (with_reducible repeat (first | refine blk_drewN ?_ _ | refine blk_drew ?_ | refine blk_alloc ?_ _)); exact BK123.out) hb)
                              have n2_ := Aside0.mk (below_step (by repeat (first | (with_reducible first | exact HB.out | apply below_alloc | apply pw_below_drewN | apply below_drew1 | refine below_set ?_ GE122.out | refine below_set ?_ GE123.out) | exact HB.out)) hb)
                              clear BK122
                              clear BK123
                              clear HB
                              have BK122 := n0_
                              have BK123 := n1_
                              have HB := n2_
                              clear n0_ n1_ n2_
                              (try clear hb)
                              (try clear hb2)
                              (try clear hk)
                              (try clear hi)
                              refine hK.out _ _ ⟨(blk_cell BK123.out 0).trans rfl, (blk_cell BK123.out 1).trans rfl, ((HB.out.cell (World.block_lt_of_cell? w _ hw129_0)).trans hw129_0)⟩ (fun hHeld => ?_)
                              clear hK K
                              refine norm_ (a' := ?_) ?_ ?_
                              rotate_left
                              · show Act.put _ (some 56) _ = _
                                simp only [Act.put, List.setIfInBounds_toArray, List.set_cons_zero, List.set_cons_succ, i64_w, i32_w]
                                rfl
                              refine last_ (i := 6) (N := none) #[true, true, true, true, true, true, true] rfl rfl (by kernel_rfl) (by decide) (fun K hK => ?_)
                              have hs46 : w45.cell? ⟨gb123, 0, none⟩ = some (.int .i64 x124000_2) := (blk_cell BK123.out 0).trans rfl
                              have hfs46 := blk_frozen BK123.out 0
                              have hns46_0 := NB122_123.out
                              have hms46_0 := NB123_122.out
                              have hs47 : w45.cell? ⟨gb123, 1, none⟩ = some (.int .i64 x124001_2) := (blk_cell BK123.out 1).trans rfl
                              have hfs47 := blk_frozen BK123.out 1
                              have hns47_0 := NB122_123.out
                              have hms47_0 := NB123_122.out
                              refine skip_ (w1 := ?_) (by rfl) rfl ?_ ?_
                              rotate_left
                              · go_simp
                                rfl
                              refine hK.out _ _ ?_
                              clear hK K
                              refine done_ (by kernel_rfl) ?_
                              have p132 : 0 ≤ (x13_2 : Int) := of_decide_eq_true (by first | (with_reducible assumption) | assumption)
                              have q132 : x13_2 < (l2.length : Int) := of_decide_eq_true (by first | (with_reducible assumption) | assumption)
                              obtain ⟨ad132, e132, hx132_0⟩ := Kd.at_bool HR2.out x13_2 p132 q132
                              (try rw [← Nbq38.out] at hx132_0)
                              obtain rfl : ad129 = ad132 := (by injection e132)
                              have hn132_0 : ad129.block ≠ gb123 := Nat.ne_of_lt (Nat.lt_of_lt_of_le (by have := World.block_lt_of_cell? _ _ hx132_0; first | rwa [add_block] at this | exact this) GW123.out)
                              have hn132_1 : ad129.block ≠ gb123 := Nat.ne_of_lt (Nat.lt_of_lt_of_le (by have := World.block_lt_of_cell? _ _ hx132_0; first | rwa [add_block] at this | exact this) GW123.out)
                              replace hx132_0 := (HB.out.cell (World.block_lt_of_cell? w _ hx132_0)).trans hx132_0
                              replace hx132_0 := (cell_far (p := ⟨gb123, 0, none⟩) (by first | (rw [add_block]; exact hn132_0) | (show (Addr.add _ _).block ≠ _; rw [add_block]; exact hn132_0) | exact hn132_0) (.int .i64 t130)).trans hx132_0
                              replace hx132_0 := (cell_far (p := ⟨gb123, 1, none⟩) (by first | (rw [add_block]; exact hn132_1) | (show (Addr.add _ _).block ≠ _; rw [add_block]; exact hn132_1) | exact hn132_1) (.int .i64 t131)).trans hx132_0
                              clear hn132_0
                              clear hn132_1
                              replace p132 := eq_true p132
                              replace q132 := eq_true q132
                              have hnb48 := NB123_122.out
                              have hnc48 := NB122_123.out
                              have hcz49_0 : w45.cell? ⟨gb123, 0, none⟩ = some (.int .i64 x124000_2) := (blk_cell BK123.out 0).trans rfl
                              have hcz49_1 : w45.cell? ⟨gb123, 1, none⟩ = some (.int .i64 x124001_2) := (blk_cell BK123.out 1).trans rfl
                              have hfz49_0 := blk_frozen BK123.out 0
                              have hfz49_1 := blk_frozen BK123.out 1
                              try go_wp2_with (first | ((with_reducible refine gate_callee (f := 15) rfl ?_); refine goesL_ (some 65) rfl rfl Try.func15 (by kernel_rfl) rfl #[.agg #[.int .i64 t130, .int .i64 t131]] rfl (by (try simp only [List.map_toArray, List.map_cons, List.map_nil]); first | done | rfl | (simp only [List.length_drop, List.length_take]; rfl)) ?_; (with_reducible refine (leaf_Leaf_Shut.calls t130 t131 t133 _ (by first | exact A40.out | (rw [Nbq38.out]; exact A40.out))).mono ?_); rintro e w50 ⟨rfl, hb⟩; refine ⟨_, rfl, ?_⟩; have n0_ := Aside0.mk (blk_below (g := gb122) (o := .cells #[.int .i64 (Int.tmod (wrap64 (a0)) (wrap64 ((wrap64 ((wrap64 (Int.tmod a1 16)) + 1)) + 1))), .int .i64 (wrap64 ((wrap64 (Int.tmod a1 16)) + 1))] 24 (0, 0)) (by (with_reducible repeat (first | refine blk_drewN ?_ _ | refine blk_drew ?_ | refine blk_alloc ?_ _)); refine blk_far ?_ NB122_123.out _; (with_reducible repeat (first | refine blk_drewN ?_ _ | refine blk_drew ?_ | refine blk_alloc ?_ _)); refine blk_far ?_ NB122_123.out _; (with_reducible repeat (first | refine blk_drewN ?_ _ | refine blk_drew ?_ | refine blk_alloc ?_ _)); exact BK122.out) hb); have n1_ := Aside0.mk (blk_below (g := gb123) (o := .cells #[.int .i64 t130, .int .i64 t131] 24 (0, 0)) (by (with_reducible repeat (first | refine blk_drewN ?_ _ | refine blk_drew ?_ | refine blk_alloc ?_ _)); refine blk_put (cs := #[.int .i64 t130, .int .i64 x124001_2]) ?_ 1 _ rfl; (with_reducible repeat (first | refine blk_drewN ?_ _ | refine blk_drew ?_ | refine blk_alloc ?_ _)); refine blk_put (cs := #[.int .i64 x124000_2, .int .i64 x124001_2]) ?_ 0 _ rfl; (with_reducible repeat (first | refine blk_drewN ?_ _ | refine blk_drew ?_ | refine blk_alloc ?_ _)); exact BK123.out) hb); have n2_ := Aside0.mk (below_step (by repeat (first | (with_reducible first | exact HB.out | apply below_alloc | apply pw_below_drewN | apply below_drew1 | refine below_set ?_ GE122.out | refine below_set ?_ GE123.out) | exact HB.out)) hb); clear BK122; clear BK123; clear HB; have BK122 := n0_; have BK123 := n1_; have HB := n2_; clear n0_ n1_ n2_; (try clear hb); (try clear hb2); (try clear hk); (try clear hi); have hcz51_0 : w50.cell? ⟨gb123, 0, none⟩ = some (.int .i64 t130) := (blk_cell BK123.out 0).trans rfl; have hcz51_1 : w50.cell? ⟨gb123, 1, none⟩ = some (.int .i64 t131) := (blk_cell BK123.out 1).trans rfl; have hfz51_0 := blk_frozen BK123.out 0; have hfz51_1 := blk_frozen BK123.out 1))
                              go_roundg k2
                              case measure => have := HK1.out; have := HK2.out; omega
                              case rel => exact ⟨(x12_2), (wrap64 (x13_2 + 1)), (t130), (t131), (by first | rfl | (simp; done) | (simp [*]; done)), (by first | rfl | (simp; done) | (simp [*]; done)), H', ⟨by have := HK1.out; have := HK2.out; omega⟩, ⟨by (with_reducible repeat (first | refine blk_drewN ?_ _ | refine blk_drew ?_ | refine blk_alloc ?_ _)); exact BK122.out⟩, ⟨by (with_reducible repeat (first | refine blk_drewN ?_ _ | refine blk_drew ?_ | refine blk_alloc ?_ _)); exact BK123.out⟩, ⟨by repeat (first | (with_reducible first | exact HB.out | apply below_alloc | apply pw_below_drewN | apply below_drew1 | refine below_set ?_ GE122.out | refine below_set ?_ GE123.out) | exact HB.out)⟩⟩
                            · rw [if_neg c43] at H
                              have c43b0 : (t130 == (ji42)) = false := beq_eq_false_iff_ne.mpr c43
                              have c43b1 : (t130 != (ji42)) = true := bne_iff_ne.mpr c43
                              exact absurd (Option.some.inj H) (by rw [HT.out]; decide)
                        · replace c39 := Bool.eq_false_iff.mpr c39
                          subst c39
                          have H1 : ((leaf_Leaf_Shut.f t130 t131).bind fun t134 => (if (t134 != (decide ((wrap64 (x12_2 + 1)) ≥ (wrap64 ((wrap64 (Int.tmod a1 16)) + 1))))) = true then (some false) else (if t130 = (mx (wrap64 ((wrap64 ((wrap64 (Int.tmod a1 16)) + 1)) - (wrap64 (x12_2 + 1)))) 0) then (paternosterlaw08_LeafTakes.l1 k2 l2 (wrap64 ((wrap64 (Int.tmod a1 16)) + 1)) (wrap64 (x12_2 + 1)) (wrap64 (x13_2 + 1)) t130 t131) else (some false)))) = some r := by rw [if_neg (show ¬ (false = true) by decide)] at H; exact H
                          clear H
                          have H := H1
                          clear H1
                          replace H := Option.bind_eq_some_iff.mp H
                          obtain ⟨t134, A520, H⟩ := H
                          replace H : (if (t134 != (decide ((wrap64 (x12_2 + 1)) ≥ (wrap64 ((wrap64 (Int.tmod a1 16)) + 1))))) = true then (some false) else (if t130 = (mx (wrap64 ((wrap64 ((wrap64 (Int.tmod a1 16)) + 1)) - (wrap64 (x12_2 + 1)))) 0) then (paternosterlaw08_LeafTakes.l1 k2 l2 (wrap64 ((wrap64 (Int.tmod a1 16)) + 1)) (wrap64 (x12_2 + 1)) (wrap64 (x13_2 + 1)) t130 t131) else (some false))) = some r := H
                          have A52 := Aside0.mk A520
                          clear A520
                          by_cases c53 : (t134 != (decide ((wrap64 (x12_2 + 1)) ≥ (wrap64 ((wrap64 (Int.tmod a1 16)) + 1))))) = true
                          · rw [if_pos c53] at H
                            have c53b0 : (t134 != (decide ((wrap64 (x12_2 + 1)) ≥ (wrap64 ((wrap64 (Int.tmod a1 16)) + 1))))) = true := c53
                            (try (have c53b1 : decide (t134 = (decide ((wrap64 (x12_2 + 1)) ≥ (wrap64 ((wrap64 (Int.tmod a1 16)) + 1))))) = false := by simpa using c53))
                            (try (have c53b2 : (t134 == (decide ((wrap64 (x12_2 + 1)) ≥ (wrap64 ((wrap64 (Int.tmod a1 16)) + 1))))) = false := by simpa using c53))
                            (try (have c53b3 : ¬ (t134 = (decide ((wrap64 (x12_2 + 1)) ≥ (wrap64 ((wrap64 (Int.tmod a1 16)) + 1))))) := by simpa using c53))
                            clear c53
                            exact absurd (Option.some.inj H) (by rw [HT.out]; decide)
                          · rw [if_neg c53] at H
                            have c53b0 : (t134 != (decide ((wrap64 (x12_2 + 1)) ≥ (wrap64 ((wrap64 (Int.tmod a1 16)) + 1))))) = false := by simpa using c53
                            (try (have c53b1 : decide (t134 = (decide ((wrap64 (x12_2 + 1)) ≥ (wrap64 ((wrap64 (Int.tmod a1 16)) + 1))))) = true := by simpa using c53))
                            (try (have c53b2 : (t134 == (decide ((wrap64 (x12_2 + 1)) ≥ (wrap64 ((wrap64 (Int.tmod a1 16)) + 1))))) = true := by simpa using c53))
                            clear c53
                            obtain ⟨ji54, hji54⟩ : ∃ j_ : Int, (mx (wrap64 ((wrap64 ((wrap64 (Int.tmod a1 16)) + 1)) - (wrap64 (x12_2 + 1)))) 0) = j_ := ⟨_, rfl⟩
                            replace H : (if t130 = (ji54) then (paternosterlaw08_LeafTakes.l1 k2 l2 (wrap64 ((wrap64 (Int.tmod a1 16)) + 1)) (wrap64 (x12_2 + 1)) (wrap64 (x13_2 + 1)) t130 t131) else (some false)) = some r := by first | (rw [hji54] at H; exact H) | (simp only [hji54] at H ⊢; exact H)
                            (try rw [hji54] at A37)
                            (try rw [hji54] at A52)
                            have hji54_ : (if (wrap64 ((wrap64 ((wrap64 (Int.tmod a1 16)) + 1)) - (wrap64 (x12_2 + 1)))) < 0 then 0 else (wrap64 ((wrap64 ((wrap64 (Int.tmod a1 16)) + 1)) - (wrap64 (x12_2 + 1))))) = ji54 := hji54
                            by_cases c55 : t130 = (ji54)
                            · rw [if_pos c55] at H
                              have c55b0 : (t130 == (ji54)) = true := beq_iff_eq.mpr c55
                              have c55b1 : (t130 != (ji54)) = false := bne_eq_false_iff_eq.mpr c55
                              clear c55
                              have H' := Aside0.mk H
                              clear H
                              try go_wp2
                              have n0_ := Aside0.mk (blk_drew BK122.out)
                              have n1_ := Aside0.mk (blk_drew BK123.out)
                              have n2_ := Aside0.mk (below_drew1 HB.out)
                              clear BK122
                              clear BK123
                              clear HB
                              have BK122 := n0_
                              have BK123 := n1_
                              have HB := n2_
                              clear n0_ n1_ n2_
                              have p129 : 0 ≤ (x13_2 : Int) := of_decide_eq_true (by first | (with_reducible assumption) | assumption)
                              have q129 : x13_2 < (l2.length : Int) := of_decide_eq_true (by first | (with_reducible assumption) | assumption)
                              obtain ⟨ad129, e129, hx129_0⟩ := Kd.at_bool HR2.out x13_2 p129 q129
                              have hw129_0 := hx129_0
                              (try rw [← Nbq38.out] at hx129_0)
                              (try rw [← Nbq38.out] at hw129_0)
                              cases e129
                              replace hx129_0 := (HB.out.cell (World.block_lt_of_cell? w _ hx129_0)).trans hx129_0
                              replace p129 := eq_true p129
                              replace q129 := eq_true q129
                              refine start_ (n := 7) (S := fun w' => w'.cell? ⟨gb123, 0, none⟩ = some (.int .i64 x124000_2) ∧ w'.cell? ⟨gb123, 1, none⟩ = some (.int .i64 x124001_2) ∧ w'.cell? (ad129.add (x13_2).toNat) = some (.bool false)) (ds := [6]) #[false, false, false, false, false, false, false] (by kernel_rfl) rfl rfl ⟨(blk_cell BK123.out 0).trans rfl, (blk_cell BK123.out 1).trans rfl, ((HB.out.cell (World.block_lt_of_cell? w _ hw129_0)).trans hw129_0)⟩ (fun hHeld => ?_)
                              generalize wr.drew = w56 at BK122 BK123 HB hx129_0 hHeld ⊢
                              refine pure_ (i := 1) (N := some 52) (v := ?_) (a' := ?_) #[false, true, false, false, false, false, false] rfl rfl (by kernel_rfl) (fun _ _ _ h => h) (Or.inl ⟨by rfl, ?_⟩) ?_ ?_
                              rotate_left
                              · intro w'
                                go_simp
                                with_reducible rfl
                              rotate_left
                              · simp only [Act.put, List.setIfInBounds_toArray, List.set_cons_zero, List.set_cons_succ, i64_w, i32_w]
                                rfl
                              refine pure_ (i := 2) (N := some 53) (v := ?_) (a' := ?_) #[false, true, true, false, false, false, false] rfl rfl (by kernel_rfl) (fun _ _ _ h => h) (Or.inl ⟨by rfl, ?_⟩) ?_ ?_
                              rotate_left
                              · intro w'
                                go_simp
                                with_reducible rfl
                              rotate_left
                              · simp only [Act.put, List.setIfInBounds_toArray, List.set_cons_zero, List.set_cons_succ, i64_w, i32_w]
                                rfl
                              refine pure_ (i := 3) (N := some 54) (v := ?_) (a' := ?_) #[false, true, true, true, false, false, false] rfl rfl (by kernel_rfl) (fun _ _ _ h => h) (Or.inl ⟨by rfl, ?_⟩) ?_ ?_
                              rotate_left
                              · intro w'
                                go_simp
                                with_reducible rfl
                              rotate_left
                              · simp only [Act.put, List.setIfInBounds_toArray, List.set_cons_zero, List.set_cons_succ, i64_w, i32_w]
                                rfl
                              refine take_ (i := 0) (N := some 51) (v := ?_) (a' := ?_) #[true, true, true, true, false, false, false] rfl rfl (by kernel_rfl) (fun _ _ _ h => h) (Or.inl ⟨by rfl, ?_⟩) hHeld ?_ ?_
                              rotate_left
                              · rintro w' ⟨s0, s1, s2⟩
                                go_simp
                                with_reducible rfl
                              rotate_left
                              · simp only [Act.put, List.setIfInBounds_toArray, List.set_cons_zero, List.set_cons_succ, i64_w, i32_w]
                                rfl
                              refine take_ (i := 4) (N := some 55) (v := ?_) (a' := ?_) #[true, true, true, true, true, false, false] rfl rfl (by kernel_rfl) (fun _ _ _ h => h) (Or.inl ⟨by rfl, ?_⟩) hHeld ?_ ?_
                              rotate_left
                              · rintro w' ⟨s0, s1, s2⟩
                                go_simp
                                with_reducible rfl
                              rotate_left
                              · simp only [Act.put, List.setIfInBounds_toArray, List.set_cons_zero, List.set_cons_succ, i64_w, i32_w]
                                rfl
                              refine one_ (i := 5) (N := some 56) #[true, true, true, true, true, true, false] rfl rfl (by kernel_rfl) (by decide) (fun K hK => ?_)
                              refine goes_ Try.func13 (by kernel_rfl) rfl #[.agg #[.int .i64 x124000_2, .int .i64 x124001_2], .int .i64 2, .bool false] (by rfl) rfl rfl (by (try simp only [List.map_toArray, List.map_cons, List.map_nil]); first | done | rfl | (simp only [List.length_drop, List.length_take]; rfl)) ?_
                              with_reducible refine (leaf_Leaf_Step.calls x124000_2 x124001_2 2 false t130 t131 _ (by first | exact A37.out | (rw [Nbq38.out]; exact A37.out))).mono ?_
                              rintro e w57 ⟨rfl, hb⟩
                              refine ⟨_, rfl, ?_⟩
                              have n0_ := Aside0.mk (blk_below (g := gb122) (o := .cells #[.int .i64 (Int.tmod (wrap64 (a0)) (wrap64 ((wrap64 ((wrap64 (Int.tmod a1 16)) + 1)) + 1))), .int .i64 (wrap64 ((wrap64 (Int.tmod a1 16)) + 1))] 24 (0, 0)) (by (with_reducible repeat (first | refine blk_drewN ?_ _ | refine blk_drew ?_ | refine blk_alloc ?_ _)); exact BK122.out) hb)
                              have n1_ := Aside0.mk (blk_below (g := gb123) (o := .cells #[.int .i64 x124000_2, .int .i64 x124001_2] 24 (0, 0)) (by (with_reducible repeat (first | refine blk_drewN ?_ _ | refine blk_drew ?_ | refine blk_alloc ?_ _)); exact BK123.out) hb)
                              have n2_ := Aside0.mk (below_step (by repeat (first | (with_reducible first | exact HB.out | apply below_alloc | apply pw_below_drewN | apply below_drew1 | refine below_set ?_ GE122.out | refine below_set ?_ GE123.out) | exact HB.out)) hb)
                              clear BK122
                              clear BK123
                              clear HB
                              have BK122 := n0_
                              have BK123 := n1_
                              have HB := n2_
                              clear n0_ n1_ n2_
                              (try clear hb)
                              (try clear hb2)
                              (try clear hk)
                              (try clear hi)
                              refine hK.out _ _ ⟨(blk_cell BK123.out 0).trans rfl, (blk_cell BK123.out 1).trans rfl, ((HB.out.cell (World.block_lt_of_cell? w _ hw129_0)).trans hw129_0)⟩ (fun hHeld => ?_)
                              clear hK K
                              refine norm_ (a' := ?_) ?_ ?_
                              rotate_left
                              · show Act.put _ (some 56) _ = _
                                simp only [Act.put, List.setIfInBounds_toArray, List.set_cons_zero, List.set_cons_succ, i64_w, i32_w]
                                rfl
                              refine last_ (i := 6) (N := none) #[true, true, true, true, true, true, true] rfl rfl (by kernel_rfl) (by decide) (fun K hK => ?_)
                              have hs58 : w57.cell? ⟨gb123, 0, none⟩ = some (.int .i64 x124000_2) := (blk_cell BK123.out 0).trans rfl
                              have hfs58 := blk_frozen BK123.out 0
                              have hns58_0 := NB122_123.out
                              have hms58_0 := NB123_122.out
                              have hs59 : w57.cell? ⟨gb123, 1, none⟩ = some (.int .i64 x124001_2) := (blk_cell BK123.out 1).trans rfl
                              have hfs59 := blk_frozen BK123.out 1
                              have hns59_0 := NB122_123.out
                              have hms59_0 := NB123_122.out
                              refine skip_ (w1 := ?_) (by rfl) rfl ?_ ?_
                              rotate_left
                              · go_simp
                                rfl
                              refine hK.out _ _ ?_
                              clear hK K
                              refine done_ (by kernel_rfl) ?_
                              have p132 : 0 ≤ (x13_2 : Int) := of_decide_eq_true (by first | (with_reducible assumption) | assumption)
                              have q132 : x13_2 < (l2.length : Int) := of_decide_eq_true (by first | (with_reducible assumption) | assumption)
                              obtain ⟨ad132, e132, hx132_0⟩ := Kd.at_bool HR2.out x13_2 p132 q132
                              (try rw [← Nbq38.out] at hx132_0)
                              obtain rfl : ad129 = ad132 := (by injection e132)
                              have hn132_0 : ad129.block ≠ gb123 := Nat.ne_of_lt (Nat.lt_of_lt_of_le (by have := World.block_lt_of_cell? _ _ hx132_0; first | rwa [add_block] at this | exact this) GW123.out)
                              have hn132_1 : ad129.block ≠ gb123 := Nat.ne_of_lt (Nat.lt_of_lt_of_le (by have := World.block_lt_of_cell? _ _ hx132_0; first | rwa [add_block] at this | exact this) GW123.out)
                              replace hx132_0 := (HB.out.cell (World.block_lt_of_cell? w _ hx132_0)).trans hx132_0
                              replace hx132_0 := (cell_far (p := ⟨gb123, 0, none⟩) (by first | (rw [add_block]; exact hn132_0) | (show (Addr.add _ _).block ≠ _; rw [add_block]; exact hn132_0) | exact hn132_0) (.int .i64 t130)).trans hx132_0
                              replace hx132_0 := (cell_far (p := ⟨gb123, 1, none⟩) (by first | (rw [add_block]; exact hn132_1) | (show (Addr.add _ _).block ≠ _; rw [add_block]; exact hn132_1) | exact hn132_1) (.int .i64 t131)).trans hx132_0
                              clear hn132_0
                              clear hn132_1
                              replace p132 := eq_true p132
                              replace q132 := eq_true q132
                              have hnb60 := NB123_122.out
                              have hnc60 := NB122_123.out
                              have hcz61_0 : w57.cell? ⟨gb123, 0, none⟩ = some (.int .i64 x124000_2) := (blk_cell BK123.out 0).trans rfl
                              have hcz61_1 : w57.cell? ⟨gb123, 1, none⟩ = some (.int .i64 x124001_2) := (blk_cell BK123.out 1).trans rfl
                              have hfz61_0 := blk_frozen BK123.out 0
                              have hfz61_1 := blk_frozen BK123.out 1
                              try go_wp2_with (first | ((with_reducible refine gate_callee (f := 15) rfl ?_); refine goesL_ (some 65) rfl rfl Try.func15 (by kernel_rfl) rfl #[.agg #[.int .i64 t130, .int .i64 t131]] rfl (by (try simp only [List.map_toArray, List.map_cons, List.map_nil]); first | done | rfl | (simp only [List.length_drop, List.length_take]; rfl)) ?_; (with_reducible refine (leaf_Leaf_Shut.calls t130 t131 t134 _ (by first | exact A52.out | (rw [Nbq38.out]; exact A52.out))).mono ?_); rintro e w62 ⟨rfl, hb⟩; refine ⟨_, rfl, ?_⟩; have n0_ := Aside0.mk (blk_below (g := gb122) (o := .cells #[.int .i64 (Int.tmod (wrap64 (a0)) (wrap64 ((wrap64 ((wrap64 (Int.tmod a1 16)) + 1)) + 1))), .int .i64 (wrap64 ((wrap64 (Int.tmod a1 16)) + 1))] 24 (0, 0)) (by (with_reducible repeat (first | refine blk_drewN ?_ _ | refine blk_drew ?_ | refine blk_alloc ?_ _)); refine blk_far ?_ NB122_123.out _; (with_reducible repeat (first | refine blk_drewN ?_ _ | refine blk_drew ?_ | refine blk_alloc ?_ _)); refine blk_far ?_ NB122_123.out _; (with_reducible repeat (first | refine blk_drewN ?_ _ | refine blk_drew ?_ | refine blk_alloc ?_ _)); exact BK122.out) hb); have n1_ := Aside0.mk (blk_below (g := gb123) (o := .cells #[.int .i64 t130, .int .i64 t131] 24 (0, 0)) (by (with_reducible repeat (first | refine blk_drewN ?_ _ | refine blk_drew ?_ | refine blk_alloc ?_ _)); refine blk_put (cs := #[.int .i64 t130, .int .i64 x124001_2]) ?_ 1 _ rfl; (with_reducible repeat (first | refine blk_drewN ?_ _ | refine blk_drew ?_ | refine blk_alloc ?_ _)); refine blk_put (cs := #[.int .i64 x124000_2, .int .i64 x124001_2]) ?_ 0 _ rfl; (with_reducible repeat (first | refine blk_drewN ?_ _ | refine blk_drew ?_ | refine blk_alloc ?_ _)); exact BK123.out) hb); have n2_ := Aside0.mk (below_step (by repeat (first | (with_reducible first | exact HB.out | apply below_alloc | apply pw_below_drewN | apply below_drew1 | refine below_set ?_ GE122.out | refine below_set ?_ GE123.out) | exact HB.out)) hb); clear BK122; clear BK123; clear HB; have BK122 := n0_; have BK123 := n1_; have HB := n2_; clear n0_ n1_ n2_; (try clear hb); (try clear hb2); (try clear hk); (try clear hi); have hcz63_0 : w62.cell? ⟨gb123, 0, none⟩ = some (.int .i64 t130) := (blk_cell BK123.out 0).trans rfl; have hcz63_1 : w62.cell? ⟨gb123, 1, none⟩ = some (.int .i64 t131) := (blk_cell BK123.out 1).trans rfl; have hfz63_0 := blk_frozen BK123.out 0; have hfz63_1 := blk_frozen BK123.out 1))
                              go_roundg k2
                              case measure => have := HK1.out; have := HK2.out; omega
                              case rel => exact ⟨(wrap64 (x12_2 + 1)), (wrap64 (x13_2 + 1)), (t130), (t131), (by first | rfl | (simp; done) | (simp [*]; done)), (by first | rfl | (simp; done) | (simp [*]; done)), H', ⟨by have := HK1.out; have := HK2.out; omega⟩, ⟨by (with_reducible repeat (first | refine blk_drewN ?_ _ | refine blk_drew ?_ | refine blk_alloc ?_ _)); exact BK122.out⟩, ⟨by (with_reducible repeat (first | refine blk_drewN ?_ _ | refine blk_drew ?_ | refine blk_alloc ?_ _)); exact BK123.out⟩, ⟨by repeat (first | (with_reducible first | exact HB.out | apply below_alloc | apply pw_below_drewN | apply below_drew1 | refine below_set ?_ GE122.out | refine below_set ?_ GE123.out) | exact HB.out)⟩⟩
                            · rw [if_neg c55] at H
                              have c55b0 : (t130 == (ji54)) = false := beq_eq_false_iff_ne.mpr c55
                              have c55b1 : (t130 != (ji54)) = true := bne_iff_ne.mpr c55
                              exact absurd (Option.some.inj H) (by rw [HT.out]; decide)
                      · rw [if_neg c36] at H
                        exact absurd H (by simp)
                    · rw [if_neg c35] at H
                      have c35b0 : decide (x13_2 < (l2.length : Int)) = false := decide_eq_false c35
                      clear c35
                      obtain rfl := Option.some.inj H
                      go_wp2
                      go_ret
                      exact ⟨by first | rfl | (simp [errW_none, errW_some] <;> rfl) | (simp [*, errW_none, errW_some] <;> rfl), by repeat (first | (with_reducible first | exact HB.out | apply below_alloc | apply pw_below_drewN | apply below_drew1 | refine below_set ?_ GE122.out | refine below_set ?_ GE123.out) | exact HB.out)⟩
              · replace c29 := Bool.eq_false_iff.mpr c29
                subst c29
                have H1 : (some false) = some r := by rw [if_neg (show ¬ (false = true) by decide)] at H; exact H
                clear H
                have H := H1
                clear H1
                exact absurd (Option.some.inj H) (by rw [HT.out]; decide)
  · replace c5 := Bool.eq_false_iff.mpr c5
    subst c5
    have H1 : (some false) = some r := by rw [if_neg (show ¬ (false = true) by decide)] at H; exact H
    clear H
    have H := H1
    clear H1
    exact absurd (Option.some.inj H) (by rw [HT.out]; decide)

/-- THE ONE PURE STATEMENT of paternosterlaw08_LeafTakes: yours. -/
def paternosterlaw08_LeafTakes.Pure : Prop := ∀ (a0 : Int) (a1 : Int) (l2 : List Bool), (Lit.int .u8 a0).wf = true → (Lit.int .u8 a1).wf = true → l2.length ≤ maxLen → ∃ k, paternosterlaw08_LeafTakes.f k a0 a1 l2 = some true
theorem paternosterlaw08_LeafTakes.walk (P : paternosterlaw08_LeafTakes.Pure) (a0 : Int) (a1 : Int) (A2 : Option Addr) (c2 : Nat) (l2 : List Bool) (w : World) (w0 : (Lit.int .u8 a0).wf = true) (w1 : (Lit.int .u8 a1).wf = true) (hr2 : Kd.C Kd.bool w A2 l2.length l2) (hc2 : l2.length ≤ c2) (hm2 : l2.length ≤ maxLen) :
    Calls Try.prog 4 #[.int .u8 a0, .int .u8 a1, .slice A2 l2.length c2] w fun e w' => e = .returned (.bool true) ∧ Below w.heap.size w w' := by
  obtain ⟨k, h⟩ := P a0 a1 l2 w0 w1 hm2
  refine (paternosterlaw08_LeafTakes.calls k a0 a1 _ _ l2 true w hr2 hc2 rfl h).mono ?_
  rintro e w' ⟨rfl, hd⟩
  exact ⟨rfl, hd⟩

end Go.Proofs.Ytgoagpjmnobjhaa.Q
