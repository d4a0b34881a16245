-- Written by a program of this session (turned from the kit's print.py) out of the translation. Not trusted: Lean checks it.
import Derived.Test.YtmhgfghbbophlaaQx0
import Derived.Test.YtmhgfghbbophlaaQx1
namespace Go.Proofs.Ytmhgfghbbophlaa.Q
open Go.RowKit Go.Proofs.YtmhgfghbbophlaaW.PrintWords Go.Proofs.YtmhgfghbbophlaaW.PrintLast Go.Proofs.YtmhgfghbbophlaaW.PrintMore
attribute [local go_sem] max2_int min2_int max_two min_two max_three min_three max_four min_four   -- for this text's walks alone
set_option linter.unusedVariables false
set_option linter.unusedSimpArgs false

attribute [local go_sem] fld32_0 fld32_1 fld32_2 fld37_0 fld37_1 fld37_2
/-! ### paternosterlaw06_PlanStops: function 4 -/
mutual
def paternosterlaw06_PlanStops.l0 : Nat → Int → Int → Int → Int → Int → Option (Bool)
  | 0, _, _, _, _, _ => none
  | k + 1, x6, x7, x8, x9, x10 => if x8 ≤ x6 then (if x10 < x6 then (paternosterlaw06_PlanStops.j1 k x6 x7 x8 x9 x10 true) else (paternosterlaw06_PlanStops.j1 k x6 x7 x8 x9 x10 (decide (x9 > 1)))) else (paternosterlaw06_PlanStops.j1 k x6 x7 x8 x9 x10 false)
def paternosterlaw06_PlanStops.j1 : Nat → Int → Int → Int → Int → Int → Bool → Option (Bool)
  | 0, _, _, _, _, _, _ => none
  | k + 1, x6, x7, x8, x9, x10, x33 => if x33 = true then ((plan_Next.f x9 (wrap64 (x6 - x10)) x7).bind fun t122 => (if t122 > x7 then (some false) else (if t122 > (wrap64 (x9 + 1)) then (some false) else (if t122 < (wrap64 (x9 - 1)) then (some false) else (if t122 < 0 then (some false) else (if t122 = 0 then (if x10 < x6 then (some false) else (paternosterlaw06_PlanStops.l0 k x6 x7 (wrap64 (x8 + 1)) t122 (wrap64 (x10 + t122)))) else (paternosterlaw06_PlanStops.l0 k x6 x7 (wrap64 (x8 + 1)) t122 (wrap64 (x10 + t122))))))))) else (if x10 = x6 then (if x9 ≤ 1 then ((plan_Next.f x9 0 x7).bind fun t123 => (if t123 = 0 then ((plan_Ticks.f k x6 x7).bind fun t124 => (if t124 = x8 then (some (decide (x8 ≤ x6))) else (some false))) else (some false))) else (some false)) else (some false))
end
def paternosterlaw06_PlanStops.f (k : Nat) (a0 : Int) (a1 : Int) : Option (Bool) := (paternosterlaw06_awake.f k).bind fun t121 => (if t121 = true then (paternosterlaw06_PlanStops.l0 k (wrap64 (Int.tmod a0 1001)) (wrap64 ((wrap64 (Int.tmod a1 8)) + 1)) 0 0 0) else (some false))
theorem paternosterlaw06_PlanStops.mono_l : ∀ k, (∀ y0 y1 y2 y3 y4, LeO (paternosterlaw06_PlanStops.l0 k y0 y1 y2 y3 y4) (paternosterlaw06_PlanStops.l0 (k + 1) y0 y1 y2 y3 y4)) ∧ (∀ y0 y1 y2 y3 y4 y5, LeO (paternosterlaw06_PlanStops.j1 k y0 y1 y2 y3 y4 y5) (paternosterlaw06_PlanStops.j1 (k + 1) y0 y1 y2 y3 y4 y5))
  | 0 => ⟨fun _ _ _ _ _ r h => by simp [paternosterlaw06_PlanStops.l0] at h, fun _ _ _ _ _ _ r h => by simp [paternosterlaw06_PlanStops.j1] at h⟩
  | k + 1 => by
    obtain ⟨ih0, ih1⟩ := paternosterlaw06_PlanStops.mono_l k
    refine ⟨?_, ?_⟩
    · intro y0 y1 y2 y3 y4
      unfold paternosterlaw06_PlanStops.l0
      repeat' first
      | (with_reducible exact ih0 _ _ _ _ _)
      | (with_reducible exact ih1 _ _ _ _ _ _)
      | (with_reducible exact paternosterlaw06_awake.mono _)
      | (with_reducible exact plan_Ticks.mono _ _ _)
      | (with_reducible exact LeO.refl _)
      | (with_reducible exact LeO.none _)
      | (with_reducible refine LeO.ite ?_ ?_)
      | (with_reducible refine LeO.bind ?_ (fun _ => ?_))
      | exact ih0 _ _ _ _ _
      | exact ih1 _ _ _ _ _ _
      | exact paternosterlaw06_awake.mono _
      | exact plan_Ticks.mono _ _ _
      | exact LeO.none _
      | refine LeO.ite ?_ ?_
      | refine LeO.bind ?_ (fun _ => ?_)
    · intro y0 y1 y2 y3 y4 y5
      unfold paternosterlaw06_PlanStops.j1
      repeat' first
      | (with_reducible exact ih0 _ _ _ _ _)
      | (with_reducible exact ih1 _ _ _ _ _ _)
      | (with_reducible exact paternosterlaw06_awake.mono _)
      | (with_reducible exact plan_Ticks.mono _ _ _)
      | (with_reducible exact LeO.refl _)
      | (with_reducible exact LeO.none _)
      | (with_reducible refine LeO.ite ?_ ?_)
      | (with_reducible refine LeO.bind ?_ (fun _ => ?_))
      | exact ih0 _ _ _ _ _
      | exact ih1 _ _ _ _ _ _
      | exact paternosterlaw06_awake.mono _
      | exact plan_Ticks.mono _ _ _
      | exact LeO.none _
      | refine LeO.ite ?_ ?_
      | refine LeO.bind ?_ (fun _ => ?_)
theorem paternosterlaw06_PlanStops.mono : ∀ a0 a1 k, LeO (paternosterlaw06_PlanStops.f k a0 a1) (paternosterlaw06_PlanStops.f (k + 1) a0 a1) := by
  intro a0 a1 k
  obtain ⟨ih0, ih1⟩ := paternosterlaw06_PlanStops.mono_l k
  unfold paternosterlaw06_PlanStops.f
  repeat' first
      | (with_reducible exact ih0 _ _ _ _ _)
      | (with_reducible exact ih1 _ _ _ _ _ _)
      | (with_reducible exact paternosterlaw06_awake.mono _)
      | (with_reducible exact plan_Ticks.mono _ _ _)
      | (with_reducible exact LeO.refl _)
      | (with_reducible exact LeO.none _)
      | (with_reducible refine LeO.ite ?_ ?_)
      | (with_reducible refine LeO.bind ?_ (fun _ => ?_))
      | exact ih0 _ _ _ _ _
      | exact ih1 _ _ _ _ _ _
      | exact paternosterlaw06_awake.mono _
      | exact plan_Ticks.mono _ _ _
      | exact LeO.none _
      | refine LeO.ite ?_ ?_
      | refine LeO.bind ?_ (fun _ => ?_)
set_option maxHeartbeats 8000000 in
set_option maxRecDepth 100000 in
theorem paternosterlaw06_PlanStops.calls (k : Nat) (a0 : Int) (a1 : Int) (r : Bool) (w : World) (hT : r = true) (h : paternosterlaw06_PlanStops.f k a0 a1 = some r) :
    Calls Try.prog 4 #[.int .u16 a0, .int .u8 a1] w fun e w' => e = .returned (.bool r) ∧ Below w.heap.size w w' := by
  have HT := Aside0.mk hT
  clear hT
  have HB := Aside0.mk (Below.refl w.heap.size w)
  have H : ((paternosterlaw06_awake.f k).bind fun t121 => (if t121 = true then (paternosterlaw06_PlanStops.l0 k (wrap64 (Int.tmod a0 1001)) (wrap64 ((wrap64 (Int.tmod a1 8)) + 1)) 0 0 0) else (some false))) = some r := h
  clear h
  replace H := Option.bind_eq_some_iff.mp H
  obtain ⟨t121, A30, H⟩ := H
  replace H : (if t121 = true then (paternosterlaw06_PlanStops.l0 k (wrap64 (Int.tmod a0 1001)) (wrap64 ((wrap64 (Int.tmod a1 8)) + 1)) 0 0 0) else (some false)) = some r := H
  have A3 := Aside0.mk A30
  clear A30
  by_cases c4 : t121 = true
  · subst c4
    have H1 : (paternosterlaw06_PlanStops.l0 k (wrap64 (Int.tmod a0 1001)) (wrap64 ((wrap64 (Int.tmod a1 8)) + 1)) 0 0 0) = some r := by rw [if_pos rfl] at H; exact H
    clear H
    have H := H1
    clear H1
    have H' := Aside0.mk H
    clear H
    go_enter Try.func4, Try.ntmps4
    go_wp2_with (first | ((with_reducible refine gate_callee (f := 14) rfl ?_); refine goesL_ (some 12) rfl rfl Try.func14 (by kernel_rfl) rfl #[] rfl (by (try simp only [List.map_toArray, List.map_cons, List.map_nil]); first | done | rfl | (simp only [List.length_drop, List.length_take]; rfl)) ?_; (with_reducible refine (paternosterlaw06_awake.calls k  true _ A3.out).mono ?_); rintro e w5 ⟨rfl, hb⟩; refine ⟨_, rfl, ?_⟩; have n0_ := Aside0.mk (below_step (by repeat (first | (with_reducible first | exact HB.out | apply below_alloc | apply pw_below_drewN | apply below_drew1) | exact HB.out)) hb); clear HB; have HB := n0_; clear n0_; (try clear hb); (try clear hb2); (try clear hk); (try clear hi)))
    go_loopg [8, 9, 10] k (fun kq v8 v9 v10 w' => ∃ (x8_1 : Int) (x9_1 : Int) (x10_1 : Int), v8 = .int .i64 x8_1 ∧ v9 = .int .i64 x9_1 ∧ v10 = .int .i64 x10_1 ∧ Aside0 (paternosterlaw06_PlanStops.l0 kq (wrap64 (Int.tmod a0 1001)) (wrap64 ((wrap64 (Int.tmod a1 8)) + 1)) x8_1 x9_1 x10_1 = some r) ∧ Aside0 (kq ≤ k) ∧ Aside0 (Below w.heap.size w w'))
    case atStart => exact ⟨(0), (0), (0), (by first | rfl | (simp; done) | (simp [*]; done)), (by first | rfl | (simp; done) | (simp [*]; done)), (by first | rfl | (simp; done) | (simp [*]; done)), H', ⟨Nat.le_refl _⟩, ⟨by repeat (first | (with_reducible first | exact HB.out | apply below_alloc | apply pw_below_drewN | apply below_drew1) | exact HB.out)⟩⟩
    case round =>
      clear H'
      try clear c1
      try clear p2
      try clear c4
      obtain ⟨x8_1, x9_1, x10_1, rfl, rfl, rfl, HA, HK1, HB⟩ := hrel
      cases gk with
      | zero => exact absurd HA.out (by simp [paternosterlaw06_PlanStops.l0])
      | succ k1 =>
        have H := HA.out
        clear HA
        simp only [paternosterlaw06_PlanStops.l0] at H
        have HC6 := Aside0.mk H
        clear H
        go_upto_region 9 with (fail)
        go_cut [33] (fun v33 wc => ∃ (kq : Nat) (x33_5 : Bool), v33 = .bool x33_5 ∧ Aside0 (paternosterlaw06_PlanStops.j1 kq (wrap64 (Int.tmod a0 1001)) (wrap64 ((wrap64 (Int.tmod a1 8)) + 1)) x8_1 x9_1 x10_1 x33_5 = some r) ∧ Aside0 (kq ≤ k1) ∧ Aside0 (Below w.heap.size w wc))
        case first =>
          have H := HC6.out
          clear HC6
          by_cases c7 : x8_1 ≤ (wrap64 (Int.tmod a0 1001))
          · rw [if_pos c7] at H
            have c7b0 : decide (x8_1 ≤ (wrap64 (Int.tmod a0 1001))) = true := decide_eq_true c7
            clear c7
            (first | rw [c7b0] | (simp only [i64_w, i32_w]; rw [c7b0]) | skip)
            by_cases c8 : x10_1 < (wrap64 (Int.tmod a0 1001))
            · rw [if_pos c8] at H
              have c8b0 : decide (x10_1 < (wrap64 (Int.tmod a0 1001))) = true := decide_eq_true c8
              clear c8
              have H' := Aside0.mk H
              clear H
              go_wp2
              go_meet
              case rel => exact ⟨_, (true), (by first | rfl | (simp; done) | (simp [*]; done)), H', ⟨by have := HK1.out; first | omega | exact Nat.le_refl _⟩, ⟨by repeat (first | (with_reducible first | exact HB.out | apply below_alloc | apply pw_below_drewN | apply below_drew1) | exact HB.out)⟩⟩
            · rw [if_neg c8] at H
              have c8b0 : decide (x10_1 < (wrap64 (Int.tmod a0 1001))) = false := decide_eq_false c8
              clear c8
              have H' := Aside0.mk H
              clear H
              go_wp2
              go_meet
              case rel => exact ⟨_, (decide (x9_1 > 1)), (by first | rfl | (simp; done) | (simp [*]; done)), H', ⟨by have := HK1.out; first | omega | exact Nat.le_refl _⟩, ⟨by repeat (first | (with_reducible first | exact HB.out | apply below_alloc | apply pw_below_drewN | apply below_drew1) | exact HB.out)⟩⟩
          · rw [if_neg c7] at H
            have c7b0 : decide (x8_1 ≤ (wrap64 (Int.tmod a0 1001))) = false := decide_eq_false c7
            clear c7
            (first | rw [c7b0] | (simp only [i64_w, i32_w]; rw [c7b0]) | skip)
            have H' := Aside0.mk H
            clear H
            go_wp2
            go_meet
            case rel => exact ⟨_, (false), (by first | rfl | (simp; done) | (simp [*]; done)), H', ⟨by have := HK1.out; first | omega | exact Nat.le_refl _⟩, ⟨by repeat (first | (with_reducible first | exact HB.out | apply below_alloc | apply pw_below_drewN | apply below_drew1) | exact HB.out)⟩⟩
        case rest =>
          clear HC6
          try clear c1
          try clear p2
          try clear c4
          try clear p6
          try clear c7
          try clear c7b0
          try clear c8
          try clear c8b0
          try clear p2
          obtain ⟨kq, x33_5, rfl, HA, HJ5, HB⟩ := hcut
          cases kq with
          | zero => exact absurd HA.out (by simp [paternosterlaw06_PlanStops.j1])
          | succ kj5 =>
            have H := HA.out
            clear HA
            simp only [paternosterlaw06_PlanStops.j1] at H
            by_cases c9 : x33_5 = true
            · subst c9
              have H1 : ((plan_Next.f x9_1 (wrap64 ((wrap64 (Int.tmod a0 1001)) - x10_1)) (wrap64 ((wrap64 (Int.tmod a1 8)) + 1))).bind fun t122 => (if t122 > (wrap64 ((wrap64 (Int.tmod a1 8)) + 1)) then (some false) else (if t122 > (wrap64 (x9_1 + 1)) then (some false) else (if t122 < (wrap64 (x9_1 - 1)) then (some false) else (if t122 < 0 then (some false) else (if t122 = 0 then (if x10_1 < (wrap64 (Int.tmod a0 1001)) then (some false) else (paternosterlaw06_PlanStops.l0 kj5 (wrap64 (Int.tmod a0 1001)) (wrap64 ((wrap64 (Int.tmod a1 8)) + 1)) (wrap64 (x8_1 + 1)) t122 (wrap64 (x10_1 + t122)))) else (paternosterlaw06_PlanStops.l0 kj5 (wrap64 (Int.tmod a0 1001)) (wrap64 ((wrap64 (Int.tmod a1 8)) + 1)) (wrap64 (x8_1 + 1)) t122 (wrap64 (x10_1 + t122))))))))) = some r := by rw [if_pos rfl] at H; exact H
              clear H
              have H := H1
              clear H1
              replace H := Option.bind_eq_some_iff.mp H
              obtain ⟨t122, A100, H⟩ := H
              replace H : (if t122 > (wrap64 ((wrap64 (Int.tmod a1 8)) + 1)) then (some false) else (if t122 > (wrap64 (x9_1 + 1)) then (some false) else (if t122 < (wrap64 (x9_1 - 1)) then (some false) else (if t122 < 0 then (some false) else (if t122 = 0 then (if x10_1 < (wrap64 (Int.tmod a0 1001)) then (some false) else (paternosterlaw06_PlanStops.l0 kj5 (wrap64 (Int.tmod a0 1001)) (wrap64 ((wrap64 (Int.tmod a1 8)) + 1)) (wrap64 (x8_1 + 1)) t122 (wrap64 (x10_1 + t122)))) else (paternosterlaw06_PlanStops.l0 kj5 (wrap64 (Int.tmod a0 1001)) (wrap64 ((wrap64 (Int.tmod a1 8)) + 1)) (wrap64 (x8_1 + 1)) t122 (wrap64 (x10_1 + t122)))))))) = some r := H
              have A10 := Aside0.mk A100
              clear A100
              by_cases c11 : t122 > (wrap64 ((wrap64 (Int.tmod a1 8)) + 1))
              · rw [if_pos c11] at H
                have c11b0 : decide ((wrap64 ((wrap64 (Int.tmod a1 8)) + 1)) < t122) = true := decide_eq_true c11
                clear c11
                exact absurd (Option.some.inj H) (by rw [HT.out]; decide)
              · rw [if_neg c11] at H
                have c11b0 : decide ((wrap64 ((wrap64 (Int.tmod a1 8)) + 1)) < t122) = false := decide_eq_false c11
                clear c11
                by_cases c12 : t122 > (wrap64 (x9_1 + 1))
                · rw [if_pos c12] at H
                  have c12b0 : decide ((wrap64 (x9_1 + 1)) < t122) = true := decide_eq_true c12
                  clear c12
                  exact absurd (Option.some.inj H) (by rw [HT.out]; decide)
                · rw [if_neg c12] at H
                  have c12b0 : decide ((wrap64 (x9_1 + 1)) < t122) = false := decide_eq_false c12
                  clear c12
                  by_cases c13 : t122 < (wrap64 (x9_1 - 1))
                  · rw [if_pos c13] at H
                    have c13b0 : decide (t122 < (wrap64 (x9_1 - 1))) = true := decide_eq_true c13
                    clear c13
                    exact absurd (Option.some.inj H) (by rw [HT.out]; decide)
                  · rw [if_neg c13] at H
                    have c13b0 : decide (t122 < (wrap64 (x9_1 - 1))) = false := decide_eq_false c13
                    clear c13
                    by_cases c14 : t122 < 0
                    · rw [if_pos c14] at H
                      have c14b0 : decide (t122 < 0) = true := decide_eq_true c14
                      clear c14
                      exact absurd (Option.some.inj H) (by rw [HT.out]; decide)
                    · rw [if_neg c14] at H
                      have c14b0 : decide (t122 < 0) = false := decide_eq_false c14
                      clear c14
                      by_cases c15 : t122 = 0
                      · rw [if_pos c15] at H
                        have c15b0 : (t122 == 0) = true := beq_iff_eq.mpr c15
                        have c15b1 : (t122 != 0) = false := bne_eq_false_iff_eq.mpr c15
                        clear c15
                        by_cases c16 : x10_1 < (wrap64 (Int.tmod a0 1001))
                        · rw [if_pos c16] at H
                          have c16b0 : decide (x10_1 < (wrap64 (Int.tmod a0 1001))) = true := decide_eq_true c16
                          clear c16
                          exact absurd (Option.some.inj H) (by rw [HT.out]; decide)
                        · rw [if_neg c16] at H
                          have c16b0 : decide (x10_1 < (wrap64 (Int.tmod a0 1001))) = false := decide_eq_false c16
                          clear c16
                          have H' := Aside0.mk H
                          clear H
                          go_wp2_with (first | ((with_reducible refine gate_callee (f := 17) rfl ?_); refine goesL_ (some 39) rfl rfl Try.func17 (by kernel_rfl) rfl #[.int .i64 x9_1, .int .i64 (wrap64 ((wrap64 (Int.tmod a0 1001)) - x10_1)), .int .i64 (wrap64 ((wrap64 (Int.tmod a1 8)) + 1))] rfl (by (try simp only [List.map_toArray, List.map_cons, List.map_nil]); first | done | rfl | (simp only [List.length_drop, List.length_take]; rfl)) ?_; (with_reducible refine (plan_Next.calls x9_1 (wrap64 ((wrap64 (Int.tmod a0 1001)) - x10_1)) (wrap64 ((wrap64 (Int.tmod a1 8)) + 1)) t122 _ A10.out).mono ?_); rintro e w17 ⟨rfl, hb⟩; refine ⟨_, rfl, ?_⟩; have n0_ := Aside0.mk (below_step (by repeat (first | (with_reducible first | exact HB.out | apply below_alloc | apply pw_below_drewN | apply below_drew1) | exact HB.out)) hb); clear HB; have HB := n0_; clear n0_; (try clear hb); (try clear hb2); (try clear hk); (try clear hi)))
                          go_roundg kj5
                          case measure => have := HK1.out; have := HJ5.out; omega
                          case rel => exact ⟨(wrap64 (x8_1 + 1)), (t122), (wrap64 (x10_1 + t122)), (by first | rfl | (simp; done) | (simp [*]; done)), (by first | rfl | (simp; done) | (simp [*]; done)), (by first | rfl | (simp; done) | (simp [*]; done)), H', ⟨by have := HK1.out; have := HJ5.out; omega⟩, ⟨by repeat (first | (with_reducible first | exact HB.out | apply below_alloc | apply pw_below_drewN | apply below_drew1) | exact HB.out)⟩⟩
                      · rw [if_neg c15] at H
                        have c15b0 : (t122 == 0) = false := beq_eq_false_iff_ne.mpr c15
                        have c15b1 : (t122 != 0) = true := bne_iff_ne.mpr c15
                        have H' := Aside0.mk H
                        clear H
                        go_wp2_with (first | ((with_reducible refine gate_callee (f := 17) rfl ?_); refine goesL_ (some 39) rfl rfl Try.func17 (by kernel_rfl) rfl #[.int .i64 x9_1, .int .i64 (wrap64 ((wrap64 (Int.tmod a0 1001)) - x10_1)), .int .i64 (wrap64 ((wrap64 (Int.tmod a1 8)) + 1))] rfl (by (try simp only [List.map_toArray, List.map_cons, List.map_nil]); first | done | rfl | (simp only [List.length_drop, List.length_take]; rfl)) ?_; (with_reducible refine (plan_Next.calls x9_1 (wrap64 ((wrap64 (Int.tmod a0 1001)) - x10_1)) (wrap64 ((wrap64 (Int.tmod a1 8)) + 1)) t122 _ A10.out).mono ?_); rintro e w18 ⟨rfl, hb⟩; refine ⟨_, rfl, ?_⟩; have n0_ := Aside0.mk (below_step (by repeat (first | (with_reducible first | exact HB.out | apply below_alloc | apply pw_below_drewN | apply below_drew1) | exact HB.out)) hb); clear HB; have HB := n0_; clear n0_; (try clear hb); (try clear hb2); (try clear hk); (try clear hi)))
                        go_roundg kj5
                        case measure => have := HK1.out; have := HJ5.out; omega
                        case rel => exact ⟨(wrap64 (x8_1 + 1)), (t122), (wrap64 (x10_1 + t122)), (by first | rfl | (simp; done) | (simp [*]; done)), (by first | rfl | (simp; done) | (simp [*]; done)), (by first | rfl | (simp; done) | (simp [*]; done)), H', ⟨by have := HK1.out; have := HJ5.out; omega⟩, ⟨by repeat (first | (with_reducible first | exact HB.out | apply below_alloc | apply pw_below_drewN | apply below_drew1) | exact HB.out)⟩⟩
            · replace c9 := Bool.eq_false_iff.mpr c9
              subst c9
              have H1 : (if x10_1 = (wrap64 (Int.tmod a0 1001)) then (if x9_1 ≤ 1 then ((plan_Next.f x9_1 0 (wrap64 ((wrap64 (Int.tmod a1 8)) + 1))).bind fun t123 => (if t123 = 0 then ((plan_Ticks.f kj5 (wrap64 (Int.tmod a0 1001)) (wrap64 ((wrap64 (Int.tmod a1 8)) + 1))).bind fun t124 => (if t124 = x8_1 then (some (decide (x8_1 ≤ (wrap64 (Int.tmod a0 1001))))) else (some false))) else (some false))) else (some false)) else (some false)) = some r := by rw [if_neg (show ¬ (false = true) by decide)] at H; exact H
              clear H
              have H := H1
              clear H1
              by_cases c19 : x10_1 = (wrap64 (Int.tmod a0 1001))
              · rw [if_pos c19] at H
                have c19b0 : (x10_1 == (wrap64 (Int.tmod a0 1001))) = true := beq_iff_eq.mpr c19
                have c19b1 : (x10_1 != (wrap64 (Int.tmod a0 1001))) = false := bne_eq_false_iff_eq.mpr c19
                clear c19
                by_cases c20 : x9_1 ≤ 1
                · rw [if_pos c20] at H
                  have c20b0 : decide (x9_1 ≤ 1) = true := decide_eq_true c20
                  clear c20
                  replace H := Option.bind_eq_some_iff.mp H
                  obtain ⟨t123, A210, H⟩ := H
                  replace H : (if t123 = 0 then ((plan_Ticks.f kj5 (wrap64 (Int.tmod a0 1001)) (wrap64 ((wrap64 (Int.tmod a1 8)) + 1))).bind fun t124 => (if t124 = x8_1 then (some (decide (x8_1 ≤ (wrap64 (Int.tmod a0 1001))))) else (some false))) else (some false)) = some r := H
                  have A21 := Aside0.mk A210
                  clear A210
                  by_cases c22 : t123 = 0
                  · rw [if_pos c22] at H
                    have c22b0 : (t123 == 0) = true := beq_iff_eq.mpr c22
                    have c22b1 : (t123 != 0) = false := bne_eq_false_iff_eq.mpr c22
                    clear c22
                    replace H := Option.bind_eq_some_iff.mp H
                    obtain ⟨t124, A230, H⟩ := H
                    replace H : (if t124 = x8_1 then (some (decide (x8_1 ≤ (wrap64 (Int.tmod a0 1001))))) else (some false)) = some r := H
                    have A23 := Aside0.mk A230
                    clear A230
                    by_cases c24 : t124 = x8_1
                    · rw [if_pos c24] at H
                      have c24b0 : (t124 == x8_1) = true := beq_iff_eq.mpr c24
                      have c24b1 : (t124 != x8_1) = false := bne_eq_false_iff_eq.mpr c24
                      clear c24
                      obtain rfl := Option.some.inj H
                      go_wp2_with (first | (go_at_call 17; (with_reducible refine (plan_Next.calls x9_1 0 (wrap64 ((wrap64 (Int.tmod a1 8)) + 1)) t123 _ A21.out).mono ?_); rintro e w25 ⟨rfl, hb⟩; have n0_ := Aside0.mk (below_step (by repeat (first | (with_reducible first | exact HB.out | apply below_alloc | apply pw_below_drewN | apply below_drew1) | exact HB.out)) hb); clear HB; have HB := n0_; clear n0_; (try clear hb); (try clear hb2); (try clear hk); (try clear hi)) | (go_at_call 19; (with_reducible refine (plan_Ticks.calls kj5 (wrap64 (Int.tmod a0 1001)) (wrap64 ((wrap64 (Int.tmod a1 8)) + 1)) t124 _ A23.out).mono ?_); rintro e w26 ⟨rfl, hb⟩; have n0_ := Aside0.mk (below_step (by repeat (first | (with_reducible first | exact HB.out | apply below_alloc | apply pw_below_drewN | apply below_drew1) | exact HB.out)) hb); clear HB; have HB := n0_; clear n0_; (try clear hb); (try clear hb2); (try clear hk); (try clear hi)))
                      go_ret
                      exact ⟨by first | rfl | (simp [errW_none, errW_some] <;> rfl) | (simp [*, errW_none, errW_some] <;> rfl), by repeat (first | (with_reducible first | exact HB.out | apply below_alloc | apply pw_below_drewN | apply below_drew1) | exact HB.out)⟩
                    · rw [if_neg c24] at H
                      have c24b0 : (t124 == x8_1) = false := beq_eq_false_iff_ne.mpr c24
                      have c24b1 : (t124 != x8_1) = true := bne_iff_ne.mpr c24
                      exact absurd (Option.some.inj H) (by rw [HT.out]; decide)
                  · rw [if_neg c22] at H
                    have c22b0 : (t123 == 0) = false := beq_eq_false_iff_ne.mpr c22
                    have c22b1 : (t123 != 0) = true := bne_iff_ne.mpr c22
                    exact absurd (Option.some.inj H) (by rw [HT.out]; decide)
                · rw [if_neg c20] at H
                  have c20b0 : decide (x9_1 ≤ 1) = false := decide_eq_false c20
                  clear c20
                  exact absurd (Option.some.inj H) (by rw [HT.out]; decide)
              · rw [if_neg c19] at H
                have c19b0 : (x10_1 == (wrap64 (Int.tmod a0 1001))) = false := beq_eq_false_iff_ne.mpr c19
                have c19b1 : (x10_1 != (wrap64 (Int.tmod a0 1001))) = true := bne_iff_ne.mpr c19
                exact absurd (Option.some.inj H) (by rw [HT.out]; decide)
  · replace c4 := Bool.eq_false_iff.mpr c4
    subst c4
    have H1 : (some false) = some r := by rw [if_neg (show ¬ (false = true) by decide)] at H; exact H
    clear H
    have H := H1
    clear H1
    exact absurd (Option.some.inj H) (by rw [HT.out]; decide)

/-- THE ONE PURE STATEMENT of paternosterlaw06_PlanStops: yours. -/
def paternosterlaw06_PlanStops.Pure : Prop := ∀ (a0 : Int) (a1 : Int), (Lit.int .u16 a0).wf = true → (Lit.int .u8 a1).wf = true → ∃ k, paternosterlaw06_PlanStops.f k a0 a1 = some true
theorem paternosterlaw06_PlanStops.walk (P : paternosterlaw06_PlanStops.Pure) (a0 : Int) (a1 : Int) (w : World) (w0 : (Lit.int .u16 a0).wf = true) (w1 : (Lit.int .u8 a1).wf = true) :
    Calls Try.prog 4 #[.int .u16 a0, .int .u8 a1] w fun e w' => e = .returned (.bool true) ∧ Below w.heap.size w w' := by
  obtain ⟨k, h⟩ := P a0 a1 w0 w1
  refine (paternosterlaw06_PlanStops.calls k a0 a1 true w rfl h).mono ?_
  rintro e w' ⟨rfl, hd⟩
  exact ⟨rfl, hd⟩

end Go.Proofs.Ytmhgfghbbophlaa.Q
