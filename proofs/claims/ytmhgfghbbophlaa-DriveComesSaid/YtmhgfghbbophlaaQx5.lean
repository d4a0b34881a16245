-- Written by a program of this session (turned from the kit's print.py) out of the translation. Not trusted: Lean checks it.
import Derived.Test.YtmhgfghbbophlaaQx0
import Derived.Test.YtmhgfghbbophlaaQx1
namespace Go.Proofs.Ytmhgfghbbophlaa.Q
open Go.RowKit Go.Proofs.YtmhgfghbbophlaaW.PrintWords Go.Proofs.YtmhgfghbbophlaaW.PrintLast Go.Proofs.YtmhgfghbbophlaaW.PrintMore
attribute [local go_sem] max2_int min2_int max_two min_two max_three min_three max_four min_four   -- for this text's walks alone
set_option linter.unusedVariables false
set_option linter.unusedSimpArgs false

attribute [local go_sem] fld32_0 fld32_1 fld32_2 fld37_0 fld37_1 fld37_2
/-! ### paternosterlaw06_PlanLeast: function 7 -/
def paternosterlaw06_PlanLeast.f (k : Nat) (a0 : Int) (a1 : Int) : Option (Bool) := (paternosterlaw06_awake.f k).bind fun t138 => (if t138 = true then ((plan_Ticks.f k (wrap64 (Int.tmod a0 1001)) (wrap64 ((wrap64 (Int.tmod a1 8)) + 1))).bind fun t139 => (if (wrap64 (t139 * (wrap64 ((wrap64 (Int.tmod a1 8)) + 1)))) ≥ (wrap64 (Int.tmod a0 1001)) then (if t139 ≤ (wrap64 (Int.tmod a0 1001)) then ((plan_Ticks.f k (wrap64 (Int.tmod a0 1001)) 1).bind fun t140 => (if t140 = (wrap64 (Int.tmod a0 1001)) then (some (((wrap64 (Int.tmod a0 1001)) == 0) == (t139 == 0))) else (some false))) else (some false)) else (some false))) else (some false))
theorem paternosterlaw06_PlanLeast.mono : ∀ a0 a1 k, LeO (paternosterlaw06_PlanLeast.f k a0 a1) (paternosterlaw06_PlanLeast.f (k + 1) a0 a1) := by
  intro a0 a1 k
  unfold paternosterlaw06_PlanLeast.f
  repeat' first
      | (with_reducible exact paternosterlaw06_awake.mono _)
      | (with_reducible exact plan_Ticks.mono _ _ _)
      | (with_reducible exact LeO.refl _)
      | (with_reducible exact LeO.none _)
      | (with_reducible refine LeO.ite ?_ ?_)
      | (with_reducible refine LeO.bind ?_ (fun _ => ?_))
      | exact paternosterlaw06_awake.mono _
      | exact plan_Ticks.mono _ _ _
      | exact LeO.none _
      | refine LeO.ite ?_ ?_
      | refine LeO.bind ?_ (fun _ => ?_)
set_option maxHeartbeats 8000000 in
set_option maxRecDepth 100000 in
theorem paternosterlaw06_PlanLeast.calls (k : Nat) (a0 : Int) (a1 : Int) (r : Bool) (w : World) (hT : r = true) (h : paternosterlaw06_PlanLeast.f k a0 a1 = some r) :
    Calls Try.prog 7 #[.int .u16 a0, .int .u8 a1] w fun e w' => e = .returned (.bool r) ∧ Below w.heap.size w w' := by
  have HT := Aside0.mk hT
  clear hT
  have HB := Aside0.mk (Below.refl w.heap.size w)
  have H : ((paternosterlaw06_awake.f k).bind fun t138 => (if t138 = true then ((plan_Ticks.f k (wrap64 (Int.tmod a0 1001)) (wrap64 ((wrap64 (Int.tmod a1 8)) + 1))).bind fun t139 => (if (wrap64 (t139 * (wrap64 ((wrap64 (Int.tmod a1 8)) + 1)))) ≥ (wrap64 (Int.tmod a0 1001)) then (if t139 ≤ (wrap64 (Int.tmod a0 1001)) then ((plan_Ticks.f k (wrap64 (Int.tmod a0 1001)) 1).bind fun t140 => (if t140 = (wrap64 (Int.tmod a0 1001)) then (some (((wrap64 (Int.tmod a0 1001)) == 0) == (t139 == 0))) else (some false))) else (some false)) else (some false))) else (some false))) = some r := h
  clear h
  replace H := Option.bind_eq_some_iff.mp H
  obtain ⟨t138, A30, H⟩ := H
  replace H : (if t138 = true then ((plan_Ticks.f k (wrap64 (Int.tmod a0 1001)) (wrap64 ((wrap64 (Int.tmod a1 8)) + 1))).bind fun t139 => (if (wrap64 (t139 * (wrap64 ((wrap64 (Int.tmod a1 8)) + 1)))) ≥ (wrap64 (Int.tmod a0 1001)) then (if t139 ≤ (wrap64 (Int.tmod a0 1001)) then ((plan_Ticks.f k (wrap64 (Int.tmod a0 1001)) 1).bind fun t140 => (if t140 = (wrap64 (Int.tmod a0 1001)) then (some (((wrap64 (Int.tmod a0 1001)) == 0) == (t139 == 0))) else (some false))) else (some false)) else (some false))) else (some false)) = some r := H
  have A3 := Aside0.mk A30
  clear A30
  by_cases c4 : t138 = true
  · subst c4
    have H1 : ((plan_Ticks.f k (wrap64 (Int.tmod a0 1001)) (wrap64 ((wrap64 (Int.tmod a1 8)) + 1))).bind fun t139 => (if (wrap64 (t139 * (wrap64 ((wrap64 (Int.tmod a1 8)) + 1)))) ≥ (wrap64 (Int.tmod a0 1001)) then (if t139 ≤ (wrap64 (Int.tmod a0 1001)) then ((plan_Ticks.f k (wrap64 (Int.tmod a0 1001)) 1).bind fun t140 => (if t140 = (wrap64 (Int.tmod a0 1001)) then (some (((wrap64 (Int.tmod a0 1001)) == 0) == (t139 == 0))) else (some false))) else (some false)) else (some false))) = some r := by rw [if_pos rfl] at H; exact H
    clear H
    have H := H1
    clear H1
    replace H := Option.bind_eq_some_iff.mp H
    obtain ⟨t139, A50, H⟩ := H
    replace H : (if (wrap64 (t139 * (wrap64 ((wrap64 (Int.tmod a1 8)) + 1)))) ≥ (wrap64 (Int.tmod a0 1001)) then (if t139 ≤ (wrap64 (Int.tmod a0 1001)) then ((plan_Ticks.f k (wrap64 (Int.tmod a0 1001)) 1).bind fun t140 => (if t140 = (wrap64 (Int.tmod a0 1001)) then (some (((wrap64 (Int.tmod a0 1001)) == 0) == (t139 == 0))) else (some false))) else (some false)) else (some false)) = some r := H
    have A5 := Aside0.mk A50
    clear A50
    by_cases c6 : (wrap64 (t139 * (wrap64 ((wrap64 (Int.tmod a1 8)) + 1)))) ≥ (wrap64 (Int.tmod a0 1001))
    · rw [if_pos c6] at H
      have c6b0 : decide ((wrap64 (Int.tmod a0 1001)) ≤ (wrap64 (t139 * (wrap64 ((wrap64 (Int.tmod a1 8)) + 1))))) = true := decide_eq_true c6
      clear c6
      by_cases c7 : t139 ≤ (wrap64 (Int.tmod a0 1001))
      · rw [if_pos c7] at H
        have c7b0 : decide (t139 ≤ (wrap64 (Int.tmod a0 1001))) = true := decide_eq_true c7
        clear c7
        replace H := Option.bind_eq_some_iff.mp H
        obtain ⟨t140, A80, H⟩ := H
        replace H : (if t140 = (wrap64 (Int.tmod a0 1001)) then (some (((wrap64 (Int.tmod a0 1001)) == 0) == (t139 == 0))) else (some false)) = some r := H
        have A8 := Aside0.mk A80
        clear A80
        by_cases c9 : t140 = (wrap64 (Int.tmod a0 1001))
        · rw [if_pos c9] at H
          have c9b0 : (t140 == (wrap64 (Int.tmod a0 1001))) = true := beq_iff_eq.mpr c9
          have c9b1 : (t140 != (wrap64 (Int.tmod a0 1001))) = false := bne_eq_false_iff_eq.mpr c9
          clear c9
          obtain rfl := Option.some.inj H
          go_enter Try.func7, Try.ntmps7
          go_wp2_with (first | ((with_reducible refine gate_callee (f := 14) rfl ?_); refine goesL_ (some 9) rfl rfl Try.func14 (by kernel_rfl) rfl #[] rfl (by (try simp only [List.map_toArray, List.map_cons, List.map_nil]); first | done | rfl | (simp only [List.length_drop, List.length_take]; rfl)) ?_; (with_reducible refine (paternosterlaw06_awake.calls k  true _ A3.out).mono ?_); rintro e w10 ⟨rfl, hb⟩; refine ⟨_, rfl, ?_⟩; have n0_ := Aside0.mk (below_step (by repeat (first | (with_reducible first | exact HB.out | apply below_alloc | apply pw_below_drewN | apply below_drew1) | exact HB.out)) hb); clear HB; have HB := n0_; clear n0_; (try clear hb); (try clear hb2); (try clear hk); (try clear hi)) | ((with_reducible refine gate_callee (f := 19) rfl ?_); refine goesL_ (some 21) rfl rfl Try.func19 (by kernel_rfl) rfl #[.int .i64 (wrap64 (Int.tmod a0 1001)), .int .i64 (wrap64 ((wrap64 (Int.tmod a1 8)) + 1))] rfl (by (try simp only [List.map_toArray, List.map_cons, List.map_nil]); first | done | rfl | (simp only [List.length_drop, List.length_take]; rfl)) ?_; (with_reducible refine (plan_Ticks.calls k (wrap64 (Int.tmod a0 1001)) (wrap64 ((wrap64 (Int.tmod a1 8)) + 1)) t139 _ A5.out).mono ?_); rintro e w11 ⟨rfl, hb⟩; clear A5; refine ⟨_, rfl, ?_⟩; have n0_ := Aside0.mk (below_step (by repeat (first | (with_reducible first | exact HB.out | apply below_alloc | apply pw_below_drewN | apply below_drew1) | exact HB.out)) hb); clear HB; have HB := n0_; clear n0_; (try clear hb); (try clear hb2); (try clear hk); (try clear hi)) | (go_at_call 19; (with_reducible refine (plan_Ticks.calls k (wrap64 (Int.tmod a0 1001)) 1 t140 _ A8.out).mono ?_); rintro e w12 ⟨rfl, hb⟩; clear A8; have n0_ := Aside0.mk (below_step (by repeat (first | (with_reducible first | exact HB.out | apply below_alloc | apply pw_below_drewN | apply below_drew1) | exact HB.out)) hb); clear HB; have HB := n0_; clear n0_; (try clear hb); (try clear hb2); (try clear hk); (try clear hi)))
          go_ret
          exact ⟨by first | rfl | (simp [errW_none, errW_some] <;> rfl) | (simp [*, errW_none, errW_some] <;> rfl), by repeat (first | (with_reducible first | exact HB.out | apply below_alloc | apply pw_below_drewN | apply below_drew1) | exact HB.out)⟩
        · rw [if_neg c9] at H
          have c9b0 : (t140 == (wrap64 (Int.tmod a0 1001))) = false := beq_eq_false_iff_ne.mpr c9
          have c9b1 : (t140 != (wrap64 (Int.tmod a0 1001))) = true := bne_iff_ne.mpr c9
          exact absurd (Option.some.inj H) (by rw [HT.out]; decide)
      · rw [if_neg c7] at H
        have c7b0 : decide (t139 ≤ (wrap64 (Int.tmod a0 1001))) = false := decide_eq_false c7
        clear c7
        exact absurd (Option.some.inj H) (by rw [HT.out]; decide)
    · rw [if_neg c6] at H
      have c6b0 : decide ((wrap64 (Int.tmod a0 1001)) ≤ (wrap64 (t139 * (wrap64 ((wrap64 (Int.tmod a1 8)) + 1))))) = false := decide_eq_false c6
      clear c6
      exact absurd (Option.some.inj H) (by rw [HT.out]; decide)
  · replace c4 := Bool.eq_false_iff.mpr c4
    subst c4
    have H1 : (some false) = some r := by rw [if_neg (show ¬ (false = true) by decide)] at H; exact H
    clear H
    have H := H1
    clear H1
    exact absurd (Option.some.inj H) (by rw [HT.out]; decide)

/-- THE ONE PURE STATEMENT of paternosterlaw06_PlanLeast: yours. -/
def paternosterlaw06_PlanLeast.Pure : Prop := ∀ (a0 : Int) (a1 : Int), (Lit.int .u16 a0).wf = true → (Lit.int .u8 a1).wf = true → ∃ k, paternosterlaw06_PlanLeast.f k a0 a1 = some true
theorem paternosterlaw06_PlanLeast.walk (P : paternosterlaw06_PlanLeast.Pure) (a0 : Int) (a1 : Int) (w : World) (w0 : (Lit.int .u16 a0).wf = true) (w1 : (Lit.int .u8 a1).wf = true) :
    Calls Try.prog 7 #[.int .u16 a0, .int .u8 a1] w fun e w' => e = .returned (.bool true) ∧ Below w.heap.size w w' := by
  obtain ⟨k, h⟩ := P a0 a1 w0 w1
  refine (paternosterlaw06_PlanLeast.calls k a0 a1 true w rfl h).mono ?_
  rintro e w' ⟨rfl, hd⟩
  exact ⟨rfl, hd⟩

/-! ### paternosterlaw06_PlanRest: function 8 -/
def paternosterlaw06_PlanRest.f (k : Nat) (a0 : Int) (a1 : Int) : Option (Bool) := (paternosterlaw06_awake.f k).bind fun t141 => (if t141 = true then (if (wrap64 (Int.tmod a0 1001)) = 0 then ((plan_Next.f 0 (wrap64 (Int.tmod a0 1001)) (wrap64 ((wrap64 (Int.tmod a1 8)) + 1))).bind fun t142 => (if t142 = 0 then ((plan_Next.f 1 (wrap64 (Int.tmod a0 1001)) (wrap64 ((wrap64 (Int.tmod a1 8)) + 1))).bind fun t143 => (some (t143 == 0))) else (some false))) else ((plan_Stop.f (wrap64 ((wrap64 (Int.tmod a1 8)) + 1))).bind fun t144 => ((plan_Next.f 0 (wrap64 (Int.tmod a0 1001)) (wrap64 ((wrap64 (Int.tmod a1 8)) + 1))).bind fun t145 => (if t145 = 1 then (if (wrap64 (Int.tmod a0 1001)) < (wrap64 ((wrap64 ((wrap64 (Int.tmod a1 8)) + 1)) + t144)) then (if (wrap64 (Int.tmod a0 1001)) ≥ (wrap64 ((wrap64 ((wrap64 (Int.tmod a1 8)) + 1)) + t144)) then (some true) else ((plan_Next.f (wrap64 ((wrap64 (Int.tmod a1 8)) + 1)) (wrap64 (Int.tmod a0 1001)) (wrap64 ((wrap64 (Int.tmod a1 8)) + 1))).bind fun t146 => (some (decide (t146 < (wrap64 ((wrap64 (Int.tmod a1 8)) + 1))))))) else ((plan_Next.f (wrap64 ((wrap64 (Int.tmod a1 8)) + 1)) (wrap64 (Int.tmod a0 1001)) (wrap64 ((wrap64 (Int.tmod a1 8)) + 1))).bind fun t147 => (if t147 = (wrap64 ((wrap64 (Int.tmod a1 8)) + 1)) then (if (wrap64 (Int.tmod a0 1001)) ≥ (wrap64 ((wrap64 ((wrap64 (Int.tmod a1 8)) + 1)) + t144)) then (some true) else ((plan_Next.f (wrap64 ((wrap64 (Int.tmod a1 8)) + 1)) (wrap64 (Int.tmod a0 1001)) (wrap64 ((wrap64 (Int.tmod a1 8)) + 1))).bind fun t148 => (some (decide (t148 < (wrap64 ((wrap64 (Int.tmod a1 8)) + 1))))))) else (some false)))) else (some false))))) else (some false))
theorem paternosterlaw06_PlanRest.mono : ∀ a0 a1 k, LeO (paternosterlaw06_PlanRest.f k a0 a1) (paternosterlaw06_PlanRest.f (k + 1) a0 a1) := by
  intro a0 a1 k
  unfold paternosterlaw06_PlanRest.f
  repeat' first
      | (with_reducible exact paternosterlaw06_awake.mono _)
      | (with_reducible exact LeO.refl _)
      | (with_reducible exact LeO.none _)
      | (with_reducible refine LeO.ite ?_ ?_)
      | (with_reducible refine LeO.bind ?_ (fun _ => ?_))
      | exact paternosterlaw06_awake.mono _
      | exact LeO.none _
      | refine LeO.ite ?_ ?_
      | refine LeO.bind ?_ (fun _ => ?_)
set_option maxHeartbeats 8000000 in
set_option maxRecDepth 100000 in
theorem paternosterlaw06_PlanRest.calls (k : Nat) (a0 : Int) (a1 : Int) (r : Bool) (w : World) (hT : r = true) (h : paternosterlaw06_PlanRest.f k a0 a1 = some r) :
    Calls Try.prog 8 #[.int .u16 a0, .int .u8 a1] w fun e w' => e = .returned (.bool r) ∧ Below w.heap.size w w' := by
  have HT := Aside0.mk hT
  clear hT
  have HB := Aside0.mk (Below.refl w.heap.size w)
  have H : ((paternosterlaw06_awake.f k).bind fun t141 => (if t141 = true then (if (wrap64 (Int.tmod a0 1001)) = 0 then ((plan_Next.f 0 (wrap64 (Int.tmod a0 1001)) (wrap64 ((wrap64 (Int.tmod a1 8)) + 1))).bind fun t142 => (if t142 = 0 then ((plan_Next.f 1 (wrap64 (Int.tmod a0 1001)) (wrap64 ((wrap64 (Int.tmod a1 8)) + 1))).bind fun t143 => (some (t143 == 0))) else (some false))) else ((plan_Stop.f (wrap64 ((wrap64 (Int.tmod a1 8)) + 1))).bind fun t144 => ((plan_Next.f 0 (wrap64 (Int.tmod a0 1001)) (wrap64 ((wrap64 (Int.tmod a1 8)) + 1))).bind fun t145 => (if t145 = 1 then (if (wrap64 (Int.tmod a0 1001)) < (wrap64 ((wrap64 ((wrap64 (Int.tmod a1 8)) + 1)) + t144)) then (if (wrap64 (Int.tmod a0 1001)) ≥ (wrap64 ((wrap64 ((wrap64 (Int.tmod a1 8)) + 1)) + t144)) then (some true) else ((plan_Next.f (wrap64 ((wrap64 (Int.tmod a1 8)) + 1)) (wrap64 (Int.tmod a0 1001)) (wrap64 ((wrap64 (Int.tmod a1 8)) + 1))).bind fun t146 => (some (decide (t146 < (wrap64 ((wrap64 (Int.tmod a1 8)) + 1))))))) else ((plan_Next.f (wrap64 ((wrap64 (Int.tmod a1 8)) + 1)) (wrap64 (Int.tmod a0 1001)) (wrap64 ((wrap64 (Int.tmod a1 8)) + 1))).bind fun t147 => (if t147 = (wrap64 ((wrap64 (Int.tmod a1 8)) + 1)) then (if (wrap64 (Int.tmod a0 1001)) ≥ (wrap64 ((wrap64 ((wrap64 (Int.tmod a1 8)) + 1)) + t144)) then (some true) else ((plan_Next.f (wrap64 ((wrap64 (Int.tmod a1 8)) + 1)) (wrap64 (Int.tmod a0 1001)) (wrap64 ((wrap64 (Int.tmod a1 8)) + 1))).bind fun t148 => (some (decide (t148 < (wrap64 ((wrap64 (Int.tmod a1 8)) + 1))))))) else (some false)))) else (some false))))) else (some false))) = some r := h
  clear h
  replace H := Option.bind_eq_some_iff.mp H
  obtain ⟨t141, A30, H⟩ := H
  replace H : (if t141 = true then (if (wrap64 (Int.tmod a0 1001)) = 0 then ((plan_Next.f 0 (wrap64 (Int.tmod a0 1001)) (wrap64 ((wrap64 (Int.tmod a1 8)) + 1))).bind fun t142 => (if t142 = 0 then ((plan_Next.f 1 (wrap64 (Int.tmod a0 1001)) (wrap64 ((wrap64 (Int.tmod a1 8)) + 1))).bind fun t143 => (some (t143 == 0))) else (some false))) else ((plan_Stop.f (wrap64 ((wrap64 (Int.tmod a1 8)) + 1))).bind fun t144 => ((plan_Next.f 0 (wrap64 (Int.tmod a0 1001)) (wrap64 ((wrap64 (Int.tmod a1 8)) + 1))).bind fun t145 => (if t145 = 1 then (if (wrap64 (Int.tmod a0 1001)) < (wrap64 ((wrap64 ((wrap64 (Int.tmod a1 8)) + 1)) + t144)) then (if (wrap64 (Int.tmod a0 1001)) ≥ (wrap64 ((wrap64 ((wrap64 (Int.tmod a1 8)) + 1)) + t144)) then (some true) else ((plan_Next.f (wrap64 ((wrap64 (Int.tmod a1 8)) + 1)) (wrap64 (Int.tmod a0 1001)) (wrap64 ((wrap64 (Int.tmod a1 8)) + 1))).bind fun t146 => (some (decide (t146 < (wrap64 ((wrap64 (Int.tmod a1 8)) + 1))))))) else ((plan_Next.f (wrap64 ((wrap64 (Int.tmod a1 8)) + 1)) (wrap64 (Int.tmod a0 1001)) (wrap64 ((wrap64 (Int.tmod a1 8)) + 1))).bind fun t147 => (if t147 = (wrap64 ((wrap64 (Int.tmod a1 8)) + 1)) then (if (wrap64 (Int.tmod a0 1001)) ≥ (wrap64 ((wrap64 ((wrap64 (Int.tmod a1 8)) + 1)) + t144)) then (some true) else ((plan_Next.f (wrap64 ((wrap64 (Int.tmod a1 8)) + 1)) (wrap64 (Int.tmod a0 1001)) (wrap64 ((wrap64 (Int.tmod a1 8)) + 1))).bind fun t148 => (some (decide (t148 < (wrap64 ((wrap64 (Int.tmod a1 8)) + 1))))))) else (some false)))) else (some false))))) else (some false)) = some r := H
  have A3 := Aside0.mk A30
  clear A30
  by_cases c4 : t141 = true
  · subst c4
    have H1 : (if (wrap64 (Int.tmod a0 1001)) = 0 then ((plan_Next.f 0 (wrap64 (Int.tmod a0 1001)) (wrap64 ((wrap64 (Int.tmod a1 8)) + 1))).bind fun t142 => (if t142 = 0 then ((plan_Next.f 1 (wrap64 (Int.tmod a0 1001)) (wrap64 ((wrap64 (Int.tmod a1 8)) + 1))).bind fun t143 => (some (t143 == 0))) else (some false))) else ((plan_Stop.f (wrap64 ((wrap64 (Int.tmod a1 8)) + 1))).bind fun t144 => ((plan_Next.f 0 (wrap64 (Int.tmod a0 1001)) (wrap64 ((wrap64 (Int.tmod a1 8)) + 1))).bind fun t145 => (if t145 = 1 then (if (wrap64 (Int.tmod a0 1001)) < (wrap64 ((wrap64 ((wrap64 (Int.tmod a1 8)) + 1)) + t144)) then (if (wrap64 (Int.tmod a0 1001)) ≥ (wrap64 ((wrap64 ((wrap64 (Int.tmod a1 8)) + 1)) + t144)) then (some true) else ((plan_Next.f (wrap64 ((wrap64 (Int.tmod a1 8)) + 1)) (wrap64 (Int.tmod a0 1001)) (wrap64 ((wrap64 (Int.tmod a1 8)) + 1))).bind fun t146 => (some (decide (t146 < (wrap64 ((wrap64 (Int.tmod a1 8)) + 1))))))) else ((plan_Next.f (wrap64 ((wrap64 (Int.tmod a1 8)) + 1)) (wrap64 (Int.tmod a0 1001)) (wrap64 ((wrap64 (Int.tmod a1 8)) + 1))).bind fun t147 => (if t147 = (wrap64 ((wrap64 (Int.tmod a1 8)) + 1)) then (if (wrap64 (Int.tmod a0 1001)) ≥ (wrap64 ((wrap64 ((wrap64 (Int.tmod a1 8)) + 1)) + t144)) then (some true) else ((plan_Next.f (wrap64 ((wrap64 (Int.tmod a1 8)) + 1)) (wrap64 (Int.tmod a0 1001)) (wrap64 ((wrap64 (Int.tmod a1 8)) + 1))).bind fun t148 => (some (decide (t148 < (wrap64 ((wrap64 (Int.tmod a1 8)) + 1))))))) else (some false)))) else (some false))))) = some r := by rw [if_pos rfl] at H; exact H
    clear H
    have H := H1
    clear H1
    by_cases c5 : (wrap64 (Int.tmod a0 1001)) = 0
    · rw [if_pos c5] at H
      have c5b0 : ((wrap64 (Int.tmod a0 1001)) == 0) = true := beq_iff_eq.mpr c5
      have c5b1 : ((wrap64 (Int.tmod a0 1001)) != 0) = false := bne_eq_false_iff_eq.mpr c5
      clear c5
      replace H := Option.bind_eq_some_iff.mp H
      obtain ⟨t142, A60, H⟩ := H
      replace H : (if t142 = 0 then ((plan_Next.f 1 (wrap64 (Int.tmod a0 1001)) (wrap64 ((wrap64 (Int.tmod a1 8)) + 1))).bind fun t143 => (some (t143 == 0))) else (some false)) = some r := H
      have A6 := Aside0.mk A60
      clear A60
      by_cases c7 : t142 = 0
      · rw [if_pos c7] at H
        have c7b0 : (t142 == 0) = true := beq_iff_eq.mpr c7
        have c7b1 : (t142 != 0) = false := bne_eq_false_iff_eq.mpr c7
        clear c7
        replace H := Option.bind_eq_some_iff.mp H
        obtain ⟨t143, A80, H⟩ := H
        replace H : (some (t143 == 0)) = some r := H
        have A8 := Aside0.mk A80
        clear A80
        obtain rfl := Option.some.inj H
        go_enter Try.func8, Try.ntmps8
        go_wp2_with (first | ((with_reducible refine gate_callee (f := 14) rfl ?_); refine goesL_ (some 9) rfl rfl Try.func14 (by kernel_rfl) rfl #[] rfl (by (try simp only [List.map_toArray, List.map_cons, List.map_nil]); first | done | rfl | (simp only [List.length_drop, List.length_take]; rfl)) ?_; (with_reducible refine (paternosterlaw06_awake.calls k  true _ A3.out).mono ?_); rintro e w9 ⟨rfl, hb⟩; refine ⟨_, rfl, ?_⟩; have n0_ := Aside0.mk (below_step (by repeat (first | (with_reducible first | exact HB.out | apply below_alloc | apply pw_below_drewN | apply below_drew1) | exact HB.out)) hb); clear HB; have HB := n0_; clear n0_; (try clear hb); (try clear hb2); (try clear hk); (try clear hi)) | ((with_reducible refine gate_callee (f := 17) rfl ?_); refine goesL_ (some 23) rfl rfl Try.func17 (by kernel_rfl) rfl #[.int .i64 0, .int .i64 (wrap64 (Int.tmod a0 1001)), .int .i64 (wrap64 ((wrap64 (Int.tmod a1 8)) + 1))] rfl (by (try simp only [List.map_toArray, List.map_cons, List.map_nil]); first | done | rfl | (simp only [List.length_drop, List.length_take]; rfl)) ?_; (with_reducible refine (plan_Next.calls 0 (wrap64 (Int.tmod a0 1001)) (wrap64 ((wrap64 (Int.tmod a1 8)) + 1)) t142 _ A6.out).mono ?_); rintro e w10 ⟨rfl, hb⟩; clear A6; refine ⟨_, rfl, ?_⟩; have n0_ := Aside0.mk (below_step (by repeat (first | (with_reducible first | exact HB.out | apply below_alloc | apply pw_below_drewN | apply below_drew1) | exact HB.out)) hb); clear HB; have HB := n0_; clear n0_; (try clear hb); (try clear hb2); (try clear hk); (try clear hi)) | (go_at_call 17; (with_reducible refine (plan_Next.calls 1 (wrap64 (Int.tmod a0 1001)) (wrap64 ((wrap64 (Int.tmod a1 8)) + 1)) t143 _ A8.out).mono ?_); rintro e w11 ⟨rfl, hb⟩; clear A8; have n0_ := Aside0.mk (below_step (by repeat (first | (with_reducible first | exact HB.out | apply below_alloc | apply pw_below_drewN | apply below_drew1) | exact HB.out)) hb); clear HB; have HB := n0_; clear n0_; (try clear hb); (try clear hb2); (try clear hk); (try clear hi)))
        go_ret
        exact ⟨by first | rfl | (simp [errW_none, errW_some] <;> rfl) | (simp [*, errW_none, errW_some] <;> rfl), by repeat (first | (with_reducible first | exact HB.out | apply below_alloc | apply pw_below_drewN | apply below_drew1) | exact HB.out)⟩
      · rw [if_neg c7] at H
        have c7b0 : (t142 == 0) = false := beq_eq_false_iff_ne.mpr c7
        have c7b1 : (t142 != 0) = true := bne_iff_ne.mpr c7
        exact absurd (Option.some.inj H) (by rw [HT.out]; decide)
    · rw [if_neg c5] at H
      have c5b0 : ((wrap64 (Int.tmod a0 1001)) == 0) = false := beq_eq_false_iff_ne.mpr c5
      have c5b1 : ((wrap64 (Int.tmod a0 1001)) != 0) = true := bne_iff_ne.mpr c5
      replace H := Option.bind_eq_some_iff.mp H
      obtain ⟨t144, A120, H⟩ := H
      replace H : ((plan_Next.f 0 (wrap64 (Int.tmod a0 1001)) (wrap64 ((wrap64 (Int.tmod a1 8)) + 1))).bind fun t145 => (if t145 = 1 then (if (wrap64 (Int.tmod a0 1001)) < (wrap64 ((wrap64 ((wrap64 (Int.tmod a1 8)) + 1)) + t144)) then (if (wrap64 (Int.tmod a0 1001)) ≥ (wrap64 ((wrap64 ((wrap64 (Int.tmod a1 8)) + 1)) + t144)) then (some true) else ((plan_Next.f (wrap64 ((wrap64 (Int.tmod a1 8)) + 1)) (wrap64 (Int.tmod a0 1001)) (wrap64 ((wrap64 (Int.tmod a1 8)) + 1))).bind fun t146 => (some (decide (t146 < (wrap64 ((wrap64 (Int.tmod a1 8)) + 1))))))) else ((plan_Next.f (wrap64 ((wrap64 (Int.tmod a1 8)) + 1)) (wrap64 (Int.tmod a0 1001)) (wrap64 ((wrap64 (Int.tmod a1 8)) + 1))).bind fun t147 => (if t147 = (wrap64 ((wrap64 (Int.tmod a1 8)) + 1)) then (if (wrap64 (Int.tmod a0 1001)) ≥ (wrap64 ((wrap64 ((wrap64 (Int.tmod a1 8)) + 1)) + t144)) then (some true) else ((plan_Next.f (wrap64 ((wrap64 (Int.tmod a1 8)) + 1)) (wrap64 (Int.tmod a0 1001)) (wrap64 ((wrap64 (Int.tmod a1 8)) + 1))).bind fun t148 => (some (decide (t148 < (wrap64 ((wrap64 (Int.tmod a1 8)) + 1))))))) else (some false)))) else (some false))) = some r := H
      have A12 := Aside0.mk A120
      clear A120
      replace H := Option.bind_eq_some_iff.mp H
      obtain ⟨t145, A130, H⟩ := H
      replace H : (if t145 = 1 then (if (wrap64 (Int.tmod a0 1001)) < (wrap64 ((wrap64 ((wrap64 (Int.tmod a1 8)) + 1)) + t144)) then (if (wrap64 (Int.tmod a0 1001)) ≥ (wrap64 ((wrap64 ((wrap64 (Int.tmod a1 8)) + 1)) + t144)) then (some true) else ((plan_Next.f (wrap64 ((wrap64 (Int.tmod a1 8)) + 1)) (wrap64 (Int.tmod a0 1001)) (wrap64 ((wrap64 (Int.tmod a1 8)) + 1))).bind fun t146 => (some (decide (t146 < (wrap64 ((wrap64 (Int.tmod a1 8)) + 1))))))) else ((plan_Next.f (wrap64 ((wrap64 (Int.tmod a1 8)) + 1)) (wrap64 (Int.tmod a0 1001)) (wrap64 ((wrap64 (Int.tmod a1 8)) + 1))).bind fun t147 => (if t147 = (wrap64 ((wrap64 (Int.tmod a1 8)) + 1)) then (if (wrap64 (Int.tmod a0 1001)) ≥ (wrap64 ((wrap64 ((wrap64 (Int.tmod a1 8)) + 1)) + t144)) then (some true) else ((plan_Next.f (wrap64 ((wrap64 (Int.tmod a1 8)) + 1)) (wrap64 (Int.tmod a0 1001)) (wrap64 ((wrap64 (Int.tmod a1 8)) + 1))).bind fun t148 => (some (decide (t148 < (wrap64 ((wrap64 (Int.tmod a1 8)) + 1))))))) else (some false)))) else (some false)) = some r := H
      have A13 := Aside0.mk A130
      clear A130
      by_cases c14 : t145 = 1
      · rw [if_pos c14] at H
        have c14b0 : (t145 == 1) = true := beq_iff_eq.mpr c14
        have c14b1 : (t145 != 1) = false := bne_eq_false_iff_eq.mpr c14
        clear c14
        by_cases c15 : (wrap64 (Int.tmod a0 1001)) < (wrap64 ((wrap64 ((wrap64 (Int.tmod a1 8)) + 1)) + t144))
        · rw [if_pos c15] at H
          have c15b0 : decide ((wrap64 (Int.tmod a0 1001)) < (wrap64 ((wrap64 ((wrap64 (Int.tmod a1 8)) + 1)) + t144))) = true := decide_eq_true c15
          clear c15
          by_cases c16 : (wrap64 (Int.tmod a0 1001)) ≥ (wrap64 ((wrap64 ((wrap64 (Int.tmod a1 8)) + 1)) + t144))
          · rw [if_pos c16] at H
            have c16b0 : decide ((wrap64 ((wrap64 ((wrap64 (Int.tmod a1 8)) + 1)) + t144)) ≤ (wrap64 (Int.tmod a0 1001))) = true := decide_eq_true c16
            clear c16
            obtain rfl := Option.some.inj H
            go_enter Try.func8, Try.ntmps8
            go_wp2_with (first | ((with_reducible refine gate_callee (f := 14) rfl ?_); refine goesL_ (some 9) rfl rfl Try.func14 (by kernel_rfl) rfl #[] rfl (by (try simp only [List.map_toArray, List.map_cons, List.map_nil]); first | done | rfl | (simp only [List.length_drop, List.length_take]; rfl)) ?_; (with_reducible refine (paternosterlaw06_awake.calls k  true _ A3.out).mono ?_); rintro e w17 ⟨rfl, hb⟩; refine ⟨_, rfl, ?_⟩; have n0_ := Aside0.mk (below_step (by repeat (first | (with_reducible first | exact HB.out | apply below_alloc | apply pw_below_drewN | apply below_drew1) | exact HB.out)) hb); clear HB; have HB := n0_; clear n0_; (try clear hb); (try clear hb2); (try clear hk); (try clear hi)) | ((with_reducible refine gate_callee (f := 15) rfl ?_); refine goesL_ (some 33) rfl rfl Try.func15 (by kernel_rfl) rfl #[.int .i64 (wrap64 ((wrap64 (Int.tmod a1 8)) + 1))] rfl (by (try simp only [List.map_toArray, List.map_cons, List.map_nil]); first | done | rfl | (simp only [List.length_drop, List.length_take]; rfl)) ?_; (with_reducible refine (plan_Stop.calls (wrap64 ((wrap64 (Int.tmod a1 8)) + 1)) t144 _ A12.out).mono ?_); rintro e w18 ⟨rfl, hb⟩; refine ⟨_, rfl, ?_⟩; have n0_ := Aside0.mk (below_step (by repeat (first | (with_reducible first | exact HB.out | apply below_alloc | apply pw_below_drewN | apply below_drew1) | exact HB.out)) hb); clear HB; have HB := n0_; clear n0_; (try clear hb); (try clear hb2); (try clear hk); (try clear hi)) | ((with_reducible refine gate_callee (f := 17) rfl ?_); refine goesL_ (some 37) rfl rfl Try.func17 (by kernel_rfl) rfl #[.int .i64 0, .int .i64 (wrap64 (Int.tmod a0 1001)), .int .i64 (wrap64 ((wrap64 (Int.tmod a1 8)) + 1))] rfl (by (try simp only [List.map_toArray, List.map_cons, List.map_nil]); first | done | rfl | (simp only [List.length_drop, List.length_take]; rfl)) ?_; (with_reducible refine (plan_Next.calls 0 (wrap64 (Int.tmod a0 1001)) (wrap64 ((wrap64 (Int.tmod a1 8)) + 1)) t145 _ A13.out).mono ?_); rintro e w19 ⟨rfl, hb⟩; refine ⟨_, rfl, ?_⟩; have n0_ := Aside0.mk (below_step (by repeat (first | (with_reducible first | exact HB.out | apply below_alloc | apply pw_below_drewN | apply below_drew1) | exact HB.out)) hb); clear HB; have HB := n0_; clear n0_; (try clear hb); (try clear hb2); (try clear hk); (try clear hi)))
            go_ret
            exact ⟨by first | rfl | (simp [errW_none, errW_some] <;> rfl) | (simp [*, errW_none, errW_some] <;> rfl), by repeat (first | (with_reducible first | exact HB.out | apply below_alloc | apply pw_below_drewN | apply below_drew1) | exact HB.out)⟩
          · rw [if_neg c16] at H
            have c16b0 : decide ((wrap64 ((wrap64 ((wrap64 (Int.tmod a1 8)) + 1)) + t144)) ≤ (wrap64 (Int.tmod a0 1001))) = false := decide_eq_false c16
            clear c16
            replace H := Option.bind_eq_some_iff.mp H
            obtain ⟨t146, A200, H⟩ := H
            replace H : (some (decide (t146 < (wrap64 ((wrap64 (Int.tmod a1 8)) + 1))))) = some r := H
            have A20 := Aside0.mk A200
            clear A200
            obtain rfl := Option.some.inj H
            go_enter Try.func8, Try.ntmps8
            go_wp2_with (first | ((with_reducible refine gate_callee (f := 14) rfl ?_); refine goesL_ (some 9) rfl rfl Try.func14 (by kernel_rfl) rfl #[] rfl (by (try simp only [List.map_toArray, List.map_cons, List.map_nil]); first | done | rfl | (simp only [List.length_drop, List.length_take]; rfl)) ?_; (with_reducible refine (paternosterlaw06_awake.calls k  true _ A3.out).mono ?_); rintro e w21 ⟨rfl, hb⟩; refine ⟨_, rfl, ?_⟩; have n0_ := Aside0.mk (below_step (by repeat (first | (with_reducible first | exact HB.out | apply below_alloc | apply pw_below_drewN | apply below_drew1) | exact HB.out)) hb); clear HB; have HB := n0_; clear n0_; (try clear hb); (try clear hb2); (try clear hk); (try clear hi)) | ((with_reducible refine gate_callee (f := 15) rfl ?_); refine goesL_ (some 33) rfl rfl Try.func15 (by kernel_rfl) rfl #[.int .i64 (wrap64 ((wrap64 (Int.tmod a1 8)) + 1))] rfl (by (try simp only [List.map_toArray, List.map_cons, List.map_nil]); first | done | rfl | (simp only [List.length_drop, List.length_take]; rfl)) ?_; (with_reducible refine (plan_Stop.calls (wrap64 ((wrap64 (Int.tmod a1 8)) + 1)) t144 _ A12.out).mono ?_); rintro e w22 ⟨rfl, hb⟩; refine ⟨_, rfl, ?_⟩; have n0_ := Aside0.mk (below_step (by repeat (first | (with_reducible first | exact HB.out | apply below_alloc | apply pw_below_drewN | apply below_drew1) | exact HB.out)) hb); clear HB; have HB := n0_; clear n0_; (try clear hb); (try clear hb2); (try clear hk); (try clear hi)) | ((with_reducible refine gate_callee (f := 17) rfl ?_); refine goesL_ (some 37) rfl rfl Try.func17 (by kernel_rfl) rfl #[.int .i64 0, .int .i64 (wrap64 (Int.tmod a0 1001)), .int .i64 (wrap64 ((wrap64 (Int.tmod a1 8)) + 1))] rfl (by (try simp only [List.map_toArray, List.map_cons, List.map_nil]); first | done | rfl | (simp only [List.length_drop, List.length_take]; rfl)) ?_; (with_reducible refine (plan_Next.calls 0 (wrap64 (Int.tmod a0 1001)) (wrap64 ((wrap64 (Int.tmod a1 8)) + 1)) t145 _ A13.out).mono ?_); rintro e w23 ⟨rfl, hb⟩; clear A13; refine ⟨_, rfl, ?_⟩; have n0_ := Aside0.mk (below_step (by repeat (first | (with_reducible first | exact HB.out | apply below_alloc | apply pw_below_drewN | apply below_drew1) | exact HB.out)) hb); clear HB; have HB := n0_; clear n0_; (try clear hb); (try clear hb2); (try clear hk); (try clear hi)) | (go_at_call 17; (with_reducible refine (plan_Next.calls (wrap64 ((wrap64 (Int.tmod a1 8)) + 1)) (wrap64 (Int.tmod a0 1001)) (wrap64 ((wrap64 (Int.tmod a1 8)) + 1)) t146 _ A20.out).mono ?_); rintro e w24 ⟨rfl, hb⟩; clear A20; have n0_ := Aside0.mk (below_step (by repeat (first | (with_reducible first | exact HB.out | apply below_alloc | apply pw_below_drewN | apply below_drew1) | exact HB.out)) hb); clear HB; have HB := n0_; clear n0_; (try clear hb); (try clear hb2); (try clear hk); (try clear hi)))
            go_ret
            exact ⟨by first | rfl | (simp [errW_none, errW_some] <;> rfl) | (simp [*, errW_none, errW_some] <;> rfl), by repeat (first | (with_reducible first | exact HB.out | apply below_alloc | apply pw_below_drewN | apply below_drew1) | exact HB.out)⟩
        · rw [if_neg c15] at H
          have c15b0 : decide ((wrap64 (Int.tmod a0 1001)) < (wrap64 ((wrap64 ((wrap64 (Int.tmod a1 8)) + 1)) + t144))) = false := decide_eq_false c15
          clear c15
          replace H := Option.bind_eq_some_iff.mp H
          obtain ⟨t147, A250, H⟩ := H
          replace H : (if t147 = (wrap64 ((wrap64 (Int.tmod a1 8)) + 1)) then (if (wrap64 (Int.tmod a0 1001)) ≥ (wrap64 ((wrap64 ((wrap64 (Int.tmod a1 8)) + 1)) + t144)) then (some true) else ((plan_Next.f (wrap64 ((wrap64 (Int.tmod a1 8)) + 1)) (wrap64 (Int.tmod a0 1001)) (wrap64 ((wrap64 (Int.tmod a1 8)) + 1))).bind fun t148 => (some (decide (t148 < (wrap64 ((wrap64 (Int.tmod a1 8)) + 1))))))) else (some false)) = some r := H
          have A25 := Aside0.mk A250
          clear A250
          by_cases c26 : t147 = (wrap64 ((wrap64 (Int.tmod a1 8)) + 1))
          · rw [if_pos c26] at H
            have c26b0 : (t147 == (wrap64 ((wrap64 (Int.tmod a1 8)) + 1))) = true := beq_iff_eq.mpr c26
            have c26b1 : (t147 != (wrap64 ((wrap64 (Int.tmod a1 8)) + 1))) = false := bne_eq_false_iff_eq.mpr c26
            clear c26
            by_cases c27 : (wrap64 (Int.tmod a0 1001)) ≥ (wrap64 ((wrap64 ((wrap64 (Int.tmod a1 8)) + 1)) + t144))
            · rw [if_pos c27] at H
              have c27b0 : decide ((wrap64 ((wrap64 ((wrap64 (Int.tmod a1 8)) + 1)) + t144)) ≤ (wrap64 (Int.tmod a0 1001))) = true := decide_eq_true c27
              clear c27
              obtain rfl := Option.some.inj H
              go_enter Try.func8, Try.ntmps8
              go_wp2_with (first | ((with_reducible refine gate_callee (f := 14) rfl ?_); refine goesL_ (some 9) rfl rfl Try.func14 (by kernel_rfl) rfl #[] rfl (by (try simp only [List.map_toArray, List.map_cons, List.map_nil]); first | done | rfl | (simp only [List.length_drop, List.length_take]; rfl)) ?_; (with_reducible refine (paternosterlaw06_awake.calls k  true _ A3.out).mono ?_); rintro e w28 ⟨rfl, hb⟩; refine ⟨_, rfl, ?_⟩; have n0_ := Aside0.mk (below_step (by repeat (first | (with_reducible first | exact HB.out | apply below_alloc | apply pw_below_drewN | apply below_drew1) | exact HB.out)) hb); clear HB; have HB := n0_; clear n0_; (try clear hb); (try clear hb2); (try clear hk); (try clear hi)) | ((with_reducible refine gate_callee (f := 15) rfl ?_); refine goesL_ (some 33) rfl rfl Try.func15 (by kernel_rfl) rfl #[.int .i64 (wrap64 ((wrap64 (Int.tmod a1 8)) + 1))] rfl (by (try simp only [List.map_toArray, List.map_cons, List.map_nil]); first | done | rfl | (simp only [List.length_drop, List.length_take]; rfl)) ?_; (with_reducible refine (plan_Stop.calls (wrap64 ((wrap64 (Int.tmod a1 8)) + 1)) t144 _ A12.out).mono ?_); rintro e w29 ⟨rfl, hb⟩; refine ⟨_, rfl, ?_⟩; have n0_ := Aside0.mk (below_step (by repeat (first | (with_reducible first | exact HB.out | apply below_alloc | apply pw_below_drewN | apply below_drew1) | exact HB.out)) hb); clear HB; have HB := n0_; clear n0_; (try clear hb); (try clear hb2); (try clear hk); (try clear hi)) | ((with_reducible refine gate_callee (f := 17) rfl ?_); refine goesL_ (some 37) rfl rfl Try.func17 (by kernel_rfl) rfl #[.int .i64 0, .int .i64 (wrap64 (Int.tmod a0 1001)), .int .i64 (wrap64 ((wrap64 (Int.tmod a1 8)) + 1))] rfl (by (try simp only [List.map_toArray, List.map_cons, List.map_nil]); first | done | rfl | (simp only [List.length_drop, List.length_take]; rfl)) ?_; (with_reducible refine (plan_Next.calls 0 (wrap64 (Int.tmod a0 1001)) (wrap64 ((wrap64 (Int.tmod a1 8)) + 1)) t145 _ A13.out).mono ?_); rintro e w30 ⟨rfl, hb⟩; clear A13; refine ⟨_, rfl, ?_⟩; have n0_ := Aside0.mk (below_step (by repeat (first | (with_reducible first | exact HB.out | apply below_alloc | apply pw_below_drewN | apply below_drew1) | exact HB.out)) hb); clear HB; have HB := n0_; clear n0_; (try clear hb); (try clear hb2); (try clear hk); (try clear hi)) | (go_at_call 17; (with_reducible refine (plan_Next.calls (wrap64 ((wrap64 (Int.tmod a1 8)) + 1)) (wrap64 (Int.tmod a0 1001)) (wrap64 ((wrap64 (Int.tmod a1 8)) + 1)) t147 _ A25.out).mono ?_); rintro e w31 ⟨rfl, hb⟩; clear A25; have n0_ := Aside0.mk (below_step (by repeat (first | (with_reducible first | exact HB.out | apply below_alloc | apply pw_below_drewN | apply below_drew1) | exact HB.out)) hb); clear HB; have HB := n0_; clear n0_; (try clear hb); (try clear hb2); (try clear hk); (try clear hi)))
              go_ret
              exact ⟨by first | rfl | (simp [errW_none, errW_some] <;> rfl) | (simp [*, errW_none, errW_some] <;> rfl), by repeat (first | (with_reducible first | exact HB.out | apply below_alloc | apply pw_below_drewN | apply below_drew1) | exact HB.out)⟩
            · rw [if_neg c27] at H
              have c27b0 : decide ((wrap64 ((wrap64 ((wrap64 (Int.tmod a1 8)) + 1)) + t144)) ≤ (wrap64 (Int.tmod a0 1001))) = false := decide_eq_false c27
              clear c27
              replace H := Option.bind_eq_some_iff.mp H
              obtain ⟨t148, A320, H⟩ := H
              replace H : (some (decide (t148 < (wrap64 ((wrap64 (Int.tmod a1 8)) + 1))))) = some r := H
              have A32 := Aside0.mk A320
              clear A320
              obtain rfl := Option.some.inj H
              go_enter Try.func8, Try.ntmps8
              go_wp2_with (first | ((with_reducible refine gate_callee (f := 14) rfl ?_); refine goesL_ (some 9) rfl rfl Try.func14 (by kernel_rfl) rfl #[] rfl (by (try simp only [List.map_toArray, List.map_cons, List.map_nil]); first | done | rfl | (simp only [List.length_drop, List.length_take]; rfl)) ?_; (with_reducible refine (paternosterlaw06_awake.calls k  true _ A3.out).mono ?_); rintro e w33 ⟨rfl, hb⟩; refine ⟨_, rfl, ?_⟩; have n0_ := Aside0.mk (below_step (by repeat (first | (with_reducible first | exact HB.out | apply below_alloc | apply pw_below_drewN | apply below_drew1) | exact HB.out)) hb); clear HB; have HB := n0_; clear n0_; (try clear hb); (try clear hb2); (try clear hk); (try clear hi)) | ((with_reducible refine gate_callee (f := 15) rfl ?_); refine goesL_ (some 33) rfl rfl Try.func15 (by kernel_rfl) rfl #[.int .i64 (wrap64 ((wrap64 (Int.tmod a1 8)) + 1))] rfl (by (try simp only [List.map_toArray, List.map_cons, List.map_nil]); first | done | rfl | (simp only [List.length_drop, List.length_take]; rfl)) ?_; (with_reducible refine (plan_Stop.calls (wrap64 ((wrap64 (Int.tmod a1 8)) + 1)) t144 _ A12.out).mono ?_); rintro e w34 ⟨rfl, hb⟩; refine ⟨_, rfl, ?_⟩; have n0_ := Aside0.mk (below_step (by repeat (first | (with_reducible first | exact HB.out | apply below_alloc | apply pw_below_drewN | apply below_drew1) | exact HB.out)) hb); clear HB; have HB := n0_; clear n0_; (try clear hb); (try clear hb2); (try clear hk); (try clear hi)) | ((with_reducible refine gate_callee (f := 17) rfl ?_); refine goesL_ (some 37) rfl rfl Try.func17 (by kernel_rfl) rfl #[.int .i64 0, .int .i64 (wrap64 (Int.tmod a0 1001)), .int .i64 (wrap64 ((wrap64 (Int.tmod a1 8)) + 1))] rfl (by (try simp only [List.map_toArray, List.map_cons, List.map_nil]); first | done | rfl | (simp only [List.length_drop, List.length_take]; rfl)) ?_; (with_reducible refine (plan_Next.calls 0 (wrap64 (Int.tmod a0 1001)) (wrap64 ((wrap64 (Int.tmod a1 8)) + 1)) t145 _ A13.out).mono ?_); rintro e w35 ⟨rfl, hb⟩; clear A13; refine ⟨_, rfl, ?_⟩; have n0_ := Aside0.mk (below_step (by repeat (first | (with_reducible first | exact HB.out | apply below_alloc | apply pw_below_drewN | apply below_drew1) | exact HB.out)) hb); clear HB; have HB := n0_; clear n0_; (try clear hb); (try clear hb2); (try clear hk); (try clear hi)) | (go_at_call 17; (with_reducible refine (plan_Next.calls (wrap64 ((wrap64 (Int.tmod a1 8)) + 1)) (wrap64 (Int.tmod a0 1001)) (wrap64 ((wrap64 (Int.tmod a1 8)) + 1)) t147 _ A25.out).mono ?_); rintro e w36 ⟨rfl, hb⟩; clear A25; have n0_ := Aside0.mk (below_step (by repeat (first | (with_reducible first | exact HB.out | apply below_alloc | apply pw_below_drewN | apply below_drew1) | exact HB.out)) hb); clear HB; have HB := n0_; clear n0_; (try clear hb); (try clear hb2); (try clear hk); (try clear hi)) | (go_at_call 17; (with_reducible refine (plan_Next.calls (wrap64 ((wrap64 (Int.tmod a1 8)) + 1)) (wrap64 (Int.tmod a0 1001)) (wrap64 ((wrap64 (Int.tmod a1 8)) + 1)) t148 _ A32.out).mono ?_); rintro e w37 ⟨rfl, hb⟩; clear A32; have n0_ := Aside0.mk (below_step (by repeat (first | (with_reducible first | exact HB.out | apply below_alloc | apply pw_below_drewN | apply below_drew1) | exact HB.out)) hb); clear HB; have HB := n0_; clear n0_; (try clear hb); (try clear hb2); (try clear hk); (try clear hi)))
              go_ret
              exact ⟨by first | rfl | (simp [errW_none, errW_some] <;> rfl) | (simp [*, errW_none, errW_some] <;> rfl), by repeat (first | (with_reducible first | exact HB.out | apply below_alloc | apply pw_below_drewN | apply below_drew1) | exact HB.out)⟩
          · rw [if_neg c26] at H
            have c26b0 : (t147 == (wrap64 ((wrap64 (Int.tmod a1 8)) + 1))) = false := beq_eq_false_iff_ne.mpr c26
            have c26b1 : (t147 != (wrap64 ((wrap64 (Int.tmod a1 8)) + 1))) = true := bne_iff_ne.mpr c26
            exact absurd (Option.some.inj H) (by rw [HT.out]; decide)
      · rw [if_neg c14] at H
        have c14b0 : (t145 == 1) = false := beq_eq_false_iff_ne.mpr c14
        have c14b1 : (t145 != 1) = true := bne_iff_ne.mpr c14
        exact absurd (Option.some.inj H) (by rw [HT.out]; decide)
  · replace c4 := Bool.eq_false_iff.mpr c4
    subst c4
    have H1 : (some false) = some r := by rw [if_neg (show ¬ (false = true) by decide)] at H; exact H
    clear H
    have H := H1
    clear H1
    exact absurd (Option.some.inj H) (by rw [HT.out]; decide)

/-- THE ONE PURE STATEMENT of paternosterlaw06_PlanRest: yours. -/
def paternosterlaw06_PlanRest.Pure : Prop := ∀ (a0 : Int) (a1 : Int), (Lit.int .u16 a0).wf = true → (Lit.int .u8 a1).wf = true → ∃ k, paternosterlaw06_PlanRest.f k a0 a1 = some true
theorem paternosterlaw06_PlanRest.walk (P : paternosterlaw06_PlanRest.Pure) (a0 : Int) (a1 : Int) (w : World) (w0 : (Lit.int .u16 a0).wf = true) (w1 : (Lit.int .u8 a1).wf = true) :
    Calls Try.prog 8 #[.int .u16 a0, .int .u8 a1] w fun e w' => e = .returned (.bool true) ∧ Below w.heap.size w w' := by
  obtain ⟨k, h⟩ := P a0 a1 w0 w1
  refine (paternosterlaw06_PlanRest.calls k a0 a1 true w rfl h).mono ?_
  rintro e w' ⟨rfl, hd⟩
  exact ⟨rfl, hd⟩

/-! ### drive_sign_int: function 35 -/
def drive_sign_int.f (a0 : Int) : Option (Int × Int) := if a0 > 0 then (some (1, a0)) else (if a0 < 0 then (some ((-1), wrap64 (-a0))) else (some (0, 0)))
set_option maxHeartbeats 8000000 in
set_option maxRecDepth 100000 in
theorem drive_sign_int.calls (a0 : Int) (r1 : Int) (r2 : Int) (w : World) (h : drive_sign_int.f a0 = some (r1, r2)) :
    Calls Try.prog 35 #[.int .i64 a0] w fun e w' => e = .returned (.tuple #[.int .i64 r1, .int .i64 r2]) ∧ Drawn0 w w' := by
  have H : (if a0 > 0 then (some (1, a0)) else (if a0 < 0 then (some ((-1), wrap64 (-a0))) else (some (0, 0)))) = some (r1, r2) := h
  clear h
  by_cases c2 : a0 > 0
  · rw [if_pos c2] at H
    have c2b0 : decide (0 < a0) = true := decide_eq_true c2
    clear c2
    simp only [Option.some.injEq, Prod.mk.injEq] at H
    obtain ⟨rfl, rfl⟩ := H
    go_enter Try.func35, Try.ntmps35
    go_wp2
    go_ret2
    exact ⟨by first | rfl | (simp; done) | (simp [*]; done), by repeat (first | exact Drawn0.refl _ | apply Drawn0.step)⟩
  · rw [if_neg c2] at H
    have c2b0 : decide (0 < a0) = false := decide_eq_false c2
    clear c2
    by_cases c3 : a0 < 0
    · rw [if_pos c3] at H
      have c3b0 : decide (a0 < 0) = true := decide_eq_true c3
      clear c3
      simp only [Option.some.injEq, Prod.mk.injEq] at H
      obtain ⟨rfl, rfl⟩ := H
      go_enter Try.func35, Try.ntmps35
      go_wp2
      go_ret2
      exact ⟨by first | rfl | (simp; done) | (simp [*]; done), by repeat (first | exact Drawn0.refl _ | apply Drawn0.step)⟩
    · rw [if_neg c3] at H
      have c3b0 : decide (a0 < 0) = false := decide_eq_false c3
      clear c3
      simp only [Option.some.injEq, Prod.mk.injEq] at H
      obtain ⟨rfl, rfl⟩ := H
      go_enter Try.func35, Try.ntmps35
      go_wp2
      go_ret2
      exact ⟨by first | rfl | (simp; done) | (simp [*]; done), by repeat (first | exact Drawn0.refl _ | apply Drawn0.step)⟩

/-! ### drive_way: function 36 -/
def drive_way.f (a0_0 : Int) (a0_1 : Int) (a0_2 : Int) (a1 : Int) : Option (Int) := some (wrap64 ((wrap64 (a1 * 8)) - a0_0))
set_option maxHeartbeats 8000000 in
set_option maxRecDepth 100000 in
theorem drive_way.calls (a0_0 : Int) (a0_1 : Int) (a0_2 : Int) (a1 : Int) (r : Int) (w : World) (h : drive_way.f a0_0 a0_1 a0_2 a1 = some r) :
    Calls Try.prog 36 #[.agg #[.int .i64 a0_0, .int .i64 a0_1, .int .i64 a0_2], .int .i64 a1] w fun e w' => e = .returned (.int .i64 r) ∧ Below w.heap.size w w' := by
  have hu32 := Try.underlying32
  have HB := Aside0.mk (Below.refl w.heap.size w)
  have H : (some (wrap64 ((wrap64 (a1 * 8)) - a0_0))) = some r := h
  clear h
  obtain rfl := Option.some.inj H
  go_enter Try.func36, Try.ntmps36
  go_wp2_with (first | ((with_reducible refine gate_dst (N := 2) rfl ?_); refine box_event ?hg (N := 2) ?hd (cs := #[.int .i64 a0_0, .int .i64 a0_1, .int .i64 a0_2]) (t := 32) ?hr ?_; (case hd => rfl); (case hg => rfl); (case hr => first | (go_simp; done) | (go_simp; rfl)); intro gb149 hg w3 hbox hb; have n0_ := Aside0.mk (below_step (by repeat (first | (with_reducible first | exact HB.out | apply below_alloc | apply pw_below_drewN | apply below_drew1) | exact HB.out)) hb); have n1_ := Aside0.mk (hbox); have n2_ := Aside0.mk ((by rw [hg]; exact (below_size (by repeat (first | (with_reducible first | exact HB.out | apply below_alloc | apply pw_below_drewN | apply below_drew1) | exact HB.out))) : w.heap.size ≤ gb149)); have n3_ := Aside0.mk ((by rw [hg]; exact (below_size (by repeat (first | (with_reducible first | exact HB.out | apply below_alloc | apply pw_below_drewN | apply below_drew1) | exact HB.out))) : w.heap.size ≤ gb149)); clear HB; have HB := n0_; have BK149 := n1_; have GW149 := n2_; have GE149 := n3_; clear n0_ n1_ n2_ n3_; clear hb hbox hg; have hcz4_0 : w3.cell? ⟨gb149, 0, none⟩ = some (.int .i64 a0_0) := (blk_cell BK149.out 0).trans rfl; have hcz4_1 : w3.cell? ⟨gb149, 1, none⟩ = some (.int .i64 a0_1) := (blk_cell BK149.out 1).trans rfl; have hcz4_2 : w3.cell? ⟨gb149, 2, none⟩ = some (.int .i64 a0_2) := (blk_cell BK149.out 2).trans rfl; have hfz4_0 := blk_frozen BK149.out 0; have hfz4_1 := blk_frozen BK149.out 1; have hfz4_2 := blk_frozen BK149.out 2))
  go_ret
  exact ⟨by first | rfl | (simp [errW_none, errW_some] <;> rfl) | (simp [*, errW_none, errW_some] <;> rfl), by repeat (first | (with_reducible first | exact HB.out | apply below_alloc | apply pw_below_drewN | apply below_drew1 | refine below_set ?_ GE149.out) | exact HB.out)⟩

end Go.Proofs.Ytmhgfghbbophlaa.Q
