-- Written by a program of this session (turned from the kit's print.py) out of the translation. Not trusted: Lean checks it.
import Derived.Test.YtmhgfghbbophlaaQx0
import Derived.Test.YtmhgfghbbophlaaQx1
namespace Go.Proofs.Ytmhgfghbbophlaa.Q
open Go.RowKit Go.Proofs.YtmhgfghbbophlaaW.PrintWords Go.Proofs.YtmhgfghbbophlaaW.PrintLast Go.Proofs.YtmhgfghbbophlaaW.PrintMore
attribute [local go_sem] max2_int min2_int max_two min_two max_three min_three max_four min_four   -- for this text's walks alone
set_option linter.unusedVariables false
set_option linter.unusedSimpArgs false

attribute [local go_sem] fld32_0 fld32_1 fld32_2 fld37_0 fld37_1 fld37_2
/-! ### paternosterlaw06_PlanFaster: function 5 -/
def paternosterlaw06_PlanFaster.f (k : Nat) (a0 : Int) (a1 : Int) (a2 : Int) : Option (Bool) := (paternosterlaw06_awake.f k).bind fun t125 => (if t125 = true then ((plan_Ticks.f k (wrap64 (Int.tmod a0 1000)) (wrap64 ((wrap64 ((wrap64 (Int.tmod a1 7)) + 1)) + 1))).bind fun t126 => ((plan_Ticks.f k (wrap64 (Int.tmod a0 1000)) (wrap64 ((wrap64 (Int.tmod a1 7)) + 1))).bind fun t127 => (if t126 ≤ t127 then ((plan_Ticks.f k (wrap64 (Int.tmod a0 1000)) (wrap64 ((wrap64 (Int.tmod a1 7)) + 1))).bind fun t128 => ((plan_Ticks.f k (wrap64 ((wrap64 (Int.tmod a0 1000)) + 1)) (wrap64 ((wrap64 (Int.tmod a1 7)) + 1))).bind fun t129 => (if t128 ≤ t129 then ((plan_Next.f (wrap64 (Int.tmod a2 9)) (wrap64 (Int.tmod a0 1000)) (wrap64 ((wrap64 (Int.tmod a1 7)) + 1))).bind fun t130 => ((plan_Next.f (wrap64 (Int.tmod a2 9)) (wrap64 ((wrap64 (Int.tmod a0 1000)) + 1)) (wrap64 ((wrap64 (Int.tmod a1 7)) + 1))).bind fun t131 => (if t130 ≤ t131 then ((plan_Next.f (wrap64 (Int.tmod a2 9)) (wrap64 (Int.tmod a0 1000)) (wrap64 ((wrap64 (Int.tmod a1 7)) + 1))).bind fun t132 => ((plan_Next.f (wrap64 (Int.tmod a2 9)) (wrap64 (Int.tmod a0 1000)) (wrap64 ((wrap64 ((wrap64 (Int.tmod a1 7)) + 1)) + 1))).bind fun t133 => (some (decide (t132 ≤ t133))))) else (some false)))) else (some false)))) else (some false)))) else (some false))
theorem paternosterlaw06_PlanFaster.mono : ∀ a0 a1 a2 k, LeO (paternosterlaw06_PlanFaster.f k a0 a1 a2) (paternosterlaw06_PlanFaster.f (k + 1) a0 a1 a2) := by
  intro a0 a1 a2 k
  unfold paternosterlaw06_PlanFaster.f
  repeat' first
      | (with_reducible exact paternosterlaw06_awake.mono _)
      | (with_reducible exact plan_Ticks.mono _ _ _)
      | (with_reducible exact LeO.refl _)
      | (with_reducible exact LeO.none _)
      | (with_reducible refine LeO.ite ?_ ?_)
      | (with_reducible refine LeO.bind ?_ (fun _ => ?_))
      | exact paternosterlaw06_awake.mono _
      | exact plan_Ticks.mono _ _ _
      | exact LeO.none _
      | refine LeO.ite ?_ ?_
      | refine LeO.bind ?_ (fun _ => ?_)
set_option maxHeartbeats 8000000 in
set_option maxRecDepth 100000 in
theorem paternosterlaw06_PlanFaster.calls (k : Nat) (a0 : Int) (a1 : Int) (a2 : Int) (r : Bool) (w : World) (hT : r = true) (h : paternosterlaw06_PlanFaster.f k a0 a1 a2 = some r) :
    Calls Try.prog 5 #[.int .u16 a0, .int .u8 a1, .int .u8 a2] w fun e w' => e = .returned (.bool r) ∧ Below w.heap.size w w' := by
  have HT := Aside0.mk hT
  clear hT
  have HB := Aside0.mk (Below.refl w.heap.size w)
  have H : ((paternosterlaw06_awake.f k).bind fun t125 => (if t125 = true then ((plan_Ticks.f k (wrap64 (Int.tmod a0 1000)) (wrap64 ((wrap64 ((wrap64 (Int.tmod a1 7)) + 1)) + 1))).bind fun t126 => ((plan_Ticks.f k (wrap64 (Int.tmod a0 1000)) (wrap64 ((wrap64 (Int.tmod a1 7)) + 1))).bind fun t127 => (if t126 ≤ t127 then ((plan_Ticks.f k (wrap64 (Int.tmod a0 1000)) (wrap64 ((wrap64 (Int.tmod a1 7)) + 1))).bind fun t128 => ((plan_Ticks.f k (wrap64 ((wrap64 (Int.tmod a0 1000)) + 1)) (wrap64 ((wrap64 (Int.tmod a1 7)) + 1))).bind fun t129 => (if t128 ≤ t129 then ((plan_Next.f (wrap64 (Int.tmod a2 9)) (wrap64 (Int.tmod a0 1000)) (wrap64 ((wrap64 (Int.tmod a1 7)) + 1))).bind fun t130 => ((plan_Next.f (wrap64 (Int.tmod a2 9)) (wrap64 ((wrap64 (Int.tmod a0 1000)) + 1)) (wrap64 ((wrap64 (Int.tmod a1 7)) + 1))).bind fun t131 => (if t130 ≤ t131 then ((plan_Next.f (wrap64 (Int.tmod a2 9)) (wrap64 (Int.tmod a0 1000)) (wrap64 ((wrap64 (Int.tmod a1 7)) + 1))).bind fun t132 => ((plan_Next.f (wrap64 (Int.tmod a2 9)) (wrap64 (Int.tmod a0 1000)) (wrap64 ((wrap64 ((wrap64 (Int.tmod a1 7)) + 1)) + 1))).bind fun t133 => (some (decide (t132 ≤ t133))))) else (some false)))) else (some false)))) else (some false)))) else (some false))) = some r := h
  clear h
  replace H := Option.bind_eq_some_iff.mp H
  obtain ⟨t125, A40, H⟩ := H
  replace H : (if t125 = true then ((plan_Ticks.f k (wrap64 (Int.tmod a0 1000)) (wrap64 ((wrap64 ((wrap64 (Int.tmod a1 7)) + 1)) + 1))).bind fun t126 => ((plan_Ticks.f k (wrap64 (Int.tmod a0 1000)) (wrap64 ((wrap64 (Int.tmod a1 7)) + 1))).bind fun t127 => (if t126 ≤ t127 then ((plan_Ticks.f k (wrap64 (Int.tmod a0 1000)) (wrap64 ((wrap64 (Int.tmod a1 7)) + 1))).bind fun t128 => ((plan_Ticks.f k (wrap64 ((wrap64 (Int.tmod a0 1000)) + 1)) (wrap64 ((wrap64 (Int.tmod a1 7)) + 1))).bind fun t129 => (if t128 ≤ t129 then ((plan_Next.f (wrap64 (Int.tmod a2 9)) (wrap64 (Int.tmod a0 1000)) (wrap64 ((wrap64 (Int.tmod a1 7)) + 1))).bind fun t130 => ((plan_Next.f (wrap64 (Int.tmod a2 9)) (wrap64 ((wrap64 (Int.tmod a0 1000)) + 1)) (wrap64 ((wrap64 (Int.tmod a1 7)) + 1))).bind fun t131 => (if t130 ≤ t131 then ((plan_Next.f (wrap64 (Int.tmod a2 9)) (wrap64 (Int.tmod a0 1000)) (wrap64 ((wrap64 (Int.tmod a1 7)) + 1))).bind fun t132 => ((plan_Next.f (wrap64 (Int.tmod a2 9)) (wrap64 (Int.tmod a0 1000)) (wrap64 ((wrap64 ((wrap64 (Int.tmod a1 7)) + 1)) + 1))).bind fun t133 => (some (decide (t132 ≤ t133))))) else (some false)))) else (some false)))) else (some false)))) else (some false)) = some r := H
  have A4 := Aside0.mk A40
  clear A40
  by_cases c5 : t125 = true
  · subst c5
    have H1 : ((plan_Ticks.f k (wrap64 (Int.tmod a0 1000)) (wrap64 ((wrap64 ((wrap64 (Int.tmod a1 7)) + 1)) + 1))).bind fun t126 => ((plan_Ticks.f k (wrap64 (Int.tmod a0 1000)) (wrap64 ((wrap64 (Int.tmod a1 7)) + 1))).bind fun t127 => (if t126 ≤ t127 then ((plan_Ticks.f k (wrap64 (Int.tmod a0 1000)) (wrap64 ((wrap64 (Int.tmod a1 7)) + 1))).bind fun t128 => ((plan_Ticks.f k (wrap64 ((wrap64 (Int.tmod a0 1000)) + 1)) (wrap64 ((wrap64 (Int.tmod a1 7)) + 1))).bind fun t129 => (if t128 ≤ t129 then ((plan_Next.f (wrap64 (Int.tmod a2 9)) (wrap64 (Int.tmod a0 1000)) (wrap64 ((wrap64 (Int.tmod a1 7)) + 1))).bind fun t130 => ((plan_Next.f (wrap64 (Int.tmod a2 9)) (wrap64 ((wrap64 (Int.tmod a0 1000)) + 1)) (wrap64 ((wrap64 (Int.tmod a1 7)) + 1))).bind fun t131 => (if t130 ≤ t131 then ((plan_Next.f (wrap64 (Int.tmod a2 9)) (wrap64 (Int.tmod a0 1000)) (wrap64 ((wrap64 (Int.tmod a1 7)) + 1))).bind fun t132 => ((plan_Next.f (wrap64 (Int.tmod a2 9)) (wrap64 (Int.tmod a0 1000)) (wrap64 ((wrap64 ((wrap64 (Int.tmod a1 7)) + 1)) + 1))).bind fun t133 => (some (decide (t132 ≤ t133))))) else (some false)))) else (some false)))) else (some false)))) = some r := by rw [if_pos rfl] at H; exact H
    clear H
    have H := H1
    clear H1
    replace H := Option.bind_eq_some_iff.mp H
    obtain ⟨t126, A60, H⟩ := H
    replace H : ((plan_Ticks.f k (wrap64 (Int.tmod a0 1000)) (wrap64 ((wrap64 (Int.tmod a1 7)) + 1))).bind fun t127 => (if t126 ≤ t127 then ((plan_Ticks.f k (wrap64 (Int.tmod a0 1000)) (wrap64 ((wrap64 (Int.tmod a1 7)) + 1))).bind fun t128 => ((plan_Ticks.f k (wrap64 ((wrap64 (Int.tmod a0 1000)) + 1)) (wrap64 ((wrap64 (Int.tmod a1 7)) + 1))).bind fun t129 => (if t128 ≤ t129 then ((plan_Next.f (wrap64 (Int.tmod a2 9)) (wrap64 (Int.tmod a0 1000)) (wrap64 ((wrap64 (Int.tmod a1 7)) + 1))).bind fun t130 => ((plan_Next.f (wrap64 (Int.tmod a2 9)) (wrap64 ((wrap64 (Int.tmod a0 1000)) + 1)) (wrap64 ((wrap64 (Int.tmod a1 7)) + 1))).bind fun t131 => (if t130 ≤ t131 then ((plan_Next.f (wrap64 (Int.tmod a2 9)) (wrap64 (Int.tmod a0 1000)) (wrap64 ((wrap64 (Int.tmod a1 7)) + 1))).bind fun t132 => ((plan_Next.f (wrap64 (Int.tmod a2 9)) (wrap64 (Int.tmod a0 1000)) (wrap64 ((wrap64 ((wrap64 (Int.tmod a1 7)) + 1)) + 1))).bind fun t133 => (some (decide (t132 ≤ t133))))) else (some false)))) else (some false)))) else (some false))) = some r := H
    have A6 := Aside0.mk A60
    clear A60
    replace H := Option.bind_eq_some_iff.mp H
    obtain ⟨t127, A70, H⟩ := H
    replace H : (if t126 ≤ t127 then ((plan_Ticks.f k (wrap64 (Int.tmod a0 1000)) (wrap64 ((wrap64 (Int.tmod a1 7)) + 1))).bind fun t128 => ((plan_Ticks.f k (wrap64 ((wrap64 (Int.tmod a0 1000)) + 1)) (wrap64 ((wrap64 (Int.tmod a1 7)) + 1))).bind fun t129 => (if t128 ≤ t129 then ((plan_Next.f (wrap64 (Int.tmod a2 9)) (wrap64 (Int.tmod a0 1000)) (wrap64 ((wrap64 (Int.tmod a1 7)) + 1))).bind fun t130 => ((plan_Next.f (wrap64 (Int.tmod a2 9)) (wrap64 ((wrap64 (Int.tmod a0 1000)) + 1)) (wrap64 ((wrap64 (Int.tmod a1 7)) + 1))).bind fun t131 => (if t130 ≤ t131 then ((plan_Next.f (wrap64 (Int.tmod a2 9)) (wrap64 (Int.tmod a0 1000)) (wrap64 ((wrap64 (Int.tmod a1 7)) + 1))).bind fun t132 => ((plan_Next.f (wrap64 (Int.tmod a2 9)) (wrap64 (Int.tmod a0 1000)) (wrap64 ((wrap64 ((wrap64 (Int.tmod a1 7)) + 1)) + 1))).bind fun t133 => (some (decide (t132 ≤ t133))))) else (some false)))) else (some false)))) else (some false)) = some r := H
    have A7 := Aside0.mk A70
    clear A70
    by_cases c8 : t126 ≤ t127
    · rw [if_pos c8] at H
      have c8b0 : decide (t126 ≤ t127) = true := decide_eq_true c8
      clear c8
      replace H := Option.bind_eq_some_iff.mp H
      obtain ⟨t128, A90, H⟩ := H
      replace H : ((plan_Ticks.f k (wrap64 ((wrap64 (Int.tmod a0 1000)) + 1)) (wrap64 ((wrap64 (Int.tmod a1 7)) + 1))).bind fun t129 => (if t128 ≤ t129 then ((plan_Next.f (wrap64 (Int.tmod a2 9)) (wrap64 (Int.tmod a0 1000)) (wrap64 ((wrap64 (Int.tmod a1 7)) + 1))).bind fun t130 => ((plan_Next.f (wrap64 (Int.tmod a2 9)) (wrap64 ((wrap64 (Int.tmod a0 1000)) + 1)) (wrap64 ((wrap64 (Int.tmod a1 7)) + 1))).bind fun t131 => (if t130 ≤ t131 then ((plan_Next.f (wrap64 (Int.tmod a2 9)) (wrap64 (Int.tmod a0 1000)) (wrap64 ((wrap64 (Int.tmod a1 7)) + 1))).bind fun t132 => ((plan_Next.f (wrap64 (Int.tmod a2 9)) (wrap64 (Int.tmod a0 1000)) (wrap64 ((wrap64 ((wrap64 (Int.tmod a1 7)) + 1)) + 1))).bind fun t133 => (some (decide (t132 ≤ t133))))) else (some false)))) else (some false))) = some r := H
      have A9 := Aside0.mk A90
      clear A90
      replace H := Option.bind_eq_some_iff.mp H
      obtain ⟨t129, A100, H⟩ := H
      replace H : (if t128 ≤ t129 then ((plan_Next.f (wrap64 (Int.tmod a2 9)) (wrap64 (Int.tmod a0 1000)) (wrap64 ((wrap64 (Int.tmod a1 7)) + 1))).bind fun t130 => ((plan_Next.f (wrap64 (Int.tmod a2 9)) (wrap64 ((wrap64 (Int.tmod a0 1000)) + 1)) (wrap64 ((wrap64 (Int.tmod a1 7)) + 1))).bind fun t131 => (if t130 ≤ t131 then ((plan_Next.f (wrap64 (Int.tmod a2 9)) (wrap64 (Int.tmod a0 1000)) (wrap64 ((wrap64 (Int.tmod a1 7)) + 1))).bind fun t132 => ((plan_Next.f (wrap64 (Int.tmod a2 9)) (wrap64 (Int.tmod a0 1000)) (wrap64 ((wrap64 ((wrap64 (Int.tmod a1 7)) + 1)) + 1))).bind fun t133 => (some (decide (t132 ≤ t133))))) else (some false)))) else (some false)) = some r := H
      have A10 := Aside0.mk A100
      clear A100
      by_cases c11 : t128 ≤ t129
      · rw [if_pos c11] at H
        have c11b0 : decide (t128 ≤ t129) = true := decide_eq_true c11
        clear c11
        replace H := Option.bind_eq_some_iff.mp H
        obtain ⟨t130, A120, H⟩ := H
        replace H : ((plan_Next.f (wrap64 (Int.tmod a2 9)) (wrap64 ((wrap64 (Int.tmod a0 1000)) + 1)) (wrap64 ((wrap64 (Int.tmod a1 7)) + 1))).bind fun t131 => (if t130 ≤ t131 then ((plan_Next.f (wrap64 (Int.tmod a2 9)) (wrap64 (Int.tmod a0 1000)) (wrap64 ((wrap64 (Int.tmod a1 7)) + 1))).bind fun t132 => ((plan_Next.f (wrap64 (Int.tmod a2 9)) (wrap64 (Int.tmod a0 1000)) (wrap64 ((wrap64 ((wrap64 (Int.tmod a1 7)) + 1)) + 1))).bind fun t133 => (some (decide (t132 ≤ t133))))) else (some false))) = some r := H
        have A12 := Aside0.mk A120
        clear A120
        replace H := Option.bind_eq_some_iff.mp H
        obtain ⟨t131, A130, H⟩ := H
        replace H : (if t130 ≤ t131 then ((plan_Next.f (wrap64 (Int.tmod a2 9)) (wrap64 (Int.tmod a0 1000)) (wrap64 ((wrap64 (Int.tmod a1 7)) + 1))).bind fun t132 => ((plan_Next.f (wrap64 (Int.tmod a2 9)) (wrap64 (Int.tmod a0 1000)) (wrap64 ((wrap64 ((wrap64 (Int.tmod a1 7)) + 1)) + 1))).bind fun t133 => (some (decide (t132 ≤ t133))))) else (some false)) = some r := H
        have A13 := Aside0.mk A130
        clear A130
        by_cases c14 : t130 ≤ t131
        · rw [if_pos c14] at H
          have c14b0 : decide (t130 ≤ t131) = true := decide_eq_true c14
          clear c14
          replace H := Option.bind_eq_some_iff.mp H
          obtain ⟨t132, A150, H⟩ := H
          replace H : ((plan_Next.f (wrap64 (Int.tmod a2 9)) (wrap64 (Int.tmod a0 1000)) (wrap64 ((wrap64 ((wrap64 (Int.tmod a1 7)) + 1)) + 1))).bind fun t133 => (some (decide (t132 ≤ t133)))) = some r := H
          have A15 := Aside0.mk A150
          clear A150
          replace H := Option.bind_eq_some_iff.mp H
          obtain ⟨t133, A160, H⟩ := H
          replace H : (some (decide (t132 ≤ t133))) = some r := H
          have A16 := Aside0.mk A160
          clear A160
          obtain rfl := Option.some.inj H
          go_enter Try.func5, Try.ntmps5
          go_wp2_with (first | ((with_reducible refine gate_callee (f := 14) rfl ?_); refine goesL_ (some 11) rfl rfl Try.func14 (by kernel_rfl) rfl #[] rfl (by (try simp only [List.map_toArray, List.map_cons, List.map_nil]); first | done | rfl | (simp only [List.length_drop, List.length_take]; rfl)) ?_; (with_reducible refine (paternosterlaw06_awake.calls k  true _ A4.out).mono ?_); rintro e w17 ⟨rfl, hb⟩; refine ⟨_, rfl, ?_⟩; have n0_ := Aside0.mk (below_step (by repeat (first | (with_reducible first | exact HB.out | apply below_alloc | apply pw_below_drewN | apply below_drew1) | exact HB.out)) hb); clear HB; have HB := n0_; clear n0_; (try clear hb); (try clear hb2); (try clear hk); (try clear hi)) | ((with_reducible refine gate_callee (f := 19) rfl ?_); refine goesL_ (some 27) rfl rfl Try.func19 (by kernel_rfl) rfl #[.int .i64 (wrap64 (Int.tmod a0 1000)), .int .i64 (wrap64 ((wrap64 ((wrap64 (Int.tmod a1 7)) + 1)) + 1))] rfl (by (try simp only [List.map_toArray, List.map_cons, List.map_nil]); first | done | rfl | (simp only [List.length_drop, List.length_take]; rfl)) ?_; (with_reducible refine (plan_Ticks.calls k (wrap64 (Int.tmod a0 1000)) (wrap64 ((wrap64 ((wrap64 (Int.tmod a1 7)) + 1)) + 1)) t126 _ A6.out).mono ?_); rintro e w18 ⟨rfl, hb⟩; clear A6; refine ⟨_, rfl, ?_⟩; have n0_ := Aside0.mk (below_step (by repeat (first | (with_reducible first | exact HB.out | apply below_alloc | apply pw_below_drewN | apply below_drew1) | exact HB.out)) hb); clear HB; have HB := n0_; clear n0_; (try clear hb); (try clear hb2); (try clear hk); (try clear hi)) | ((with_reducible refine gate_callee (f := 19) rfl ?_); refine goesL_ (some 30) rfl rfl Try.func19 (by kernel_rfl) rfl #[.int .i64 (wrap64 (Int.tmod a0 1000)), .int .i64 (wrap64 ((wrap64 (Int.tmod a1 7)) + 1))] rfl (by (try simp only [List.map_toArray, List.map_cons, List.map_nil]); first | done | rfl | (simp only [List.length_drop, List.length_take]; rfl)) ?_; (with_reducible refine (plan_Ticks.calls k (wrap64 (Int.tmod a0 1000)) (wrap64 ((wrap64 (Int.tmod a1 7)) + 1)) t127 _ A7.out).mono ?_); rintro e w19 ⟨rfl, hb⟩; clear A7; refine ⟨_, rfl, ?_⟩; have n0_ := Aside0.mk (below_step (by repeat (first | (with_reducible first | exact HB.out | apply below_alloc | apply pw_below_drewN | apply below_drew1) | exact HB.out)) hb); clear HB; have HB := n0_; clear n0_; (try clear hb); (try clear hb2); (try clear hk); (try clear hi)) | (go_at_call 19; (with_reducible refine (plan_Ticks.calls k (wrap64 (Int.tmod a0 1000)) (wrap64 ((wrap64 (Int.tmod a1 7)) + 1)) t128 _ A9.out).mono ?_); rintro e w20 ⟨rfl, hb⟩; clear A9; have n0_ := Aside0.mk (below_step (by repeat (first | (with_reducible first | exact HB.out | apply below_alloc | apply pw_below_drewN | apply below_drew1) | exact HB.out)) hb); clear HB; have HB := n0_; clear n0_; (try clear hb); (try clear hb2); (try clear hk); (try clear hi)) | (go_at_call 19; (with_reducible refine (plan_Ticks.calls k (wrap64 ((wrap64 (Int.tmod a0 1000)) + 1)) (wrap64 ((wrap64 (Int.tmod a1 7)) + 1)) t129 _ A10.out).mono ?_); rintro e w21 ⟨rfl, hb⟩; clear A10; have n0_ := Aside0.mk (below_step (by repeat (first | (with_reducible first | exact HB.out | apply below_alloc | apply pw_below_drewN | apply below_drew1) | exact HB.out)) hb); clear HB; have HB := n0_; clear n0_; (try clear hb); (try clear hb2); (try clear hk); (try clear hi)) | (go_at_call 17; (with_reducible refine (plan_Next.calls (wrap64 (Int.tmod a2 9)) (wrap64 (Int.tmod a0 1000)) (wrap64 ((wrap64 (Int.tmod a1 7)) + 1)) t130 _ A12.out).mono ?_); rintro e w22 ⟨rfl, hb⟩; clear A12; have n0_ := Aside0.mk (below_step (by repeat (first | (with_reducible first | exact HB.out | apply below_alloc | apply pw_below_drewN | apply below_drew1) | exact HB.out)) hb); clear HB; have HB := n0_; clear n0_; (try clear hb); (try clear hb2); (try clear hk); (try clear hi)) | (go_at_call 17; (with_reducible refine (plan_Next.calls (wrap64 (Int.tmod a2 9)) (wrap64 ((wrap64 (Int.tmod a0 1000)) + 1)) (wrap64 ((wrap64 (Int.tmod a1 7)) + 1)) t131 _ A13.out).mono ?_); rintro e w23 ⟨rfl, hb⟩; clear A13; have n0_ := Aside0.mk (below_step (by repeat (first | (with_reducible first | exact HB.out | apply below_alloc | apply pw_below_drewN | apply below_drew1) | exact HB.out)) hb); clear HB; have HB := n0_; clear n0_; (try clear hb); (try clear hb2); (try clear hk); (try clear hi)) | (go_at_call 17; (with_reducible refine (plan_Next.calls (wrap64 (Int.tmod a2 9)) (wrap64 (Int.tmod a0 1000)) (wrap64 ((wrap64 (Int.tmod a1 7)) + 1)) t132 _ A15.out).mono ?_); rintro e w24 ⟨rfl, hb⟩; clear A15; have n0_ := Aside0.mk (below_step (by repeat (first | (with_reducible first | exact HB.out | apply below_alloc | apply pw_below_drewN | apply below_drew1) | exact HB.out)) hb); clear HB; have HB := n0_; clear n0_; (try clear hb); (try clear hb2); (try clear hk); (try clear hi)) | (go_at_call 17; (with_reducible refine (plan_Next.calls (wrap64 (Int.tmod a2 9)) (wrap64 (Int.tmod a0 1000)) (wrap64 ((wrap64 ((wrap64 (Int.tmod a1 7)) + 1)) + 1)) t133 _ A16.out).mono ?_); rintro e w25 ⟨rfl, hb⟩; clear A16; have n0_ := Aside0.mk (below_step (by repeat (first | (with_reducible first | exact HB.out | apply below_alloc | apply pw_below_drewN | apply below_drew1) | exact HB.out)) hb); clear HB; have HB := n0_; clear n0_; (try clear hb); (try clear hb2); (try clear hk); (try clear hi)))
          go_ret
          exact ⟨by first | rfl | (simp [errW_none, errW_some] <;> rfl) | (simp [*, errW_none, errW_some] <;> rfl), by repeat (first | (with_reducible first | exact HB.out | apply below_alloc | apply pw_below_drewN | apply below_drew1) | exact HB.out)⟩
        · rw [if_neg c14] at H
          have c14b0 : decide (t130 ≤ t131) = false := decide_eq_false c14
          clear c14
          exact absurd (Option.some.inj H) (by rw [HT.out]; decide)
      · rw [if_neg c11] at H
        have c11b0 : decide (t128 ≤ t129) = false := decide_eq_false c11
        clear c11
        exact absurd (Option.some.inj H) (by rw [HT.out]; decide)
    · rw [if_neg c8] at H
      have c8b0 : decide (t126 ≤ t127) = false := decide_eq_false c8
      clear c8
      exact absurd (Option.some.inj H) (by rw [HT.out]; decide)
  · replace c5 := Bool.eq_false_iff.mpr c5
    subst c5
    have H1 : (some false) = some r := by rw [if_neg (show ¬ (false = true) by decide)] at H; exact H
    clear H
    have H := H1
    clear H1
    exact absurd (Option.some.inj H) (by rw [HT.out]; decide)

/-- THE ONE PURE STATEMENT of paternosterlaw06_PlanFaster: yours. -/
def paternosterlaw06_PlanFaster.Pure : Prop := ∀ (a0 : Int) (a1 : Int) (a2 : Int), (Lit.int .u16 a0).wf = true → (Lit.int .u8 a1).wf = true → (Lit.int .u8 a2).wf = true → ∃ k, paternosterlaw06_PlanFaster.f k a0 a1 a2 = some true
theorem paternosterlaw06_PlanFaster.walk (P : paternosterlaw06_PlanFaster.Pure) (a0 : Int) (a1 : Int) (a2 : Int) (w : World) (w0 : (Lit.int .u16 a0).wf = true) (w1 : (Lit.int .u8 a1).wf = true) (w2 : (Lit.int .u8 a2).wf = true) :
    Calls Try.prog 5 #[.int .u16 a0, .int .u8 a1, .int .u8 a2] w fun e w' => e = .returned (.bool true) ∧ Below w.heap.size w w' := by
  obtain ⟨k, h⟩ := P a0 a1 a2 w0 w1 w2
  refine (paternosterlaw06_PlanFaster.calls k a0 a1 a2 true w rfl h).mono ?_
  rintro e w' ⟨rfl, hd⟩
  exact ⟨rfl, hd⟩

/-! ### paternosterlaw06_PlanBrakes: function 6 -/
def paternosterlaw06_PlanBrakes.j0 : Nat → Int → Int → Int → Bool → Option (Bool)
  | 0, _, _, _, _ => none
  | k + 1, x8, x9, x10, x33 => if x33 = true then (some true) else ((plan_Next.f x8 x9 x10).bind fun t136 => (if t136 ≥ (wrap64 (x8 - 1)) then (if t136 ≤ (wrap64 (x8 + 1)) then (if t136 ≤ x10 then (if t136 ≤ x9 then ((plan_Stop.f t136).bind fun t137 => (if t137 ≤ (wrap64 (x9 - t136)) then (if x9 = 0 then (some true) else (some (decide (t136 > 0)))) else (some false))) else (some false)) else (some false)) else (some false)) else (some false)))
def paternosterlaw06_PlanBrakes.f (k : Nat) (a0 : Int) (a1 : Int) (a2 : Int) : Option (Bool) := (paternosterlaw06_awake.f k).bind fun t134 => (if t134 = true then ((plan_Stop.f (wrap64 (Int.tmod a0 9))).bind fun t135 => (if t135 > (wrap64 (Int.tmod a1 1001)) then (paternosterlaw06_PlanBrakes.j0 k (wrap64 (Int.tmod a0 9)) (wrap64 (Int.tmod a1 1001)) (wrap64 ((wrap64 (Int.tmod a2 8)) + 1)) true) else (paternosterlaw06_PlanBrakes.j0 k (wrap64 (Int.tmod a0 9)) (wrap64 (Int.tmod a1 1001)) (wrap64 ((wrap64 (Int.tmod a2 8)) + 1)) (decide ((wrap64 (Int.tmod a0 9)) > (wrap64 ((wrap64 (Int.tmod a2 8)) + 1))))))) else (some false))
theorem paternosterlaw06_PlanBrakes.mono_l : ∀ k, (∀ y0 y1 y2 y3, LeO (paternosterlaw06_PlanBrakes.j0 k y0 y1 y2 y3) (paternosterlaw06_PlanBrakes.j0 (k + 1) y0 y1 y2 y3))
  | 0 => fun _ _ _ _ r h => by simp [paternosterlaw06_PlanBrakes.j0] at h
  | k + 1 => by
    have ih0 := paternosterlaw06_PlanBrakes.mono_l k
    · intro y0 y1 y2 y3
      unfold paternosterlaw06_PlanBrakes.j0
      repeat' first
      | (with_reducible exact ih0 _ _ _ _)
      | (with_reducible exact paternosterlaw06_awake.mono _)
      | (with_reducible exact LeO.refl _)
      | (with_reducible exact LeO.none _)
      | (with_reducible refine LeO.ite ?_ ?_)
      | (with_reducible refine LeO.bind ?_ (fun _ => ?_))
      | exact ih0 _ _ _ _
      | exact paternosterlaw06_awake.mono _
      | exact LeO.none _
      | refine LeO.ite ?_ ?_
      | refine LeO.bind ?_ (fun _ => ?_)
theorem paternosterlaw06_PlanBrakes.mono : ∀ a0 a1 a2 k, LeO (paternosterlaw06_PlanBrakes.f k a0 a1 a2) (paternosterlaw06_PlanBrakes.f (k + 1) a0 a1 a2) := by
  intro a0 a1 a2 k
  have ih0 := paternosterlaw06_PlanBrakes.mono_l k
  unfold paternosterlaw06_PlanBrakes.f
  repeat' first
      | (with_reducible exact ih0 _ _ _ _)
      | (with_reducible exact paternosterlaw06_awake.mono _)
      | (with_reducible exact LeO.refl _)
      | (with_reducible exact LeO.none _)
      | (with_reducible refine LeO.ite ?_ ?_)
      | (with_reducible refine LeO.bind ?_ (fun _ => ?_))
      | exact ih0 _ _ _ _
      | exact paternosterlaw06_awake.mono _
      | exact LeO.none _
      | refine LeO.ite ?_ ?_
      | refine LeO.bind ?_ (fun _ => ?_)
set_option maxHeartbeats 8000000 in
set_option maxRecDepth 100000 in
theorem paternosterlaw06_PlanBrakes.calls (k : Nat) (a0 : Int) (a1 : Int) (a2 : Int) (r : Bool) (w : World) (hT : r = true) (h : paternosterlaw06_PlanBrakes.f k a0 a1 a2 = some r) :
    Calls Try.prog 6 #[.int .u8 a0, .int .u16 a1, .int .u8 a2] w fun e w' => e = .returned (.bool r) ∧ Below w.heap.size w w' := by
  have HT := Aside0.mk hT
  clear hT
  have HB := Aside0.mk (Below.refl w.heap.size w)
  have H : ((paternosterlaw06_awake.f k).bind fun t134 => (if t134 = true then ((plan_Stop.f (wrap64 (Int.tmod a0 9))).bind fun t135 => (if t135 > (wrap64 (Int.tmod a1 1001)) then (paternosterlaw06_PlanBrakes.j0 k (wrap64 (Int.tmod a0 9)) (wrap64 (Int.tmod a1 1001)) (wrap64 ((wrap64 (Int.tmod a2 8)) + 1)) true) else (paternosterlaw06_PlanBrakes.j0 k (wrap64 (Int.tmod a0 9)) (wrap64 (Int.tmod a1 1001)) (wrap64 ((wrap64 (Int.tmod a2 8)) + 1)) (decide ((wrap64 (Int.tmod a0 9)) > (wrap64 ((wrap64 (Int.tmod a2 8)) + 1))))))) else (some false))) = some r := h
  clear h
  replace H := Option.bind_eq_some_iff.mp H
  obtain ⟨t134, A40, H⟩ := H
  replace H : (if t134 = true then ((plan_Stop.f (wrap64 (Int.tmod a0 9))).bind fun t135 => (if t135 > (wrap64 (Int.tmod a1 1001)) then (paternosterlaw06_PlanBrakes.j0 k (wrap64 (Int.tmod a0 9)) (wrap64 (Int.tmod a1 1001)) (wrap64 ((wrap64 (Int.tmod a2 8)) + 1)) true) else (paternosterlaw06_PlanBrakes.j0 k (wrap64 (Int.tmod a0 9)) (wrap64 (Int.tmod a1 1001)) (wrap64 ((wrap64 (Int.tmod a2 8)) + 1)) (decide ((wrap64 (Int.tmod a0 9)) > (wrap64 ((wrap64 (Int.tmod a2 8)) + 1))))))) else (some false)) = some r := H
  have A4 := Aside0.mk A40
  clear A40
  by_cases c5 : t134 = true
  · subst c5
    have H1 : ((plan_Stop.f (wrap64 (Int.tmod a0 9))).bind fun t135 => (if t135 > (wrap64 (Int.tmod a1 1001)) then (paternosterlaw06_PlanBrakes.j0 k (wrap64 (Int.tmod a0 9)) (wrap64 (Int.tmod a1 1001)) (wrap64 ((wrap64 (Int.tmod a2 8)) + 1)) true) else (paternosterlaw06_PlanBrakes.j0 k (wrap64 (Int.tmod a0 9)) (wrap64 (Int.tmod a1 1001)) (wrap64 ((wrap64 (Int.tmod a2 8)) + 1)) (decide ((wrap64 (Int.tmod a0 9)) > (wrap64 ((wrap64 (Int.tmod a2 8)) + 1))))))) = some r := by rw [if_pos rfl] at H; exact H
    clear H
    have H := H1
    clear H1
    have HC6 := Aside0.mk H
    clear H
    go_enter Try.func6, Try.ntmps6
    go_upto_region 7 with (first | ((with_reducible refine gate_callee (f := 14) rfl ?_); refine goesL_ (some 12) rfl rfl Try.func14 (by kernel_rfl) rfl #[] rfl (by (try simp only [List.map_toArray, List.map_cons, List.map_nil]); first | done | rfl | (simp only [List.length_drop, List.length_take]; rfl)) ?_; (with_reducible refine (paternosterlaw06_awake.calls k  true _ A4.out).mono ?_); rintro e w7 ⟨rfl, hb⟩; refine ⟨_, rfl, ?_⟩; have n0_ := Aside0.mk (below_step (by repeat (first | (with_reducible first | exact HB.out | apply below_alloc | apply pw_below_drewN | apply below_drew1) | exact HB.out)) hb); clear HB; have HB := n0_; clear n0_; (try clear hb); (try clear hb2); (try clear hk); (try clear hi)))
    (try simp only [Act.put, List.setIfInBounds_toArray, List.set_cons_zero, List.set_cons_succ])
    go_cut [33] (fun v33 wc => ∃ (kq : Nat) (x33_5 : Bool), v33 = .bool x33_5 ∧ Aside0 (paternosterlaw06_PlanBrakes.j0 kq (wrap64 (Int.tmod a0 9)) (wrap64 (Int.tmod a1 1001)) (wrap64 ((wrap64 (Int.tmod a2 8)) + 1)) x33_5 = some r) ∧ Aside0 (kq ≤ k) ∧ Aside0 (Below w.heap.size w wc))
    case first =>
      have H := HC6.out
      clear HC6
      replace H := Option.bind_eq_some_iff.mp H
      obtain ⟨t135, A80, H⟩ := H
      replace H : (if t135 > (wrap64 (Int.tmod a1 1001)) then (paternosterlaw06_PlanBrakes.j0 k (wrap64 (Int.tmod a0 9)) (wrap64 (Int.tmod a1 1001)) (wrap64 ((wrap64 (Int.tmod a2 8)) + 1)) true) else (paternosterlaw06_PlanBrakes.j0 k (wrap64 (Int.tmod a0 9)) (wrap64 (Int.tmod a1 1001)) (wrap64 ((wrap64 (Int.tmod a2 8)) + 1)) (decide ((wrap64 (Int.tmod a0 9)) > (wrap64 ((wrap64 (Int.tmod a2 8)) + 1)))))) = some r := H
      have A8 := Aside0.mk A80
      clear A80
      by_cases c9 : t135 > (wrap64 (Int.tmod a1 1001))
      · rw [if_pos c9] at H
        have c9b0 : decide ((wrap64 (Int.tmod a1 1001)) < t135) = true := decide_eq_true c9
        clear c9
        (first | rw [c9b0] | (simp only [i64_w, i32_w]; rw [c9b0]) | skip)
        have H' := Aside0.mk H
        clear H
        go_wp2_with (first | ((with_reducible refine gate_callee (f := 15) rfl ?_); refine goesL_ (some 26) rfl rfl Try.func15 (by kernel_rfl) rfl #[.int .i64 (wrap64 (Int.tmod a0 9))] rfl (by (try simp only [List.map_toArray, List.map_cons, List.map_nil]); first | done | rfl | (simp only [List.length_drop, List.length_take]; rfl)) ?_; (with_reducible refine (plan_Stop.calls (wrap64 (Int.tmod a0 9)) t135 _ A8.out).mono ?_); rintro e w10 ⟨rfl, hb⟩; refine ⟨_, rfl, ?_⟩; have n0_ := Aside0.mk (below_step (by repeat (first | (with_reducible first | exact HB.out | apply below_alloc | apply pw_below_drewN | apply below_drew1) | exact HB.out)) hb); clear HB; have HB := n0_; clear n0_; (try clear hb); (try clear hb2); (try clear hk); (try clear hi)))
        go_meet
        case rel => exact ⟨_, (true), (by first | rfl | (simp; done) | (simp [*]; done)), H', ⟨by first | omega | exact Nat.le_refl _⟩, ⟨by repeat (first | (with_reducible first | exact HB.out | apply below_alloc | apply pw_below_drewN | apply below_drew1) | exact HB.out)⟩⟩
      · rw [if_neg c9] at H
        have c9b0 : decide ((wrap64 (Int.tmod a1 1001)) < t135) = false := decide_eq_false c9
        clear c9
        (first | rw [c9b0] | (simp only [i64_w, i32_w]; rw [c9b0]) | skip)
        have H' := Aside0.mk H
        clear H
        go_wp2_with (first | ((with_reducible refine gate_callee (f := 15) rfl ?_); refine goesL_ (some 26) rfl rfl Try.func15 (by kernel_rfl) rfl #[.int .i64 (wrap64 (Int.tmod a0 9))] rfl (by (try simp only [List.map_toArray, List.map_cons, List.map_nil]); first | done | rfl | (simp only [List.length_drop, List.length_take]; rfl)) ?_; (with_reducible refine (plan_Stop.calls (wrap64 (Int.tmod a0 9)) t135 _ A8.out).mono ?_); rintro e w11 ⟨rfl, hb⟩; refine ⟨_, rfl, ?_⟩; have n0_ := Aside0.mk (below_step (by repeat (first | (with_reducible first | exact HB.out | apply below_alloc | apply pw_below_drewN | apply below_drew1) | exact HB.out)) hb); clear HB; have HB := n0_; clear n0_; (try clear hb); (try clear hb2); (try clear hk); (try clear hi)))
        go_meet
        case rel => exact ⟨_, (decide ((wrap64 (Int.tmod a0 9)) > (wrap64 ((wrap64 (Int.tmod a2 8)) + 1)))), (by first | rfl | (simp; done) | (simp [*]; done)), H', ⟨by first | omega | exact Nat.le_refl _⟩, ⟨by repeat (first | (with_reducible first | exact HB.out | apply below_alloc | apply pw_below_drewN | apply below_drew1) | exact HB.out)⟩⟩
    case rest =>
      clear HC6
      try clear c1
      try clear p2
      try clear c5
      try clear c6
      try clear p6
      try clear c9
      try clear c9b0
      obtain ⟨kq, x33_5, rfl, HA, HJ5, HB⟩ := hcut
      cases kq with
      | zero => exact absurd HA.out (by simp [paternosterlaw06_PlanBrakes.j0])
      | succ kj5 =>
        have H := HA.out
        clear HA
        simp only [paternosterlaw06_PlanBrakes.j0] at H
        by_cases c12 : x33_5 = true
        · subst c12
          have H1 : (some true) = some r := by rw [if_pos rfl] at H; exact H
          clear H
          have H := H1
          clear H1
          obtain rfl := Option.some.inj H
          go_wp2
          go_ret
          exact ⟨by first | rfl | (simp [errW_none, errW_some] <;> rfl) | (simp [*, errW_none, errW_some] <;> rfl), by repeat (first | (with_reducible first | exact HB.out | apply below_alloc | apply pw_below_drewN | apply below_drew1) | exact HB.out)⟩
        · replace c12 := Bool.eq_false_iff.mpr c12
          subst c12
          have H1 : ((plan_Next.f (wrap64 (Int.tmod a0 9)) (wrap64 (Int.tmod a1 1001)) (wrap64 ((wrap64 (Int.tmod a2 8)) + 1))).bind fun t136 => (if t136 ≥ (wrap64 ((wrap64 (Int.tmod a0 9)) - 1)) then (if t136 ≤ (wrap64 ((wrap64 (Int.tmod a0 9)) + 1)) then (if t136 ≤ (wrap64 ((wrap64 (Int.tmod a2 8)) + 1)) then (if t136 ≤ (wrap64 (Int.tmod a1 1001)) then ((plan_Stop.f t136).bind fun t137 => (if t137 ≤ (wrap64 ((wrap64 (Int.tmod a1 1001)) - t136)) then (if (wrap64 (Int.tmod a1 1001)) = 0 then (some true) else (some (decide (t136 > 0)))) else (some false))) else (some false)) else (some false)) else (some false)) else (some false))) = some r := by rw [if_neg (show ¬ (false = true) by decide)] at H; exact H
          clear H
          have H := H1
          clear H1
          replace H := Option.bind_eq_some_iff.mp H
          obtain ⟨t136, A130, H⟩ := H
          replace H : (if t136 ≥ (wrap64 ((wrap64 (Int.tmod a0 9)) - 1)) then (if t136 ≤ (wrap64 ((wrap64 (Int.tmod a0 9)) + 1)) then (if t136 ≤ (wrap64 ((wrap64 (Int.tmod a2 8)) + 1)) then (if t136 ≤ (wrap64 (Int.tmod a1 1001)) then ((plan_Stop.f t136).bind fun t137 => (if t137 ≤ (wrap64 ((wrap64 (Int.tmod a1 1001)) - t136)) then (if (wrap64 (Int.tmod a1 1001)) = 0 then (some true) else (some (decide (t136 > 0)))) else (some false))) else (some false)) else (some false)) else (some false)) else (some false)) = some r := H
          have A13 := Aside0.mk A130
          clear A130
          by_cases c14 : t136 ≥ (wrap64 ((wrap64 (Int.tmod a0 9)) - 1))
          · rw [if_pos c14] at H
            have c14b0 : decide ((wrap64 ((wrap64 (Int.tmod a0 9)) - 1)) ≤ t136) = true := decide_eq_true c14
            clear c14
            by_cases c15 : t136 ≤ (wrap64 ((wrap64 (Int.tmod a0 9)) + 1))
            · rw [if_pos c15] at H
              have c15b0 : decide (t136 ≤ (wrap64 ((wrap64 (Int.tmod a0 9)) + 1))) = true := decide_eq_true c15
              clear c15
              by_cases c16 : t136 ≤ (wrap64 ((wrap64 (Int.tmod a2 8)) + 1))
              · rw [if_pos c16] at H
                have c16b0 : decide (t136 ≤ (wrap64 ((wrap64 (Int.tmod a2 8)) + 1))) = true := decide_eq_true c16
                clear c16
                by_cases c17 : t136 ≤ (wrap64 (Int.tmod a1 1001))
                · rw [if_pos c17] at H
                  have c17b0 : decide (t136 ≤ (wrap64 (Int.tmod a1 1001))) = true := decide_eq_true c17
                  clear c17
                  replace H := Option.bind_eq_some_iff.mp H
                  obtain ⟨t137, A180, H⟩ := H
                  replace H : (if t137 ≤ (wrap64 ((wrap64 (Int.tmod a1 1001)) - t136)) then (if (wrap64 (Int.tmod a1 1001)) = 0 then (some true) else (some (decide (t136 > 0)))) else (some false)) = some r := H
                  have A18 := Aside0.mk A180
                  clear A180
                  by_cases c19 : t137 ≤ (wrap64 ((wrap64 (Int.tmod a1 1001)) - t136))
                  · rw [if_pos c19] at H
                    have c19b0 : decide (t137 ≤ (wrap64 ((wrap64 (Int.tmod a1 1001)) - t136))) = true := decide_eq_true c19
                    clear c19
                    by_cases c20 : (wrap64 (Int.tmod a1 1001)) = 0
                    · rw [if_pos c20] at H
                      have c20b0 : ((wrap64 (Int.tmod a1 1001)) == 0) = true := beq_iff_eq.mpr c20
                      have c20b1 : ((wrap64 (Int.tmod a1 1001)) != 0) = false := bne_eq_false_iff_eq.mpr c20
                      clear c20
                      obtain rfl := Option.some.inj H
                      go_wp2_with (first | ((with_reducible refine gate_callee (f := 17) rfl ?_); refine goesL_ (some 37) rfl rfl Try.func17 (by kernel_rfl) rfl #[.int .i64 (wrap64 (Int.tmod a0 9)), .int .i64 (wrap64 (Int.tmod a1 1001)), .int .i64 (wrap64 ((wrap64 (Int.tmod a2 8)) + 1))] rfl (by (try simp only [List.map_toArray, List.map_cons, List.map_nil]); first | done | rfl | (simp only [List.length_drop, List.length_take]; rfl)) ?_; (with_reducible refine (plan_Next.calls (wrap64 (Int.tmod a0 9)) (wrap64 (Int.tmod a1 1001)) (wrap64 ((wrap64 (Int.tmod a2 8)) + 1)) t136 _ A13.out).mono ?_); rintro e w21 ⟨rfl, hb⟩; refine ⟨_, rfl, ?_⟩; have n0_ := Aside0.mk (below_step (by repeat (first | (with_reducible first | exact HB.out | apply below_alloc | apply pw_below_drewN | apply below_drew1) | exact HB.out)) hb); clear HB; have HB := n0_; clear n0_; (try clear hb); (try clear hb2); (try clear hk); (try clear hi)) | (go_at_call 15; (with_reducible refine (plan_Stop.calls t136 t137 _ A18.out).mono ?_); rintro e w22 ⟨rfl, hb⟩; have n0_ := Aside0.mk (below_step (by repeat (first | (with_reducible first | exact HB.out | apply below_alloc | apply pw_below_drewN | apply below_drew1) | exact HB.out)) hb); clear HB; have HB := n0_; clear n0_; (try clear hb); (try clear hb2); (try clear hk); (try clear hi)))
                      go_ret
                      exact ⟨by first | rfl | (simp [errW_none, errW_some] <;> rfl) | (simp [*, errW_none, errW_some] <;> rfl), by repeat (first | (with_reducible first | exact HB.out | apply below_alloc | apply pw_below_drewN | apply below_drew1) | exact HB.out)⟩
                    · rw [if_neg c20] at H
                      have c20b0 : ((wrap64 (Int.tmod a1 1001)) == 0) = false := beq_eq_false_iff_ne.mpr c20
                      have c20b1 : ((wrap64 (Int.tmod a1 1001)) != 0) = true := bne_iff_ne.mpr c20
                      obtain rfl := Option.some.inj H
                      go_wp2_with (first | ((with_reducible refine gate_callee (f := 17) rfl ?_); refine goesL_ (some 37) rfl rfl Try.func17 (by kernel_rfl) rfl #[.int .i64 (wrap64 (Int.tmod a0 9)), .int .i64 (wrap64 (Int.tmod a1 1001)), .int .i64 (wrap64 ((wrap64 (Int.tmod a2 8)) + 1))] rfl (by (try simp only [List.map_toArray, List.map_cons, List.map_nil]); first | done | rfl | (simp only [List.length_drop, List.length_take]; rfl)) ?_; (with_reducible refine (plan_Next.calls (wrap64 (Int.tmod a0 9)) (wrap64 (Int.tmod a1 1001)) (wrap64 ((wrap64 (Int.tmod a2 8)) + 1)) t136 _ A13.out).mono ?_); rintro e w23 ⟨rfl, hb⟩; refine ⟨_, rfl, ?_⟩; have n0_ := Aside0.mk (below_step (by repeat (first | (with_reducible first | exact HB.out | apply below_alloc | apply pw_below_drewN | apply below_drew1) | exact HB.out)) hb); clear HB; have HB := n0_; clear n0_; (try clear hb); (try clear hb2); (try clear hk); (try clear hi)) | (go_at_call 15; (with_reducible refine (plan_Stop.calls t136 t137 _ A18.out).mono ?_); rintro e w24 ⟨rfl, hb⟩; have n0_ := Aside0.mk (below_step (by repeat (first | (with_reducible first | exact HB.out | apply below_alloc | apply pw_below_drewN | apply below_drew1) | exact HB.out)) hb); clear HB; have HB := n0_; clear n0_; (try clear hb); (try clear hb2); (try clear hk); (try clear hi)))
                      go_ret
                      exact ⟨by first | rfl | (simp [errW_none, errW_some] <;> rfl) | (simp [*, errW_none, errW_some] <;> rfl), by repeat (first | (with_reducible first | exact HB.out | apply below_alloc | apply pw_below_drewN | apply below_drew1) | exact HB.out)⟩
                  · rw [if_neg c19] at H
                    have c19b0 : decide (t137 ≤ (wrap64 ((wrap64 (Int.tmod a1 1001)) - t136))) = false := decide_eq_false c19
                    clear c19
                    exact absurd (Option.some.inj H) (by rw [HT.out]; decide)
                · rw [if_neg c17] at H
                  have c17b0 : decide (t136 ≤ (wrap64 (Int.tmod a1 1001))) = false := decide_eq_false c17
                  clear c17
                  exact absurd (Option.some.inj H) (by rw [HT.out]; decide)
              · rw [if_neg c16] at H
                have c16b0 : decide (t136 ≤ (wrap64 ((wrap64 (Int.tmod a2 8)) + 1))) = false := decide_eq_false c16
                clear c16
                exact absurd (Option.some.inj H) (by rw [HT.out]; decide)
            · rw [if_neg c15] at H
              have c15b0 : decide (t136 ≤ (wrap64 ((wrap64 (Int.tmod a0 9)) + 1))) = false := decide_eq_false c15
              clear c15
              exact absurd (Option.some.inj H) (by rw [HT.out]; decide)
          · rw [if_neg c14] at H
            have c14b0 : decide ((wrap64 ((wrap64 (Int.tmod a0 9)) - 1)) ≤ t136) = false := decide_eq_false c14
            clear c14
            exact absurd (Option.some.inj H) (by rw [HT.out]; decide)
  · replace c5 := Bool.eq_false_iff.mpr c5
    subst c5
    have H1 : (some false) = some r := by rw [if_neg (show ¬ (false = true) by decide)] at H; exact H
    clear H
    have H := H1
    clear H1
    exact absurd (Option.some.inj H) (by rw [HT.out]; decide)

/-- THE ONE PURE STATEMENT of paternosterlaw06_PlanBrakes: yours. -/
def paternosterlaw06_PlanBrakes.Pure : Prop := ∀ (a0 : Int) (a1 : Int) (a2 : Int), (Lit.int .u8 a0).wf = true → (Lit.int .u16 a1).wf = true → (Lit.int .u8 a2).wf = true → ∃ k, paternosterlaw06_PlanBrakes.f k a0 a1 a2 = some true
theorem paternosterlaw06_PlanBrakes.walk (P : paternosterlaw06_PlanBrakes.Pure) (a0 : Int) (a1 : Int) (a2 : Int) (w : World) (w0 : (Lit.int .u8 a0).wf = true) (w1 : (Lit.int .u16 a1).wf = true) (w2 : (Lit.int .u8 a2).wf = true) :
    Calls Try.prog 6 #[.int .u8 a0, .int .u16 a1, .int .u8 a2] w fun e w' => e = .returned (.bool true) ∧ Below w.heap.size w w' := by
  obtain ⟨k, h⟩ := P a0 a1 a2 w0 w1 w2
  refine (paternosterlaw06_PlanBrakes.calls k a0 a1 a2 true w rfl h).mono ?_
  rintro e w' ⟨rfl, hd⟩
  exact ⟨rfl, hd⟩

end Go.Proofs.Ytmhgfghbbophlaa.Q
