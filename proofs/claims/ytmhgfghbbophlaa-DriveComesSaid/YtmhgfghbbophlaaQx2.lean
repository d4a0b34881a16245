-- Written by a program of this session (turned from the kit's print.py) out of the translation. Not trusted: Lean checks it.
import Derived.Test.YtmhgfghbbophlaaQx0
import Derived.Test.YtmhgfghbbophlaaQx1
namespace Go.Proofs.Ytmhgfghbbophlaa.Q
open Go.RowKit Go.Proofs.YtmhgfghbbophlaaW.PrintWords Go.Proofs.YtmhgfghbbophlaaW.PrintLast Go.Proofs.YtmhgfghbbophlaaW.PrintMore
attribute [local go_sem] max2_int min2_int max_two min_two max_three min_three max_four min_four   -- for this text's walks alone
set_option linter.unusedVariables false
set_option linter.unusedSimpArgs false

attribute [local go_sem] fld32_0 fld32_1 fld32_2 fld37_0 fld37_1 fld37_2
/-! ### paternosterref06_Next: function 18 -/
def paternosterref06_Next.l0 : Nat → Int → Int → Int → Int → Int → Option (Int)
  | 0, _, _, _, _, _ => none
  | k + 1, x0, x1, x2, x7, x8 => if x8 ≤ x2 then (if x8 ≤ (wrap64 (x0 + 1)) then (if x8 ≥ (wrap64 (x0 - 1)) then ((paternosterref06_Stop.f k x8).bind fun t111 => (if (wrap64 (x8 + t111)) ≤ x1 then (paternosterref06_Next.l0 k x0 x1 x2 x8 (wrap64 (x8 + 1))) else (paternosterref06_Next.l0 k x0 x1 x2 x7 (wrap64 (x8 + 1))))) else (paternosterref06_Next.l0 k x0 x1 x2 x7 (wrap64 (x8 + 1)))) else (paternosterref06_Next.l0 k x0 x1 x2 x7 (wrap64 (x8 + 1)))) else (some x7)
def paternosterref06_Next.f (k : Nat) (a0 : Int) (a1 : Int) (a2 : Int) : Option (Int) := (paternosterref06_within.f a0 0 8).bind fun t108 => ((paternosterref06_within.f a1 0 1000).bind fun t109 => ((paternosterref06_within.f a2 1 8).bind fun t110 => (paternosterref06_Next.l0 k t108 t109 t110 0 0)))
theorem paternosterref06_Next.mono_l : ∀ k, (∀ y0 y1 y2 y3 y4, LeO (paternosterref06_Next.l0 k y0 y1 y2 y3 y4) (paternosterref06_Next.l0 (k + 1) y0 y1 y2 y3 y4))
  | 0 => fun _ _ _ _ _ r h => by simp [paternosterref06_Next.l0] at h
  | k + 1 => by
    have ih0 := paternosterref06_Next.mono_l k
    · intro y0 y1 y2 y3 y4
      unfold paternosterref06_Next.l0
      repeat' first
      | (with_reducible exact ih0 _ _ _ _ _)
      | (with_reducible exact paternosterref06_Stop.mono _ _)
      | (with_reducible exact LeO.refl _)
      | (with_reducible exact LeO.none _)
      | (with_reducible refine LeO.ite ?_ ?_)
      | (with_reducible refine LeO.bind ?_ (fun _ => ?_))
      | exact ih0 _ _ _ _ _
      | exact paternosterref06_Stop.mono _ _
      | exact LeO.none _
      | refine LeO.ite ?_ ?_
      | refine LeO.bind ?_ (fun _ => ?_)
theorem paternosterref06_Next.mono : ∀ a0 a1 a2 k, LeO (paternosterref06_Next.f k a0 a1 a2) (paternosterref06_Next.f (k + 1) a0 a1 a2) := by
  intro a0 a1 a2 k
  have ih0 := paternosterref06_Next.mono_l k
  unfold paternosterref06_Next.f
  repeat' first
      | (with_reducible exact ih0 _ _ _ _ _)
      | (with_reducible exact paternosterref06_Stop.mono _ _)
      | (with_reducible exact LeO.refl _)
      | (with_reducible exact LeO.none _)
      | (with_reducible refine LeO.ite ?_ ?_)
      | (with_reducible refine LeO.bind ?_ (fun _ => ?_))
      | exact ih0 _ _ _ _ _
      | exact paternosterref06_Stop.mono _ _
      | exact LeO.none _
      | refine LeO.ite ?_ ?_
      | refine LeO.bind ?_ (fun _ => ?_)
set_option maxHeartbeats 8000000 in
set_option maxRecDepth 100000 in
theorem paternosterref06_Next.calls (k : Nat) (a0 : Int) (a1 : Int) (a2 : Int) (r : Int) (w : World) (h : paternosterref06_Next.f k a0 a1 a2 = some r) :
    Calls Try.prog 18 #[.int .i64 a0, .int .i64 a1, .int .i64 a2] w fun e w' => e = .returned (.int .i64 r) ∧ Drawn0 w w' := by
  have H : ((paternosterref06_within.f a0 0 8).bind fun t108 => ((paternosterref06_within.f a1 0 1000).bind fun t109 => ((paternosterref06_within.f a2 1 8).bind fun t110 => (paternosterref06_Next.l0 k t108 t109 t110 0 0)))) = some r := h
  clear h
  replace H := Option.bind_eq_some_iff.mp H
  obtain ⟨t108, A40, H⟩ := H
  replace H : ((paternosterref06_within.f a1 0 1000).bind fun t109 => ((paternosterref06_within.f a2 1 8).bind fun t110 => (paternosterref06_Next.l0 k t108 t109 t110 0 0))) = some r := H
  have A4 := Aside0.mk A40
  clear A40
  replace H := Option.bind_eq_some_iff.mp H
  obtain ⟨t109, A50, H⟩ := H
  replace H : ((paternosterref06_within.f a2 1 8).bind fun t110 => (paternosterref06_Next.l0 k t108 t109 t110 0 0)) = some r := H
  have A5 := Aside0.mk A50
  clear A50
  replace H := Option.bind_eq_some_iff.mp H
  obtain ⟨t110, A60, H⟩ := H
  replace H : (paternosterref06_Next.l0 k t108 t109 t110 0 0) = some r := H
  have A6 := Aside0.mk A60
  clear A60
  have H' := Aside0.mk H
  clear H
  go_enter Try.func18, Try.ntmps18
  go_wp2_with (first | ((with_reducible refine gate_callee (f := 33) rfl ?_); refine goesL_ (some 10) rfl rfl Try.func33 (by kernel_rfl) rfl #[.int .i64 a0, .int .i64 0, .int .i64 8] rfl (by (try simp only [List.map_toArray, List.map_cons, List.map_nil]); first | done | rfl | (simp only [List.length_drop, List.length_take]; rfl)) ?_; (with_reducible refine (paternosterref06_within.calls a0 0 8 t108 _ A4.out).mono ?_); rintro e w' ⟨rfl, ⟨nd, rfl⟩⟩; refine ⟨_, rfl, ?_⟩) | ((with_reducible refine gate_callee (f := 33) rfl ?_); refine goesL_ (some 12) rfl rfl Try.func33 (by kernel_rfl) rfl #[.int .i64 a1, .int .i64 0, .int .i64 1000] rfl (by (try simp only [List.map_toArray, List.map_cons, List.map_nil]); first | done | rfl | (simp only [List.length_drop, List.length_take]; rfl)) ?_; (with_reducible refine (paternosterref06_within.calls a1 0 1000 t109 _ A5.out).mono ?_); rintro e w' ⟨rfl, ⟨nd, rfl⟩⟩; refine ⟨_, rfl, ?_⟩) | ((with_reducible refine gate_callee (f := 33) rfl ?_); refine goesL_ (some 14) rfl rfl Try.func33 (by kernel_rfl) rfl #[.int .i64 a2, .int .i64 1, .int .i64 8] rfl (by (try simp only [List.map_toArray, List.map_cons, List.map_nil]); first | done | rfl | (simp only [List.length_drop, List.length_take]; rfl)) ?_; (with_reducible refine (paternosterref06_within.calls a2 1 8 t110 _ A6.out).mono ?_); rintro e w' ⟨rfl, ⟨nd, rfl⟩⟩; refine ⟨_, rfl, ?_⟩))
  go_loopg [7, 8] k (fun kq v7 v8 w' => ∃ (x7_1 : Int) (x8_1 : Int), v7 = .int .i64 x7_1 ∧ v8 = .int .i64 x8_1 ∧ Aside0 (paternosterref06_Next.l0 kq t108 t109 t110 x7_1 x8_1 = some r) ∧ Aside0 (kq ≤ k) ∧ Drawn0 w w')
  case atStart => exact ⟨(0), (0), (by first | rfl | (simp; done) | (simp [*]; done)), (by first | rfl | (simp; done) | (simp [*]; done)), H', ⟨Nat.le_refl _⟩, by repeat (first | exact Drawn0.refl _ | apply Drawn0.step)⟩
  case round =>
    clear H'
    try clear c1
    try clear p2
    try clear c3
    obtain ⟨x7_1, x8_1, rfl, rfl, HA, HK1, ⟨m1, rfl⟩⟩ := hrel
    cases gk with
    | zero => exact absurd HA.out (by simp [paternosterref06_Next.l0])
    | succ k1 =>
      have H := HA.out
      clear HA
      simp only [paternosterref06_Next.l0] at H
      by_cases c7 : x8_1 ≤ t110
      · rw [if_pos c7] at H
        have c7b0 : decide (x8_1 ≤ t110) = true := decide_eq_true c7
        clear c7
        by_cases c8 : x8_1 ≤ (wrap64 (t108 + 1))
        · rw [if_pos c8] at H
          have c8b0 : decide (x8_1 ≤ (wrap64 (t108 + 1))) = true := decide_eq_true c8
          clear c8
          by_cases c9 : x8_1 ≥ (wrap64 (t108 - 1))
          · rw [if_pos c9] at H
            have c9b0 : decide ((wrap64 (t108 - 1)) ≤ x8_1) = true := decide_eq_true c9
            clear c9
            replace H := Option.bind_eq_some_iff.mp H
            obtain ⟨t111, A100, H⟩ := H
            replace H : (if (wrap64 (x8_1 + t111)) ≤ t109 then (paternosterref06_Next.l0 k1 t108 t109 t110 x8_1 (wrap64 (x8_1 + 1))) else (paternosterref06_Next.l0 k1 t108 t109 t110 x7_1 (wrap64 (x8_1 + 1)))) = some r := H
            have A10 := Aside0.mk A100
            clear A100
            by_cases c11 : (wrap64 (x8_1 + t111)) ≤ t109
            · rw [if_pos c11] at H
              have c11b0 : decide ((wrap64 (x8_1 + t111)) ≤ t109) = true := decide_eq_true c11
              clear c11
              have H' := Aside0.mk H
              clear H
              go_wp2_with (first | (go_at_call 16; (with_reducible refine (paternosterref06_Stop.calls k1 x8_1 t111 _ A10.out).mono ?_); rintro e w' ⟨rfl, ⟨nd, rfl⟩⟩))
              go_roundg k1
              case measure => have := HK1.out; omega
              case rel => exact ⟨(x8_1), (wrap64 (x8_1 + 1)), (by first | rfl | (simp; done) | (simp [*]; done)), (by first | rfl | (simp; done) | (simp [*]; done)), H', ⟨by have := HK1.out; omega⟩, by repeat (first | exact Drawn0.refl _ | apply Drawn0.step)⟩
            · rw [if_neg c11] at H
              have c11b0 : decide ((wrap64 (x8_1 + t111)) ≤ t109) = false := decide_eq_false c11
              clear c11
              have H' := Aside0.mk H
              clear H
              go_wp2_with (first | (go_at_call 16; (with_reducible refine (paternosterref06_Stop.calls k1 x8_1 t111 _ A10.out).mono ?_); rintro e w' ⟨rfl, ⟨nd, rfl⟩⟩))
              go_roundg k1
              case measure => have := HK1.out; omega
              case rel => exact ⟨(x7_1), (wrap64 (x8_1 + 1)), (by first | rfl | (simp; done) | (simp [*]; done)), (by first | rfl | (simp; done) | (simp [*]; done)), H', ⟨by have := HK1.out; omega⟩, by repeat (first | exact Drawn0.refl _ | apply Drawn0.step)⟩
          · rw [if_neg c9] at H
            have c9b0 : decide ((wrap64 (t108 - 1)) ≤ x8_1) = false := decide_eq_false c9
            clear c9
            have H' := Aside0.mk H
            clear H
            go_wp2
            go_roundg k1
            case measure => have := HK1.out; omega
            case rel => exact ⟨(x7_1), (wrap64 (x8_1 + 1)), (by first | rfl | (simp; done) | (simp [*]; done)), (by first | rfl | (simp; done) | (simp [*]; done)), H', ⟨by have := HK1.out; omega⟩, by repeat (first | exact Drawn0.refl _ | apply Drawn0.step)⟩
        · rw [if_neg c8] at H
          have c8b0 : decide (x8_1 ≤ (wrap64 (t108 + 1))) = false := decide_eq_false c8
          clear c8
          have H' := Aside0.mk H
          clear H
          go_wp2
          go_roundg k1
          case measure => have := HK1.out; omega
          case rel => exact ⟨(x7_1), (wrap64 (x8_1 + 1)), (by first | rfl | (simp; done) | (simp [*]; done)), (by first | rfl | (simp; done) | (simp [*]; done)), H', ⟨by have := HK1.out; omega⟩, by repeat (first | exact Drawn0.refl _ | apply Drawn0.step)⟩
      · rw [if_neg c7] at H
        have c7b0 : decide (x8_1 ≤ t110) = false := decide_eq_false c7
        clear c7
        obtain rfl := Option.some.inj H
        go_wp2
        go_ret
        exact ⟨by first | rfl | (simp; done) | (simp [*]; done), by repeat (first | exact Drawn0.refl _ | apply Drawn0.step)⟩

/-! ### paternosterref06_Ticks: function 20 -/
def paternosterref06_Ticks.l0 : Nat → Int → Int → Int → Int → Option (Int)
  | 0, _, _, _, _ => none
  | k + 1, x0, x1, x5, x6 => if x5 < 2000 then (if x0 > 0 then ((paternosterref06_Next.f k x6 x0 x1).bind fun t113 => (paternosterref06_Ticks.l0 k (wrap64 (x0 - t113)) x1 (wrap64 (x5 + 1)) t113)) else (some x5)) else (some x5)
def paternosterref06_Ticks.f (k : Nat) (a0 : Int) (a1 : Int) : Option (Int) := (paternosterref06_within.f a0 0 1000).bind fun t112 => (paternosterref06_Ticks.l0 k t112 a1 0 0)
theorem paternosterref06_Ticks.mono_l : ∀ k, (∀ y0 y1 y2 y3, LeO (paternosterref06_Ticks.l0 k y0 y1 y2 y3) (paternosterref06_Ticks.l0 (k + 1) y0 y1 y2 y3))
  | 0 => fun _ _ _ _ r h => by simp [paternosterref06_Ticks.l0] at h
  | k + 1 => by
    have ih0 := paternosterref06_Ticks.mono_l k
    · intro y0 y1 y2 y3
      unfold paternosterref06_Ticks.l0
      repeat' first
      | (with_reducible exact ih0 _ _ _ _)
      | (with_reducible exact paternosterref06_Next.mono _ _ _ _)
      | (with_reducible exact LeO.refl _)
      | (with_reducible exact LeO.none _)
      | (with_reducible refine LeO.ite ?_ ?_)
      | (with_reducible refine LeO.bind ?_ (fun _ => ?_))
      | exact ih0 _ _ _ _
      | exact paternosterref06_Next.mono _ _ _ _
      | exact LeO.none _
      | refine LeO.ite ?_ ?_
      | refine LeO.bind ?_ (fun _ => ?_)
theorem paternosterref06_Ticks.mono : ∀ a0 a1 k, LeO (paternosterref06_Ticks.f k a0 a1) (paternosterref06_Ticks.f (k + 1) a0 a1) := by
  intro a0 a1 k
  have ih0 := paternosterref06_Ticks.mono_l k
  unfold paternosterref06_Ticks.f
  repeat' first
      | (with_reducible exact ih0 _ _ _ _)
      | (with_reducible exact paternosterref06_Next.mono _ _ _ _)
      | (with_reducible exact LeO.refl _)
      | (with_reducible exact LeO.none _)
      | (with_reducible refine LeO.ite ?_ ?_)
      | (with_reducible refine LeO.bind ?_ (fun _ => ?_))
      | exact ih0 _ _ _ _
      | exact paternosterref06_Next.mono _ _ _ _
      | exact LeO.none _
      | refine LeO.ite ?_ ?_
      | refine LeO.bind ?_ (fun _ => ?_)
set_option maxHeartbeats 8000000 in
set_option maxRecDepth 100000 in
theorem paternosterref06_Ticks.calls (k : Nat) (a0 : Int) (a1 : Int) (r : Int) (w : World) (h : paternosterref06_Ticks.f k a0 a1 = some r) :
    Calls Try.prog 20 #[.int .i64 a0, .int .i64 a1] w fun e w' => e = .returned (.int .i64 r) ∧ Drawn0 w w' := by
  have H : ((paternosterref06_within.f a0 0 1000).bind fun t112 => (paternosterref06_Ticks.l0 k t112 a1 0 0)) = some r := h
  clear h
  replace H := Option.bind_eq_some_iff.mp H
  obtain ⟨t112, A30, H⟩ := H
  replace H : (paternosterref06_Ticks.l0 k t112 a1 0 0) = some r := H
  have A3 := Aside0.mk A30
  clear A30
  have H' := Aside0.mk H
  clear H
  go_enter Try.func20, Try.ntmps20
  go_wp2_with (first | ((with_reducible refine gate_callee (f := 33) rfl ?_); refine goesL_ (some 8) rfl rfl Try.func33 (by kernel_rfl) rfl #[.int .i64 a0, .int .i64 0, .int .i64 1000] rfl (by (try simp only [List.map_toArray, List.map_cons, List.map_nil]); first | done | rfl | (simp only [List.length_drop, List.length_take]; rfl)) ?_; (with_reducible refine (paternosterref06_within.calls a0 0 1000 t112 _ A3.out).mono ?_); rintro e w' ⟨rfl, ⟨nd, rfl⟩⟩; refine ⟨_, rfl, ?_⟩))
  go_loopg [0, 5, 6] k (fun kq v0 v5 v6 w' => ∃ (x0_1 : Int) (x5_1 : Int) (x6_1 : Int), v0 = .int .i64 x0_1 ∧ v5 = .int .i64 x5_1 ∧ v6 = .int .i64 x6_1 ∧ Aside0 (paternosterref06_Ticks.l0 kq x0_1 a1 x5_1 x6_1 = some r) ∧ Aside0 (kq ≤ k) ∧ Drawn0 w w')
  case atStart => exact ⟨(t112), (0), (0), (by first | rfl | (simp; done) | (simp [*]; done)), (by first | rfl | (simp; done) | (simp [*]; done)), (by first | rfl | (simp; done) | (simp [*]; done)), H', ⟨Nat.le_refl _⟩, by repeat (first | exact Drawn0.refl _ | apply Drawn0.step)⟩
  case round =>
    clear H'
    try clear c2
    try clear p2
    try clear c3
    obtain ⟨x0_1, x5_1, x6_1, rfl, rfl, rfl, HA, HK1, ⟨m1, rfl⟩⟩ := hrel
    cases gk with
    | zero => exact absurd HA.out (by simp [paternosterref06_Ticks.l0])
    | succ k1 =>
      have H := HA.out
      clear HA
      simp only [paternosterref06_Ticks.l0] at H
      by_cases c4 : x5_1 < 2000
      · rw [if_pos c4] at H
        have c4b0 : decide (x5_1 < 2000) = true := decide_eq_true c4
        clear c4
        by_cases c5 : x0_1 > 0
        · rw [if_pos c5] at H
          have c5b0 : decide (0 < x0_1) = true := decide_eq_true c5
          clear c5
          replace H := Option.bind_eq_some_iff.mp H
          obtain ⟨t113, A60, H⟩ := H
          replace H : (paternosterref06_Ticks.l0 k1 (wrap64 (x0_1 - t113)) a1 (wrap64 (x5_1 + 1)) t113) = some r := H
          have A6 := Aside0.mk A60
          clear A60
          have H' := Aside0.mk H
          clear H
          go_wp2_with (first | ((with_reducible refine gate_callee (f := 18) rfl ?_); refine goesL_ (some 18) rfl rfl Try.func18 (by kernel_rfl) rfl #[.int .i64 x6_1, .int .i64 x0_1, .int .i64 a1] rfl (by (try simp only [List.map_toArray, List.map_cons, List.map_nil]); first | done | rfl | (simp only [List.length_drop, List.length_take]; rfl)) ?_; (with_reducible refine (paternosterref06_Next.calls k1 x6_1 x0_1 a1 t113 _ A6.out).mono ?_); rintro e w' ⟨rfl, ⟨nd, rfl⟩⟩; refine ⟨_, rfl, ?_⟩))
          go_roundg k1
          case measure => have := HK1.out; omega
          case rel => exact ⟨(wrap64 (x0_1 - t113)), (wrap64 (x5_1 + 1)), (t113), (by first | rfl | (simp; done) | (simp [*]; done)), (by first | rfl | (simp; done) | (simp [*]; done)), (by first | rfl | (simp; done) | (simp [*]; done)), H', ⟨by have := HK1.out; omega⟩, by repeat (first | exact Drawn0.refl _ | apply Drawn0.step)⟩
        · rw [if_neg c5] at H
          have c5b0 : decide (0 < x0_1) = false := decide_eq_false c5
          clear c5
          obtain rfl := Option.some.inj H
          go_wp2
          go_ret
          exact ⟨by first | rfl | (simp; done) | (simp [*]; done), by repeat (first | exact Drawn0.refl _ | apply Drawn0.step)⟩
      · rw [if_neg c4] at H
        have c4b0 : decide (x5_1 < 2000) = false := decide_eq_false c4
        clear c4
        obtain rfl := Option.some.inj H
        go_wp2
        go_ret
        exact ⟨by first | rfl | (simp; done) | (simp [*]; done), by repeat (first | exact Drawn0.refl _ | apply Drawn0.step)⟩

/-! ### paternosterlaw06_PlanTells: function 3 -/
def paternosterlaw06_PlanTells.f (k : Nat) (a0 : Int) (a1 : Int) (a2 : Int) : Option (Bool) := (paternosterlaw06_awake.f k).bind fun t114 => (if t114 = true then ((plan_Stop.f a0).bind fun t115 => ((paternosterref06_Stop.f k a0).bind fun t116 => (if t115 = t116 then ((plan_Next.f a0 a1 a2).bind fun t117 => ((paternosterref06_Next.f k a0 a1 a2).bind fun t118 => (if t117 = t118 then ((plan_Ticks.f k a1 a2).bind fun t119 => ((paternosterref06_Ticks.f k a1 a2).bind fun t120 => (some (t119 == t120)))) else (some false)))) else (some false)))) else (some false))
theorem paternosterlaw06_PlanTells.mono : ∀ a0 a1 a2 k, LeO (paternosterlaw06_PlanTells.f k a0 a1 a2) (paternosterlaw06_PlanTells.f (k + 1) a0 a1 a2) := by
  intro a0 a1 a2 k
  unfold paternosterlaw06_PlanTells.f
  repeat' first
      | (with_reducible exact paternosterlaw06_awake.mono _)
      | (with_reducible exact paternosterref06_Next.mono _ _ _ _)
      | (with_reducible exact paternosterref06_Stop.mono _ _)
      | (with_reducible exact paternosterref06_Ticks.mono _ _ _)
      | (with_reducible exact plan_Ticks.mono _ _ _)
      | (with_reducible exact LeO.refl _)
      | (with_reducible exact LeO.none _)
      | (with_reducible refine LeO.ite ?_ ?_)
      | (with_reducible refine LeO.bind ?_ (fun _ => ?_))
      | exact paternosterlaw06_awake.mono _
      | exact paternosterref06_Next.mono _ _ _ _
      | exact paternosterref06_Stop.mono _ _
      | exact paternosterref06_Ticks.mono _ _ _
      | exact plan_Ticks.mono _ _ _
      | exact LeO.none _
      | refine LeO.ite ?_ ?_
      | refine LeO.bind ?_ (fun _ => ?_)
set_option maxHeartbeats 8000000 in
set_option maxRecDepth 100000 in
theorem paternosterlaw06_PlanTells.calls (k : Nat) (a0 : Int) (a1 : Int) (a2 : Int) (r : Bool) (w : World) (hT : r = true) (h : paternosterlaw06_PlanTells.f k a0 a1 a2 = some r) :
    Calls Try.prog 3 #[.int .i64 a0, .int .i64 a1, .int .i64 a2] w fun e w' => e = .returned (.bool r) ∧ Below w.heap.size w w' := by
  have HT := Aside0.mk hT
  clear hT
  have HB := Aside0.mk (Below.refl w.heap.size w)
  have H : ((paternosterlaw06_awake.f k).bind fun t114 => (if t114 = true then ((plan_Stop.f a0).bind fun t115 => ((paternosterref06_Stop.f k a0).bind fun t116 => (if t115 = t116 then ((plan_Next.f a0 a1 a2).bind fun t117 => ((paternosterref06_Next.f k a0 a1 a2).bind fun t118 => (if t117 = t118 then ((plan_Ticks.f k a1 a2).bind fun t119 => ((paternosterref06_Ticks.f k a1 a2).bind fun t120 => (some (t119 == t120)))) else (some false)))) else (some false)))) else (some false))) = some r := h
  clear h
  replace H := Option.bind_eq_some_iff.mp H
  obtain ⟨t114, A40, H⟩ := H
  replace H : (if t114 = true then ((plan_Stop.f a0).bind fun t115 => ((paternosterref06_Stop.f k a0).bind fun t116 => (if t115 = t116 then ((plan_Next.f a0 a1 a2).bind fun t117 => ((paternosterref06_Next.f k a0 a1 a2).bind fun t118 => (if t117 = t118 then ((plan_Ticks.f k a1 a2).bind fun t119 => ((paternosterref06_Ticks.f k a1 a2).bind fun t120 => (some (t119 == t120)))) else (some false)))) else (some false)))) else (some false)) = some r := H
  have A4 := Aside0.mk A40
  clear A40
  by_cases c5 : t114 = true
  · subst c5
    have H1 : ((plan_Stop.f a0).bind fun t115 => ((paternosterref06_Stop.f k a0).bind fun t116 => (if t115 = t116 then ((plan_Next.f a0 a1 a2).bind fun t117 => ((paternosterref06_Next.f k a0 a1 a2).bind fun t118 => (if t117 = t118 then ((plan_Ticks.f k a1 a2).bind fun t119 => ((paternosterref06_Ticks.f k a1 a2).bind fun t120 => (some (t119 == t120)))) else (some false)))) else (some false)))) = some r := by rw [if_pos rfl] at H; exact H
    clear H
    have H := H1
    clear H1
    replace H := Option.bind_eq_some_iff.mp H
    obtain ⟨t115, A60, H⟩ := H
    replace H : ((paternosterref06_Stop.f k a0).bind fun t116 => (if t115 = t116 then ((plan_Next.f a0 a1 a2).bind fun t117 => ((paternosterref06_Next.f k a0 a1 a2).bind fun t118 => (if t117 = t118 then ((plan_Ticks.f k a1 a2).bind fun t119 => ((paternosterref06_Ticks.f k a1 a2).bind fun t120 => (some (t119 == t120)))) else (some false)))) else (some false))) = some r := H
    have A6 := Aside0.mk A60
    clear A60
    replace H := Option.bind_eq_some_iff.mp H
    obtain ⟨t116, A70, H⟩ := H
    replace H : (if t115 = t116 then ((plan_Next.f a0 a1 a2).bind fun t117 => ((paternosterref06_Next.f k a0 a1 a2).bind fun t118 => (if t117 = t118 then ((plan_Ticks.f k a1 a2).bind fun t119 => ((paternosterref06_Ticks.f k a1 a2).bind fun t120 => (some (t119 == t120)))) else (some false)))) else (some false)) = some r := H
    have A7 := Aside0.mk A70
    clear A70
    by_cases c8 : t115 = t116
    · rw [if_pos c8] at H
      have c8b0 : (t115 == t116) = true := beq_iff_eq.mpr c8
      have c8b1 : (t115 != t116) = false := bne_eq_false_iff_eq.mpr c8
      clear c8
      replace H := Option.bind_eq_some_iff.mp H
      obtain ⟨t117, A90, H⟩ := H
      replace H : ((paternosterref06_Next.f k a0 a1 a2).bind fun t118 => (if t117 = t118 then ((plan_Ticks.f k a1 a2).bind fun t119 => ((paternosterref06_Ticks.f k a1 a2).bind fun t120 => (some (t119 == t120)))) else (some false))) = some r := H
      have A9 := Aside0.mk A90
      clear A90
      replace H := Option.bind_eq_some_iff.mp H
      obtain ⟨t118, A100, H⟩ := H
      replace H : (if t117 = t118 then ((plan_Ticks.f k a1 a2).bind fun t119 => ((paternosterref06_Ticks.f k a1 a2).bind fun t120 => (some (t119 == t120)))) else (some false)) = some r := H
      have A10 := Aside0.mk A100
      clear A100
      by_cases c11 : t117 = t118
      · rw [if_pos c11] at H
        have c11b0 : (t117 == t118) = true := beq_iff_eq.mpr c11
        have c11b1 : (t117 != t118) = false := bne_eq_false_iff_eq.mpr c11
        clear c11
        replace H := Option.bind_eq_some_iff.mp H
        obtain ⟨t119, A120, H⟩ := H
        replace H : ((paternosterref06_Ticks.f k a1 a2).bind fun t120 => (some (t119 == t120))) = some r := H
        have A12 := Aside0.mk A120
        clear A120
        replace H := Option.bind_eq_some_iff.mp H
        obtain ⟨t120, A130, H⟩ := H
        replace H : (some (t119 == t120)) = some r := H
        have A13 := Aside0.mk A130
        clear A130
        obtain rfl := Option.some.inj H
        go_enter Try.func3, Try.ntmps3
        go_wp2_with (first | ((with_reducible refine gate_callee (f := 14) rfl ?_); refine goesL_ (some 8) rfl rfl Try.func14 (by kernel_rfl) rfl #[] rfl (by (try simp only [List.map_toArray, List.map_cons, List.map_nil]); first | done | rfl | (simp only [List.length_drop, List.length_take]; rfl)) ?_; (with_reducible refine (paternosterlaw06_awake.calls k  true _ A4.out).mono ?_); rintro e w14 ⟨rfl, hb⟩; refine ⟨_, rfl, ?_⟩; have n0_ := Aside0.mk (below_step (by repeat (first | (with_reducible first | exact HB.out | apply below_alloc | apply pw_below_drewN | apply below_drew1) | exact HB.out)) hb); clear HB; have HB := n0_; clear n0_; (try clear hb); (try clear hb2); (try clear hk); (try clear hi)) | ((with_reducible refine gate_callee (f := 15) rfl ?_); refine goesL_ (some 12) rfl rfl Try.func15 (by kernel_rfl) rfl #[.int .i64 a0] rfl (by (try simp only [List.map_toArray, List.map_cons, List.map_nil]); first | done | rfl | (simp only [List.length_drop, List.length_take]; rfl)) ?_; (with_reducible refine (plan_Stop.calls a0 t115 _ A6.out).mono ?_); rintro e w15 ⟨rfl, hb⟩; refine ⟨_, rfl, ?_⟩; have n0_ := Aside0.mk (below_step (by repeat (first | (with_reducible first | exact HB.out | apply below_alloc | apply pw_below_drewN | apply below_drew1) | exact HB.out)) hb); clear HB; have HB := n0_; clear n0_; (try clear hb); (try clear hb2); (try clear hk); (try clear hi)) | ((with_reducible refine gate_callee (f := 16) rfl ?_); refine goesL_ (some 14) rfl rfl Try.func16 (by kernel_rfl) rfl #[.int .i64 a0] rfl (by (try simp only [List.map_toArray, List.map_cons, List.map_nil]); first | done | rfl | (simp only [List.length_drop, List.length_take]; rfl)) ?_; (with_reducible refine (paternosterref06_Stop.calls k a0 t116 _ A7.out).mono ?_); rintro e w' ⟨rfl, ⟨nd, rfl⟩⟩; refine ⟨_, rfl, ?_⟩) | (go_at_call 17; (with_reducible refine (plan_Next.calls a0 a1 a2 t117 _ A9.out).mono ?_); rintro e w16 ⟨rfl, hb⟩; have n0_ := Aside0.mk (below_step (by repeat (first | (with_reducible first | exact HB.out | apply below_alloc | apply pw_below_drewN | apply below_drew1) | exact HB.out)) hb); clear HB; have HB := n0_; clear n0_; (try clear hb); (try clear hb2); (try clear hk); (try clear hi)) | (go_at_call 18; (with_reducible refine (paternosterref06_Next.calls k a0 a1 a2 t118 _ A10.out).mono ?_); rintro e w' ⟨rfl, ⟨nd, rfl⟩⟩) | (go_at_call 19; (with_reducible refine (plan_Ticks.calls k a1 a2 t119 _ A12.out).mono ?_); rintro e w17 ⟨rfl, hb⟩; have n0_ := Aside0.mk (below_step (by repeat (first | (with_reducible first | exact HB.out | apply below_alloc | apply pw_below_drewN | apply below_drew1) | exact HB.out)) hb); clear HB; have HB := n0_; clear n0_; (try clear hb); (try clear hb2); (try clear hk); (try clear hi)) | (go_at_call 20; (with_reducible refine (paternosterref06_Ticks.calls k a1 a2 t120 _ A13.out).mono ?_); rintro e w' ⟨rfl, ⟨nd, rfl⟩⟩))
        go_ret
        exact ⟨by first | rfl | (simp [errW_none, errW_some] <;> rfl) | (simp [*, errW_none, errW_some] <;> rfl), by repeat (first | (with_reducible first | exact HB.out | apply below_alloc | apply pw_below_drewN | apply below_drew1) | exact HB.out)⟩
      · rw [if_neg c11] at H
        have c11b0 : (t117 == t118) = false := beq_eq_false_iff_ne.mpr c11
        have c11b1 : (t117 != t118) = true := bne_iff_ne.mpr c11
        exact absurd (Option.some.inj H) (by rw [HT.out]; decide)
    · rw [if_neg c8] at H
      have c8b0 : (t115 == t116) = false := beq_eq_false_iff_ne.mpr c8
      have c8b1 : (t115 != t116) = true := bne_iff_ne.mpr c8
      exact absurd (Option.some.inj H) (by rw [HT.out]; decide)
  · replace c5 := Bool.eq_false_iff.mpr c5
    subst c5
    have H1 : (some false) = some r := by rw [if_neg (show ¬ (false = true) by decide)] at H; exact H
    clear H
    have H := H1
    clear H1
    exact absurd (Option.some.inj H) (by rw [HT.out]; decide)

/-- THE ONE PURE STATEMENT of paternosterlaw06_PlanTells: yours. -/
def paternosterlaw06_PlanTells.Pure : Prop := ∀ (a0 : Int) (a1 : Int) (a2 : Int), (Lit.int .i64 a0).wf = true → (Lit.int .i64 a1).wf = true → (Lit.int .i64 a2).wf = true → ∃ k, paternosterlaw06_PlanTells.f k a0 a1 a2 = some true
theorem paternosterlaw06_PlanTells.walk (P : paternosterlaw06_PlanTells.Pure) (a0 : Int) (a1 : Int) (a2 : Int) (w : World) (w0 : (Lit.int .i64 a0).wf = true) (w1 : (Lit.int .i64 a1).wf = true) (w2 : (Lit.int .i64 a2).wf = true) :
    Calls Try.prog 3 #[.int .i64 a0, .int .i64 a1, .int .i64 a2] w fun e w' => e = .returned (.bool true) ∧ Below w.heap.size w w' := by
  obtain ⟨k, h⟩ := P a0 a1 a2 w0 w1 w2
  refine (paternosterlaw06_PlanTells.calls k a0 a1 a2 true w rfl h).mono ?_
  rintro e w' ⟨rfl, hd⟩
  exact ⟨rfl, hd⟩

end Go.Proofs.Ytmhgfghbbophlaa.Q
