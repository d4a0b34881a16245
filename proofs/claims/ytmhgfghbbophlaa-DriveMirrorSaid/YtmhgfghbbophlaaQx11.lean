-- Written by a program of this session (turned from the kit's print.py) out of the translation. Not trusted: Lean checks it.
import Derived.Test.YtmhgfghbbophlaaQx0
import Derived.Test.YtmhgfghbbophlaaQx6
import Derived.Test.YtmhgfghbbophlaaQx7
namespace Go.Proofs.Ytmhgfghbbophlaa.Q
open Go.RowKit Go.Proofs.YtmhgfghbbophlaaW.PrintWords Go.Proofs.YtmhgfghbbophlaaW.PrintLast Go.Proofs.YtmhgfghbbophlaaW.PrintMore
attribute [local go_sem] max2_int min2_int max_two min_two max_three min_three max_four min_four   -- for this text's walks alone
set_option linter.unusedVariables false
set_option linter.unusedSimpArgs false

attribute [local go_sem] fld32_0 fld32_1 fld32_2 fld37_0 fld37_1 fld37_2
/-! ### paternosterlaw13_DriveMirror: function 10 -/
def paternosterlaw13_DriveMirror.j0 : Nat → Int → Int → Int → Int → Bool → Option (Bool)
  | 0, _, _, _, _, _ => none
  | k + 1, x0, x1, x2, x3, x27 => if x27 = true then (some true) else ((drive_Vel.f k (wrap64 (Int.tmod x0 249)) x1 0 (wrap64 (Int.tmod x2 32)) (wrap64 ((wrap64 (Int.tmod x3 8)) + 1)) true).bind fun bt213 => ((drive_Vel.f k (wrap64 (248 - (wrap64 (Int.tmod x0 249)))) (wrap64 (-x1)) 0 (wrap64 (31 - (wrap64 (Int.tmod x2 32)))) (wrap64 ((wrap64 (Int.tmod x3 8)) + 1)) true).bind fun bt215 => (if bt213.1 = (wrap64 (-bt215.1)) then (if (bt213.2 == bt215.2) = true then ((drive_Way.f (wrap64 (Int.tmod x0 249)) x1 0 (wrap64 (Int.tmod x2 32))).bind fun t217 => ((drive_Way.f (wrap64 (248 - (wrap64 (Int.tmod x0 249)))) (wrap64 (-x1)) 0 (wrap64 (31 - (wrap64 (Int.tmod x2 32))))).bind fun t218 => (if t217 = (wrap64 (-t218)) then ((drive_There.f (wrap64 (Int.tmod x0 249)) x1 0 (wrap64 (Int.tmod x2 32))).bind fun t219 => ((drive_There.f (wrap64 (248 - (wrap64 (Int.tmod x0 249)))) (wrap64 (-x1)) 0 (wrap64 (31 - (wrap64 (Int.tmod x2 32))))).bind fun t220 => (if (t219 == t220) = true then ((drive_What.f k (wrap64 (Int.tmod x0 249)) x1 0 bt213.1 bt213.2).bind fun t221 => ((drive_What.f k (wrap64 (248 - (wrap64 (Int.tmod x0 249)))) (wrap64 (-x1)) 0 bt215.1 bt215.2).bind fun t222 => (some (t221 == t222)))) else (some false)))) else (some false)))) else (some false)) else (some false))))
def paternosterlaw13_DriveMirror.f (k : Nat) (a0 : Int) (a1 : Int) (a2 : Int) (a3 : Int) : Option (Bool) := (paternosterlaw13_awake.f k).bind fun t210 => (if t210 = true then (if a1 < (-8) then (paternosterlaw13_DriveMirror.j0 k a0 a1 a2 a3 true) else (paternosterlaw13_DriveMirror.j0 k a0 a1 a2 a3 (decide (a1 > 8)))) else (some false))
theorem paternosterlaw13_DriveMirror.mono_l : ∀ k, (∀ y0 y1 y2 y3 y4, LeO (paternosterlaw13_DriveMirror.j0 k y0 y1 y2 y3 y4) (paternosterlaw13_DriveMirror.j0 (k + 1) y0 y1 y2 y3 y4))
  | 0 => fun _ _ _ _ _ r h => by simp [paternosterlaw13_DriveMirror.j0] at h
  | k + 1 => by
    have ih0 := paternosterlaw13_DriveMirror.mono_l k
    · intro y0 y1 y2 y3 y4
      unfold paternosterlaw13_DriveMirror.j0
      repeat' first
      | (with_reducible exact ih0 _ _ _ _ _)
      | (with_reducible exact drive_Vel.mono _ _ _ _ _ _ _)
      | (with_reducible exact drive_What.mono _ _ _ _ _ _)
      | (with_reducible exact paternosterlaw13_awake.mono _)
      | (with_reducible exact LeO.refl _)
      | (with_reducible exact LeO.none _)
      | (with_reducible refine LeO.ite ?_ ?_)
      | (with_reducible refine LeO.bind ?_ (fun _ => ?_))
      | exact ih0 _ _ _ _ _
      | exact drive_Vel.mono _ _ _ _ _ _ _
      | exact drive_What.mono _ _ _ _ _ _
      | exact paternosterlaw13_awake.mono _
      | exact LeO.none _
      | refine LeO.ite ?_ ?_
      | refine LeO.bind ?_ (fun _ => ?_)
theorem paternosterlaw13_DriveMirror.mono : ∀ a0 a1 a2 a3 k, LeO (paternosterlaw13_DriveMirror.f k a0 a1 a2 a3) (paternosterlaw13_DriveMirror.f (k + 1) a0 a1 a2 a3) := by
  intro a0 a1 a2 a3 k
  have ih0 := paternosterlaw13_DriveMirror.mono_l k
  unfold paternosterlaw13_DriveMirror.f
  repeat' first
      | (with_reducible exact ih0 _ _ _ _ _)
      | (with_reducible exact drive_Vel.mono _ _ _ _ _ _ _)
      | (with_reducible exact drive_What.mono _ _ _ _ _ _)
      | (with_reducible exact paternosterlaw13_awake.mono _)
      | (with_reducible exact LeO.refl _)
      | (with_reducible exact LeO.none _)
      | (with_reducible refine LeO.ite ?_ ?_)
      | (with_reducible refine LeO.bind ?_ (fun _ => ?_))
      | exact ih0 _ _ _ _ _
      | exact drive_Vel.mono _ _ _ _ _ _ _
      | exact drive_What.mono _ _ _ _ _ _
      | exact paternosterlaw13_awake.mono _
      | exact LeO.none _
      | refine LeO.ite ?_ ?_
      | refine LeO.bind ?_ (fun _ => ?_)
def paternosterlaw13_DriveMirror.T13 : Bool × List (List Nat × List Nat) := (true, [([], []), ([], []), ([1], [1]), ([0, 2], [0, 2]), ([3], [3]), ([4], [4]), ([4], [4]), ([5, 6, 4], [4, 5, 6]), ([4, 7], [4, 7]), ([8, 4], [8]), ([9], [9]), ([9], [9]), ([10, 11, 9, 9], [9, 10, 11]), ([9], [9]), ([9], [9]), ([13, 14, 12, 9], [9, 13, 14]), ([15, 9], [9, 15]), ([12, 16, 9], [9, 12, 16]), ([9, 17], [9, 17]), ([18, 15], [18]), ([19], [19]), ([19], [19]), ([20, 21, 19, 19], [19, 20, 21]), ([19], [19]), ([19], [19]), ([23, 24, 22, 19], [19, 23, 24]), ([22, 25, 19], [19, 22, 25]), ([19, 26], [19, 26]), ([27, 25], [27]), ([28], [28]), ([28], [28]), ([28], [28]), ([29, 30, 31, 28, 28], [28, 29, 30, 31]), ([28], [28]), ([28], [28]), ([28], [28]), ([33, 34, 35, 32, 28], [28, 33, 34, 35]), ([32, 36, 28], [28, 32, 36]), ([28, 37], [28, 37]), ([38, 36, 0, 1, 2, 3, 4, 5, 6, 7, 8, 9, 10, 11, 12, 13, 14, 15, 16, 17, 18, 19, 20, 21, 22, 23, 24, 25, 26, 27, 28, 29, 30, 31, 32, 33, 34, 35, 36, 37, 38], [38])])
def paternosterlaw13_DriveMirror.B13 : List Nat := [0, 0, 2, 7, 15, 31, 31, 127, 255, 511, 1023, 1023, 4095, 1023, 1023, 32767, 65535, 131071, 262143, 524287, 1048575, 1048575, 4194303, 1048575, 1048575, 33554431, 67108863, 134217727, 268435455, 536870911, 536870911, 536870911, 4294967295, 536870911, 536870911, 536870911, 68719476735, 137438953471, 274877906943, 549755813887]
theorem paternosterlaw13_DriveMirror.tab13 : rtab .any (opsOf Try.f10 13) = paternosterlaw13_DriveMirror.T13 := by kernel_rfl
theorem paternosterlaw13_DriveMirror.bits13 : waitsOk paternosterlaw13_DriveMirror.T13.2 paternosterlaw13_DriveMirror.B13 = true := by kernel_rfl
set_option maxHeartbeats 8000000 in
set_option maxRecDepth 100000 in
theorem paternosterlaw13_DriveMirror.calls (k : Nat) (a0 : Int) (a1 : Int) (a2 : Int) (a3 : Int) (r : Bool) (w : World) (hT : r = true) (h : paternosterlaw13_DriveMirror.f k a0 a1 a2 a3 = some r) :
    Calls Try.prog 10 #[.int .u8 a0, .int .i64 a1, .int .u8 a2, .int .u8 a3] w fun e w' => e = .returned (.bool r) ∧ Below w.heap.size w w' := by
  have hu32 := Try.underlying32
  have HT := Aside0.mk hT
  clear hT
  have HB := Aside0.mk (Below.refl w.heap.size w)
  have H : ((paternosterlaw13_awake.f k).bind fun t210 => (if t210 = true then (if a1 < (-8) then (paternosterlaw13_DriveMirror.j0 k a0 a1 a2 a3 true) else (paternosterlaw13_DriveMirror.j0 k a0 a1 a2 a3 (decide (a1 > 8)))) else (some false))) = some r := h
  clear h
  replace H := Option.bind_eq_some_iff.mp H
  obtain ⟨t210, A50, H⟩ := H
  replace H : (if t210 = true then (if a1 < (-8) then (paternosterlaw13_DriveMirror.j0 k a0 a1 a2 a3 true) else (paternosterlaw13_DriveMirror.j0 k a0 a1 a2 a3 (decide (a1 > 8)))) else (some false)) = some r := H
  have A5 := Aside0.mk A50
  clear A50
  by_cases c6 : t210 = true
  · subst c6
    have H1 : (if a1 < (-8) then (paternosterlaw13_DriveMirror.j0 k a0 a1 a2 a3 true) else (paternosterlaw13_DriveMirror.j0 k a0 a1 a2 a3 (decide (a1 > 8)))) = some r := by rw [if_pos rfl] at H; exact H
    clear H
    have H := H1
    clear H1
    have HC7 := Aside0.mk H
    clear H
    go_enter Try.func10, Try.ntmps10
    go_upto_region 4 with (first | ((with_reducible refine gate_callee (f := 21) rfl ?_); refine goesL_ (some 19) rfl rfl Try.func21 (by kernel_rfl) rfl #[] rfl (by (try simp only [List.map_toArray, List.map_cons, List.map_nil]); first | done | rfl | (simp only [List.length_drop, List.length_take]; rfl)) ?_; (with_reducible refine (paternosterlaw13_awake.calls k  true _ A5.out).mono ?_); rintro e w8 ⟨rfl, hb⟩; refine ⟨_, rfl, ?_⟩; have n0_ := Aside0.mk (below_step (by repeat (first | (with_reducible first | exact HB.out | apply below_alloc | apply pw_below_drewN | apply below_drew1) | exact HB.out)) hb); clear HB; have HB := n0_; clear n0_; (try clear hb); (try clear hb2); (try clear hk); (try clear hi)))
    (try simp only [Act.put, List.setIfInBounds_toArray, List.set_cons_zero, List.set_cons_succ])
    go_cut [27] (fun v27 wc => ∃ (kq : Nat) (x27_6 : Bool), v27 = .bool x27_6 ∧ Aside0 (paternosterlaw13_DriveMirror.j0 kq a0 a1 a2 a3 x27_6 = some r) ∧ Aside0 (kq ≤ k) ∧ Aside0 (Below w.heap.size w wc))
    case first =>
      have H := HC7.out
      clear HC7
      by_cases c9 : a1 < (-8)
      · rw [if_pos c9] at H
        have c9b0 : decide (a1 < (-8)) = true := decide_eq_true c9
        clear c9
        (first | rw [c9b0] | (simp only [i64_w, i32_w]; rw [c9b0]) | skip)
        have H' := Aside0.mk H
        clear H
        go_wp2
        go_meet
        case rel => exact ⟨_, (true), (by first | rfl | (simp; done) | (simp [*]; done)), H', ⟨by first | omega | exact Nat.le_refl _⟩, ⟨by repeat (first | (with_reducible first | exact HB.out | apply below_alloc | apply pw_below_drewN | apply below_drew1) | exact HB.out)⟩⟩
      · rw [if_neg c9] at H
        have c9b0 : decide (a1 < (-8)) = false := decide_eq_false c9
        clear c9
        (first | rw [c9b0] | (simp only [i64_w, i32_w]; rw [c9b0]) | skip)
        have H' := Aside0.mk H
        clear H
        go_wp2
        go_meet
        case rel => exact ⟨_, (decide (a1 > 8)), (by first | rfl | (simp; done) | (simp [*]; done)), H', ⟨by first | omega | exact Nat.le_refl _⟩, ⟨by repeat (first | (with_reducible first | exact HB.out | apply below_alloc | apply pw_below_drewN | apply below_drew1) | exact HB.out)⟩⟩
    case rest =>
      clear HC7
      try clear c1
      try clear c2
      try clear p2
      try clear c6
      try clear c9
      try clear c9b0
      obtain ⟨kq, x27_6, rfl, HA, HJ6, HB⟩ := hcut
      cases kq with
      | zero => exact absurd HA.out (by simp [paternosterlaw13_DriveMirror.j0])
      | succ kj6 =>
        have H := HA.out
        clear HA
        simp only [paternosterlaw13_DriveMirror.j0] at H
        by_cases c10 : x27_6 = true
        · subst c10
          have H1 : (some true) = some r := by rw [if_pos rfl] at H; exact H
          clear H
          have H := H1
          clear H1
          obtain rfl := Option.some.inj H
          go_wp2
          go_ret
          exact ⟨by first | rfl | (simp [errW_none, errW_some] <;> rfl) | (simp [*, errW_none, errW_some] <;> rfl), by repeat (first | (with_reducible first | exact HB.out | apply below_alloc | apply pw_below_drewN | apply below_drew1) | exact HB.out)⟩
        · replace c10 := Bool.eq_false_iff.mpr c10
          subst c10
          have H1 : ((drive_Vel.f kj6 (wrap64 (Int.tmod a0 249)) a1 0 (wrap64 (Int.tmod a2 32)) (wrap64 ((wrap64 (Int.tmod a3 8)) + 1)) true).bind fun bt213 => ((drive_Vel.f kj6 (wrap64 (248 - (wrap64 (Int.tmod a0 249)))) (wrap64 (-a1)) 0 (wrap64 (31 - (wrap64 (Int.tmod a2 32)))) (wrap64 ((wrap64 (Int.tmod a3 8)) + 1)) true).bind fun bt215 => (if bt213.1 = (wrap64 (-bt215.1)) then (if (bt213.2 == bt215.2) = true then ((drive_Way.f (wrap64 (Int.tmod a0 249)) a1 0 (wrap64 (Int.tmod a2 32))).bind fun t217 => ((drive_Way.f (wrap64 (248 - (wrap64 (Int.tmod a0 249)))) (wrap64 (-a1)) 0 (wrap64 (31 - (wrap64 (Int.tmod a2 32))))).bind fun t218 => (if t217 = (wrap64 (-t218)) then ((drive_There.f (wrap64 (Int.tmod a0 249)) a1 0 (wrap64 (Int.tmod a2 32))).bind fun t219 => ((drive_There.f (wrap64 (248 - (wrap64 (Int.tmod a0 249)))) (wrap64 (-a1)) 0 (wrap64 (31 - (wrap64 (Int.tmod a2 32))))).bind fun t220 => (if (t219 == t220) = true then ((drive_What.f kj6 (wrap64 (Int.tmod a0 249)) a1 0 bt213.1 bt213.2).bind fun t221 => ((drive_What.f kj6 (wrap64 (248 - (wrap64 (Int.tmod a0 249)))) (wrap64 (-a1)) 0 bt215.1 bt215.2).bind fun t222 => (some (t221 == t222)))) else (some false)))) else (some false)))) else (some false)) else (some false)))) = some r := by rw [if_neg (show ¬ (false = true) by decide)] at H; exact H
          clear H
          have H := H1
          clear H1
          replace H := Option.bind_eq_some_iff.mp H
          obtain ⟨⟨t213, t214⟩, A110, H⟩ := H
          replace H : ((drive_Vel.f kj6 (wrap64 (248 - (wrap64 (Int.tmod a0 249)))) (wrap64 (-a1)) 0 (wrap64 (31 - (wrap64 (Int.tmod a2 32)))) (wrap64 ((wrap64 (Int.tmod a3 8)) + 1)) true).bind fun bt215 => (if t213 = (wrap64 (-bt215.1)) then (if (t214 == bt215.2) = true then ((drive_Way.f (wrap64 (Int.tmod a0 249)) a1 0 (wrap64 (Int.tmod a2 32))).bind fun t217 => ((drive_Way.f (wrap64 (248 - (wrap64 (Int.tmod a0 249)))) (wrap64 (-a1)) 0 (wrap64 (31 - (wrap64 (Int.tmod a2 32))))).bind fun t218 => (if t217 = (wrap64 (-t218)) then ((drive_There.f (wrap64 (Int.tmod a0 249)) a1 0 (wrap64 (Int.tmod a2 32))).bind fun t219 => ((drive_There.f (wrap64 (248 - (wrap64 (Int.tmod a0 249)))) (wrap64 (-a1)) 0 (wrap64 (31 - (wrap64 (Int.tmod a2 32))))).bind fun t220 => (if (t219 == t220) = true then ((drive_What.f kj6 (wrap64 (Int.tmod a0 249)) a1 0 t213 t214).bind fun t221 => ((drive_What.f kj6 (wrap64 (248 - (wrap64 (Int.tmod a0 249)))) (wrap64 (-a1)) 0 bt215.1 bt215.2).bind fun t222 => (some (t221 == t222)))) else (some false)))) else (some false)))) else (some false)) else (some false))) = some r := H
          have A11 := Aside0.mk A110
          clear A110
          replace H := Option.bind_eq_some_iff.mp H
          obtain ⟨⟨t215, t216⟩, A120, H⟩ := H
          replace H : (if t213 = (wrap64 (-t215)) then (if (t214 == t216) = true then ((drive_Way.f (wrap64 (Int.tmod a0 249)) a1 0 (wrap64 (Int.tmod a2 32))).bind fun t217 => ((drive_Way.f (wrap64 (248 - (wrap64 (Int.tmod a0 249)))) (wrap64 (-a1)) 0 (wrap64 (31 - (wrap64 (Int.tmod a2 32))))).bind fun t218 => (if t217 = (wrap64 (-t218)) then ((drive_There.f (wrap64 (Int.tmod a0 249)) a1 0 (wrap64 (Int.tmod a2 32))).bind fun t219 => ((drive_There.f (wrap64 (248 - (wrap64 (Int.tmod a0 249)))) (wrap64 (-a1)) 0 (wrap64 (31 - (wrap64 (Int.tmod a2 32))))).bind fun t220 => (if (t219 == t220) = true then ((drive_What.f kj6 (wrap64 (Int.tmod a0 249)) a1 0 t213 t214).bind fun t221 => ((drive_What.f kj6 (wrap64 (248 - (wrap64 (Int.tmod a0 249)))) (wrap64 (-a1)) 0 t215 t216).bind fun t222 => (some (t221 == t222)))) else (some false)))) else (some false)))) else (some false)) else (some false)) = some r := H
          have A12 := Aside0.mk A120
          clear A120
          by_cases c13 : t213 = (wrap64 (-t215))
          · rw [if_pos c13] at H
            have c13b0 : (t213 == (wrap64 (-t215))) = true := beq_iff_eq.mpr c13
            have c13b1 : (t213 != (wrap64 (-t215))) = false := bne_eq_false_iff_eq.mpr c13
            clear c13
            by_cases c14 : (t214 == t216) = true
            · rw [if_pos c14] at H
              have c14b0 : (t214 == t216) = true := c14
              (try (have c14b1 : decide (t214 = t216) = true := by simpa using c14))
              (try (have c14b2 : (t214 == t216) = true := by simpa using c14))
              clear c14
              replace H := Option.bind_eq_some_iff.mp H
              obtain ⟨t217, A150, H⟩ := H
              replace H : ((drive_Way.f (wrap64 (248 - (wrap64 (Int.tmod a0 249)))) (wrap64 (-a1)) 0 (wrap64 (31 - (wrap64 (Int.tmod a2 32))))).bind fun t218 => (if t217 = (wrap64 (-t218)) then ((drive_There.f (wrap64 (Int.tmod a0 249)) a1 0 (wrap64 (Int.tmod a2 32))).bind fun t219 => ((drive_There.f (wrap64 (248 - (wrap64 (Int.tmod a0 249)))) (wrap64 (-a1)) 0 (wrap64 (31 - (wrap64 (Int.tmod a2 32))))).bind fun t220 => (if (t219 == t220) = true then ((drive_What.f kj6 (wrap64 (Int.tmod a0 249)) a1 0 t213 t214).bind fun t221 => ((drive_What.f kj6 (wrap64 (248 - (wrap64 (Int.tmod a0 249)))) (wrap64 (-a1)) 0 t215 t216).bind fun t222 => (some (t221 == t222)))) else (some false)))) else (some false))) = some r := H
              have A15 := Aside0.mk A150
              clear A150
              replace H := Option.bind_eq_some_iff.mp H
              obtain ⟨t218, A160, H⟩ := H
              replace H : (if t217 = (wrap64 (-t218)) then ((drive_There.f (wrap64 (Int.tmod a0 249)) a1 0 (wrap64 (Int.tmod a2 32))).bind fun t219 => ((drive_There.f (wrap64 (248 - (wrap64 (Int.tmod a0 249)))) (wrap64 (-a1)) 0 (wrap64 (31 - (wrap64 (Int.tmod a2 32))))).bind fun t220 => (if (t219 == t220) = true then ((drive_What.f kj6 (wrap64 (Int.tmod a0 249)) a1 0 t213 t214).bind fun t221 => ((drive_What.f kj6 (wrap64 (248 - (wrap64 (Int.tmod a0 249)))) (wrap64 (-a1)) 0 t215 t216).bind fun t222 => (some (t221 == t222)))) else (some false)))) else (some false)) = some r := H
              have A16 := Aside0.mk A160
              clear A160
              by_cases c17 : t217 = (wrap64 (-t218))
              · rw [if_pos c17] at H
                have c17b0 : (t217 == (wrap64 (-t218))) = true := beq_iff_eq.mpr c17
                have c17b1 : (t217 != (wrap64 (-t218))) = false := bne_eq_false_iff_eq.mpr c17
                clear c17
                replace H := Option.bind_eq_some_iff.mp H
                obtain ⟨t219, A180, H⟩ := H
                replace H : ((drive_There.f (wrap64 (248 - (wrap64 (Int.tmod a0 249)))) (wrap64 (-a1)) 0 (wrap64 (31 - (wrap64 (Int.tmod a2 32))))).bind fun t220 => (if (t219 == t220) = true then ((drive_What.f kj6 (wrap64 (Int.tmod a0 249)) a1 0 t213 t214).bind fun t221 => ((drive_What.f kj6 (wrap64 (248 - (wrap64 (Int.tmod a0 249)))) (wrap64 (-a1)) 0 t215 t216).bind fun t222 => (some (t221 == t222)))) else (some false))) = some r := H
                have A18 := Aside0.mk A180
                clear A180
                replace H := Option.bind_eq_some_iff.mp H
                obtain ⟨t220, A190, H⟩ := H
                replace H : (if (t219 == t220) = true then ((drive_What.f kj6 (wrap64 (Int.tmod a0 249)) a1 0 t213 t214).bind fun t221 => ((drive_What.f kj6 (wrap64 (248 - (wrap64 (Int.tmod a0 249)))) (wrap64 (-a1)) 0 t215 t216).bind fun t222 => (some (t221 == t222)))) else (some false)) = some r := H
                have A19 := Aside0.mk A190
                clear A190
                by_cases c20 : (t219 == t220) = true
                · rw [if_pos c20] at H
                  have c20b0 : (t219 == t220) = true := c20
                  (try (have c20b1 : decide (t219 = t220) = true := by simpa using c20))
                  (try (have c20b2 : (t219 == t220) = true := by simpa using c20))
                  clear c20
                  replace H := Option.bind_eq_some_iff.mp H
                  obtain ⟨t221, A210, H⟩ := H
                  replace H : ((drive_What.f kj6 (wrap64 (248 - (wrap64 (Int.tmod a0 249)))) (wrap64 (-a1)) 0 t215 t216).bind fun t222 => (some (t221 == t222))) = some r := H
                  have A21 := Aside0.mk A210
                  clear A210
                  replace H := Option.bind_eq_some_iff.mp H
                  obtain ⟨t222, A220, H⟩ := H
                  replace H : (some (t221 == t222)) = some r := H
                  have A22 := Aside0.mk A220
                  clear A220
                  obtain rfl := Option.some.inj H
                  try go_wp2_with (first | ((with_reducible refine gate_dst (N := 10) rfl ?_); refine box_event ?hg (N := 10) ?hd (cs := #[.int .i64 0, .int .i64 0, .int .i64 0]) (t := 32) ?hr ?_; (case hd => rfl); (case hg => rfl); (case hr => first | (go_simp; done) | (go_simp; rfl)); intro gb211 hg w23 hbox hb; have n0_ := Aside0.mk (below_step (by repeat (first | (with_reducible first | exact HB.out | apply below_alloc | apply pw_below_drewN | apply below_drew1) | exact HB.out)) hb); have n1_ := Aside0.mk (hbox); have n2_ := Aside0.mk ((by rw [hg]; exact (below_size (by repeat (first | (with_reducible first | exact HB.out | apply below_alloc | apply pw_below_drewN | apply below_drew1) | exact HB.out))) : w.heap.size ≤ gb211)); have n3_ := Aside0.mk ((by rw [hg]; exact (below_size (by repeat (first | (with_reducible first | exact HB.out | apply below_alloc | apply pw_below_drewN | apply below_drew1) | exact HB.out))) : w.heap.size ≤ gb211)); clear HB; have HB := n0_; have BK211 := n1_; have GW211 := n2_; have GE211 := n3_; clear n0_ n1_ n2_ n3_; clear hb hbox hg; have hcz24_0 : w23.cell? ⟨gb211, 0, none⟩ = some (.int .i64 0) := (blk_cell BK211.out 0).trans rfl; have hcz24_1 : w23.cell? ⟨gb211, 1, none⟩ = some (.int .i64 0) := (blk_cell BK211.out 1).trans rfl; have hcz24_2 : w23.cell? ⟨gb211, 2, none⟩ = some (.int .i64 0) := (blk_cell BK211.out 2).trans rfl; have hfz24_0 := blk_frozen BK211.out 0; have hfz24_1 := blk_frozen BK211.out 1; have hfz24_2 := blk_frozen BK211.out 2) | ((with_reducible refine gate_dst (N := 11) rfl ?_); refine box_event ?hg (N := 11) ?hd (cs := #[.int .i64 0, .int .i64 0, .int .i64 0]) (t := 32) ?hr ?_; (case hd => rfl); (case hg => rfl); (case hr => first | (go_simp; done) | (go_simp; rfl)); intro gb212 hg w25 hbox hb; have n0_ := Aside0.mk (blk_below (g := gb211) (o := .cells #[.int .i64 (wrap64 (Int.tmod a0 249)), .int .i64 a1, .int .i64 0] 32 (0, 0)) (by (with_reducible repeat (first | refine blk_drewN ?_ _ | refine blk_drew ?_ | refine blk_alloc ?_ _)); refine blk_put (cs := #[.int .i64 (wrap64 (Int.tmod a0 249)), .int .i64 a1, .int .i64 0]) ?_ 2 _ rfl; (with_reducible repeat (first | refine blk_drewN ?_ _ | refine blk_drew ?_ | refine blk_alloc ?_ _)); refine blk_put (cs := #[.int .i64 (wrap64 (Int.tmod a0 249)), .int .i64 0, .int .i64 0]) ?_ 1 _ rfl; (with_reducible repeat (first | refine blk_drewN ?_ _ | refine blk_drew ?_ | refine blk_alloc ?_ _)); refine blk_put (cs := #[.int .i64 0, .int .i64 0, .int .i64 0]) ?_ 0 _ rfl; (with_reducible repeat (first | refine blk_drewN ?_ _ | refine blk_drew ?_ | refine blk_alloc ?_ _)); exact BK211.out) hb); have n1_ := Aside0.mk (below_step (by repeat (first | (with_reducible first | exact HB.out | apply below_alloc | apply pw_below_drewN | apply below_drew1 | refine below_set ?_ GE211.out) | exact HB.out)) hb); have n2_ := Aside0.mk (hbox); have n3_ := Aside0.mk ((by rw [hg]; exact (below_size (by repeat (first | (with_reducible first | exact HB.out | apply below_alloc | apply pw_below_drewN | apply below_drew1 | refine below_set ?_ GE211.out) | exact HB.out))) : w.heap.size ≤ gb212)); have n4_ := Aside0.mk ((by rw [hg]; exact (below_size (by repeat (first | (with_reducible first | exact HB.out | apply below_alloc | apply pw_below_drewN | apply below_drew1 | refine below_set ?_ GE211.out) | exact HB.out))) : w.heap.size ≤ gb212)); have n5_ := Aside0.mk ((by rw [hg]; exact Nat.ne_of_lt (blk_lt (g := gb211) (o := .cells #[.int .i64 (wrap64 (Int.tmod a0 249)), .int .i64 a1, .int .i64 0] 32 (0, 0)) (by (with_reducible repeat (first | refine blk_drewN ?_ _ | refine blk_drew ?_ | refine blk_alloc ?_ _)); refine blk_put (cs := #[.int .i64 (wrap64 (Int.tmod a0 249)), .int .i64 a1, .int .i64 0]) ?_ 2 _ rfl; (with_reducible repeat (first | refine blk_drewN ?_ _ | refine blk_drew ?_ | refine blk_alloc ?_ _)); refine blk_put (cs := #[.int .i64 (wrap64 (Int.tmod a0 249)), .int .i64 0, .int .i64 0]) ?_ 1 _ rfl; (with_reducible repeat (first | refine blk_drewN ?_ _ | refine blk_drew ?_ | refine blk_alloc ?_ _)); refine blk_put (cs := #[.int .i64 0, .int .i64 0, .int .i64 0]) ?_ 0 _ rfl; (with_reducible repeat (first | refine blk_drewN ?_ _ | refine blk_drew ?_ | refine blk_alloc ?_ _)); exact BK211.out)) : gb211 ≠ gb212)); have n6_ := Aside0.mk ((by rw [hg]; exact Nat.ne_of_gt (blk_lt (g := gb211) (o := .cells #[.int .i64 (wrap64 (Int.tmod a0 249)), .int .i64 a1, .int .i64 0] 32 (0, 0)) (by (with_reducible repeat (first | refine blk_drewN ?_ _ | refine blk_drew ?_ | refine blk_alloc ?_ _)); refine blk_put (cs := #[.int .i64 (wrap64 (Int.tmod a0 249)), .int .i64 a1, .int .i64 0]) ?_ 2 _ rfl; (with_reducible repeat (first | refine blk_drewN ?_ _ | refine blk_drew ?_ | refine blk_alloc ?_ _)); refine blk_put (cs := #[.int .i64 (wrap64 (Int.tmod a0 249)), .int .i64 0, .int .i64 0]) ?_ 1 _ rfl; (with_reducible repeat (first | refine blk_drewN ?_ _ | refine blk_drew ?_ | refine blk_alloc ?_ _)); refine blk_put (cs := #[.int .i64 0, .int .i64 0, .int .i64 0]) ?_ 0 _ rfl; (with_reducible repeat (first | refine blk_drewN ?_ _ | refine blk_drew ?_ | refine blk_alloc ?_ _)); exact BK211.out)) : gb212 ≠ gb211)); clear BK211; clear HB; have BK211 := n0_; have HB := n1_; have BK212 := n2_; have GW212 := n3_; have GE212 := n4_; have NB211_212 := n5_; have NB212_211 := n6_; clear n0_ n1_ n2_ n3_ n4_ n5_ n6_; clear hb hbox hg; have hnb26 := NB212_211.out; have hnc26 := NB211_212.out; have hcz27_0 : w25.cell? ⟨gb212, 0, none⟩ = some (.int .i64 0) := (blk_cell BK212.out 0).trans rfl; have hcz27_1 : w25.cell? ⟨gb212, 1, none⟩ = some (.int .i64 0) := (blk_cell BK212.out 1).trans rfl; have hcz27_2 : w25.cell? ⟨gb212, 2, none⟩ = some (.int .i64 0) := (blk_cell BK212.out 2).trans rfl; have hfz27_0 := blk_frozen BK212.out 0; have hfz27_1 := blk_frozen BK212.out 1; have hfz27_2 := blk_frozen BK212.out 2; have hcz28_0 : w25.cell? ⟨gb211, 0, none⟩ = some (.int .i64 (wrap64 (Int.tmod a0 249))) := (blk_cell BK211.out 0).trans rfl; have hcz28_1 : w25.cell? ⟨gb211, 1, none⟩ = some (.int .i64 a1) := (blk_cell BK211.out 1).trans rfl; have hcz28_2 : w25.cell? ⟨gb211, 2, none⟩ = some (.int .i64 0) := (blk_cell BK211.out 2).trans rfl; have hfz28_0 := blk_frozen BK211.out 0; have hfz28_1 := blk_frozen BK211.out 1; have hfz28_2 := blk_frozen BK211.out 2) | ((with_reducible refine gate_callee (f := 23) rfl ?_); refine goesL_ (some 52) rfl rfl Try.func23 (by kernel_rfl) rfl #[.agg #[.int .i64 (wrap64 (Int.tmod a0 249)), .int .i64 a1, .int .i64 0], .int .i64 (wrap64 (Int.tmod a2 32)), .int .i64 (wrap64 ((wrap64 (Int.tmod a3 8)) + 1)), .bool true] rfl (by (try simp only [List.map_toArray, List.map_cons, List.map_nil]); first | done | rfl | (simp only [List.length_drop, List.length_take]; rfl)) ?_; (with_reducible refine (drive_Vel.calls kj6 (wrap64 (Int.tmod a0 249)) a1 0 (wrap64 (Int.tmod a2 32)) (wrap64 ((wrap64 (Int.tmod a3 8)) + 1)) true t213 t214 _ A11.out).mono ?_); rintro e w29 ⟨rfl, hb⟩; clear A11; refine ⟨_, rfl, ?_⟩; have n0_ := Aside0.mk (blk_below (g := gb211) (o := .cells #[.int .i64 (wrap64 (Int.tmod a0 249)), .int .i64 a1, .int .i64 0] 32 (0, 0)) (by (with_reducible repeat (first | refine blk_drewN ?_ _ | refine blk_drew ?_ | refine blk_alloc ?_ _)); refine blk_far ?_ NB211_212.out _; (with_reducible repeat (first | refine blk_drewN ?_ _ | refine blk_drew ?_ | refine blk_alloc ?_ _)); refine blk_far ?_ NB211_212.out _; (with_reducible repeat (first | refine blk_drewN ?_ _ | refine blk_drew ?_ | refine blk_alloc ?_ _)); refine blk_far ?_ NB211_212.out _; (with_reducible repeat (first | refine blk_drewN ?_ _ | refine blk_drew ?_ | refine blk_alloc ?_ _)); exact BK211.out) hb); have n1_ := Aside0.mk (blk_below (g := gb212) (o := .cells #[.int .i64 (wrap64 (248 - (wrap64 (Int.tmod a0 249)))), .int .i64 (wrap64 (-a1)), .int .i64 0] 32 (0, 0)) (by (with_reducible repeat (first | refine blk_drewN ?_ _ | refine blk_drew ?_ | refine blk_alloc ?_ _)); refine blk_put (cs := #[.int .i64 (wrap64 (248 - (wrap64 (Int.tmod a0 249)))), .int .i64 (wrap64 (-a1)), .int .i64 0]) ?_ 2 _ rfl; (with_reducible repeat (first | refine blk_drewN ?_ _ | refine blk_drew ?_ | refine blk_alloc ?_ _)); refine blk_put (cs := #[.int .i64 (wrap64 (248 - (wrap64 (Int.tmod a0 249)))), .int .i64 0, .int .i64 0]) ?_ 1 _ rfl; (with_reducible repeat (first | refine blk_drewN ?_ _ | refine blk_drew ?_ | refine blk_alloc ?_ _)); refine blk_put (cs := #[.int .i64 0, .int .i64 0, .int .i64 0]) ?_ 0 _ rfl; (with_reducible repeat (first | refine blk_drewN ?_ _ | refine blk_drew ?_ | refine blk_alloc ?_ _)); exact BK212.out) hb); have n2_ := Aside0.mk (below_step (by repeat (first | (with_reducible first | exact HB.out | apply below_alloc | apply pw_below_drewN | apply below_drew1 | refine below_set ?_ GE211.out | refine below_set ?_ GE212.out) | exact HB.out)) hb); clear BK211; clear BK212; clear HB; have BK211 := n0_; have BK212 := n1_; have HB := n2_; clear n0_ n1_ n2_; (try clear hb); (try clear hb2); (try clear hk); (try clear hi); have hcz30_0 : w29.cell? ⟨gb212, 0, none⟩ = some (.int .i64 (wrap64 (248 - (wrap64 (Int.tmod a0 249))))) := (blk_cell BK212.out 0).trans rfl; have hcz30_1 : w29.cell? ⟨gb212, 1, none⟩ = some (.int .i64 (wrap64 (-a1))) := (blk_cell BK212.out 1).trans rfl; have hcz30_2 : w29.cell? ⟨gb212, 2, none⟩ = some (.int .i64 0) := (blk_cell BK212.out 2).trans rfl; have hfz30_0 := blk_frozen BK212.out 0; have hfz30_1 := blk_frozen BK212.out 1; have hfz30_2 := blk_frozen BK212.out 2) | ((with_reducible refine gate_callee (f := 23) rfl ?_); refine goesL_ (some 59) rfl rfl Try.func23 (by kernel_rfl) rfl #[.agg #[.int .i64 (wrap64 (248 - (wrap64 (Int.tmod a0 249)))), .int .i64 (wrap64 (-a1)), .int .i64 0], .int .i64 (wrap64 (31 - (wrap64 (Int.tmod a2 32)))), .int .i64 (wrap64 ((wrap64 (Int.tmod a3 8)) + 1)), .bool true] rfl (by (try simp only [List.map_toArray, List.map_cons, List.map_nil]); first | done | rfl | (simp only [List.length_drop, List.length_take]; rfl)) ?_; (with_reducible refine (drive_Vel.calls kj6 (wrap64 (248 - (wrap64 (Int.tmod a0 249)))) (wrap64 (-a1)) 0 (wrap64 (31 - (wrap64 (Int.tmod a2 32)))) (wrap64 ((wrap64 (Int.tmod a3 8)) + 1)) true t215 t216 _ A12.out).mono ?_); rintro e w31 ⟨rfl, hb⟩; clear A12; refine ⟨_, rfl, ?_⟩; have n0_ := Aside0.mk (blk_below (g := gb211) (o := .cells #[.int .i64 (wrap64 (Int.tmod a0 249)), .int .i64 a1, .int .i64 0] 32 (0, 0)) (by (with_reducible repeat (first | refine blk_drewN ?_ _ | refine blk_drew ?_ | refine blk_alloc ?_ _)); exact BK211.out) hb); have n1_ := Aside0.mk (blk_below (g := gb212) (o := .cells #[.int .i64 (wrap64 (248 - (wrap64 (Int.tmod a0 249)))), .int .i64 (wrap64 (-a1)), .int .i64 0] 32 (0, 0)) (by (with_reducible repeat (first | refine blk_drewN ?_ _ | refine blk_drew ?_ | refine blk_alloc ?_ _)); exact BK212.out) hb); have n2_ := Aside0.mk (below_step (by repeat (first | (with_reducible first | exact HB.out | apply below_alloc | apply pw_below_drewN | apply below_drew1 | refine below_set ?_ GE211.out | refine below_set ?_ GE212.out) | exact HB.out)) hb); clear BK211; clear BK212; clear HB; have BK211 := n0_; have BK212 := n1_; have HB := n2_; clear n0_ n1_ n2_; (try clear hb); (try clear hb2); (try clear hk); (try clear hi)))
                  have n0_ := Aside0.mk (blk_drew BK211.out)
                  have n1_ := Aside0.mk (blk_drew BK212.out)
                  have n2_ := Aside0.mk (below_drew1 HB.out)
                  clear BK211
                  clear BK212
                  clear HB
                  have BK211 := n0_
                  have BK212 := n1_
                  have HB := n2_
                  clear n0_ n1_ n2_
                  refine start_ (n := 40) (S := fun w' => w'.cell? ⟨gb211, 0, none⟩ = some (.int .i64 (wrap64 (Int.tmod a0 249))) ∧ w'.cell? ⟨gb211, 1, none⟩ = some (.int .i64 a1) ∧ w'.cell? ⟨gb211, 2, none⟩ = some (.int .i64 0) ∧ w'.cell? ⟨gb212, 0, none⟩ = some (.int .i64 (wrap64 (248 - (wrap64 (Int.tmod a0 249))))) ∧ w'.cell? ⟨gb212, 1, none⟩ = some (.int .i64 (wrap64 (-a1))) ∧ w'.cell? ⟨gb212, 2, none⟩ = some (.int .i64 0)) (ds := []) #[false, false, false, false, false, false, false, false, false, false, false, false, false, false, false, false, false, false, false, false, false, false, false, false, false, false, false, false, false, false, false, false, false, false, false, false, false, false, false, false] (by kernel_rfl) rfl rfl ⟨(blk_cell BK211.out 0).trans rfl, (blk_cell BK211.out 1).trans rfl, (blk_cell BK211.out 2).trans rfl, (blk_cell BK212.out 0).trans rfl, (blk_cell BK212.out 1).trans rfl, (blk_cell BK212.out 2).trans rfl⟩ (fun hHeld => ?_); refine with_tabW paternosterlaw13_DriveMirror.tab13 paternosterlaw13_DriveMirror.bits13 (fun HT_ HW_ => ?_)
                  generalize w31.drew = w32 at BK211 BK212 HB hHeld ⊢
                  refine pure_ (i := 0) (N := some 62) (v := ?_) (a' := ?_) #[true, false, false, false, false, false, false, false, false, false, false, false, false, false, false, false, false, false, false, false, false, false, false, false, false, false, false, false, false, false, false, false, false, false, false, false, false, false, false, false] rfl rfl (any_of HT_.out (by kernel_rfl)) (fun _ _ _ h => h) (Or.inl ⟨by rfl, ?_⟩) ?_ ?_
                  rotate_left
                  · intro w'
                    go_simp
                    with_reducible rfl
                  rotate_left
                  · simp only [Act.put, List.setIfInBounds_toArray, List.set_cons_zero, List.set_cons_succ, i64_w, i32_w]
                    rfl
                  refine pure_ (i := 1) (N := some 63) (v := ?_) (a' := ?_) #[true, true, false, false, false, false, false, false, false, false, false, false, false, false, false, false, false, false, false, false, false, false, false, false, false, false, false, false, false, false, false, false, false, false, false, false, false, false, false, false] rfl rfl (any_of HT_.out (by kernel_rfl)) (fun _ _ _ h => h) (Or.inl ⟨by rfl, ?_⟩) ?_ ?_
                  rotate_left
                  · intro w'
                    go_simp
                    with_reducible rfl
                  rotate_left
                  · simp only [Act.put, List.setIfInBounds_toArray, List.set_cons_zero, List.set_cons_succ, i64_w, i32_w]
                    rfl
                  refine pure_ (i := 2) (N := some 64) (v := ?_) (a' := ?_) #[true, true, true, false, false, false, false, false, false, false, false, false, false, false, false, false, false, false, false, false, false, false, false, false, false, false, false, false, false, false, false, false, false, false, false, false, false, false, false, false] rfl rfl (any_of HT_.out (by kernel_rfl)) (fun _ _ _ h => h) (Or.inl ⟨by rfl, ?_⟩) ?_ ?_
                  rotate_left
                  · intro w'
                    go_simp
                    with_reducible rfl
                  rotate_left
                  · simp only [Act.put, List.setIfInBounds_toArray, List.set_cons_zero, List.set_cons_succ, i64_w, i32_w]
                    rfl
                  refine pure_ (i := 3) (N := some 65) (v := ?_) (a' := ?_) #[true, true, true, true, false, false, false, false, false, false, false, false, false, false, false, false, false, false, false, false, false, false, false, false, false, false, false, false, false, false, false, false, false, false, false, false, false, false, false, false] rfl rfl (any_of HT_.out (by kernel_rfl)) (fun _ _ _ h => h) (Or.inl ⟨by rfl, ?_⟩) ?_ ?_
                  rotate_left
                  · intro w'
                    go_simp
                    with_reducible rfl
                  rotate_left
                  · simp only [Act.put, List.setIfInBounds_toArray, List.set_cons_zero, List.set_cons_succ, i64_w, i32_w]
                    rfl
                  refine pure_ (i := 4) (N := some 66) (v := ?_) (a' := ?_) #[true, true, true, true, true, false, false, false, false, false, false, false, false, false, false, false, false, false, false, false, false, false, false, false, false, false, false, false, false, false, false, false, false, false, false, false, false, false, false, false] rfl rfl (any_of HT_.out (by kernel_rfl)) (fun _ _ _ h => h) (Or.inl ⟨by rfl, ?_⟩) ?_ ?_
                  rotate_left
                  · intro w'
                    go_simp
                    with_reducible rfl
                  rotate_left
                  · simp only [Act.put, List.setIfInBounds_toArray, List.set_cons_zero, List.set_cons_succ, i64_w, i32_w]
                    rfl
                  refine pure_ (i := 5) (N := some 67) (v := ?_) (a' := ?_) #[true, true, true, true, true, true, false, false, false, false, false, false, false, false, false, false, false, false, false, false, false, false, false, false, false, false, false, false, false, false, false, false, false, false, false, false, false, false, false, false] rfl rfl (any_of HT_.out (by kernel_rfl)) (fun _ _ _ h => h) (Or.inl ⟨by rfl, ?_⟩) ?_ ?_
                  rotate_left
                  · intro w'
                    go_simp
                    with_reducible rfl
                  rotate_left
                  · simp only [Act.put, List.setIfInBounds_toArray, List.set_cons_zero, List.set_cons_succ, i64_w, i32_w]
                    rfl
                  refine pure_ (i := 6) (N := some 68) (v := ?_) (a' := ?_) #[true, true, true, true, true, true, true, false, false, false, false, false, false, false, false, false, false, false, false, false, false, false, false, false, false, false, false, false, false, false, false, false, false, false, false, false, false, false, false, false] rfl rfl (any_of HT_.out (by kernel_rfl)) (fun _ _ _ h => h) (Or.inl ⟨by rfl, ?_⟩) ?_ ?_
                  rotate_left
                  · intro w'
                    go_simp
                    with_reducible rfl
                  rotate_left
                  · simp only [Act.put, List.setIfInBounds_toArray, List.set_cons_zero, List.set_cons_succ, i64_w, i32_w]
                    rfl
                  refine pure_ (i := 7) (N := some 69) (v := ?_) (a' := ?_) #[true, true, true, true, true, true, true, true, false, false, false, false, false, false, false, false, false, false, false, false, false, false, false, false, false, false, false, false, false, false, false, false, false, false, false, false, false, false, false, false] rfl rfl (any_of HT_.out (by kernel_rfl)) (fun _ _ _ h => h) (Or.inl ⟨by rfl, ?_⟩) ?_ ?_
                  rotate_left
                  · intro w'
                    go_simp
                    with_reducible rfl
                  rotate_left
                  · simp only [Act.put, List.setIfInBounds_toArray, List.set_cons_zero, List.set_cons_succ, i64_w, i32_w]
                    rfl
                  refine pure_ (i := 8) (N := some 70) (v := ?_) (a' := ?_) #[true, true, true, true, true, true, true, true, true, false, false, false, false, false, false, false, false, false, false, false, false, false, false, false, false, false, false, false, false, false, false, false, false, false, false, false, false, false, false, false] rfl rfl (any_of HT_.out (by kernel_rfl)) (fun _ _ _ h => h) (Or.inl ⟨by rfl, ?_⟩) ?_ ?_
                  rotate_left
                  · intro w'
                    go_simp
                    with_reducible rfl
                  rotate_left
                  · simp only [Act.put, List.setIfInBounds_toArray, List.set_cons_zero, List.set_cons_succ, i64_w, i32_w]
                    rfl
                  refine pure_ (i := 9) (N := some 71) (v := ?_) (a' := ?_) #[true, true, true, true, true, true, true, true, true, true, false, false, false, false, false, false, false, false, false, false, false, false, false, false, false, false, false, false, false, false, false, false, false, false, false, false, false, false, false, false] rfl rfl (any_of HT_.out (by kernel_rfl)) (fun _ _ _ h => h) (Or.inl ⟨by rfl, ?_⟩) ?_ ?_
                  rotate_left
                  · intro w'
                    go_simp
                    with_reducible rfl
                  rotate_left
                  · simp only [Act.put, List.setIfInBounds_toArray, List.set_cons_zero, List.set_cons_succ, i64_w, i32_w]
                    rfl
                  refine pure_ (i := 11) (N := some 73) (v := ?_) (a' := ?_) #[true, true, true, true, true, true, true, true, true, true, false, true, false, false, false, false, false, false, false, false, false, false, false, false, false, false, false, false, false, false, false, false, false, false, false, false, false, false, false, false] rfl rfl (any_of HT_.out (by kernel_rfl)) (fun _ _ _ h => h) (Or.inl ⟨by rfl, ?_⟩) ?_ ?_
                  rotate_left
                  · intro w'
                    go_simp
                    with_reducible rfl
                  rotate_left
                  · simp only [Act.put, List.setIfInBounds_toArray, List.set_cons_zero, List.set_cons_succ, i64_w, i32_w]
                    rfl
                  refine pure_ (i := 14) (N := some 76) (v := ?_) (a' := ?_) #[true, true, true, true, true, true, true, true, true, true, false, true, false, false, true, false, false, false, false, false, false, false, false, false, false, false, false, false, false, false, false, false, false, false, false, false, false, false, false, false] rfl rfl (any_of HT_.out (by kernel_rfl)) (fun _ _ _ h => h) (Or.inl ⟨by rfl, ?_⟩) ?_ ?_
                  rotate_left
                  · intro w'
                    go_simp
                    with_reducible rfl
                  rotate_left
                  · simp only [Act.put, List.setIfInBounds_toArray, List.set_cons_zero, List.set_cons_succ, i64_w, i32_w]
                    rfl
                  refine take_ (i := 10) (N := some 72) (v := ?_) (a' := ?_) #[true, true, true, true, true, true, true, true, true, true, true, true, false, false, true, false, false, false, false, false, false, false, false, false, false, false, false, false, false, false, false, false, false, false, false, false, false, false, false, false] rfl rfl (take_ofW HT_.out HW_.out (by kernel_rfl)) (fun _ _ _ h => h) (Or.inl ⟨by rfl, ?_⟩) hHeld ?_ ?_
                  rotate_left
                  · rintro w' ⟨s0, s1, s2, s3, s4, s5⟩
                    go_simp
                    with_reducible rfl
                  rotate_left
                  · simp only [Act.put, List.setIfInBounds_toArray, List.set_cons_zero, List.set_cons_succ, i64_w, i32_w]
                    rfl
                  refine take_ (i := 13) (N := some 75) (v := ?_) (a' := ?_) #[true, true, true, true, true, true, true, true, true, true, true, true, false, true, true, false, false, false, false, false, false, false, false, false, false, false, false, false, false, false, false, false, false, false, false, false, false, false, false, false] rfl rfl (take_ofW HT_.out HW_.out (by kernel_rfl)) (fun _ _ _ h => h) (Or.inl ⟨by rfl, ?_⟩) hHeld ?_ ?_
                  rotate_left
                  · rintro w' ⟨s0, s1, s2, s3, s4, s5⟩
                    go_simp
                    with_reducible rfl
                  rotate_left
                  · simp only [Act.put, List.setIfInBounds_toArray, List.set_cons_zero, List.set_cons_succ, i64_w, i32_w]
                    rfl
                  refine one_ (i := 12) (N := some 74) #[true, true, true, true, true, true, true, true, true, true, true, true, true, true, true, false, false, false, false, false, false, false, false, false, false, false, false, false, false, false, false, false, false, false, false, false, false, false, false, false] rfl rfl (one_of HT_.out (by kernel_rfl)) (by decide) (fun K hK => ?_)
                  refine goes_ Try.func28 (by kernel_rfl) rfl #[.agg #[.int .i64 (wrap64 (Int.tmod a0 249)), .int .i64 a1, .int .i64 0], .int .i64 (wrap64 (Int.tmod a2 32))] (by rfl) rfl rfl (by (try simp only [List.map_toArray, List.map_cons, List.map_nil]); first | done | rfl | (simp only [List.length_drop, List.length_take]; rfl)) ?_
                  with_reducible refine (drive_Way.calls (wrap64 (Int.tmod a0 249)) a1 0 (wrap64 (Int.tmod a2 32)) t217 _ A15.out).mono ?_
                  rintro e w33 ⟨rfl, hb⟩
                  refine ⟨_, rfl, ?_⟩
                  have n0_ := Aside0.mk (blk_below (g := gb211) (o := .cells #[.int .i64 (wrap64 (Int.tmod a0 249)), .int .i64 a1, .int .i64 0] 32 (0, 0)) (by (with_reducible repeat (first | refine blk_drewN ?_ _ | refine blk_drew ?_ | refine blk_alloc ?_ _)); exact BK211.out) hb)
                  have n1_ := Aside0.mk (blk_below (g := gb212) (o := .cells #[.int .i64 (wrap64 (248 - (wrap64 (Int.tmod a0 249)))), .int .i64 (wrap64 (-a1)), .int .i64 0] 32 (0, 0)) (by (with_reducible repeat (first | refine blk_drewN ?_ _ | refine blk_drew ?_ | refine blk_alloc ?_ _)); exact BK212.out) hb)
                  have n2_ := Aside0.mk (below_step (by repeat (first | (with_reducible first | exact HB.out | apply below_alloc | apply pw_below_drewN | apply below_drew1 | refine below_set ?_ GE211.out | refine below_set ?_ GE212.out) | exact HB.out)) hb)
                  clear BK211
                  clear BK212
                  clear HB
                  have BK211 := n0_
                  have BK212 := n1_
                  have HB := n2_
                  clear n0_ n1_ n2_
                  (try clear hb)
                  (try clear hb2)
                  (try clear hk)
                  (try clear hi)
                  refine hK.out _ _ ⟨(blk_cell BK211.out 0).trans rfl, (blk_cell BK211.out 1).trans rfl, (blk_cell BK211.out 2).trans rfl, (blk_cell BK212.out 0).trans rfl, (blk_cell BK212.out 1).trans rfl, (blk_cell BK212.out 2).trans rfl⟩ (fun hHeld => ?_)
                  clear hK K
                  refine norm_ (a' := ?_) ?_ ?_
                  rotate_left
                  · show Act.put _ (some 74) _ = _
                    simp only [Act.put, List.setIfInBounds_toArray, List.set_cons_zero, List.set_cons_succ, i64_w, i32_w]
                    rfl
                  refine one_ (i := 15) (N := some 77) #[true, true, true, true, true, true, true, true, true, true, true, true, true, true, true, true, false, false, false, false, false, false, false, false, false, false, false, false, false, false, false, false, false, false, false, false, false, false, false, false] rfl rfl (one_of HT_.out (by kernel_rfl)) (by decide) (fun K hK => ?_)
                  refine goes_ Try.func28 (by kernel_rfl) rfl #[.agg #[.int .i64 (wrap64 (248 - (wrap64 (Int.tmod a0 249)))), .int .i64 (wrap64 (-a1)), .int .i64 0], .int .i64 (wrap64 (31 - (wrap64 (Int.tmod a2 32))))] (by rfl) rfl rfl (by (try simp only [List.map_toArray, List.map_cons, List.map_nil]); first | done | rfl | (simp only [List.length_drop, List.length_take]; rfl)) ?_
                  with_reducible refine (drive_Way.calls (wrap64 (248 - (wrap64 (Int.tmod a0 249)))) (wrap64 (-a1)) 0 (wrap64 (31 - (wrap64 (Int.tmod a2 32)))) t218 _ A16.out).mono ?_
                  rintro e w34 ⟨rfl, hb⟩
                  refine ⟨_, rfl, ?_⟩
                  have n0_ := Aside0.mk (blk_below (g := gb211) (o := .cells #[.int .i64 (wrap64 (Int.tmod a0 249)), .int .i64 a1, .int .i64 0] 32 (0, 0)) (by (with_reducible repeat (first | refine blk_drewN ?_ _ | refine blk_drew ?_ | refine blk_alloc ?_ _)); exact BK211.out) hb)
                  have n1_ := Aside0.mk (blk_below (g := gb212) (o := .cells #[.int .i64 (wrap64 (248 - (wrap64 (Int.tmod a0 249)))), .int .i64 (wrap64 (-a1)), .int .i64 0] 32 (0, 0)) (by (with_reducible repeat (first | refine blk_drewN ?_ _ | refine blk_drew ?_ | refine blk_alloc ?_ _)); exact BK212.out) hb)
                  have n2_ := Aside0.mk (below_step (by repeat (first | (with_reducible first | exact HB.out | apply below_alloc | apply pw_below_drewN | apply below_drew1 | refine below_set ?_ GE211.out | refine below_set ?_ GE212.out) | exact HB.out)) hb)
                  clear BK211
                  clear BK212
                  clear HB
                  have BK211 := n0_
                  have BK212 := n1_
                  have HB := n2_
                  clear n0_ n1_ n2_
                  (try clear hb)
                  (try clear hb2)
                  (try clear hk)
                  (try clear hi)
                  refine hK.out _ _ ⟨(blk_cell BK211.out 0).trans rfl, (blk_cell BK211.out 1).trans rfl, (blk_cell BK211.out 2).trans rfl, (blk_cell BK212.out 0).trans rfl, (blk_cell BK212.out 1).trans rfl, (blk_cell BK212.out 2).trans rfl⟩ (fun hHeld => ?_)
                  clear hK K
                  refine norm_ (a' := ?_) ?_ ?_
                  rotate_left
                  · show Act.put _ (some 77) _ = _
                    simp only [Act.put, List.setIfInBounds_toArray, List.set_cons_zero, List.set_cons_succ, i64_w, i32_w]
                    rfl
                  refine pure_ (i := 16) (N := some 78) (v := ?_) (a' := ?_) #[true, true, true, true, true, true, true, true, true, true, true, true, true, true, true, true, true, false, false, false, false, false, false, false, false, false, false, false, false, false, false, false, false, false, false, false, false, false, false, false] rfl rfl (any_of HT_.out (by kernel_rfl)) (fun _ _ _ h => h) (Or.inl ⟨by rfl, ?_⟩) ?_ ?_
                  rotate_left
                  · intro w'
                    go_simp
                    with_reducible rfl
                  rotate_left
                  · simp only [Act.put, List.setIfInBounds_toArray, List.set_cons_zero, List.set_cons_succ, i64_w, i32_w]
                    rfl
                  refine pure_ (i := 17) (N := some 79) (v := ?_) (a' := ?_) #[true, true, true, true, true, true, true, true, true, true, true, true, true, true, true, true, true, true, false, false, false, false, false, false, false, false, false, false, false, false, false, false, false, false, false, false, false, false, false, false] rfl rfl (any_of HT_.out (by kernel_rfl)) (fun _ _ _ h => h) (Or.inl ⟨by rfl, ?_⟩) ?_ ?_
                  rotate_left
                  · intro w'
                    go_simp
                    with_reducible rfl
                  rotate_left
                  · simp only [Act.put, List.setIfInBounds_toArray, List.set_cons_zero, List.set_cons_succ, i64_w, i32_w]
                    rfl
                  refine pure_ (i := 18) (N := some 80) (v := ?_) (a' := ?_) #[true, true, true, true, true, true, true, true, true, true, true, true, true, true, true, true, true, true, true, false, false, false, false, false, false, false, false, false, false, false, false, false, false, false, false, false, false, false, false, false] rfl rfl (any_of HT_.out (by kernel_rfl)) (fun _ _ _ h => h) (Or.inl ⟨by rfl, ?_⟩) ?_ ?_
                  rotate_left
                  · intro w'
                    go_simp
                    with_reducible rfl
                  rotate_left
                  · simp only [Act.put, List.setIfInBounds_toArray, List.set_cons_zero, List.set_cons_succ, i64_w, i32_w]
                    rfl
                  refine pure_ (i := 19) (N := some 81) (v := ?_) (a' := ?_) #[true, true, true, true, true, true, true, true, true, true, true, true, true, true, true, true, true, true, true, true, false, false, false, false, false, false, false, false, false, false, false, false, false, false, false, false, false, false, false, false] rfl rfl (any_of HT_.out (by kernel_rfl)) (fun _ _ _ h => h) (Or.inl ⟨by rfl, ?_⟩) ?_ ?_
                  rotate_left
                  · intro w'
                    go_simp
                    with_reducible rfl
                  rotate_left
                  · simp only [Act.put, List.setIfInBounds_toArray, List.set_cons_zero, List.set_cons_succ, i64_w, i32_w]
                    rfl
                  refine pure_ (i := 21) (N := some 83) (v := ?_) (a' := ?_) #[true, true, true, true, true, true, true, true, true, true, true, true, true, true, true, true, true, true, true, true, false, true, false, false, false, false, false, false, false, false, false, false, false, false, false, false, false, false, false, false] rfl rfl (any_of HT_.out (by kernel_rfl)) (fun _ _ _ h => h) (Or.inl ⟨by rfl, ?_⟩) ?_ ?_
                  rotate_left
                  · intro w'
                    go_simp
                    with_reducible rfl
                  rotate_left
                  · simp only [Act.put, List.setIfInBounds_toArray, List.set_cons_zero, List.set_cons_succ, i64_w, i32_w]
                    rfl
                  refine pure_ (i := 24) (N := some 86) (v := ?_) (a' := ?_) #[true, true, true, true, true, true, true, true, true, true, true, true, true, true, true, true, true, true, true, true, false, true, false, false, true, false, false, false, false, false, false, false, false, false, false, false, false, false, false, false] rfl rfl (any_of HT_.out (by kernel_rfl)) (fun _ _ _ h => h) (Or.inl ⟨by rfl, ?_⟩) ?_ ?_
                  rotate_left
                  · intro w'
                    go_simp
                    with_reducible rfl
                  rotate_left
                  · simp only [Act.put, List.setIfInBounds_toArray, List.set_cons_zero, List.set_cons_succ, i64_w, i32_w]
                    rfl
                  refine take_ (i := 20) (N := some 82) (v := ?_) (a' := ?_) #[true, true, true, true, true, true, true, true, true, true, true, true, true, true, true, true, true, true, true, true, true, true, false, false, true, false, false, false, false, false, false, false, false, false, false, false, false, false, false, false] rfl rfl (take_ofW HT_.out HW_.out (by kernel_rfl)) (fun _ _ _ h => h) (Or.inl ⟨by rfl, ?_⟩) hHeld ?_ ?_
                  rotate_left
                  · rintro w' ⟨s0, s1, s2, s3, s4, s5⟩
                    go_simp
                    with_reducible rfl
                  rotate_left
                  · simp only [Act.put, List.setIfInBounds_toArray, List.set_cons_zero, List.set_cons_succ, i64_w, i32_w]
                    rfl
                  refine take_ (i := 23) (N := some 85) (v := ?_) (a' := ?_) #[true, true, true, true, true, true, true, true, true, true, true, true, true, true, true, true, true, true, true, true, true, true, false, true, true, false, false, false, false, false, false, false, false, false, false, false, false, false, false, false] rfl rfl (take_ofW HT_.out HW_.out (by kernel_rfl)) (fun _ _ _ h => h) (Or.inl ⟨by rfl, ?_⟩) hHeld ?_ ?_
                  rotate_left
                  · rintro w' ⟨s0, s1, s2, s3, s4, s5⟩
                    go_simp
                    with_reducible rfl
                  rotate_left
                  · simp only [Act.put, List.setIfInBounds_toArray, List.set_cons_zero, List.set_cons_succ, i64_w, i32_w]
                    rfl
                  refine one_ (i := 22) (N := some 84) #[true, true, true, true, true, true, true, true, true, true, true, true, true, true, true, true, true, true, true, true, true, true, true, true, true, false, false, false, false, false, false, false, false, false, false, false, false, false, false, false] rfl rfl (one_of HT_.out (by kernel_rfl)) (by decide) (fun K hK => ?_)
                  refine goes_ Try.func30 (by kernel_rfl) rfl #[.agg #[.int .i64 (wrap64 (Int.tmod a0 249)), .int .i64 a1, .int .i64 0], .int .i64 (wrap64 (Int.tmod a2 32))] (by rfl) rfl rfl (by (try simp only [List.map_toArray, List.map_cons, List.map_nil]); first | done | rfl | (simp only [List.length_drop, List.length_take]; rfl)) ?_
                  with_reducible refine (drive_There.calls (wrap64 (Int.tmod a0 249)) a1 0 (wrap64 (Int.tmod a2 32)) t219 _ A18.out).mono ?_
                  rintro e w35 ⟨rfl, hb⟩
                  refine ⟨_, rfl, ?_⟩
                  have n0_ := Aside0.mk (blk_below (g := gb211) (o := .cells #[.int .i64 (wrap64 (Int.tmod a0 249)), .int .i64 a1, .int .i64 0] 32 (0, 0)) (by (with_reducible repeat (first | refine blk_drewN ?_ _ | refine blk_drew ?_ | refine blk_alloc ?_ _)); exact BK211.out) hb)
                  have n1_ := Aside0.mk (blk_below (g := gb212) (o := .cells #[.int .i64 (wrap64 (248 - (wrap64 (Int.tmod a0 249)))), .int .i64 (wrap64 (-a1)), .int .i64 0] 32 (0, 0)) (by (with_reducible repeat (first | refine blk_drewN ?_ _ | refine blk_drew ?_ | refine blk_alloc ?_ _)); exact BK212.out) hb)
                  have n2_ := Aside0.mk (below_step (by repeat (first | (with_reducible first | exact HB.out | apply below_alloc | apply pw_below_drewN | apply below_drew1 | refine below_set ?_ GE211.out | refine below_set ?_ GE212.out) | exact HB.out)) hb)
                  clear BK211
                  clear BK212
                  clear HB
                  have BK211 := n0_
                  have BK212 := n1_
                  have HB := n2_
                  clear n0_ n1_ n2_
                  (try clear hb)
                  (try clear hb2)
                  (try clear hk)
                  (try clear hi)
                  refine hK.out _ _ ⟨(blk_cell BK211.out 0).trans rfl, (blk_cell BK211.out 1).trans rfl, (blk_cell BK211.out 2).trans rfl, (blk_cell BK212.out 0).trans rfl, (blk_cell BK212.out 1).trans rfl, (blk_cell BK212.out 2).trans rfl⟩ (fun hHeld => ?_)
                  clear hK K
                  refine norm_ (a' := ?_) ?_ ?_
                  rotate_left
                  · show Act.put _ (some 84) _ = _
                    simp only [Act.put, List.setIfInBounds_toArray, List.set_cons_zero, List.set_cons_succ, i64_w, i32_w]
                    rfl
                  refine one_ (i := 25) (N := some 87) #[true, true, true, true, true, true, true, true, true, true, true, true, true, true, true, true, true, true, true, true, true, true, true, true, true, true, false, false, false, false, false, false, false, false, false, false, false, false, false, false] rfl rfl (one_of HT_.out (by kernel_rfl)) (by decide) (fun K hK => ?_)
                  refine goes_ Try.func30 (by kernel_rfl) rfl #[.agg #[.int .i64 (wrap64 (248 - (wrap64 (Int.tmod a0 249)))), .int .i64 (wrap64 (-a1)), .int .i64 0], .int .i64 (wrap64 (31 - (wrap64 (Int.tmod a2 32))))] (by rfl) rfl rfl (by (try simp only [List.map_toArray, List.map_cons, List.map_nil]); first | done | rfl | (simp only [List.length_drop, List.length_take]; rfl)) ?_
                  with_reducible refine (drive_There.calls (wrap64 (248 - (wrap64 (Int.tmod a0 249)))) (wrap64 (-a1)) 0 (wrap64 (31 - (wrap64 (Int.tmod a2 32)))) t220 _ A19.out).mono ?_
                  rintro e w36 ⟨rfl, hb⟩
                  refine ⟨_, rfl, ?_⟩
                  have n0_ := Aside0.mk (blk_below (g := gb211) (o := .cells #[.int .i64 (wrap64 (Int.tmod a0 249)), .int .i64 a1, .int .i64 0] 32 (0, 0)) (by (with_reducible repeat (first | refine blk_drewN ?_ _ | refine blk_drew ?_ | refine blk_alloc ?_ _)); exact BK211.out) hb)
                  have n1_ := Aside0.mk (blk_below (g := gb212) (o := .cells #[.int .i64 (wrap64 (248 - (wrap64 (Int.tmod a0 249)))), .int .i64 (wrap64 (-a1)), .int .i64 0] 32 (0, 0)) (by (with_reducible repeat (first | refine blk_drewN ?_ _ | refine blk_drew ?_ | refine blk_alloc ?_ _)); exact BK212.out) hb)
                  have n2_ := Aside0.mk (below_step (by repeat (first | (with_reducible first | exact HB.out | apply below_alloc | apply pw_below_drewN | apply below_drew1 | refine below_set ?_ GE211.out | refine below_set ?_ GE212.out) | exact HB.out)) hb)
                  clear BK211
                  clear BK212
                  clear HB
                  have BK211 := n0_
                  have BK212 := n1_
                  have HB := n2_
                  clear n0_ n1_ n2_
                  (try clear hb)
                  (try clear hb2)
                  (try clear hk)
                  (try clear hi)
                  refine hK.out _ _ ⟨(blk_cell BK211.out 0).trans rfl, (blk_cell BK211.out 1).trans rfl, (blk_cell BK211.out 2).trans rfl, (blk_cell BK212.out 0).trans rfl, (blk_cell BK212.out 1).trans rfl, (blk_cell BK212.out 2).trans rfl⟩ (fun hHeld => ?_)
                  clear hK K
                  refine norm_ (a' := ?_) ?_ ?_
                  rotate_left
                  · show Act.put _ (some 87) _ = _
                    simp only [Act.put, List.setIfInBounds_toArray, List.set_cons_zero, List.set_cons_succ, i64_w, i32_w]
                    rfl
                  refine pure_ (i := 26) (N := some 88) (v := ?_) (a' := ?_) #[true, true, true, true, true, true, true, true, true, true, true, true, true, true, true, true, true, true, true, true, true, true, true, true, true, true, true, false, false, false, false, false, false, false, false, false, false, false, false, false] rfl rfl (any_of HT_.out (by kernel_rfl)) (fun _ _ _ h => h) (Or.inl ⟨by rfl, ?_⟩) ?_ ?_
                  rotate_left
                  · intro w'
                    go_simp
                    with_reducible rfl
                  rotate_left
                  · simp only [Act.put, List.setIfInBounds_toArray, List.set_cons_zero, List.set_cons_succ, i64_w, i32_w]
                    rfl
                  refine pure_ (i := 27) (N := some 89) (v := ?_) (a' := ?_) #[true, true, true, true, true, true, true, true, true, true, true, true, true, true, true, true, true, true, true, true, true, true, true, true, true, true, true, true, false, false, false, false, false, false, false, false, false, false, false, false] rfl rfl (any_of HT_.out (by kernel_rfl)) (fun _ _ _ h => h) (Or.inl ⟨by rfl, ?_⟩) ?_ ?_
                  rotate_left
                  · intro w'
                    go_simp
                    with_reducible rfl
                  rotate_left
                  · simp only [Act.put, List.setIfInBounds_toArray, List.set_cons_zero, List.set_cons_succ, i64_w, i32_w]
                    rfl
                  refine pure_ (i := 28) (N := some 90) (v := ?_) (a' := ?_) #[true, true, true, true, true, true, true, true, true, true, true, true, true, true, true, true, true, true, true, true, true, true, true, true, true, true, true, true, true, false, false, false, false, false, false, false, false, false, false, false] rfl rfl (any_of HT_.out (by kernel_rfl)) (fun _ _ _ h => h) (Or.inl ⟨by rfl, ?_⟩) ?_ ?_
                  rotate_left
                  · intro w'
                    go_simp
                    with_reducible rfl
                  rotate_left
                  · simp only [Act.put, List.setIfInBounds_toArray, List.set_cons_zero, List.set_cons_succ, i64_w, i32_w]
                    rfl
                  refine pure_ (i := 30) (N := some 92) (v := ?_) (a' := ?_) #[true, true, true, true, true, true, true, true, true, true, true, true, true, true, true, true, true, true, true, true, true, true, true, true, true, true, true, true, true, false, true, false, false, false, false, false, false, false, false, false] rfl rfl (any_of HT_.out (by kernel_rfl)) (fun _ _ _ h => h) (Or.inl ⟨by rfl, ?_⟩) ?_ ?_
                  rotate_left
                  · intro w'
                    go_simp
                    with_reducible rfl
                  rotate_left
                  · simp only [Act.put, List.setIfInBounds_toArray, List.set_cons_zero, List.set_cons_succ, i64_w, i32_w]
                    rfl
                  refine pure_ (i := 31) (N := some 93) (v := ?_) (a' := ?_) #[true, true, true, true, true, true, true, true, true, true, true, true, true, true, true, true, true, true, true, true, true, true, true, true, true, true, true, true, true, false, true, true, false, false, false, false, false, false, false, false] rfl rfl (any_of HT_.out (by kernel_rfl)) (fun _ _ _ h => h) (Or.inl ⟨by rfl, ?_⟩) ?_ ?_
                  rotate_left
                  · intro w'
                    go_simp
                    with_reducible rfl
                  rotate_left
                  · simp only [Act.put, List.setIfInBounds_toArray, List.set_cons_zero, List.set_cons_succ, i64_w, i32_w]
                    rfl
                  refine pure_ (i := 34) (N := some 96) (v := ?_) (a' := ?_) #[true, true, true, true, true, true, true, true, true, true, true, true, true, true, true, true, true, true, true, true, true, true, true, true, true, true, true, true, true, false, true, true, false, false, true, false, false, false, false, false] rfl rfl (any_of HT_.out (by kernel_rfl)) (fun _ _ _ h => h) (Or.inl ⟨by rfl, ?_⟩) ?_ ?_
                  rotate_left
                  · intro w'
                    go_simp
                    with_reducible rfl
                  rotate_left
                  · simp only [Act.put, List.setIfInBounds_toArray, List.set_cons_zero, List.set_cons_succ, i64_w, i32_w]
                    rfl
                  refine pure_ (i := 35) (N := some 97) (v := ?_) (a' := ?_) #[true, true, true, true, true, true, true, true, true, true, true, true, true, true, true, true, true, true, true, true, true, true, true, true, true, true, true, true, true, false, true, true, false, false, true, true, false, false, false, false] rfl rfl (any_of HT_.out (by kernel_rfl)) (fun _ _ _ h => h) (Or.inl ⟨by rfl, ?_⟩) ?_ ?_
                  rotate_left
                  · intro w'
                    go_simp
                    with_reducible rfl
                  rotate_left
                  · simp only [Act.put, List.setIfInBounds_toArray, List.set_cons_zero, List.set_cons_succ, i64_w, i32_w]
                    rfl
                  refine take_ (i := 29) (N := some 91) (v := ?_) (a' := ?_) #[true, true, true, true, true, true, true, true, true, true, true, true, true, true, true, true, true, true, true, true, true, true, true, true, true, true, true, true, true, true, true, true, false, false, true, true, false, false, false, false] rfl rfl (take_ofW HT_.out HW_.out (by kernel_rfl)) (fun _ _ _ h => h) (Or.inl ⟨by rfl, ?_⟩) hHeld ?_ ?_
                  rotate_left
                  · rintro w' ⟨s0, s1, s2, s3, s4, s5⟩
                    go_simp
                    with_reducible rfl
                  rotate_left
                  · simp only [Act.put, List.setIfInBounds_toArray, List.set_cons_zero, List.set_cons_succ, i64_w, i32_w]
                    rfl
                  refine take_ (i := 33) (N := some 95) (v := ?_) (a' := ?_) #[true, true, true, true, true, true, true, true, true, true, true, true, true, true, true, true, true, true, true, true, true, true, true, true, true, true, true, true, true, true, true, true, false, true, true, true, false, false, false, false] rfl rfl (take_ofW HT_.out HW_.out (by kernel_rfl)) (fun _ _ _ h => h) (Or.inl ⟨by rfl, ?_⟩) hHeld ?_ ?_
                  rotate_left
                  · rintro w' ⟨s0, s1, s2, s3, s4, s5⟩
                    go_simp
                    with_reducible rfl
                  rotate_left
                  · simp only [Act.put, List.setIfInBounds_toArray, List.set_cons_zero, List.set_cons_succ, i64_w, i32_w]
                    rfl
                  refine one_ (i := 32) (N := some 94) #[true, true, true, true, true, true, true, true, true, true, true, true, true, true, true, true, true, true, true, true, true, true, true, true, true, true, true, true, true, true, true, true, true, true, true, true, false, false, false, false] rfl rfl (one_of HT_.out (by kernel_rfl)) (by decide) (fun K hK => ?_)
                  refine goes_ Try.func26 (by kernel_rfl) rfl #[.agg #[.int .i64 (wrap64 (Int.tmod a0 249)), .int .i64 a1, .int .i64 0], .int .i64 t213, .bool t214] (by rfl) rfl rfl (by (try simp only [List.map_toArray, List.map_cons, List.map_nil]); first | done | rfl | (simp only [List.length_drop, List.length_take]; rfl)) ?_
                  with_reducible refine (drive_What.calls kj6 (wrap64 (Int.tmod a0 249)) a1 0 t213 t214 t221 _ A21.out).mono ?_
                  rintro e w37 ⟨rfl, hb⟩
                  refine ⟨_, rfl, ?_⟩
                  have n0_ := Aside0.mk (blk_below (g := gb211) (o := .cells #[.int .i64 (wrap64 (Int.tmod a0 249)), .int .i64 a1, .int .i64 0] 32 (0, 0)) (by (with_reducible repeat (first | refine blk_drewN ?_ _ | refine blk_drew ?_ | refine blk_alloc ?_ _)); exact BK211.out) hb)
                  have n1_ := Aside0.mk (blk_below (g := gb212) (o := .cells #[.int .i64 (wrap64 (248 - (wrap64 (Int.tmod a0 249)))), .int .i64 (wrap64 (-a1)), .int .i64 0] 32 (0, 0)) (by (with_reducible repeat (first | refine blk_drewN ?_ _ | refine blk_drew ?_ | refine blk_alloc ?_ _)); exact BK212.out) hb)
                  have n2_ := Aside0.mk (below_step (by repeat (first | (with_reducible first | exact HB.out | apply below_alloc | apply pw_below_drewN | apply below_drew1 | refine below_set ?_ GE211.out | refine below_set ?_ GE212.out) | exact HB.out)) hb)
                  clear BK211
                  clear BK212
                  clear HB
                  have BK211 := n0_
                  have BK212 := n1_
                  have HB := n2_
                  clear n0_ n1_ n2_
                  (try clear hb)
                  (try clear hb2)
                  (try clear hk)
                  (try clear hi)
                  refine hK.out _ _ ⟨(blk_cell BK211.out 0).trans rfl, (blk_cell BK211.out 1).trans rfl, (blk_cell BK211.out 2).trans rfl, (blk_cell BK212.out 0).trans rfl, (blk_cell BK212.out 1).trans rfl, (blk_cell BK212.out 2).trans rfl⟩ (fun hHeld => ?_)
                  clear hK K
                  refine norm_ (a' := ?_) ?_ ?_
                  rotate_left
                  · show Act.put _ (some 94) _ = _
                    simp only [Act.put, List.setIfInBounds_toArray, List.set_cons_zero, List.set_cons_succ, i64_w, i32_w]
                    rfl
                  refine one_ (i := 36) (N := some 98) #[true, true, true, true, true, true, true, true, true, true, true, true, true, true, true, true, true, true, true, true, true, true, true, true, true, true, true, true, true, true, true, true, true, true, true, true, true, false, false, false] rfl rfl (one_of HT_.out (by kernel_rfl)) (by decide) (fun K hK => ?_)
                  refine goes_ Try.func26 (by kernel_rfl) rfl #[.agg #[.int .i64 (wrap64 (248 - (wrap64 (Int.tmod a0 249)))), .int .i64 (wrap64 (-a1)), .int .i64 0], .int .i64 t215, .bool t216] (by rfl) rfl rfl (by (try simp only [List.map_toArray, List.map_cons, List.map_nil]); first | done | rfl | (simp only [List.length_drop, List.length_take]; rfl)) ?_
                  with_reducible refine (drive_What.calls kj6 (wrap64 (248 - (wrap64 (Int.tmod a0 249)))) (wrap64 (-a1)) 0 t215 t216 t222 _ A22.out).mono ?_
                  rintro e w38 ⟨rfl, hb⟩
                  refine ⟨_, rfl, ?_⟩
                  have n0_ := Aside0.mk (blk_below (g := gb211) (o := .cells #[.int .i64 (wrap64 (Int.tmod a0 249)), .int .i64 a1, .int .i64 0] 32 (0, 0)) (by (with_reducible repeat (first | refine blk_drewN ?_ _ | refine blk_drew ?_ | refine blk_alloc ?_ _)); exact BK211.out) hb)
                  have n1_ := Aside0.mk (blk_below (g := gb212) (o := .cells #[.int .i64 (wrap64 (248 - (wrap64 (Int.tmod a0 249)))), .int .i64 (wrap64 (-a1)), .int .i64 0] 32 (0, 0)) (by (with_reducible repeat (first | refine blk_drewN ?_ _ | refine blk_drew ?_ | refine blk_alloc ?_ _)); exact BK212.out) hb)
                  have n2_ := Aside0.mk (below_step (by repeat (first | (with_reducible first | exact HB.out | apply below_alloc | apply pw_below_drewN | apply below_drew1 | refine below_set ?_ GE211.out | refine below_set ?_ GE212.out) | exact HB.out)) hb)
                  clear BK211
                  clear BK212
                  clear HB
                  have BK211 := n0_
                  have BK212 := n1_
                  have HB := n2_
                  clear n0_ n1_ n2_
                  (try clear hb)
                  (try clear hb2)
                  (try clear hk)
                  (try clear hi)
                  refine hK.out _ _ ⟨(blk_cell BK211.out 0).trans rfl, (blk_cell BK211.out 1).trans rfl, (blk_cell BK211.out 2).trans rfl, (blk_cell BK212.out 0).trans rfl, (blk_cell BK212.out 1).trans rfl, (blk_cell BK212.out 2).trans rfl⟩ (fun hHeld => ?_)
                  clear hK K
                  refine norm_ (a' := ?_) ?_ ?_
                  rotate_left
                  · show Act.put _ (some 98) _ = _
                    simp only [Act.put, List.setIfInBounds_toArray, List.set_cons_zero, List.set_cons_succ, i64_w, i32_w]
                    rfl
                  refine pure_ (i := 37) (N := some 99) (v := ?_) (a' := ?_) #[true, true, true, true, true, true, true, true, true, true, true, true, true, true, true, true, true, true, true, true, true, true, true, true, true, true, true, true, true, true, true, true, true, true, true, true, true, true, false, false] rfl rfl (any_of HT_.out (by kernel_rfl)) (fun _ _ _ h => h) (Or.inl ⟨by rfl, ?_⟩) ?_ ?_
                  rotate_left
                  · intro w'
                    go_simp
                    with_reducible rfl
                  rotate_left
                  · simp only [Act.put, List.setIfInBounds_toArray, List.set_cons_zero, List.set_cons_succ, i64_w, i32_w]
                    rfl
                  refine pure_ (i := 38) (N := some 100) (v := ?_) (a' := ?_) #[true, true, true, true, true, true, true, true, true, true, true, true, true, true, true, true, true, true, true, true, true, true, true, true, true, true, true, true, true, true, true, true, true, true, true, true, true, true, true, false] rfl rfl (any_of HT_.out (by kernel_rfl)) (fun _ _ _ h => h) (Or.inl ⟨by rfl, ?_⟩) ?_ ?_
                  rotate_left
                  · intro w'
                    go_simp
                    with_reducible rfl
                  rotate_left
                  · simp only [Act.put, List.setIfInBounds_toArray, List.set_cons_zero, List.set_cons_succ, i64_w, i32_w]
                    rfl
                  refine pure_ (i := 39) (N := some 8) (v := ?_) (a' := ?_) #[true, true, true, true, true, true, true, true, true, true, true, true, true, true, true, true, true, true, true, true, true, true, true, true, true, true, true, true, true, true, true, true, true, true, true, true, true, true, true, true] rfl rfl (any_of HT_.out (by kernel_rfl)) (fun _ _ _ h => h) (Or.inl ⟨by rfl, ?_⟩) ?_ ?_
                  rotate_left
                  · intro w'
                    go_simp
                    with_reducible rfl
                  rotate_left
                  · simp only [Act.put, List.setIfInBounds_toArray, List.set_cons_zero, List.set_cons_succ, i64_w, i32_w]
                    rfl
                  refine done_ (done_of HT_.out (by kernel_rfl)) ?_
                  try go_wp2
                  go_ret
                  exact ⟨by first | rfl | (simp [errW_none, errW_some] <;> rfl) | (simp [*, errW_none, errW_some] <;> rfl), by repeat (first | (with_reducible first | exact HB.out | apply below_alloc | apply pw_below_drewN | apply below_drew1 | refine below_set ?_ GE211.out | refine below_set ?_ GE212.out) | exact HB.out)⟩
                · rw [if_neg c20] at H
                  have c20b0 : (t219 == t220) = false := by simpa using c20
                  (try (have c20b1 : decide (t219 = t220) = false := by simpa using c20))
                  (try (have c20b2 : (t219 == t220) = false := by simpa using c20))
                  (try (have c20b3 : ¬ (t219 = t220) := by simpa using c20))
                  clear c20
                  exact absurd (Option.some.inj H) (by rw [HT.out]; decide)
              · rw [if_neg c17] at H
                have c17b0 : (t217 == (wrap64 (-t218))) = false := beq_eq_false_iff_ne.mpr c17
                have c17b1 : (t217 != (wrap64 (-t218))) = true := bne_iff_ne.mpr c17
                exact absurd (Option.some.inj H) (by rw [HT.out]; decide)
            · rw [if_neg c14] at H
              have c14b0 : (t214 == t216) = false := by simpa using c14
              (try (have c14b1 : decide (t214 = t216) = false := by simpa using c14))
              (try (have c14b2 : (t214 == t216) = false := by simpa using c14))
              (try (have c14b3 : ¬ (t214 = t216) := by simpa using c14))
              clear c14
              exact absurd (Option.some.inj H) (by rw [HT.out]; decide)
          · rw [if_neg c13] at H
            have c13b0 : (t213 == (wrap64 (-t215))) = false := beq_eq_false_iff_ne.mpr c13
            have c13b1 : (t213 != (wrap64 (-t215))) = true := bne_iff_ne.mpr c13
            exact absurd (Option.some.inj H) (by rw [HT.out]; decide)
  · replace c6 := Bool.eq_false_iff.mpr c6
    subst c6
    have H1 : (some false) = some r := by rw [if_neg (show ¬ (false = true) by decide)] at H; exact H
    clear H
    have H := H1
    clear H1
    exact absurd (Option.some.inj H) (by rw [HT.out]; decide)

/-- THE ONE PURE STATEMENT of paternosterlaw13_DriveMirror: yours. -/
def paternosterlaw13_DriveMirror.Pure : Prop := ∀ (a0 : Int) (a1 : Int) (a2 : Int) (a3 : Int), (Lit.int .u8 a0).wf = true → (Lit.int .i64 a1).wf = true → (Lit.int .u8 a2).wf = true → (Lit.int .u8 a3).wf = true → ∃ k, paternosterlaw13_DriveMirror.f k a0 a1 a2 a3 = some true
theorem paternosterlaw13_DriveMirror.walk (P : paternosterlaw13_DriveMirror.Pure) (a0 : Int) (a1 : Int) (a2 : Int) (a3 : Int) (w : World) (w0 : (Lit.int .u8 a0).wf = true) (w1 : (Lit.int .i64 a1).wf = true) (w2 : (Lit.int .u8 a2).wf = true) (w3 : (Lit.int .u8 a3).wf = true) :
    Calls Try.prog 10 #[.int .u8 a0, .int .i64 a1, .int .u8 a2, .int .u8 a3] w fun e w' => e = .returned (.bool true) ∧ Below w.heap.size w w' := by
  obtain ⟨k, h⟩ := P a0 a1 a2 a3 w0 w1 w2 w3
  refine (paternosterlaw13_DriveMirror.calls k a0 a1 a2 a3 true w rfl h).mono ?_
  rintro e w' ⟨rfl, hd⟩
  exact ⟨rfl, hd⟩

end Go.Proofs.Ytmhgfghbbophlaa.Q
