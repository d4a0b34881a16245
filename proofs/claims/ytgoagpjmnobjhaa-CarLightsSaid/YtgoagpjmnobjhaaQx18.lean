-- Written by a program of this session (turned from the kit's print.py) out of the translation. Not trusted: Lean checks it.
import Derived.Test.YtgoagpjmnobjhaaQx0
import Derived.Test.YtgoagpjmnobjhaaQx9
import Derived.Test.YtgoagpjmnobjhaaQx16
namespace Go.Proofs.Ytgoagpjmnobjhaa.Q
open Go.RowKit Go.Proofs.YtgoagpjmnobjhaaW.PrintWords Go.Proofs.YtgoagpjmnobjhaaW.PrintLast Go.Proofs.YtgoagpjmnobjhaaW.PrintMore
attribute [local go_sem] max2_int min2_int max_two min_two max_three min_three max_four min_four   -- for this text's walks alone
set_option linter.unusedVariables false
set_option linter.unusedSimpArgs false

attribute [local go_sem] fld24_0 fld24_1 fld37_0 fld37_1 fld37_2 fld44_0 fld44_1 fld44_2
/-! ### paternosterlaw07_CarLights: function 11 -/
def paternosterlaw07_CarLights.f (k : Nat) (a0 : Int) (a1 : Int) (a2 : Int) : Option (Bool) := (paternosterlaw07_awake.f k).bind fun t264 => (if t264 = true then ((car_Car_Near.f k (wrap64 (Int.tmod a0 249)) 0 a1 1).bind fun t266 => ((car_Car_Near.f k (wrap64 (Int.tmod a0 249)) 0 a1 (-1)).bind fun t267 => ((car_Car_Light.f (wrap64 (Int.tmod a0 249)) 0 a1 a2).bind fun t268 => ((car_Car_Level.f (wrap64 (Int.tmod a0 249)) 0 a1).bind fun t269 => (if t269 = true then (if t266 = 0 then (some (t267 == 0)) else (some false)) else ((car_Car_Near.f k (wrap64 (Int.tmod a0 249)) 0 a1 t268).bind fun t270 => (if t266 > 0 then (if t267 > 0 then (if (wrap64 (t266 + t267)) = 8 then ((car_Car_Level.f (wrap64 ((wrap64 (Int.tmod a0 249)) + (wrap64 (t268 * t270)))) 0 0).bind fun t272 => (if t272 = true then ((car_Car_Floor.f (wrap64 ((wrap64 (Int.tmod a0 249)) + (wrap64 (t268 * t270)))) 0 0).bind fun t273 => ((car_Car_Floor.f (wrap64 (Int.tmod a0 249)) 0 a1).bind fun t274 => (if t273 = t274 then (if t268 = 1 then (some true) else (some (t268 == (-1)))) else ((car_Car_Floor.f (wrap64 ((wrap64 (Int.tmod a0 249)) + (wrap64 (t268 * t270)))) 0 0).bind fun t275 => ((car_Car_Floor.f (wrap64 (Int.tmod a0 249)) 0 a1).bind fun t276 => (if t275 = (wrap64 (t276 + 1)) then (if t268 = 1 then (some true) else (some (t268 == (-1)))) else (some false))))))) else (some false))) else (some false)) else (some false)) else (some false)))))))) else (some false))
theorem paternosterlaw07_CarLights.mono : ∀ a0 a1 a2 k, LeO (paternosterlaw07_CarLights.f k a0 a1 a2) (paternosterlaw07_CarLights.f (k + 1) a0 a1 a2) := by
 intro a0 a1 a2 k
 unfold paternosterlaw07_CarLights.f
 repeat' first
   | (with_reducible exact car_Car_Near.mono _ _ _ _ _)
   | (with_reducible exact paternosterlaw07_awake.mono _)
   | (with_reducible exact LeO.refl _)
   | (with_reducible exact LeO.none _)
   | (with_reducible refine LeO.ite ?_ ?_)
   | (with_reducible refine LeO.bind ?_ (fun _ => ?_))
   | exact car_Car_Near.mono _ _ _ _ _
   | exact paternosterlaw07_awake.mono _
   | exact LeO.none _
   | refine LeO.ite ?_ ?_
   | refine LeO.bind ?_ (fun _ => ?_)
def paternosterlaw07_CarLights.T10 : Bool × List (List Nat × List Nat) := (true, [([], []), ([0], [0]), ([], []), ([], []), ([], []), ([3, 4], [3, 4]), ([2, 5], [2, 5]), ([1, 6], [1, 6]), ([7], [7]), ([], []), ([9, 8, 5, 0, 1, 2, 3, 4, 5, 6, 7, 8, 9], [8, 9])])
def paternosterlaw07_CarLights.B10 : List Nat := [0, 1, 0, 0, 0, 24, 60, 127, 255, 0, 1023]
theorem paternosterlaw07_CarLights.tab10 : rtab .any (opsOf Try.f11 10) = paternosterlaw07_CarLights.T10 := by kernel_rfl
theorem paternosterlaw07_CarLights.bits10 : waitsOk paternosterlaw07_CarLights.T10.2 paternosterlaw07_CarLights.B10 = true := by kernel_rfl
def paternosterlaw07_CarLights.T11 : Bool × List (List Nat × List Nat) := (true, [([], []), ([0], [0]), ([1], [1]), ([2], [2]), ([3, 2], [2, 3]), ([2, 4], [2, 4]), ([5, 2], [5]), ([6], [6]), ([6], [6]), ([7, 8, 6], [6, 7, 8]), ([9, 6], [6, 9]), ([6, 10], [6, 10]), ([11, 6], [11]), ([12], [12]), ([13, 12, 12], [12, 13]), ([12, 14], [12, 14]), ([15, 14], [15]), ([16], [16]), ([17, 16, 16], [16, 17]), ([16], [16]), ([19, 18, 16], [16, 19]), ([18, 20, 16], [16, 18, 20]), ([21, 20, 16], [16, 21]), ([22], [22]), ([23, 22, 22], [22, 23]), ([22], [22]), ([25, 24, 22], [22, 25]), ([26, 22], [22, 26]), ([24, 27, 22], [22, 24, 27]), ([22, 28, 16], [16, 22, 28]), ([16, 29], [16, 29]), ([30, 26], [30]), ([31], [31]), ([32, 31], [31, 32]), ([33, 31, 31], [31, 33]), ([34], [34]), ([35, 34], [34, 35]), ([34, 36, 31], [31, 34, 36]), ([31, 37], [31, 37]), ([38, 34, 0, 1, 2, 3, 4, 5, 6, 7, 8, 9, 10, 11, 12, 13, 14, 15, 16, 17, 18, 19, 20, 21, 22, 23, 24, 25, 26, 27, 28, 29, 30, 31, 32, 33, 34, 35, 36, 37, 38], [38])])
def paternosterlaw07_CarLights.B11 : List Nat := [0, 1, 3, 7, 15, 31, 63, 127, 127, 511, 1023, 2047, 4095, 8191, 16383, 32767, 65535, 131071, 262143, 131071, 1048575, 2097151, 4194303, 8388607, 16777215, 8388607, 67108863, 134217727, 268435455, 536870911, 1073741823, 2147483647, 4294967295, 8589934591, 17179869183, 34359738367, 68719476735, 137438953471, 274877906943, 549755813887]
theorem paternosterlaw07_CarLights.tab11 : rtab .any (opsOf Try.f11 11) = paternosterlaw07_CarLights.T11 := by kernel_rfl
theorem paternosterlaw07_CarLights.bits11 : waitsOk paternosterlaw07_CarLights.T11.2 paternosterlaw07_CarLights.B11 = true := by kernel_rfl
set_option maxHeartbeats 8000000 in
set_option maxRecDepth 100000 in
theorem paternosterlaw07_CarLights.calls (k : Nat) (a0 : Int) (a1 : Int) (a2 : Int) (r : Bool) (w : World) (hT : r = true) (h : paternosterlaw07_CarLights.f k a0 a1 a2 = some r) :
  Calls Try.prog 11 #[.int .u16 a0, .int .i64 a1, .int .i64 a2] w fun e w' => e = .returned (.bool r) ∧ Below w.heap.size w w' := by
 have hu37 := Try.underlying37
 have HT := Aside0.mk hT
 clear hT
 have HB := Aside0.mk (Below.refl w.heap.size w)
 have H : ((paternosterlaw07_awake.f k).bind fun t264 => (if t264 = true then ((car_Car_Near.f k (wrap64 (Int.tmod a0 249)) 0 a1 1).bind fun t266 => ((car_Car_Near.f k (wrap64 (Int.tmod a0 249)) 0 a1 (-1)).bind fun t267 => ((car_Car_Light.f (wrap64 (Int.tmod a0 249)) 0 a1 a2).bind fun t268 => ((car_Car_Level.f (wrap64 (Int.tmod a0 249)) 0 a1).bind fun t269 => (if t269 = true then (if t266 = 0 then (some (t267 == 0)) else (some false)) else ((car_Car_Near.f k (wrap64 (Int.tmod a0 249)) 0 a1 t268).bind fun t270 => (if t266 > 0 then (if t267 > 0 then (if (wrap64 (t266 + t267)) = 8 then ((car_Car_Level.f (wrap64 ((wrap64 (Int.tmod a0 249)) + (wrap64 (t268 * t270)))) 0 0).bind fun t272 => (if t272 = true then ((car_Car_Floor.f (wrap64 ((wrap64 (Int.tmod a0 249)) + (wrap64 (t268 * t270)))) 0 0).bind fun t273 => ((car_Car_Floor.f (wrap64 (Int.tmod a0 249)) 0 a1).bind fun t274 => (if t273 = t274 then (if t268 = 1 then (some true) else (some (t268 == (-1)))) else ((car_Car_Floor.f (wrap64 ((wrap64 (Int.tmod a0 249)) + (wrap64 (t268 * t270)))) 0 0).bind fun t275 => ((car_Car_Floor.f (wrap64 (Int.tmod a0 249)) 0 a1).bind fun t276 => (if t275 = (wrap64 (t276 + 1)) then (if t268 = 1 then (some true) else (some (t268 == (-1)))) else (some false))))))) else (some false))) else (some false)) else (some false)) else (some false)))))))) else (some false))) = some r := h
 clear h
 replace H := Option.bind_eq_some_iff.mp H
 obtain ⟨t264, A40, H⟩ := H
 replace H : (if t264 = true then ((car_Car_Near.f k (wrap64 (Int.tmod a0 249)) 0 a1 1).bind fun t266 => ((car_Car_Near.f k (wrap64 (Int.tmod a0 249)) 0 a1 (-1)).bind fun t267 => ((car_Car_Light.f (wrap64 (Int.tmod a0 249)) 0 a1 a2).bind fun t268 => ((car_Car_Level.f (wrap64 (Int.tmod a0 249)) 0 a1).bind fun t269 => (if t269 = true then (if t266 = 0 then (some (t267 == 0)) else (some false)) else ((car_Car_Near.f k (wrap64 (Int.tmod a0 249)) 0 a1 t268).bind fun t270 => (if t266 > 0 then (if t267 > 0 then (if (wrap64 (t266 + t267)) = 8 then ((car_Car_Level.f (wrap64 ((wrap64 (Int.tmod a0 249)) + (wrap64 (t268 * t270)))) 0 0).bind fun t272 => (if t272 = true then ((car_Car_Floor.f (wrap64 ((wrap64 (Int.tmod a0 249)) + (wrap64 (t268 * t270)))) 0 0).bind fun t273 => ((car_Car_Floor.f (wrap64 (Int.tmod a0 249)) 0 a1).bind fun t274 => (if t273 = t274 then (if t268 = 1 then (some true) else (some (t268 == (-1)))) else ((car_Car_Floor.f (wrap64 ((wrap64 (Int.tmod a0 249)) + (wrap64 (t268 * t270)))) 0 0).bind fun t275 => ((car_Car_Floor.f (wrap64 (Int.tmod a0 249)) 0 a1).bind fun t276 => (if t275 = (wrap64 (t276 + 1)) then (if t268 = 1 then (some true) else (some (t268 == (-1)))) else (some false))))))) else (some false))) else (some false)) else (some false)) else (some false)))))))) else (some false)) = some r := H
 have A4 := Aside0.mk A40
 clear A40
 by_cases c5 : t264 = true
 ·subst c5
  have H1 : ((car_Car_Near.f k (wrap64 (Int.tmod a0 249)) 0 a1 1).bind fun t266 => ((car_Car_Near.f k (wrap64 (Int.tmod a0 249)) 0 a1 (-1)).bind fun t267 => ((car_Car_Light.f (wrap64 (Int.tmod a0 249)) 0 a1 a2).bind fun t268 => ((car_Car_Level.f (wrap64 (Int.tmod a0 249)) 0 a1).bind fun t269 => (if t269 = true then (if t266 = 0 then (some (t267 == 0)) else (some false)) else ((car_Car_Near.f k (wrap64 (Int.tmod a0 249)) 0 a1 t268).bind fun t270 => (if t266 > 0 then (if t267 > 0 then (if (wrap64 (t266 + t267)) = 8 then ((car_Car_Level.f (wrap64 ((wrap64 (Int.tmod a0 249)) + (wrap64 (t268 * t270)))) 0 0).bind fun t272 => (if t272 = true then ((car_Car_Floor.f (wrap64 ((wrap64 (Int.tmod a0 249)) + (wrap64 (t268 * t270)))) 0 0).bind fun t273 => ((car_Car_Floor.f (wrap64 (Int.tmod a0 249)) 0 a1).bind fun t274 => (if t273 = t274 then (if t268 = 1 then (some true) else (some (t268 == (-1)))) else ((car_Car_Floor.f (wrap64 ((wrap64 (Int.tmod a0 249)) + (wrap64 (t268 * t270)))) 0 0).bind fun t275 => ((car_Car_Floor.f (wrap64 (Int.tmod a0 249)) 0 a1).bind fun t276 => (if t275 = (wrap64 (t276 + 1)) then (if t268 = 1 then (some true) else (some (t268 == (-1)))) else (some false))))))) else (some false))) else (some false)) else (some false)) else (some false)))))))) = some r := by rw [if_pos rfl] at H; exact H
  clear H
  have H := H1
  clear H1
  replace H := Option.bind_eq_some_iff.mp H
  obtain ⟨t266, A60, H⟩ := H
  replace H : ((car_Car_Near.f k (wrap64 (Int.tmod a0 249)) 0 a1 (-1)).bind fun t267 => ((car_Car_Light.f (wrap64 (Int.tmod a0 249)) 0 a1 a2).bind fun t268 => ((car_Car_Level.f (wrap64 (Int.tmod a0 249)) 0 a1).bind fun t269 => (if t269 = true then (if t266 = 0 then (some (t267 == 0)) else (some false)) else ((car_Car_Near.f k (wrap64 (Int.tmod a0 249)) 0 a1 t268).bind fun t270 => (if t266 > 0 then (if t267 > 0 then (if (wrap64 (t266 + t267)) = 8 then ((car_Car_Level.f (wrap64 ((wrap64 (Int.tmod a0 249)) + (wrap64 (t268 * t270)))) 0 0).bind fun t272 => (if t272 = true then ((car_Car_Floor.f (wrap64 ((wrap64 (Int.tmod a0 249)) + (wrap64 (t268 * t270)))) 0 0).bind fun t273 => ((car_Car_Floor.f (wrap64 (Int.tmod a0 249)) 0 a1).bind fun t274 => (if t273 = t274 then (if t268 = 1 then (some true) else (some (t268 == (-1)))) else ((car_Car_Floor.f (wrap64 ((wrap64 (Int.tmod a0 249)) + (wrap64 (t268 * t270)))) 0 0).bind fun t275 => ((car_Car_Floor.f (wrap64 (Int.tmod a0 249)) 0 a1).bind fun t276 => (if t275 = (wrap64 (t276 + 1)) then (if t268 = 1 then (some true) else (some (t268 == (-1)))) else (some false))))))) else (some false))) else (some false)) else (some false)) else (some false))))))) = some r := H
  have A6 := Aside0.mk A60
  clear A60
  replace H := Option.bind_eq_some_iff.mp H
  obtain ⟨t267, A70, H⟩ := H
  replace H : ((car_Car_Light.f (wrap64 (Int.tmod a0 249)) 0 a1 a2).bind fun t268 => ((car_Car_Level.f (wrap64 (Int.tmod a0 249)) 0 a1).bind fun t269 => (if t269 = true then (if t266 = 0 then (some (t267 == 0)) else (some false)) else ((car_Car_Near.f k (wrap64 (Int.tmod a0 249)) 0 a1 t268).bind fun t270 => (if t266 > 0 then (if t267 > 0 then (if (wrap64 (t266 + t267)) = 8 then ((car_Car_Level.f (wrap64 ((wrap64 (Int.tmod a0 249)) + (wrap64 (t268 * t270)))) 0 0).bind fun t272 => (if t272 = true then ((car_Car_Floor.f (wrap64 ((wrap64 (Int.tmod a0 249)) + (wrap64 (t268 * t270)))) 0 0).bind fun t273 => ((car_Car_Floor.f (wrap64 (Int.tmod a0 249)) 0 a1).bind fun t274 => (if t273 = t274 then (if t268 = 1 then (some true) else (some (t268 == (-1)))) else ((car_Car_Floor.f (wrap64 ((wrap64 (Int.tmod a0 249)) + (wrap64 (t268 * t270)))) 0 0).bind fun t275 => ((car_Car_Floor.f (wrap64 (Int.tmod a0 249)) 0 a1).bind fun t276 => (if t275 = (wrap64 (t276 + 1)) then (if t268 = 1 then (some true) else (some (t268 == (-1)))) else (some false))))))) else (some false))) else (some false)) else (some false)) else (some false)))))) = some r := H
  have A7 := Aside0.mk A70
  clear A70
  replace H := Option.bind_eq_some_iff.mp H
  obtain ⟨t268, A80, H⟩ := H
  replace H : ((car_Car_Level.f (wrap64 (Int.tmod a0 249)) 0 a1).bind fun t269 => (if t269 = true then (if t266 = 0 then (some (t267 == 0)) else (some false)) else ((car_Car_Near.f k (wrap64 (Int.tmod a0 249)) 0 a1 t268).bind fun t270 => (if t266 > 0 then (if t267 > 0 then (if (wrap64 (t266 + t267)) = 8 then ((car_Car_Level.f (wrap64 ((wrap64 (Int.tmod a0 249)) + (wrap64 (t268 * t270)))) 0 0).bind fun t272 => (if t272 = true then ((car_Car_Floor.f (wrap64 ((wrap64 (Int.tmod a0 249)) + (wrap64 (t268 * t270)))) 0 0).bind fun t273 => ((car_Car_Floor.f (wrap64 (Int.tmod a0 249)) 0 a1).bind fun t274 => (if t273 = t274 then (if t268 = 1 then (some true) else (some (t268 == (-1)))) else ((car_Car_Floor.f (wrap64 ((wrap64 (Int.tmod a0 249)) + (wrap64 (t268 * t270)))) 0 0).bind fun t275 => ((car_Car_Floor.f (wrap64 (Int.tmod a0 249)) 0 a1).bind fun t276 => (if t275 = (wrap64 (t276 + 1)) then (if t268 = 1 then (some true) else (some (t268 == (-1)))) else (some false))))))) else (some false))) else (some false)) else (some false)) else (some false))))) = some r := H
  have A8 := Aside0.mk A80
  clear A80
  replace H := Option.bind_eq_some_iff.mp H
  obtain ⟨t269, A90, H⟩ := H
  replace H : (if t269 = true then (if t266 = 0 then (some (t267 == 0)) else (some false)) else ((car_Car_Near.f k (wrap64 (Int.tmod a0 249)) 0 a1 t268).bind fun t270 => (if t266 > 0 then (if t267 > 0 then (if (wrap64 (t266 + t267)) = 8 then ((car_Car_Level.f (wrap64 ((wrap64 (Int.tmod a0 249)) + (wrap64 (t268 * t270)))) 0 0).bind fun t272 => (if t272 = true then ((car_Car_Floor.f (wrap64 ((wrap64 (Int.tmod a0 249)) + (wrap64 (t268 * t270)))) 0 0).bind fun t273 => ((car_Car_Floor.f (wrap64 (Int.tmod a0 249)) 0 a1).bind fun t274 => (if t273 = t274 then (if t268 = 1 then (some true) else (some (t268 == (-1)))) else ((car_Car_Floor.f (wrap64 ((wrap64 (Int.tmod a0 249)) + (wrap64 (t268 * t270)))) 0 0).bind fun t275 => ((car_Car_Floor.f (wrap64 (Int.tmod a0 249)) 0 a1).bind fun t276 => (if t275 = (wrap64 (t276 + 1)) then (if t268 = 1 then (some true) else (some (t268 == (-1)))) else (some false))))))) else (some false))) else (some false)) else (some false)) else (some false)))) = some r := H
  have A9 := Aside0.mk A90
  clear A90
  by_cases c10 : t269 = true
  ·subst c10
   have H1 : (if t266 = 0 then (some (t267 == 0)) else (some false)) = some r := by rw [if_pos rfl] at H; exact H
   clear H
   have H := H1
   clear H1
   by_cases c11 : t266 = 0
   ·rw [if_pos c11] at H
    have c11b0 : (t266 == 0) = true := beq_iff_eq.mpr c11
    have c11b1 : (t266 != 0) = false := bne_eq_false_iff_eq.mpr c11
    clear c11
    obtain rfl := Option.some.inj H
    go_enter Try.func11, Try.ntmps11
    go_wp2_with (first | ((with_reducible refine gate_callee (f := 18) rfl ?_); refine goesL_ (some 13) rfl rfl Try.func18 (by kernel_rfl) rfl #[] rfl (by (try simp only [List.map_toArray, List.map_cons, List.map_nil]); first | done | rfl | (simp only [List.length_drop, List.length_take]; rfl)) ?_; (with_reducible refine (paternosterlaw07_awake.calls k  true _ A4.out).mono ?_); rintro e w12 ⟨rfl, hb⟩; refine ⟨_, rfl, ?_⟩; have n0_ := Aside0.mk (below_step (by repeat (first | (with_reducible first | exact HB.out | apply below_alloc | apply pw_below_drewN | apply below_drew1) | exact HB.out)) hb); clear HB; have HB := n0_; clear n0_; (try clear hb); (try clear hb2); (try clear hk); (try clear hi)) | ((with_reducible refine gate_dst (N := 8) rfl ?_); refine box_event ?hg (N := 8) ?hd (cs := #[.int .i64 0, .int .i64 0, .int .i64 0]) (t := 37) ?hr ?_; (case hd => rfl); (case hg => rfl); (case hr => first | (go_simp; done) | (go_simp; rfl)); intro gb265 hg w13 hbox hb; have n0_ := Aside0.mk (below_step (by repeat (first | (with_reducible first | exact HB.out | apply below_alloc | apply pw_below_drewN | apply below_drew1) | exact HB.out)) hb); have n1_ := Aside0.mk (hbox); have n2_ := Aside0.mk ((by rw [hg]; exact (below_size (by repeat (first | (with_reducible first | exact HB.out | apply below_alloc | apply pw_below_drewN | apply below_drew1) | exact HB.out))) : w.heap.size ≤ gb265)); have n3_ := Aside0.mk ((by rw [hg]; exact (below_size (by repeat (first | (with_reducible first | exact HB.out | apply below_alloc | apply pw_below_drewN | apply below_drew1) | exact HB.out))) : w.heap.size ≤ gb265)); clear HB; have HB := n0_; have BK265 := n1_; have GW265 := n2_; have GE265 := n3_; clear n0_ n1_ n2_ n3_; clear hb hbox hg; have hcz14_0 : w13.cell? ⟨gb265, 0, none⟩ = some (.int .i64 0) := (blk_cell BK265.out 0).trans rfl; have hcz14_1 : w13.cell? ⟨gb265, 1, none⟩ = some (.int .i64 0) := (blk_cell BK265.out 1).trans rfl; have hcz14_2 : w13.cell? ⟨gb265, 2, none⟩ = some (.int .i64 0) := (blk_cell BK265.out 2).trans rfl; have hfz14_0 := blk_frozen BK265.out 0; have hfz14_1 := blk_frozen BK265.out 1; have hfz14_2 := blk_frozen BK265.out 2) | ((with_reducible refine gate_callee (f := 28) rfl ?_); refine goesL_ (some 22) rfl rfl Try.func28 (by kernel_rfl) rfl #[.agg #[.int .i64 (wrap64 (Int.tmod a0 249)), .int .i64 0, .int .i64 a1], .int .i64 1] rfl (by (try simp only [List.map_toArray, List.map_cons, List.map_nil]); first | done | rfl | (simp only [List.length_drop, List.length_take]; rfl)) ?_; (with_reducible refine (car_Car_Near.calls k (wrap64 (Int.tmod a0 249)) 0 a1 1 t266 _ A6.out).mono ?_); rintro e w15 ⟨rfl, hb⟩; refine ⟨_, rfl, ?_⟩; have n0_ := Aside0.mk (blk_below (g := gb265) (o := .cells #[.int .i64 (wrap64 (Int.tmod a0 249)), .int .i64 0, .int .i64 a1] 37 (0, 0)) (by (with_reducible repeat (first | refine blk_drewN ?_ _ | refine blk_drew ?_ | refine blk_alloc ?_ _)); refine blk_put (cs := #[.int .i64 (wrap64 (Int.tmod a0 249)), .int .i64 0, .int .i64 0]) ?_ 2 _ rfl; (with_reducible repeat (first | refine blk_drewN ?_ _ | refine blk_drew ?_ | refine blk_alloc ?_ _)); refine blk_put (cs := #[.int .i64 (wrap64 (Int.tmod a0 249)), .int .i64 0, .int .i64 0]) ?_ 1 _ rfl; (with_reducible repeat (first | refine blk_drewN ?_ _ | refine blk_drew ?_ | refine blk_alloc ?_ _)); refine blk_put (cs := #[.int .i64 0, .int .i64 0, .int .i64 0]) ?_ 0 _ rfl; (with_reducible repeat (first | refine blk_drewN ?_ _ | refine blk_drew ?_ | refine blk_alloc ?_ _)); exact BK265.out) hb); have n1_ := Aside0.mk (below_step (by repeat (first | (with_reducible first | exact HB.out | apply below_alloc | apply pw_below_drewN | apply below_drew1 | refine below_set ?_ GE265.out) | exact HB.out)) hb); clear BK265; clear HB; have BK265 := n0_; have HB := n1_; clear n0_ n1_; (try clear hb); (try clear hb2); (try clear hk); (try clear hi); have hcz16_0 : w15.cell? ⟨gb265, 0, none⟩ = some (.int .i64 (wrap64 (Int.tmod a0 249))) := (blk_cell BK265.out 0).trans rfl; have hcz16_1 : w15.cell? ⟨gb265, 1, none⟩ = some (.int .i64 0) := (blk_cell BK265.out 1).trans rfl; have hcz16_2 : w15.cell? ⟨gb265, 2, none⟩ = some (.int .i64 a1) := (blk_cell BK265.out 2).trans rfl; have hfz16_0 := blk_frozen BK265.out 0; have hfz16_1 := blk_frozen BK265.out 1; have hfz16_2 := blk_frozen BK265.out 2) | ((with_reducible refine gate_callee (f := 28) rfl ?_); refine goesL_ (some 24) rfl rfl Try.func28 (by kernel_rfl) rfl #[.agg #[.int .i64 (wrap64 (Int.tmod a0 249)), .int .i64 0, .int .i64 a1], .int .i64 (-1)] rfl (by (try simp only [List.map_toArray, List.map_cons, List.map_nil]); first | done | rfl | (simp only [List.length_drop, List.length_take]; rfl)) ?_; (with_reducible refine (car_Car_Near.calls k (wrap64 (Int.tmod a0 249)) 0 a1 (-1) t267 _ A7.out).mono ?_); rintro e w17 ⟨rfl, hb⟩; refine ⟨_, rfl, ?_⟩; have n0_ := Aside0.mk (blk_below (g := gb265) (o := .cells #[.int .i64 (wrap64 (Int.tmod a0 249)), .int .i64 0, .int .i64 a1] 37 (0, 0)) (by (with_reducible repeat (first | refine blk_drewN ?_ _ | refine blk_drew ?_ | refine blk_alloc ?_ _)); exact BK265.out) hb); have n1_ := Aside0.mk (below_step (by repeat (first | (with_reducible first | exact HB.out | apply below_alloc | apply pw_below_drewN | apply below_drew1 | refine below_set ?_ GE265.out) | exact HB.out)) hb); clear BK265; clear HB; have BK265 := n0_; have HB := n1_; clear n0_ n1_; (try clear hb); (try clear hb2); (try clear hk); (try clear hi); have hcz18_0 : w17.cell? ⟨gb265, 0, none⟩ = some (.int .i64 (wrap64 (Int.tmod a0 249))) := (blk_cell BK265.out 0).trans rfl; have hcz18_1 : w17.cell? ⟨gb265, 1, none⟩ = some (.int .i64 0) := (blk_cell BK265.out 1).trans rfl; have hcz18_2 : w17.cell? ⟨gb265, 2, none⟩ = some (.int .i64 a1) := (blk_cell BK265.out 2).trans rfl; have hfz18_0 := blk_frozen BK265.out 0; have hfz18_1 := blk_frozen BK265.out 1; have hfz18_2 := blk_frozen BK265.out 2) | ((with_reducible refine gate_callee (f := 27) rfl ?_); refine goesL_ (some 27) rfl rfl Try.func27 (by kernel_rfl) rfl #[.agg #[.int .i64 (wrap64 (Int.tmod a0 249)), .int .i64 0, .int .i64 a1], .int .i64 a2] rfl (by (try simp only [List.map_toArray, List.map_cons, List.map_nil]); first | done | rfl | (simp only [List.length_drop, List.length_take]; rfl)) ?_; (with_reducible refine (car_Car_Light.calls (wrap64 (Int.tmod a0 249)) 0 a1 a2 t268 _ A8.out).mono ?_); rintro e w19 ⟨rfl, hb⟩; refine ⟨_, rfl, ?_⟩; have n0_ := Aside0.mk (blk_below (g := gb265) (o := .cells #[.int .i64 (wrap64 (Int.tmod a0 249)), .int .i64 0, .int .i64 a1] 37 (0, 0)) (by (with_reducible repeat (first | refine blk_drewN ?_ _ | refine blk_drew ?_ | refine blk_alloc ?_ _)); exact BK265.out) hb); have n1_ := Aside0.mk (below_step (by repeat (first | (with_reducible first | exact HB.out | apply below_alloc | apply pw_below_drewN | apply below_drew1 | refine below_set ?_ GE265.out) | exact HB.out)) hb); clear BK265; clear HB; have BK265 := n0_; have HB := n1_; clear n0_ n1_; (try clear hb); (try clear hb2); (try clear hk); (try clear hi); have hcz20_0 : w19.cell? ⟨gb265, 0, none⟩ = some (.int .i64 (wrap64 (Int.tmod a0 249))) := (blk_cell BK265.out 0).trans rfl; have hcz20_1 : w19.cell? ⟨gb265, 1, none⟩ = some (.int .i64 0) := (blk_cell BK265.out 1).trans rfl; have hcz20_2 : w19.cell? ⟨gb265, 2, none⟩ = some (.int .i64 a1) := (blk_cell BK265.out 2).trans rfl; have hfz20_0 := blk_frozen BK265.out 0; have hfz20_1 := blk_frozen BK265.out 1; have hfz20_2 := blk_frozen BK265.out 2) | ((with_reducible refine gate_callee (f := 25) rfl ?_); refine goesL_ (some 29) rfl rfl Try.func25 (by kernel_rfl) rfl #[.agg #[.int .i64 (wrap64 (Int.tmod a0 249)), .int .i64 0, .int .i64 a1]] rfl (by (try simp only [List.map_toArray, List.map_cons, List.map_nil]); first | done | rfl | (simp only [List.length_drop, List.length_take]; rfl)) ?_; (with_reducible refine (car_Car_Level.calls (wrap64 (Int.tmod a0 249)) 0 a1 true _ A9.out).mono ?_); rintro e w21 ⟨rfl, hb⟩; refine ⟨_, rfl, ?_⟩; have n0_ := Aside0.mk (blk_below (g := gb265) (o := .cells #[.int .i64 (wrap64 (Int.tmod a0 249)), .int .i64 0, .int .i64 a1] 37 (0, 0)) (by (with_reducible repeat (first | refine blk_drewN ?_ _ | refine blk_drew ?_ | refine blk_alloc ?_ _)); exact BK265.out) hb); have n1_ := Aside0.mk (below_step (by repeat (first | (with_reducible first | exact HB.out | apply below_alloc | apply pw_below_drewN | apply below_drew1 | refine below_set ?_ GE265.out) | exact HB.out)) hb); clear BK265; clear HB; have BK265 := n0_; have HB := n1_; clear n0_ n1_; (try clear hb); (try clear hb2); (try clear hk); (try clear hi)))
    go_ret
    exact ⟨by first | rfl | (simp [errW_none, errW_some] <;> rfl) | (simp [*, errW_none, errW_some] <;> rfl), by repeat (first | (with_reducible first | exact HB.out | apply below_alloc | apply pw_below_drewN | apply below_drew1 | refine below_set ?_ GE265.out) | exact HB.out)⟩
   ·rw [if_neg c11] at H
    have c11b0 : (t266 == 0) = false := beq_eq_false_iff_ne.mpr c11
    have c11b1 : (t266 != 0) = true := bne_iff_ne.mpr c11
    exact absurd (Option.some.inj H) (by rw [HT.out]; decide)
  ·replace c10 := Bool.eq_false_iff.mpr c10
   subst c10
   have H1 : ((car_Car_Near.f k (wrap64 (Int.tmod a0 249)) 0 a1 t268).bind fun t270 => (if t266 > 0 then (if t267 > 0 then (if (wrap64 (t266 + t267)) = 8 then ((car_Car_Level.f (wrap64 ((wrap64 (Int.tmod a0 249)) + (wrap64 (t268 * t270)))) 0 0).bind fun t272 => (if t272 = true then ((car_Car_Floor.f (wrap64 ((wrap64 (Int.tmod a0 249)) + (wrap64 (t268 * t270)))) 0 0).bind fun t273 => ((car_Car_Floor.f (wrap64 (Int.tmod a0 249)) 0 a1).bind fun t274 => (if t273 = t274 then (if t268 = 1 then (some true) else (some (t268 == (-1)))) else ((car_Car_Floor.f (wrap64 ((wrap64 (Int.tmod a0 249)) + (wrap64 (t268 * t270)))) 0 0).bind fun t275 => ((car_Car_Floor.f (wrap64 (Int.tmod a0 249)) 0 a1).bind fun t276 => (if t275 = (wrap64 (t276 + 1)) then (if t268 = 1 then (some true) else (some (t268 == (-1)))) else (some false))))))) else (some false))) else (some false)) else (some false)) else (some false))) = some r := by rw [if_neg (show ¬ (false = true) by decide)] at H; exact H
   clear H
   have H := H1
   clear H1
   replace H := Option.bind_eq_some_iff.mp H
   obtain ⟨t270, A220, H⟩ := H
   replace H : (if t266 > 0 then (if t267 > 0 then (if (wrap64 (t266 + t267)) = 8 then ((car_Car_Level.f (wrap64 ((wrap64 (Int.tmod a0 249)) + (wrap64 (t268 * t270)))) 0 0).bind fun t272 => (if t272 = true then ((car_Car_Floor.f (wrap64 ((wrap64 (Int.tmod a0 249)) + (wrap64 (t268 * t270)))) 0 0).bind fun t273 => ((car_Car_Floor.f (wrap64 (Int.tmod a0 249)) 0 a1).bind fun t274 => (if t273 = t274 then (if t268 = 1 then (some true) else (some (t268 == (-1)))) else ((car_Car_Floor.f (wrap64 ((wrap64 (Int.tmod a0 249)) + (wrap64 (t268 * t270)))) 0 0).bind fun t275 => ((car_Car_Floor.f (wrap64 (Int.tmod a0 249)) 0 a1).bind fun t276 => (if t275 = (wrap64 (t276 + 1)) then (if t268 = 1 then (some true) else (some (t268 == (-1)))) else (some false))))))) else (some false))) else (some false)) else (some false)) else (some false)) = some r := H
   have A22 := Aside0.mk A220
   clear A220
   by_cases c23 : t266 > 0
   ·rw [if_pos c23] at H
    have c23b0 : decide (0 < t266) = true := decide_eq_true c23
    clear c23
    by_cases c24 : t267 > 0
    ·rw [if_pos c24] at H
     have c24b0 : decide (0 < t267) = true := decide_eq_true c24
     clear c24
     by_cases c25 : (wrap64 (t266 + t267)) = 8
     ·rw [if_pos c25] at H
      have c25b0 : ((wrap64 (t266 + t267)) == 8) = true := beq_iff_eq.mpr c25
      have c25b1 : ((wrap64 (t266 + t267)) != 8) = false := bne_eq_false_iff_eq.mpr c25
      clear c25
      replace H := Option.bind_eq_some_iff.mp H
      obtain ⟨t272, A260, H⟩ := H
      replace H : (if t272 = true then ((car_Car_Floor.f (wrap64 ((wrap64 (Int.tmod a0 249)) + (wrap64 (t268 * t270)))) 0 0).bind fun t273 => ((car_Car_Floor.f (wrap64 (Int.tmod a0 249)) 0 a1).bind fun t274 => (if t273 = t274 then (if t268 = 1 then (some true) else (some (t268 == (-1)))) else ((car_Car_Floor.f (wrap64 ((wrap64 (Int.tmod a0 249)) + (wrap64 (t268 * t270)))) 0 0).bind fun t275 => ((car_Car_Floor.f (wrap64 (Int.tmod a0 249)) 0 a1).bind fun t276 => (if t275 = (wrap64 (t276 + 1)) then (if t268 = 1 then (some true) else (some (t268 == (-1)))) else (some false))))))) else (some false)) = some r := H
      have A26 := Aside0.mk A260
      clear A260
      by_cases c27 : t272 = true
      ·subst c27
       have H1 : ((car_Car_Floor.f (wrap64 ((wrap64 (Int.tmod a0 249)) + (wrap64 (t268 * t270)))) 0 0).bind fun t273 => ((car_Car_Floor.f (wrap64 (Int.tmod a0 249)) 0 a1).bind fun t274 => (if t273 = t274 then (if t268 = 1 then (some true) else (some (t268 == (-1)))) else ((car_Car_Floor.f (wrap64 ((wrap64 (Int.tmod a0 249)) + (wrap64 (t268 * t270)))) 0 0).bind fun t275 => ((car_Car_Floor.f (wrap64 (Int.tmod a0 249)) 0 a1).bind fun t276 => (if t275 = (wrap64 (t276 + 1)) then (if t268 = 1 then (some true) else (some (t268 == (-1)))) else (some false))))))) = some r := by rw [if_pos rfl] at H; exact H
       clear H
       have H := H1
       clear H1
       replace H := Option.bind_eq_some_iff.mp H
       obtain ⟨t273, A280, H⟩ := H
       replace H : ((car_Car_Floor.f (wrap64 (Int.tmod a0 249)) 0 a1).bind fun t274 => (if t273 = t274 then (if t268 = 1 then (some true) else (some (t268 == (-1)))) else ((car_Car_Floor.f (wrap64 ((wrap64 (Int.tmod a0 249)) + (wrap64 (t268 * t270)))) 0 0).bind fun t275 => ((car_Car_Floor.f (wrap64 (Int.tmod a0 249)) 0 a1).bind fun t276 => (if t275 = (wrap64 (t276 + 1)) then (if t268 = 1 then (some true) else (some (t268 == (-1)))) else (some false)))))) = some r := H
       have A28 := Aside0.mk A280
       clear A280
       replace H := Option.bind_eq_some_iff.mp H
       obtain ⟨t274, A290, H⟩ := H
       replace H : (if t273 = t274 then (if t268 = 1 then (some true) else (some (t268 == (-1)))) else ((car_Car_Floor.f (wrap64 ((wrap64 (Int.tmod a0 249)) + (wrap64 (t268 * t270)))) 0 0).bind fun t275 => ((car_Car_Floor.f (wrap64 (Int.tmod a0 249)) 0 a1).bind fun t276 => (if t275 = (wrap64 (t276 + 1)) then (if t268 = 1 then (some true) else (some (t268 == (-1)))) else (some false))))) = some r := H
       have A29 := Aside0.mk A290
       clear A290
       by_cases c30 : t273 = t274
       ·rw [if_pos c30] at H
        have c30b0 : (t273 == t274) = true := beq_iff_eq.mpr c30
        have c30b1 : (t273 != t274) = false := bne_eq_false_iff_eq.mpr c30
        clear c30
        by_cases c31 : t268 = 1
        ·rw [if_pos c31] at H
         have c31b0 : (t268 == 1) = true := beq_iff_eq.mpr c31
         have c31b1 : (t268 != 1) = false := bne_eq_false_iff_eq.mpr c31
         clear c31
         obtain rfl := Option.some.inj H
         go_enter Try.func11, Try.ntmps11
         try go_wp2_with (first | ((with_reducible refine gate_callee (f := 18) rfl ?_); refine goesL_ (some 13) rfl rfl Try.func18 (by kernel_rfl) rfl #[] rfl (by (try simp only [List.map_toArray, List.map_cons, List.map_nil]); first | done | rfl | (simp only [List.length_drop, List.length_take]; rfl)) ?_; (with_reducible refine (paternosterlaw07_awake.calls k  true _ A4.out).mono ?_); rintro e w32 ⟨rfl, hb⟩; refine ⟨_, rfl, ?_⟩; have n0_ := Aside0.mk (below_step (by repeat (first | (with_reducible first | exact HB.out | apply below_alloc | apply pw_below_drewN | apply below_drew1) | exact HB.out)) hb); clear HB; have HB := n0_; clear n0_; (try clear hb); (try clear hb2); (try clear hk); (try clear hi)) | ((with_reducible refine gate_dst (N := 8) rfl ?_); refine box_event ?hg (N := 8) ?hd (cs := #[.int .i64 0, .int .i64 0, .int .i64 0]) (t := 37) ?hr ?_; (case hd => rfl); (case hg => rfl); (case hr => first | (go_simp; done) | (go_simp; rfl)); intro gb265 hg w33 hbox hb; have n0_ := Aside0.mk (below_step (by repeat (first | (with_reducible first | exact HB.out | apply below_alloc | apply pw_below_drewN | apply below_drew1) | exact HB.out)) hb); have n1_ := Aside0.mk (hbox); have n2_ := Aside0.mk ((by rw [hg]; exact (below_size (by repeat (first | (with_reducible first | exact HB.out | apply below_alloc | apply pw_below_drewN | apply below_drew1) | exact HB.out))) : w.heap.size ≤ gb265)); have n3_ := Aside0.mk ((by rw [hg]; exact (below_size (by repeat (first | (with_reducible first | exact HB.out | apply below_alloc | apply pw_below_drewN | apply below_drew1) | exact HB.out))) : w.heap.size ≤ gb265)); clear HB; have HB := n0_; have BK265 := n1_; have GW265 := n2_; have GE265 := n3_; clear n0_ n1_ n2_ n3_; clear hb hbox hg; have hcz34_0 : w33.cell? ⟨gb265, 0, none⟩ = some (.int .i64 0) := (blk_cell BK265.out 0).trans rfl; have hcz34_1 : w33.cell? ⟨gb265, 1, none⟩ = some (.int .i64 0) := (blk_cell BK265.out 1).trans rfl; have hcz34_2 : w33.cell? ⟨gb265, 2, none⟩ = some (.int .i64 0) := (blk_cell BK265.out 2).trans rfl; have hfz34_0 := blk_frozen BK265.out 0; have hfz34_1 := blk_frozen BK265.out 1; have hfz34_2 := blk_frozen BK265.out 2) | ((with_reducible refine gate_callee (f := 28) rfl ?_); refine goesL_ (some 22) rfl rfl Try.func28 (by kernel_rfl) rfl #[.agg #[.int .i64 (wrap64 (Int.tmod a0 249)), .int .i64 0, .int .i64 a1], .int .i64 1] rfl (by (try simp only [List.map_toArray, List.map_cons, List.map_nil]); first | done | rfl | (simp only [List.length_drop, List.length_take]; rfl)) ?_; (with_reducible refine (car_Car_Near.calls k (wrap64 (Int.tmod a0 249)) 0 a1 1 t266 _ A6.out).mono ?_); rintro e w35 ⟨rfl, hb⟩; refine ⟨_, rfl, ?_⟩; have n0_ := Aside0.mk (blk_below (g := gb265) (o := .cells #[.int .i64 (wrap64 (Int.tmod a0 249)), .int .i64 0, .int .i64 a1] 37 (0, 0)) (by (with_reducible repeat (first | refine blk_drewN ?_ _ | refine blk_drew ?_ | refine blk_alloc ?_ _)); refine blk_put (cs := #[.int .i64 (wrap64 (Int.tmod a0 249)), .int .i64 0, .int .i64 0]) ?_ 2 _ rfl; (with_reducible repeat (first | refine blk_drewN ?_ _ | refine blk_drew ?_ | refine blk_alloc ?_ _)); refine blk_put (cs := #[.int .i64 (wrap64 (Int.tmod a0 249)), .int .i64 0, .int .i64 0]) ?_ 1 _ rfl; (with_reducible repeat (first | refine blk_drewN ?_ _ | refine blk_drew ?_ | refine blk_alloc ?_ _)); refine blk_put (cs := #[.int .i64 0, .int .i64 0, .int .i64 0]) ?_ 0 _ rfl; (with_reducible repeat (first | refine blk_drewN ?_ _ | refine blk_drew ?_ | refine blk_alloc ?_ _)); exact BK265.out) hb); have n1_ := Aside0.mk (below_step (by repeat (first | (with_reducible first | exact HB.out | apply below_alloc | apply pw_below_drewN | apply below_drew1 | refine below_set ?_ GE265.out) | exact HB.out)) hb); clear BK265; clear HB; have BK265 := n0_; have HB := n1_; clear n0_ n1_; (try clear hb); (try clear hb2); (try clear hk); (try clear hi); have hcz36_0 : w35.cell? ⟨gb265, 0, none⟩ = some (.int .i64 (wrap64 (Int.tmod a0 249))) := (blk_cell BK265.out 0).trans rfl; have hcz36_1 : w35.cell? ⟨gb265, 1, none⟩ = some (.int .i64 0) := (blk_cell BK265.out 1).trans rfl; have hcz36_2 : w35.cell? ⟨gb265, 2, none⟩ = some (.int .i64 a1) := (blk_cell BK265.out 2).trans rfl; have hfz36_0 := blk_frozen BK265.out 0; have hfz36_1 := blk_frozen BK265.out 1; have hfz36_2 := blk_frozen BK265.out 2) | ((with_reducible refine gate_callee (f := 28) rfl ?_); refine goesL_ (some 24) rfl rfl Try.func28 (by kernel_rfl) rfl #[.agg #[.int .i64 (wrap64 (Int.tmod a0 249)), .int .i64 0, .int .i64 a1], .int .i64 (-1)] rfl (by (try simp only [List.map_toArray, List.map_cons, List.map_nil]); first | done | rfl | (simp only [List.length_drop, List.length_take]; rfl)) ?_; (with_reducible refine (car_Car_Near.calls k (wrap64 (Int.tmod a0 249)) 0 a1 (-1) t267 _ A7.out).mono ?_); rintro e w37 ⟨rfl, hb⟩; refine ⟨_, rfl, ?_⟩; have n0_ := Aside0.mk (blk_below (g := gb265) (o := .cells #[.int .i64 (wrap64 (Int.tmod a0 249)), .int .i64 0, .int .i64 a1] 37 (0, 0)) (by (with_reducible repeat (first | refine blk_drewN ?_ _ | refine blk_drew ?_ | refine blk_alloc ?_ _)); exact BK265.out) hb); have n1_ := Aside0.mk (below_step (by repeat (first | (with_reducible first | exact HB.out | apply below_alloc | apply pw_below_drewN | apply below_drew1 | refine below_set ?_ GE265.out) | exact HB.out)) hb); clear BK265; clear HB; have BK265 := n0_; have HB := n1_; clear n0_ n1_; (try clear hb); (try clear hb2); (try clear hk); (try clear hi); have hcz38_0 : w37.cell? ⟨gb265, 0, none⟩ = some (.int .i64 (wrap64 (Int.tmod a0 249))) := (blk_cell BK265.out 0).trans rfl; have hcz38_1 : w37.cell? ⟨gb265, 1, none⟩ = some (.int .i64 0) := (blk_cell BK265.out 1).trans rfl; have hcz38_2 : w37.cell? ⟨gb265, 2, none⟩ = some (.int .i64 a1) := (blk_cell BK265.out 2).trans rfl; have hfz38_0 := blk_frozen BK265.out 0; have hfz38_1 := blk_frozen BK265.out 1; have hfz38_2 := blk_frozen BK265.out 2) | ((with_reducible refine gate_callee (f := 27) rfl ?_); refine goesL_ (some 27) rfl rfl Try.func27 (by kernel_rfl) rfl #[.agg #[.int .i64 (wrap64 (Int.tmod a0 249)), .int .i64 0, .int .i64 a1], .int .i64 a2] rfl (by (try simp only [List.map_toArray, List.map_cons, List.map_nil]); first | done | rfl | (simp only [List.length_drop, List.length_take]; rfl)) ?_; (with_reducible refine (car_Car_Light.calls (wrap64 (Int.tmod a0 249)) 0 a1 a2 t268 _ A8.out).mono ?_); rintro e w39 ⟨rfl, hb⟩; refine ⟨_, rfl, ?_⟩; have n0_ := Aside0.mk (blk_below (g := gb265) (o := .cells #[.int .i64 (wrap64 (Int.tmod a0 249)), .int .i64 0, .int .i64 a1] 37 (0, 0)) (by (with_reducible repeat (first | refine blk_drewN ?_ _ | refine blk_drew ?_ | refine blk_alloc ?_ _)); exact BK265.out) hb); have n1_ := Aside0.mk (below_step (by repeat (first | (with_reducible first | exact HB.out | apply below_alloc | apply pw_below_drewN | apply below_drew1 | refine below_set ?_ GE265.out) | exact HB.out)) hb); clear BK265; clear HB; have BK265 := n0_; have HB := n1_; clear n0_ n1_; (try clear hb); (try clear hb2); (try clear hk); (try clear hi); have hcz40_0 : w39.cell? ⟨gb265, 0, none⟩ = some (.int .i64 (wrap64 (Int.tmod a0 249))) := (blk_cell BK265.out 0).trans rfl; have hcz40_1 : w39.cell? ⟨gb265, 1, none⟩ = some (.int .i64 0) := (blk_cell BK265.out 1).trans rfl; have hcz40_2 : w39.cell? ⟨gb265, 2, none⟩ = some (.int .i64 a1) := (blk_cell BK265.out 2).trans rfl; have hfz40_0 := blk_frozen BK265.out 0; have hfz40_1 := blk_frozen BK265.out 1; have hfz40_2 := blk_frozen BK265.out 2) | ((with_reducible refine gate_callee (f := 25) rfl ?_); refine goesL_ (some 29) rfl rfl Try.func25 (by kernel_rfl) rfl #[.agg #[.int .i64 (wrap64 (Int.tmod a0 249)), .int .i64 0, .int .i64 a1]] rfl (by (try simp only [List.map_toArray, List.map_cons, List.map_nil]); first | done | rfl | (simp only [List.length_drop, List.length_take]; rfl)) ?_; (with_reducible refine (car_Car_Level.calls (wrap64 (Int.tmod a0 249)) 0 a1 false _ A9.out).mono ?_); rintro e w41 ⟨rfl, hb⟩; refine ⟨_, rfl, ?_⟩; have n0_ := Aside0.mk (blk_below (g := gb265) (o := .cells #[.int .i64 (wrap64 (Int.tmod a0 249)), .int .i64 0, .int .i64 a1] 37 (0, 0)) (by (with_reducible repeat (first | refine blk_drewN ?_ _ | refine blk_drew ?_ | refine blk_alloc ?_ _)); exact BK265.out) hb); have n1_ := Aside0.mk (below_step (by repeat (first | (with_reducible first | exact HB.out | apply below_alloc | apply pw_below_drewN | apply below_drew1 | refine below_set ?_ GE265.out) | exact HB.out)) hb); clear BK265; clear HB; have BK265 := n0_; have HB := n1_; clear n0_ n1_; (try clear hb); (try clear hb2); (try clear hk); (try clear hi)))
         have n0_ := Aside0.mk (blk_drew BK265.out)
         have n1_ := Aside0.mk (below_drew1 HB.out)
         clear BK265
         clear HB
         have BK265 := n0_
         have HB := n1_
         clear n0_ n1_
         refine start_ (n := 11) (S := fun w' => w'.cell? ⟨gb265, 0, none⟩ = some (.int .i64 (wrap64 (Int.tmod a0 249))) ∧ w'.cell? ⟨gb265, 1, none⟩ = some (.int .i64 0) ∧ w'.cell? ⟨gb265, 2, none⟩ = some (.int .i64 a1)) (ds := []) #[false,false,false,false,false,false,false,false,false,false,false] (by kernel_rfl) rfl rfl ⟨(blk_cell BK265.out 0).trans rfl, (blk_cell BK265.out 1).trans rfl, (blk_cell BK265.out 2).trans rfl⟩ (fun hHeld => ?_); refine with_tabW paternosterlaw07_CarLights.tab10 paternosterlaw07_CarLights.bits10 (fun HT_ HW_ => ?_)
         generalize w41.drew = w42 at BK265 HB hHeld ⊢
         refine pure_ (i := 0) (N := some 36) (v := ?_) (a' := ?_) #[true,false,false,false,false,false,false,false,false,false,false] rfl rfl (any_of HT_.out (by kernel_rfl)) (fun _ _ _ h => h) (Or.inl ⟨by rfl, ?_⟩) ?_ ?_
         rotate_left
         ·intro w'
          go_simp
          with_reducible rfl
         rotate_left
         ·simp only [Act.put, sA, sB, sC, i64_w, i32_w]
          rfl
         refine pure_ (i := 2) (N := some 38) (v := ?_) (a' := ?_) #[true,false,true,false,false,false,false,false,false,false,false] rfl rfl (any_of HT_.out (by kernel_rfl)) (fun _ _ _ h => h) (Or.inl ⟨by rfl, ?_⟩) ?_ ?_
         rotate_left
         ·intro w'
          go_simp
          with_reducible rfl
         rotate_left
         ·simp only [Act.put, sA, sB, sC, i64_w, i32_w]
          rfl
         refine pure_ (i := 4) (N := some 40) (v := ?_) (a' := ?_) #[true,false,true,false,true,false,false,false,false,false,false] rfl rfl (any_of HT_.out (by kernel_rfl)) (fun _ _ _ h => h) (Or.inl ⟨by rfl, ?_⟩) ?_ ?_
         rotate_left
         ·intro w'
          go_simp
          with_reducible rfl
         rotate_left
         ·simp only [Act.put, sA, sB, sC, i64_w, i32_w]
          rfl
         refine take_ (i := 1) (N := some 37) (v := ?_) (a' := ?_) #[true,true,true,false,true,false,false,false,false,false,false] rfl rfl (take_ofW HT_.out HW_.out (by kernel_rfl)) (fun _ _ _ h => h) (Or.inl ⟨by rfl, ?_⟩) hHeld ?_ ?_
         rotate_left
         ·rintro w' ⟨s0, s1, s2⟩
          go_simp
          with_reducible rfl
         rotate_left
         ·simp only [Act.put, sA, sB, sC, i64_w, i32_w]
          rfl
         refine take_ (i := 3) (N := some 39) (v := ?_) (a' := ?_) #[true,true,true,true,true,false,false,false,false,false,false] rfl rfl (take_ofW HT_.out HW_.out (by kernel_rfl)) (fun _ _ _ h => h) (Or.inl ⟨by rfl, ?_⟩) hHeld ?_ ?_
         rotate_left
         ·rintro w' ⟨s0, s1, s2⟩
          go_simp
          with_reducible rfl
         rotate_left
         ·simp only [Act.put, sA, sB, sC, i64_w, i32_w]
          rfl
         refine join_ (σ := Nat) 1 #[true,true,true,true,true,true,true,true,true,true,false] (fun s_ => [(41, .int .i64 t270), (12, .pointer (some ⟨s_, 0, none⟩)), (42, .int .i64 (wrap64 (t268 * t270))), (43, .int .i64 (wrap64 ((wrap64 (Int.tmod a0 249)) + (wrap64 (t268 * t270))))), (44, .agg #[.int .i64 (wrap64 ((wrap64 (Int.tmod a0 249)) + (wrap64 (t268 * t270)))), .int .i64 0, .int .i64 0])]) (fun s_ w' => (w'.cell? ⟨gb265, 0, none⟩ = some (.int .i64 (wrap64 (Int.tmod a0 249))) ∧ w'.cell? ⟨gb265, 1, none⟩ = some (.int .i64 0) ∧ w'.cell? ⟨gb265, 2, none⟩ = some (.int .i64 a1)) ∧ (w'.heap[gb265]? = some (.cells #[.int .i64 (wrap64 (Int.tmod a0 249)), .int .i64 0, .int .i64 a1] 37 (0, 0))) ∧ (w'.heap[s_]? = some (.cells #[.int .i64 0, .int .i64 0, .int .i64 0] 37 (0, 0))) ∧ (w.heap.size ≤ s_) ∧ (w.heap.size ≤ s_) ∧ (gb265 ≠ s_) ∧ (s_ ≠ gb265) ∧ (Below w.heap.size w w')) ?_ ?_
         rotate_left
         ·intro hCont
          refine two_ (i := 5) (j := 9) (Ni := some 41) (Nj := some 12) #[true,true,true,true,true,true,false,false,false,false,false] #[true,true,true,true,true,false,false,false,false,true,false] rfl rfl rfl rfl (two_of HT_.out (by kernel_rfl)) (by decide) (by decide) (fun K hK => ?_) (fun K hK => ?_)
          ·skip
           refine goes_ Try.func28 (by kernel_rfl) rfl #[.agg #[.int .i64 (wrap64 (Int.tmod a0 249)), .int .i64 0, .int .i64 a1], .int .i64 t268] (by rfl) rfl rfl (by (try simp only [List.map_toArray, List.map_cons, List.map_nil]); first | done | rfl | (simp only [List.length_drop, List.length_take]; rfl)) ?_
           with_reducible refine (car_Car_Near.calls k (wrap64 (Int.tmod a0 249)) 0 a1 t268 t270 _ A22.out).mono ?_
           rintro e w43 ⟨rfl, hb⟩
           refine ⟨_, rfl, ?_⟩
           have n0_ := Aside0.mk (blk_below (g := gb265) (o := .cells #[.int .i64 (wrap64 (Int.tmod a0 249)), .int .i64 0, .int .i64 a1] 37 (0, 0)) (by (with_reducible repeat (first | refine blk_drewN ?_ _ | refine blk_drew ?_ | refine blk_alloc ?_ _)); exact BK265.out) hb)
           have n1_ := Aside0.mk (below_step (by repeat (first | (with_reducible first | exact HB.out | apply below_alloc | apply pw_below_drewN | apply below_drew1 | refine below_set ?_ GE265.out) | exact HB.out)) hb)
           clear BK265
           clear HB
           have BK265 := n0_
           have HB := n1_
           clear n0_ n1_
           (try clear hb)
           (try clear hb2)
           (try clear hk)
           (try clear hi)
           refine hK.out _ _ ⟨(blk_cell BK265.out 0).trans rfl, (blk_cell BK265.out 1).trans rfl, (blk_cell BK265.out 2).trans rfl⟩ (fun hHeld => ?_)
           clear hK K
           refine norm_ (a' := ?_) ?_ ?_
           rotate_left
           ·show Act.put _ (some 41) _ = _
            simp only [Act.put, sA, sB, sC, i64_w, i32_w]
            rfl
           refine pure_ (i := 6) (N := some 42) (v := ?_) (a' := ?_) #[true,true,true,true,true,true,true,false,false,false,false] rfl rfl (any_of HT_.out (by kernel_rfl)) (fun _ _ _ h => h) (Or.inl ⟨by rfl, ?_⟩) ?_ ?_
           rotate_left
           ·intro w'
            go_simp
            with_reducible rfl
           rotate_left
           ·simp only [Act.put, sA, sB, sC, i64_w, i32_w]
            rfl
           refine pure_ (i := 7) (N := some 43) (v := ?_) (a' := ?_) #[true,true,true,true,true,true,true,true,false,false,false] rfl rfl (any_of HT_.out (by kernel_rfl)) (fun _ _ _ h => h) (Or.inl ⟨by rfl, ?_⟩) ?_ ?_
           rotate_left
           ·intro w'
            go_simp
            with_reducible rfl
           rotate_left
           ·simp only [Act.put, sA, sB, sC, i64_w, i32_w]
            rfl
           refine pure_ (i := 8) (N := some 44) (v := ?_) (a' := ?_) #[true,true,true,true,true,true,true,true,true,false,false] rfl rfl (any_of HT_.out (by kernel_rfl)) (fun _ _ _ h => h) (Or.inl ⟨by rfl, ?_⟩) ?_ ?_
           rotate_left
           ·intro w'
            go_simp
            with_reducible rfl
           rotate_left
           ·simp only [Act.put, sA, sB, sC, i64_w, i32_w]
            rfl
           refine one_ (i := 9) (N := some 12) #[true,true,true,true,true,true,true,true,true,true,false] rfl rfl (one_of HT_.out (by kernel_rfl)) (by decide) (fun K hK => ?_)
           refine box_step ?hg (N := 12) ?hd (cs := #[.int .i64 0, .int .i64 0, .int .i64 0]) (t := 37) ?hr ?_; (case hd => rfl); (case hg => rfl); (case hr => first | (go_simp; done) | (go_simp; rfl))
           intro gb271 hg w44 hbox hb
           have n0_ := Aside0.mk (blk_below (g := gb265) (o := .cells #[.int .i64 (wrap64 (Int.tmod a0 249)), .int .i64 0, .int .i64 a1] 37 (0, 0)) (by (with_reducible repeat (first | refine blk_drewN ?_ _ | refine blk_drew ?_ | refine blk_alloc ?_ _)); exact BK265.out) hb)
           have n1_ := Aside0.mk (below_step (by repeat (first | (with_reducible first | exact HB.out | apply below_alloc | apply pw_below_drewN | apply below_drew1 | refine below_set ?_ GE265.out) | exact HB.out)) hb)
           have n2_ := Aside0.mk (hbox)
           have n3_ := Aside0.mk ((by rw [hg]; exact (below_size (by repeat (first | (with_reducible first | exact HB.out | apply below_alloc | apply pw_below_drewN | apply below_drew1 | refine below_set ?_ GE265.out) | exact HB.out))) : w.heap.size ≤ gb271))
           have n4_ := Aside0.mk ((by rw [hg]; exact (below_size (by repeat (first | (with_reducible first | exact HB.out | apply below_alloc | apply pw_below_drewN | apply below_drew1 | refine below_set ?_ GE265.out) | exact HB.out))) : w.heap.size ≤ gb271))
           have n5_ := Aside0.mk ((by rw [hg]; exact Nat.ne_of_lt (blk_lt (g := gb265) (o := .cells #[.int .i64 (wrap64 (Int.tmod a0 249)), .int .i64 0, .int .i64 a1] 37 (0, 0)) (by (with_reducible repeat (first | refine blk_drewN ?_ _ | refine blk_drew ?_ | refine blk_alloc ?_ _)); exact BK265.out)) : gb265 ≠ gb271))
           have n6_ := Aside0.mk ((by rw [hg]; exact Nat.ne_of_gt (blk_lt (g := gb265) (o := .cells #[.int .i64 (wrap64 (Int.tmod a0 249)), .int .i64 0, .int .i64 a1] 37 (0, 0)) (by (with_reducible repeat (first | refine blk_drewN ?_ _ | refine blk_drew ?_ | refine blk_alloc ?_ _)); exact BK265.out)) : gb271 ≠ gb265))
           clear BK265
           clear HB
           have BK265 := n0_
           have HB := n1_
           have BK271 := n2_
           have GW271 := n3_
           have GE271 := n4_
           have NB265_271 := n5_
           have NB271_265 := n6_
           clear n0_ n1_ n2_ n3_ n4_ n5_ n6_
           clear hb hbox hg
           refine hK.out _ _ ⟨(blk_cell BK265.out 0).trans rfl, (blk_cell BK265.out 1).trans rfl, (blk_cell BK265.out 2).trans rfl⟩ (fun hHeld => ?_)
           clear hK K
           refine norm_ (a' := ?_) ?_ ?_
           rotate_left
           ·show Act.put _ (some 12) _ = _
            simp only [Act.put, sA, sB, sC, i64_w, i32_w]
            rfl
           exact norm_ (by simp only [putAll, Act.put, sA, sB, sC]) (hCont (gb271) _ ⟨hHeld, (by (with_reducible repeat (first | refine blk_drewN ?_ _ | refine blk_drew ?_ | refine blk_alloc ?_ _)); exact BK265.out), (by (with_reducible repeat (first | refine blk_drewN ?_ _ | refine blk_drew ?_ | refine blk_alloc ?_ _)); exact BK271.out), GW271.out, GE271.out, NB265_271.out, NB271_265.out, (by repeat (first | (with_reducible first | exact HB.out | apply below_alloc | apply pw_below_drewN | apply below_drew1 | refine below_set ?_ GE265.out | refine below_set ?_ GE271.out) | exact HB.out))⟩)
          ·skip
           refine box_step ?hg (N := 12) ?hd (cs := #[.int .i64 0, .int .i64 0, .int .i64 0]) (t := 37) ?hr ?_; (case hd => rfl); (case hg => rfl); (case hr => first | (go_simp; done) | (go_simp; rfl))
           intro gb271 hg w43 hbox hb
           have n0_ := Aside0.mk (blk_below (g := gb265) (o := .cells #[.int .i64 (wrap64 (Int.tmod a0 249)), .int .i64 0, .int .i64 a1] 37 (0, 0)) (by (with_reducible repeat (first | refine blk_drewN ?_ _ | refine blk_drew ?_ | refine blk_alloc ?_ _)); exact BK265.out) hb)
           have n1_ := Aside0.mk (below_step (by repeat (first | (with_reducible first | exact HB.out | apply below_alloc | apply pw_below_drewN | apply below_drew1 | refine below_set ?_ GE265.out) | exact HB.out)) hb)
           have n2_ := Aside0.mk (hbox)
           have n3_ := Aside0.mk ((by rw [hg]; exact (below_size (by repeat (first | (with_reducible first | exact HB.out | apply below_alloc | apply pw_below_drewN | apply below_drew1 | refine below_set ?_ GE265.out) | exact HB.out))) : w.heap.size ≤ gb271))
           have n4_ := Aside0.mk ((by rw [hg]; exact (below_size (by repeat (first | (with_reducible first | exact HB.out | apply below_alloc | apply pw_below_drewN | apply below_drew1 | refine below_set ?_ GE265.out) | exact HB.out))) : w.heap.size ≤ gb271))
           have n5_ := Aside0.mk ((by rw [hg]; exact Nat.ne_of_lt (blk_lt (g := gb265) (o := .cells #[.int .i64 (wrap64 (Int.tmod a0 249)), .int .i64 0, .int .i64 a1] 37 (0, 0)) (by (with_reducible repeat (first | refine blk_drewN ?_ _ | refine blk_drew ?_ | refine blk_alloc ?_ _)); exact BK265.out)) : gb265 ≠ gb271))
           have n6_ := Aside0.mk ((by rw [hg]; exact Nat.ne_of_gt (blk_lt (g := gb265) (o := .cells #[.int .i64 (wrap64 (Int.tmod a0 249)), .int .i64 0, .int .i64 a1] 37 (0, 0)) (by (with_reducible repeat (first | refine blk_drewN ?_ _ | refine blk_drew ?_ | refine blk_alloc ?_ _)); exact BK265.out)) : gb271 ≠ gb265))
           clear BK265
           clear HB
           have BK265 := n0_
           have HB := n1_
           have BK271 := n2_
           have GW271 := n3_
           have GE271 := n4_
           have NB265_271 := n5_
           have NB271_265 := n6_
           clear n0_ n1_ n2_ n3_ n4_ n5_ n6_
           clear hb hbox hg
           refine hK.out _ _ ⟨(blk_cell BK265.out 0).trans rfl, (blk_cell BK265.out 1).trans rfl, (blk_cell BK265.out 2).trans rfl⟩ (fun hHeld => ?_)
           clear hK K
           refine norm_ (a' := ?_) ?_ ?_
           rotate_left
           ·show Act.put _ (some 12) _ = _
            simp only [Act.put, sA, sB, sC, i64_w, i32_w]
            rfl
           refine one_ (i := 5) (N := some 41) #[true,true,true,true,true,true,false,false,false,true,false] rfl rfl (one_of HT_.out (by kernel_rfl)) (by decide) (fun K hK => ?_)
           refine goes_ Try.func28 (by kernel_rfl) rfl #[.agg #[.int .i64 (wrap64 (Int.tmod a0 249)), .int .i64 0, .int .i64 a1], .int .i64 t268] (by rfl) rfl rfl (by (try simp only [List.map_toArray, List.map_cons, List.map_nil]); first | done | rfl | (simp only [List.length_drop, List.length_take]; rfl)) ?_
           with_reducible refine (car_Car_Near.calls k (wrap64 (Int.tmod a0 249)) 0 a1 t268 t270 _ A22.out).mono ?_
           rintro e w44 ⟨rfl, hb⟩
           refine ⟨_, rfl, ?_⟩
           have n0_ := Aside0.mk (blk_below (g := gb265) (o := .cells #[.int .i64 (wrap64 (Int.tmod a0 249)), .int .i64 0, .int .i64 a1] 37 (0, 0)) (by (with_reducible repeat (first | refine blk_drewN ?_ _ | refine blk_drew ?_ | refine blk_alloc ?_ _)); exact BK265.out) hb)
           have n1_ := Aside0.mk (blk_below (g := gb271) (o := .cells #[.int .i64 0, .int .i64 0, .int .i64 0] 37 (0, 0)) (by (with_reducible repeat (first | refine blk_drewN ?_ _ | refine blk_drew ?_ | refine blk_alloc ?_ _)); exact BK271.out) hb)
           have n2_ := Aside0.mk (below_step (by repeat (first | (with_reducible first | exact HB.out | apply below_alloc | apply pw_below_drewN | apply below_drew1 | refine below_set ?_ GE265.out | refine below_set ?_ GE271.out) | exact HB.out)) hb)
           clear BK265
           clear BK271
           clear HB
           have BK265 := n0_
           have BK271 := n1_
           have HB := n2_
           clear n0_ n1_ n2_
           (try clear hb)
           (try clear hb2)
           (try clear hk)
           (try clear hi)
           refine hK.out _ _ ⟨(blk_cell BK265.out 0).trans rfl, (blk_cell BK265.out 1).trans rfl, (blk_cell BK265.out 2).trans rfl⟩ (fun hHeld => ?_)
           clear hK K
           refine norm_ (a' := ?_) ?_ ?_
           rotate_left
           ·show Act.put _ (some 41) _ = _
            simp only [Act.put, sA, sB, sC, i64_w, i32_w]
            rfl
           refine pure_ (i := 6) (N := some 42) (v := ?_) (a' := ?_) #[true,true,true,true,true,true,true,false,false,true,false] rfl rfl (any_of HT_.out (by kernel_rfl)) (fun _ _ _ h => h) (Or.inl ⟨by rfl, ?_⟩) ?_ ?_
           rotate_left
           ·intro w'
            go_simp
            with_reducible rfl
           rotate_left
           ·simp only [Act.put, sA, sB, sC, i64_w, i32_w]
            rfl
           refine pure_ (i := 7) (N := some 43) (v := ?_) (a' := ?_) #[true,true,true,true,true,true,true,true,false,true,false] rfl rfl (any_of HT_.out (by kernel_rfl)) (fun _ _ _ h => h) (Or.inl ⟨by rfl, ?_⟩) ?_ ?_
           rotate_left
           ·intro w'
            go_simp
            with_reducible rfl
           rotate_left
           ·simp only [Act.put, sA, sB, sC, i64_w, i32_w]
            rfl
           refine pure_ (i := 8) (N := some 44) (v := ?_) (a' := ?_) #[true,true,true,true,true,true,true,true,true,true,false] rfl rfl (any_of HT_.out (by kernel_rfl)) (fun _ _ _ h => h) (Or.inl ⟨by rfl, ?_⟩) ?_ ?_
           rotate_left
           ·intro w'
            go_simp
            with_reducible rfl
           rotate_left
           ·simp only [Act.put, sA, sB, sC, i64_w, i32_w]
            rfl
           exact norm_ (by simp only [putAll, Act.put, sA, sB, sC]) (hCont (gb271) _ ⟨hHeld, (by (with_reducible repeat (first | refine blk_drewN ?_ _ | refine blk_drew ?_ | refine blk_alloc ?_ _)); exact BK265.out), (by (with_reducible repeat (first | refine blk_drewN ?_ _ | refine blk_drew ?_ | refine blk_alloc ?_ _)); exact BK271.out), GW271.out, GE271.out, NB265_271.out, NB271_265.out, (by repeat (first | (with_reducible first | exact HB.out | apply below_alloc | apply pw_below_drewN | apply below_drew1 | refine below_set ?_ GE265.out | refine below_set ?_ GE271.out) | exact HB.out))⟩)
         rintro gb271 w45 ⟨hS_, h0_, h1_, h2_, h3_, h4_, h5_, h6_⟩
         have n0_ : Aside0 (w45.heap[gb265]? = some (.cells #[.int .i64 (wrap64 (Int.tmod a0 249)), .int .i64 0, .int .i64 a1] 37 (0, 0))) := ⟨h0_⟩
         have n1_ : Aside0 (w45.heap[gb271]? = some (.cells #[.int .i64 0, .int .i64 0, .int .i64 0] 37 (0, 0))) := ⟨h1_⟩
         have n2_ : Aside0 (w.heap.size ≤ gb271) := ⟨h2_⟩
         have n3_ : Aside0 (w.heap.size ≤ gb271) := ⟨h3_⟩
         have n4_ : Aside0 (gb265 ≠ gb271) := ⟨h4_⟩
         have n5_ : Aside0 (gb271 ≠ gb265) := ⟨h5_⟩
         have n6_ : Aside0 (Below w.heap.size w w45) := ⟨h6_⟩
         clear BK265
         clear HB
         clear h0_ h1_ h2_ h3_ h4_ h5_ h6_
         have BK265 := n0_
         have BK271 := n1_
         have GW271 := n2_
         have GE271 := n3_
         have NB265_271 := n4_
         have NB271_265 := n5_
         have HB := n6_
         clear n0_ n1_ n2_ n3_ n4_ n5_ n6_
         have hHeld : w45.cell? ⟨gb265, 0, none⟩ = some (.int .i64 (wrap64 (Int.tmod a0 249))) ∧ w45.cell? ⟨gb265, 1, none⟩ = some (.int .i64 0) ∧ w45.cell? ⟨gb265, 2, none⟩ = some (.int .i64 a1) := hS_
         refine norm_ (a' := ?_) ?_ ?_
         rotate_left
         ·simp only [putAll, Act.put, sA, sB, sC]
          rfl
         refine one_ (i := 10) (N := none) #[true,true,true,true,true,true,true,true,true,true,true] rfl rfl (one_of HT_.out (by kernel_rfl)) (by decide) (fun K hK => ?_)
         have hs46 : w45.cell? ⟨gb271, 0, none⟩ = some (.int .i64 0) := (blk_cell BK271.out 0).trans rfl
         have hfs46 := blk_frozen BK271.out 0
         have hns46_0 := NB265_271.out
         have hms46_0 := NB271_265.out
         have hs47 : w45.cell? ⟨gb271, 1, none⟩ = some (.int .i64 0) := (blk_cell BK271.out 1).trans rfl
         have hfs47 := blk_frozen BK271.out 1
         have hns47_0 := NB265_271.out
         have hms47_0 := NB271_265.out
         have hs48 : w45.cell? ⟨gb271, 2, none⟩ = some (.int .i64 0) := (blk_cell BK271.out 2).trans rfl
         have hfs48 := blk_frozen BK271.out 2
         have hns48_0 := NB265_271.out
         have hms48_0 := NB271_265.out
         refine skip_ (w1 := ?_) (by rfl) rfl ?_ ?_
         rotate_left
         ·go_simp
          rfl
         refine hK.out _ _ ⟨((cell_far (p := ⟨gb271, _, none⟩) NB265_271.out _).trans (((cell_far (p := ⟨gb271, _, none⟩) NB265_271.out _).trans (((cell_far (p := ⟨gb271, _, none⟩) NB265_271.out _).trans (hHeld.1)))))), ((cell_far (p := ⟨gb271, _, none⟩) NB265_271.out _).trans (((cell_far (p := ⟨gb271, _, none⟩) NB265_271.out _).trans (((cell_far (p := ⟨gb271, _, none⟩) NB265_271.out _).trans (hHeld.2.1)))))), ((cell_far (p := ⟨gb271, _, none⟩) NB265_271.out _).trans (((cell_far (p := ⟨gb271, _, none⟩) NB265_271.out _).trans (((cell_far (p := ⟨gb271, _, none⟩) NB265_271.out _).trans (hHeld.2.2))))))⟩ (fun hHeld => ?_)
         clear hK K
         refine done_ (done_of HT_.out (by kernel_rfl)) ?_
         try go_wp2
         have n0_ : Aside0 ((((w45.setCell ⟨gb271, 0, none⟩ (.int .i64 (wrap64 ((wrap64 (Int.tmod a0 249)) + (wrap64 (t268 * t270)))))).setCell ⟨gb271, 1, none⟩ (.int .i64 0)).setCell ⟨gb271, 2, none⟩ (.int .i64 0)).heap[gb265]? = some (.cells #[.int .i64 (wrap64 (Int.tmod a0 249)), .int .i64 0, .int .i64 a1] 37 (0, 0))) := ⟨by (with_reducible repeat (first | refine blk_drewN ?_ _ | refine blk_drew ?_ | refine blk_alloc ?_ _)); refine blk_far ?_ NB265_271.out _; (with_reducible repeat (first | refine blk_drewN ?_ _ | refine blk_drew ?_ | refine blk_alloc ?_ _)); refine blk_far ?_ NB265_271.out _; (with_reducible repeat (first | refine blk_drewN ?_ _ | refine blk_drew ?_ | refine blk_alloc ?_ _)); refine blk_far ?_ NB265_271.out _; (with_reducible repeat (first | refine blk_drewN ?_ _ | refine blk_drew ?_ | refine blk_alloc ?_ _)); exact BK265.out⟩
         have n1_ : Aside0 ((((w45.setCell ⟨gb271, 0, none⟩ (.int .i64 (wrap64 ((wrap64 (Int.tmod a0 249)) + (wrap64 (t268 * t270)))))).setCell ⟨gb271, 1, none⟩ (.int .i64 0)).setCell ⟨gb271, 2, none⟩ (.int .i64 0)).heap[gb271]? = some (.cells #[.int .i64 (wrap64 ((wrap64 (Int.tmod a0 249)) + (wrap64 (t268 * t270)))), .int .i64 0, .int .i64 0] 37 (0, 0))) := ⟨by (with_reducible repeat (first | refine blk_drewN ?_ _ | refine blk_drew ?_ | refine blk_alloc ?_ _)); refine blk_put (cs := #[.int .i64 (wrap64 ((wrap64 (Int.tmod a0 249)) + (wrap64 (t268 * t270)))), .int .i64 0, .int .i64 0]) ?_ 2 _ rfl; (with_reducible repeat (first | refine blk_drewN ?_ _ | refine blk_drew ?_ | refine blk_alloc ?_ _)); refine blk_put (cs := #[.int .i64 (wrap64 ((wrap64 (Int.tmod a0 249)) + (wrap64 (t268 * t270)))), .int .i64 0, .int .i64 0]) ?_ 1 _ rfl; (with_reducible repeat (first | refine blk_drewN ?_ _ | refine blk_drew ?_ | refine blk_alloc ?_ _)); refine blk_put (cs := #[.int .i64 0, .int .i64 0, .int .i64 0]) ?_ 0 _ rfl; (with_reducible repeat (first | refine blk_drewN ?_ _ | refine blk_drew ?_ | refine blk_alloc ?_ _)); exact BK271.out⟩
         have n2_ : Aside0 (Below w.heap.size w (((w45.setCell ⟨gb271, 0, none⟩ (.int .i64 (wrap64 ((wrap64 (Int.tmod a0 249)) + (wrap64 (t268 * t270)))))).setCell ⟨gb271, 1, none⟩ (.int .i64 0)).setCell ⟨gb271, 2, none⟩ (.int .i64 0))) := ⟨by repeat (first | (with_reducible first | exact HB.out | apply below_alloc | apply pw_below_drewN | apply below_drew1 | refine below_set ?_ GE265.out | refine below_set ?_ GE271.out) | exact HB.out)⟩
         (try clear BK265)
         (try clear BK271)
         (try clear HB)
         generalize (((w45.setCell ⟨gb271, 0, none⟩ (.int .i64 (wrap64 ((wrap64 (Int.tmod a0 249)) + (wrap64 (t268 * t270)))))).setCell ⟨gb271, 1, none⟩ (.int .i64 0)).setCell ⟨gb271, 2, none⟩ (.int .i64 0)) = w49 at n0_ n1_ n2_ ⊢
         have BK265 := n0_
         have BK271 := n1_
         have HB := n2_
         clear n0_ n1_ n2_
         have n0_ := Aside0.mk (blk_drew BK265.out)
         have n1_ := Aside0.mk (blk_drew BK271.out)
         have n2_ := Aside0.mk (below_drew1 HB.out)
         clear BK265
         clear BK271
         clear HB
         have BK265 := n0_
         have BK271 := n1_
         have HB := n2_
         clear n0_ n1_ n2_
         refine start_ (n := 40) (S := fun w' => w'.cell? ⟨gb271, 0, none⟩ = some (.int .i64 (wrap64 ((wrap64 (Int.tmod a0 249)) + (wrap64 (t268 * t270))))) ∧ w'.cell? ⟨gb271, 1, none⟩ = some (.int .i64 0) ∧ w'.cell? ⟨gb271, 2, none⟩ = some (.int .i64 0) ∧ w'.cell? ⟨gb265, 0, none⟩ = some (.int .i64 (wrap64 (Int.tmod a0 249))) ∧ w'.cell? ⟨gb265, 1, none⟩ = some (.int .i64 0) ∧ w'.cell? ⟨gb265, 2, none⟩ = some (.int .i64 a1)) (ds := []) #[false,false,false,false,false,false,false,false,false,false,false,false,false,false,false,false,false,false,false,false,false,false,false,false,false,false,false,false,false,false,false,false,false,false,false,false,false,false,false,false] (by kernel_rfl) rfl rfl ⟨(blk_cell BK271.out 0).trans rfl, (blk_cell BK271.out 1).trans rfl, (blk_cell BK271.out 2).trans rfl, (blk_cell BK265.out 0).trans rfl, (blk_cell BK265.out 1).trans rfl, (blk_cell BK265.out 2).trans rfl⟩ (fun hHeld => ?_); refine with_tabW paternosterlaw07_CarLights.tab11 paternosterlaw07_CarLights.bits11 (fun HT_ HW_ => ?_)
         generalize w49.drew = w50 at BK265 BK271 HB hHeld ⊢
         refine pure_ (i := 0) (N := some 45) (v := ?_) (a' := ?_) #[true,false,false,false,false,false,false,false,false,false,false,false,false,false,false,false,false,false,false,false,false,false,false,false,false,false,false,false,false,false,false,false,false,false,false,false,false,false,false,false] rfl rfl (any_of HT_.out (by kernel_rfl)) (fun _ _ _ h => h) (Or.inl ⟨by rfl, ?_⟩) ?_ ?_
         rotate_left
         ·intro w'
          go_simp
          with_reducible rfl
         rotate_left
         ·simp only [Act.put, sA, sB, sC, i64_w, i32_w]
          rfl
         refine pure_ (i := 1) (N := some 46) (v := ?_) (a' := ?_) #[true,true,false,false,false,false,false,false,false,false,false,false,false,false,false,false,false,false,false,false,false,false,false,false,false,false,false,false,false,false,false,false,false,false,false,false,false,false,false,false] rfl rfl (any_of HT_.out (by kernel_rfl)) (fun _ _ _ h => h) (Or.inl ⟨by rfl, ?_⟩) ?_ ?_
         rotate_left
         ·intro w'
          go_simp
          with_reducible rfl
         rotate_left
         ·simp only [Act.put, sA, sB, sC, i64_w, i32_w]
          rfl
         refine pure_ (i := 2) (N := some 47) (v := ?_) (a' := ?_) #[true,true,true,false,false,false,false,false,false,false,false,false,false,false,false,false,false,false,false,false,false,false,false,false,false,false,false,false,false,false,false,false,false,false,false,false,false,false,false,false] rfl rfl (any_of HT_.out (by kernel_rfl)) (fun _ _ _ h => h) (Or.inl ⟨by rfl, ?_⟩) ?_ ?_
         rotate_left
         ·intro w'
          go_simp
          with_reducible rfl
         rotate_left
         ·simp only [Act.put, sA, sB, sC, i64_w, i32_w]
          rfl
         refine pure_ (i := 3) (N := some 48) (v := ?_) (a' := ?_) #[true,true,true,true,false,false,false,false,false,false,false,false,false,false,false,false,false,false,false,false,false,false,false,false,false,false,false,false,false,false,false,false,false,false,false,false,false,false,false,false] rfl rfl (any_of HT_.out (by kernel_rfl)) (fun _ _ _ h => h) (Or.inl ⟨by rfl, ?_⟩) ?_ ?_
         rotate_left
         ·intro w'
          go_simp
          with_reducible rfl
         rotate_left
         ·simp only [Act.put, sA, sB, sC, i64_w, i32_w]
          rfl
         refine pure_ (i := 4) (N := some 49) (v := ?_) (a' := ?_) #[true,true,true,true,true,false,false,false,false,false,false,false,false,false,false,false,false,false,false,false,false,false,false,false,false,false,false,false,false,false,false,false,false,false,false,false,false,false,false,false] rfl rfl (any_of HT_.out (by kernel_rfl)) (fun _ _ _ h => h) (Or.inl ⟨by rfl, ?_⟩) ?_ ?_
         rotate_left
         ·intro w'
          go_simp
          with_reducible rfl
         rotate_left
         ·simp only [Act.put, sA, sB, sC, i64_w, i32_w]
          rfl
         refine pure_ (i := 5) (N := some 50) (v := ?_) (a' := ?_) #[true,true,true,true,true,true,false,false,false,false,false,false,false,false,false,false,false,false,false,false,false,false,false,false,false,false,false,false,false,false,false,false,false,false,false,false,false,false,false,false] rfl rfl (any_of HT_.out (by kernel_rfl)) (fun _ _ _ h => h) (Or.inl ⟨by rfl, ?_⟩) ?_ ?_
         rotate_left
         ·intro w'
          go_simp
          with_reducible rfl
         rotate_left
         ·simp only [Act.put, sA, sB, sC, i64_w, i32_w]
          rfl
         refine pure_ (i := 6) (N := some 51) (v := ?_) (a' := ?_) #[true,true,true,true,true,true,true,false,false,false,false,false,false,false,false,false,false,false,false,false,false,false,false,false,false,false,false,false,false,false,false,false,false,false,false,false,false,false,false,false] rfl rfl (any_of HT_.out (by kernel_rfl)) (fun _ _ _ h => h) (Or.inl ⟨by rfl, ?_⟩) ?_ ?_
         rotate_left
         ·intro w'
          go_simp
          with_reducible rfl
         rotate_left
         ·simp only [Act.put, sA, sB, sC, i64_w, i32_w]
          rfl
         refine pure_ (i := 7) (N := some 52) (v := ?_) (a' := ?_) #[true,true,true,true,true,true,true,true,false,false,false,false,false,false,false,false,false,false,false,false,false,false,false,false,false,false,false,false,false,false,false,false,false,false,false,false,false,false,false,false] rfl rfl (any_of HT_.out (by kernel_rfl)) (fun _ _ _ h => h) (Or.inl ⟨by rfl, ?_⟩) ?_ ?_
         rotate_left
         ·intro w'
          go_simp
          with_reducible rfl
         rotate_left
         ·simp only [Act.put, sA, sB, sC, i64_w, i32_w]
          rfl
         refine pure_ (i := 8) (N := some 53) (v := ?_) (a' := ?_) #[true,true,true,true,true,true,true,true,true,false,false,false,false,false,false,false,false,false,false,false,false,false,false,false,false,false,false,false,false,false,false,false,false,false,false,false,false,false,false,false] rfl rfl (any_of HT_.out (by kernel_rfl)) (fun _ _ _ h => h) (Or.inl ⟨by rfl, ?_⟩) ?_ ?_
         rotate_left
         ·intro w'
          go_simp
          with_reducible rfl
         rotate_left
         ·simp only [Act.put, sA, sB, sC, i64_w, i32_w]
          rfl
         refine pure_ (i := 9) (N := some 54) (v := ?_) (a' := ?_) #[true,true,true,true,true,true,true,true,true,true,false,false,false,false,false,false,false,false,false,false,false,false,false,false,false,false,false,false,false,false,false,false,false,false,false,false,false,false,false,false] rfl rfl (any_of HT_.out (by kernel_rfl)) (fun _ _ _ h => h) (Or.inl ⟨by rfl, ?_⟩) ?_ ?_
         rotate_left
         ·intro w'
          go_simp
          with_reducible rfl
         rotate_left
         ·simp only [Act.put, sA, sB, sC, i64_w, i32_w]
          rfl
         refine pure_ (i := 10) (N := some 55) (v := ?_) (a' := ?_) #[true,true,true,true,true,true,true,true,true,true,true,false,false,false,false,false,false,false,false,false,false,false,false,false,false,false,false,false,false,false,false,false,false,false,false,false,false,false,false,false] rfl rfl (any_of HT_.out (by kernel_rfl)) (fun _ _ _ h => h) (Or.inl ⟨by rfl, ?_⟩) ?_ ?_
         rotate_left
         ·intro w'
          go_simp
          with_reducible rfl
         rotate_left
         ·simp only [Act.put, sA, sB, sC, i64_w, i32_w]
          rfl
         refine pure_ (i := 11) (N := some 56) (v := ?_) (a' := ?_) #[true,true,true,true,true,true,true,true,true,true,true,true,false,false,false,false,false,false,false,false,false,false,false,false,false,false,false,false,false,false,false,false,false,false,false,false,false,false,false,false] rfl rfl (any_of HT_.out (by kernel_rfl)) (fun _ _ _ h => h) (Or.inl ⟨by rfl, ?_⟩) ?_ ?_
         rotate_left
         ·intro w'
          go_simp
          with_reducible rfl
         rotate_left
         ·simp only [Act.put, sA, sB, sC, i64_w, i32_w]
          rfl
         refine pure_ (i := 12) (N := some 57) (v := ?_) (a' := ?_) #[true,true,true,true,true,true,true,true,true,true,true,true,true,false,false,false,false,false,false,false,false,false,false,false,false,false,false,false,false,false,false,false,false,false,false,false,false,false,false,false] rfl rfl (any_of HT_.out (by kernel_rfl)) (fun _ _ _ h => h) (Or.inl ⟨by rfl, ?_⟩) ?_ ?_
         rotate_left
         ·intro w'
          go_simp
          with_reducible rfl
         rotate_left
         ·simp only [Act.put, sA, sB, sC, i64_w, i32_w]
          rfl
         refine take_ (i := 13) (N := some 58) (v := ?_) (a' := ?_) #[true,true,true,true,true,true,true,true,true,true,true,true,true,true,false,false,false,false,false,false,false,false,false,false,false,false,false,false,false,false,false,false,false,false,false,false,false,false,false,false] rfl rfl (take_ofW HT_.out HW_.out (by kernel_rfl)) (fun _ _ _ h => h) (Or.inl ⟨by rfl, ?_⟩) hHeld ?_ ?_
         rotate_left
         ·rintro w' ⟨s0, s1, s2, s3, s4, s5⟩
          go_simp
          with_reducible rfl
         rotate_left
         ·simp only [Act.put, sA, sB, sC, i64_w, i32_w]
          rfl
         refine one_ (i := 14) (N := some 59) #[true,true,true,true,true,true,true,true,true,true,true,true,true,true,true,false,false,false,false,false,false,false,false,false,false,false,false,false,false,false,false,false,false,false,false,false,false,false,false,false] rfl rfl (one_of HT_.out (by kernel_rfl)) (by decide) (fun K hK => ?_)
         refine goes_ Try.func25 (by kernel_rfl) rfl #[.agg #[.int .i64 (wrap64 ((wrap64 (Int.tmod a0 249)) + (wrap64 (t268 * t270)))), .int .i64 0, .int .i64 0]] (by rfl) rfl rfl (by (try simp only [List.map_toArray, List.map_cons, List.map_nil]); first | done | rfl | (simp only [List.length_drop, List.length_take]; rfl)) ?_
         with_reducible refine (car_Car_Level.calls (wrap64 ((wrap64 (Int.tmod a0 249)) + (wrap64 (t268 * t270)))) 0 0 true _ A26.out).mono ?_
         rintro e w51 ⟨rfl, hb⟩
         refine ⟨_, rfl, ?_⟩
         have n0_ := Aside0.mk (blk_below (g := gb265) (o := .cells #[.int .i64 (wrap64 (Int.tmod a0 249)), .int .i64 0, .int .i64 a1] 37 (0, 0)) (by (with_reducible repeat (first | refine blk_drewN ?_ _ | refine blk_drew ?_ | refine blk_alloc ?_ _)); exact BK265.out) hb)
         have n1_ := Aside0.mk (blk_below (g := gb271) (o := .cells #[.int .i64 (wrap64 ((wrap64 (Int.tmod a0 249)) + (wrap64 (t268 * t270)))), .int .i64 0, .int .i64 0] 37 (0, 0)) (by (with_reducible repeat (first | refine blk_drewN ?_ _ | refine blk_drew ?_ | refine blk_alloc ?_ _)); exact BK271.out) hb)
         have n2_ := Aside0.mk (below_step (by repeat (first | (with_reducible first | exact HB.out | apply below_alloc | apply pw_below_drewN | apply below_drew1 | refine below_set ?_ GE265.out | refine below_set ?_ GE271.out) | exact HB.out)) hb)
         clear BK265
         clear BK271
         clear HB
         have BK265 := n0_
         have BK271 := n1_
         have HB := n2_
         clear n0_ n1_ n2_
         (try clear hb)
         (try clear hb2)
         (try clear hk)
         (try clear hi)
         refine hK.out _ _ ⟨(blk_cell BK271.out 0).trans rfl, (blk_cell BK271.out 1).trans rfl, (blk_cell BK271.out 2).trans rfl, (blk_cell BK265.out 0).trans rfl, (blk_cell BK265.out 1).trans rfl, (blk_cell BK265.out 2).trans rfl⟩ (fun hHeld => ?_)
         clear hK K
         refine norm_ (a' := ?_) ?_ ?_
         rotate_left
         ·show Act.put _ (some 59) _ = _
          simp only [Act.put, sA, sB, sC, i64_w, i32_w]
          rfl
         refine pure_ (i := 15) (N := some 60) (v := ?_) (a' := ?_) #[true,true,true,true,true,true,true,true,true,true,true,true,true,true,true,true,false,false,false,false,false,false,false,false,false,false,false,false,false,false,false,false,false,false,false,false,false,false,false,false] rfl rfl (any_of HT_.out (by kernel_rfl)) (fun _ _ _ h => h) (Or.inl ⟨by rfl, ?_⟩) ?_ ?_
         rotate_left
         ·intro w'
          go_simp
          with_reducible rfl
         rotate_left
         ·simp only [Act.put, sA, sB, sC, i64_w, i32_w]
          rfl
         refine pure_ (i := 16) (N := some 61) (v := ?_) (a' := ?_) #[true,true,true,true,true,true,true,true,true,true,true,true,true,true,true,true,true,false,false,false,false,false,false,false,false,false,false,false,false,false,false,false,false,false,false,false,false,false,false,false] rfl rfl (any_of HT_.out (by kernel_rfl)) (fun _ _ _ h => h) (Or.inl ⟨by rfl, ?_⟩) ?_ ?_
         rotate_left
         ·intro w'
          go_simp
          with_reducible rfl
         rotate_left
         ·simp only [Act.put, sA, sB, sC, i64_w, i32_w]
          rfl
         refine take_ (i := 17) (N := some 62) (v := ?_) (a' := ?_) #[true,true,true,true,true,true,true,true,true,true,true,true,true,true,true,true,true,true,false,false,false,false,false,false,false,false,false,false,false,false,false,false,false,false,false,false,false,false,false,false] rfl rfl (take_ofW HT_.out HW_.out (by kernel_rfl)) (fun _ _ _ h => h) (Or.inl ⟨by rfl, ?_⟩) hHeld ?_ ?_
         rotate_left
         ·rintro w' ⟨s0, s1, s2, s3, s4, s5⟩
          go_simp
          with_reducible rfl
         rotate_left
         ·simp only [Act.put, sA, sB, sC, i64_w, i32_w]
          rfl
         refine take_ (i := 19) (N := some 64) (v := ?_) (a' := ?_) #[true,true,true,true,true,true,true,true,true,true,true,true,true,true,true,true,true,true,false,true,false,false,false,false,false,false,false,false,false,false,false,false,false,false,false,false,false,false,false,false] rfl rfl (take_ofW HT_.out HW_.out (by kernel_rfl)) (fun _ _ _ h => h) (Or.inl ⟨by rfl, ?_⟩) hHeld ?_ ?_
         rotate_left
         ·rintro w' ⟨s0, s1, s2, s3, s4, s5⟩
          go_simp
          with_reducible rfl
         rotate_left
         ·simp only [Act.put, sA, sB, sC, i64_w, i32_w]
          rfl
         refine one_ (i := 18) (N := some 63) #[true,true,true,true,true,true,true,true,true,true,true,true,true,true,true,true,true,true,true,true,false,false,false,false,false,false,false,false,false,false,false,false,false,false,false,false,false,false,false,false] rfl rfl (one_of HT_.out (by kernel_rfl)) (by decide) (fun K hK => ?_)
         refine goes_ Try.func26 (by kernel_rfl) rfl #[.agg #[.int .i64 (wrap64 ((wrap64 (Int.tmod a0 249)) + (wrap64 (t268 * t270)))), .int .i64 0, .int .i64 0]] (by rfl) rfl rfl (by (try simp only [List.map_toArray, List.map_cons, List.map_nil]); first | done | rfl | (simp only [List.length_drop, List.length_take]; rfl)) ?_
         with_reducible refine (car_Car_Floor.calls (wrap64 ((wrap64 (Int.tmod a0 249)) + (wrap64 (t268 * t270)))) 0 0 t273 _ A28.out).mono ?_
         rintro e w52 ⟨rfl, hb⟩
         refine ⟨_, rfl, ?_⟩
         have n0_ := Aside0.mk (blk_below (g := gb265) (o := .cells #[.int .i64 (wrap64 (Int.tmod a0 249)), .int .i64 0, .int .i64 a1] 37 (0, 0)) (by (with_reducible repeat (first | refine blk_drewN ?_ _ | refine blk_drew ?_ | refine blk_alloc ?_ _)); exact BK265.out) hb)
         have n1_ := Aside0.mk (blk_below (g := gb271) (o := .cells #[.int .i64 (wrap64 ((wrap64 (Int.tmod a0 249)) + (wrap64 (t268 * t270)))), .int .i64 0, .int .i64 0] 37 (0, 0)) (by (with_reducible repeat (first | refine blk_drewN ?_ _ | refine blk_drew ?_ | refine blk_alloc ?_ _)); exact BK271.out) hb)
         have n2_ := Aside0.mk (below_step (by repeat (first | (with_reducible first | exact HB.out | apply below_alloc | apply pw_below_drewN | apply below_drew1 | refine below_set ?_ GE265.out | refine below_set ?_ GE271.out) | exact HB.out)) hb)
         clear BK265
         clear BK271
         clear HB
         have BK265 := n0_
         have BK271 := n1_
         have HB := n2_
         clear n0_ n1_ n2_
         (try clear hb)
         (try clear hb2)
         (try clear hk)
         (try clear hi)
         refine hK.out _ _ ⟨(blk_cell BK271.out 0).trans rfl, (blk_cell BK271.out 1).trans rfl, (blk_cell BK271.out 2).trans rfl, (blk_cell BK265.out 0).trans rfl, (blk_cell BK265.out 1).trans rfl, (blk_cell BK265.out 2).trans rfl⟩ (fun hHeld => ?_)
         clear hK K
         refine norm_ (a' := ?_) ?_ ?_
         rotate_left
         ·show Act.put _ (some 63) _ = _
          simp only [Act.put, sA, sB, sC, i64_w, i32_w]
          rfl
         refine one_ (i := 20) (N := some 65) #[true,true,true,true,true,true,true,true,true,true,true,true,true,true,true,true,true,true,true,true,true,false,false,false,false,false,false,false,false,false,false,false,false,false,false,false,false,false,false,false] rfl rfl (one_of HT_.out (by kernel_rfl)) (by decide) (fun K hK => ?_)
         refine goes_ Try.func26 (by kernel_rfl) rfl #[.agg #[.int .i64 (wrap64 (Int.tmod a0 249)), .int .i64 0, .int .i64 a1]] (by rfl) rfl rfl (by (try simp only [List.map_toArray, List.map_cons, List.map_nil]); first | done | rfl | (simp only [List.length_drop, List.length_take]; rfl)) ?_
         with_reducible refine (car_Car_Floor.calls (wrap64 (Int.tmod a0 249)) 0 a1 t274 _ A29.out).mono ?_
         rintro e w53 ⟨rfl, hb⟩
         refine ⟨_, rfl, ?_⟩
         have n0_ := Aside0.mk (blk_below (g := gb265) (o := .cells #[.int .i64 (wrap64 (Int.tmod a0 249)), .int .i64 0, .int .i64 a1] 37 (0, 0)) (by (with_reducible repeat (first | refine blk_drewN ?_ _ | refine blk_drew ?_ | refine blk_alloc ?_ _)); exact BK265.out) hb)
         have n1_ := Aside0.mk (blk_below (g := gb271) (o := .cells #[.int .i64 (wrap64 ((wrap64 (Int.tmod a0 249)) + (wrap64 (t268 * t270)))), .int .i64 0, .int .i64 0] 37 (0, 0)) (by (with_reducible repeat (first | refine blk_drewN ?_ _ | refine blk_drew ?_ | refine blk_alloc ?_ _)); exact BK271.out) hb)
         have n2_ := Aside0.mk (below_step (by repeat (first | (with_reducible first | exact HB.out | apply below_alloc | apply pw_below_drewN | apply below_drew1 | refine below_set ?_ GE265.out | refine below_set ?_ GE271.out) | exact HB.out)) hb)
         clear BK265
         clear BK271
         clear HB
         have BK265 := n0_
         have BK271 := n1_
         have HB := n2_
         clear n0_ n1_ n2_
         (try clear hb)
         (try clear hb2)
         (try clear hk)
         (try clear hi)
         refine hK.out _ _ ⟨(blk_cell BK271.out 0).trans rfl, (blk_cell BK271.out 1).trans rfl, (blk_cell BK271.out 2).trans rfl, (blk_cell BK265.out 0).trans rfl, (blk_cell BK265.out 1).trans rfl, (blk_cell BK265.out 2).trans rfl⟩ (fun hHeld => ?_)
         clear hK K
         refine norm_ (a' := ?_) ?_ ?_
         rotate_left
         ·show Act.put _ (some 65) _ = _
          simp only [Act.put, sA, sB, sC, i64_w, i32_w]
          rfl
         refine pure_ (i := 21) (N := some 66) (v := ?_) (a' := ?_) #[true,true,true,true,true,true,true,true,true,true,true,true,true,true,true,true,true,true,true,true,true,true,false,false,false,false,false,false,false,false,false,false,false,false,false,false,false,false,false,false] rfl rfl (any_of HT_.out (by kernel_rfl)) (fun _ _ _ h => h) (Or.inl ⟨by rfl, ?_⟩) ?_ ?_
         rotate_left
         ·intro w'
          go_simp
          with_reducible rfl
         rotate_left
         ·simp only [Act.put, sA, sB, sC, i64_w, i32_w]
          rfl
         refine pure_ (i := 22) (N := some 67) (v := ?_) (a' := ?_) #[true,true,true,true,true,true,true,true,true,true,true,true,true,true,true,true,true,true,true,true,true,true,true,false,false,false,false,false,false,false,false,false,false,false,false,false,false,false,false,false] rfl rfl (any_of HT_.out (by kernel_rfl)) (fun _ _ _ h => h) (Or.inl ⟨by rfl, ?_⟩) ?_ ?_
         rotate_left
         ·intro w'
          go_simp
          with_reducible rfl
         rotate_left
         ·simp only [Act.put, sA, sB, sC, i64_w, i32_w]
          rfl
         refine pure_ (i := 23) (N := some 68) (v := undef) (a' := ?_) #[true,true,true,true,true,true,true,true,true,true,true,true,true,true,true,true,true,true,true,true,true,true,true,true,false,false,false,false,false,false,false,false,false,false,false,false,false,false,false,false] rfl rfl (any_of HT_.out (by kernel_rfl)) (fun _ _ _ h => h) (Or.inr ⟨by rfl, rfl⟩) ?_ ?_
         rotate_left
         ·simp only [Act.put, sA, sB, sC, i64_w, i32_w]
          rfl
         refine pure_ (i := 24) (N := some 69) (v := undef) (a' := ?_) #[true,true,true,true,true,true,true,true,true,true,true,true,true,true,true,true,true,true,true,true,true,true,true,true,true,false,false,false,false,false,false,false,false,false,false,false,false,false,false,false] rfl rfl (any_of HT_.out (by kernel_rfl)) (fun _ _ _ h => h) (Or.inr ⟨by rfl, rfl⟩) ?_ ?_
         rotate_left
         ·simp only [Act.put, sA, sB, sC, i64_w, i32_w]
          rfl
         refine pure_ (i := 25) (N := some 70) (v := undef) (a' := ?_) #[true,true,true,true,true,true,true,true,true,true,true,true,true,true,true,true,true,true,true,true,true,true,true,true,true,true,false,false,false,false,false,false,false,false,false,false,false,false,false,false] rfl rfl (any_of HT_.out (by kernel_rfl)) (fun _ _ _ h => h) (Or.inr ⟨by rfl, rfl⟩) ?_ ?_
         rotate_left
         ·simp only [Act.put, sA, sB, sC, i64_w, i32_w]
          rfl
         refine pure_ (i := 26) (N := some 71) (v := undef) (a' := ?_) #[true,true,true,true,true,true,true,true,true,true,true,true,true,true,true,true,true,true,true,true,true,true,true,true,true,true,true,false,false,false,false,false,false,false,false,false,false,false,false,false] rfl rfl (any_of HT_.out (by kernel_rfl)) (fun _ _ _ h => h) (Or.inr ⟨by rfl, rfl⟩) ?_ ?_
         rotate_left
         ·simp only [Act.put, sA, sB, sC, i64_w, i32_w]
          rfl
         refine pure_ (i := 27) (N := some 72) (v := undef) (a' := ?_) #[true,true,true,true,true,true,true,true,true,true,true,true,true,true,true,true,true,true,true,true,true,true,true,true,true,true,true,true,false,false,false,false,false,false,false,false,false,false,false,false] rfl rfl (any_of HT_.out (by kernel_rfl)) (fun _ _ _ h => h) (Or.inr ⟨by rfl, rfl⟩) ?_ ?_
         rotate_left
         ·simp only [Act.put, sA, sB, sC, i64_w, i32_w]
          rfl
         refine pure_ (i := 28) (N := some 73) (v := undef) (a' := ?_) #[true,true,true,true,true,true,true,true,true,true,true,true,true,true,true,true,true,true,true,true,true,true,true,true,true,true,true,true,true,false,false,false,false,false,false,false,false,false,false,false] rfl rfl (any_of HT_.out (by kernel_rfl)) (fun _ _ _ h => h) (Or.inr ⟨by rfl, rfl⟩) ?_ ?_
         rotate_left
         ·simp only [Act.put, sA, sB, sC, i64_w, i32_w]
          rfl
         refine pure_ (i := 29) (N := some 74) (v := ?_) (a' := ?_) #[true,true,true,true,true,true,true,true,true,true,true,true,true,true,true,true,true,true,true,true,true,true,true,true,true,true,true,true,true,true,false,false,false,false,false,false,false,false,false,false] rfl rfl (any_of HT_.out (by kernel_rfl)) (fun _ _ _ h => h) (Or.inl ⟨by rfl, ?_⟩) ?_ ?_
         rotate_left
         ·intro w'
          go_simp
          with_reducible rfl
         rotate_left
         ·simp only [Act.put, sA, sB, sC, i64_w, i32_w]
          rfl
         refine pure_ (i := 30) (N := some 75) (v := ?_) (a' := ?_) #[true,true,true,true,true,true,true,true,true,true,true,true,true,true,true,true,true,true,true,true,true,true,true,true,true,true,true,true,true,true,true,false,false,false,false,false,false,false,false,false] rfl rfl (any_of HT_.out (by kernel_rfl)) (fun _ _ _ h => h) (Or.inl ⟨by rfl, ?_⟩) ?_ ?_
         rotate_left
         ·intro w'
          go_simp
          with_reducible rfl
         rotate_left
         ·simp only [Act.put, sA, sB, sC, i64_w, i32_w]
          rfl
         refine pure_ (i := 31) (N := some 76) (v := ?_) (a' := ?_) #[true,true,true,true,true,true,true,true,true,true,true,true,true,true,true,true,true,true,true,true,true,true,true,true,true,true,true,true,true,true,true,true,false,false,false,false,false,false,false,false] rfl rfl (any_of HT_.out (by kernel_rfl)) (fun _ _ _ h => h) (Or.inl ⟨by rfl, ?_⟩) ?_ ?_
         rotate_left
         ·intro w'
          go_simp
          with_reducible rfl
         rotate_left
         ·simp only [Act.put, sA, sB, sC, i64_w, i32_w]
          rfl
         refine pure_ (i := 32) (N := some 77) (v := ?_) (a' := ?_) #[true,true,true,true,true,true,true,true,true,true,true,true,true,true,true,true,true,true,true,true,true,true,true,true,true,true,true,true,true,true,true,true,true,false,false,false,false,false,false,false] rfl rfl (any_of HT_.out (by kernel_rfl)) (fun _ _ _ h => h) (Or.inl ⟨by rfl, ?_⟩) ?_ ?_
         rotate_left
         ·intro w'
          go_simp
          with_reducible rfl
         rotate_left
         ·simp only [Act.put, sA, sB, sC, i64_w, i32_w]
          rfl
         refine pure_ (i := 33) (N := some 78) (v := ?_) (a' := ?_) #[true,true,true,true,true,true,true,true,true,true,true,true,true,true,true,true,true,true,true,true,true,true,true,true,true,true,true,true,true,true,true,true,true,true,false,false,false,false,false,false] rfl rfl (any_of HT_.out (by kernel_rfl)) (fun _ _ _ h => h) (Or.inl ⟨by rfl, ?_⟩) ?_ ?_
         rotate_left
         ·intro w'
          go_simp
          with_reducible rfl
         rotate_left
         ·simp only [Act.put, sA, sB, sC, i64_w, i32_w]
          rfl
         refine pure_ (i := 34) (N := some 79) (v := ?_) (a' := ?_) #[true,true,true,true,true,true,true,true,true,true,true,true,true,true,true,true,true,true,true,true,true,true,true,true,true,true,true,true,true,true,true,true,true,true,true,false,false,false,false,false] rfl rfl (any_of HT_.out (by kernel_rfl)) (fun _ _ _ h => h) (Or.inl ⟨by rfl, ?_⟩) ?_ ?_
         rotate_left
         ·intro w'
          go_simp
          with_reducible rfl
         rotate_left
         ·simp only [Act.put, sA, sB, sC, i64_w, i32_w]
          rfl
         refine pure_ (i := 35) (N := some 80) (v := undef) (a' := ?_) #[true,true,true,true,true,true,true,true,true,true,true,true,true,true,true,true,true,true,true,true,true,true,true,true,true,true,true,true,true,true,true,true,true,true,true,true,false,false,false,false] rfl rfl (any_of HT_.out (by kernel_rfl)) (fun _ _ _ h => h) (Or.inr ⟨by rfl, rfl⟩) ?_ ?_
         rotate_left
         ·simp only [Act.put, sA, sB, sC, i64_w, i32_w]
          rfl
         refine pure_ (i := 36) (N := some 81) (v := undef) (a' := ?_) #[true,true,true,true,true,true,true,true,true,true,true,true,true,true,true,true,true,true,true,true,true,true,true,true,true,true,true,true,true,true,true,true,true,true,true,true,true,false,false,false] rfl rfl (any_of HT_.out (by kernel_rfl)) (fun _ _ _ h => h) (Or.inr ⟨by rfl, rfl⟩) ?_ ?_
         rotate_left
         ·simp only [Act.put, sA, sB, sC, i64_w, i32_w]
          rfl
         refine pure_ (i := 37) (N := some 82) (v := ?_) (a' := ?_) #[true,true,true,true,true,true,true,true,true,true,true,true,true,true,true,true,true,true,true,true,true,true,true,true,true,true,true,true,true,true,true,true,true,true,true,true,true,true,false,false] rfl rfl (any_of HT_.out (by kernel_rfl)) (fun _ _ _ h => h) (Or.inl ⟨by rfl, ?_⟩) ?_ ?_
         rotate_left
         ·intro w'
          go_simp
          with_reducible rfl
         rotate_left
         ·simp only [Act.put, sA, sB, sC, i64_w, i32_w]
          rfl
         refine pure_ (i := 38) (N := some 83) (v := ?_) (a' := ?_) #[true,true,true,true,true,true,true,true,true,true,true,true,true,true,true,true,true,true,true,true,true,true,true,true,true,true,true,true,true,true,true,true,true,true,true,true,true,true,true,false] rfl rfl (any_of HT_.out (by kernel_rfl)) (fun _ _ _ h => h) (Or.inl ⟨by rfl, ?_⟩) ?_ ?_
         rotate_left
         ·intro w'
          go_simp
          with_reducible rfl
         rotate_left
         ·simp only [Act.put, sA, sB, sC, i64_w, i32_w]
          rfl
         refine pure_ (i := 39) (N := some 6) (v := ?_) (a' := ?_) #[true,true,true,true,true,true,true,true,true,true,true,true,true,true,true,true,true,true,true,true,true,true,true,true,true,true,true,true,true,true,true,true,true,true,true,true,true,true,true,true] rfl rfl (any_of HT_.out (by kernel_rfl)) (fun _ _ _ h => h) (Or.inl ⟨by rfl, ?_⟩) ?_ ?_
         rotate_left
         ·intro w'
          go_simp
          with_reducible rfl
         rotate_left
         ·simp only [Act.put, sA, sB, sC, i64_w, i32_w]
          rfl
         refine done_ (done_of HT_.out (by kernel_rfl)) ?_
         try go_wp2
         go_ret
         exact ⟨by first | rfl | (simp [errW_none, errW_some] <;> rfl) | (simp [*, errW_none, errW_some] <;> rfl), by repeat (first | (with_reducible first | exact HB.out | apply below_alloc | apply pw_below_drewN | apply below_drew1 | refine below_set ?_ GE265.out | refine below_set ?_ GE271.out) | exact HB.out)⟩
        ·rw [if_neg c31] at H
         have c31b0 : (t268 == 1) = false := beq_eq_false_iff_ne.mpr c31
         have c31b1 : (t268 != 1) = true := bne_iff_ne.mpr c31
         obtain rfl := Option.some.inj H
         go_enter Try.func11, Try.ntmps11
         try go_wp2_with (first | ((with_reducible refine gate_callee (f := 18) rfl ?_); refine goesL_ (some 13) rfl rfl Try.func18 (by kernel_rfl) rfl #[] rfl (by (try simp only [List.map_toArray, List.map_cons, List.map_nil]); first | done | rfl | (simp only [List.length_drop, List.length_take]; rfl)) ?_; (with_reducible refine (paternosterlaw07_awake.calls k  true _ A4.out).mono ?_); rintro e w54 ⟨rfl, hb⟩; refine ⟨_, rfl, ?_⟩; have n0_ := Aside0.mk (below_step (by repeat (first | (with_reducible first | exact HB.out | apply below_alloc | apply pw_below_drewN | apply below_drew1) | exact HB.out)) hb); clear HB; have HB := n0_; clear n0_; (try clear hb); (try clear hb2); (try clear hk); (try clear hi)) | ((with_reducible refine gate_dst (N := 8) rfl ?_); refine box_event ?hg (N := 8) ?hd (cs := #[.int .i64 0, .int .i64 0, .int .i64 0]) (t := 37) ?hr ?_; (case hd => rfl); (case hg => rfl); (case hr => first | (go_simp; done) | (go_simp; rfl)); intro gb265 hg w55 hbox hb; have n0_ := Aside0.mk (below_step (by repeat (first | (with_reducible first | exact HB.out | apply below_alloc | apply pw_below_drewN | apply below_drew1) | exact HB.out)) hb); have n1_ := Aside0.mk (hbox); have n2_ := Aside0.mk ((by rw [hg]; exact (below_size (by repeat (first | (with_reducible first | exact HB.out | apply below_alloc | apply pw_below_drewN | apply below_drew1) | exact HB.out))) : w.heap.size ≤ gb265)); have n3_ := Aside0.mk ((by rw [hg]; exact (below_size (by repeat (first | (with_reducible first | exact HB.out | apply below_alloc | apply pw_below_drewN | apply below_drew1) | exact HB.out))) : w.heap.size ≤ gb265)); clear HB; have HB := n0_; have BK265 := n1_; have GW265 := n2_; have GE265 := n3_; clear n0_ n1_ n2_ n3_; clear hb hbox hg; have hcz56_0 : w55.cell? ⟨gb265, 0, none⟩ = some (.int .i64 0) := (blk_cell BK265.out 0).trans rfl; have hcz56_1 : w55.cell? ⟨gb265, 1, none⟩ = some (.int .i64 0) := (blk_cell BK265.out 1).trans rfl; have hcz56_2 : w55.cell? ⟨gb265, 2, none⟩ = some (.int .i64 0) := (blk_cell BK265.out 2).trans rfl; have hfz56_0 := blk_frozen BK265.out 0; have hfz56_1 := blk_frozen BK265.out 1; have hfz56_2 := blk_frozen BK265.out 2) | ((with_reducible refine gate_callee (f := 28) rfl ?_); refine goesL_ (some 22) rfl rfl Try.func28 (by kernel_rfl) rfl #[.agg #[.int .i64 (wrap64 (Int.tmod a0 249)), .int .i64 0, .int .i64 a1], .int .i64 1] rfl (by (try simp only [List.map_toArray, List.map_cons, List.map_nil]); first | done | rfl | (simp only [List.length_drop, List.length_take]; rfl)) ?_; (with_reducible refine (car_Car_Near.calls k (wrap64 (Int.tmod a0 249)) 0 a1 1 t266 _ A6.out).mono ?_); rintro e w57 ⟨rfl, hb⟩; refine ⟨_, rfl, ?_⟩; have n0_ := Aside0.mk (blk_below (g := gb265) (o := .cells #[.int .i64 (wrap64 (Int.tmod a0 249)), .int .i64 0, .int .i64 a1] 37 (0, 0)) (by (with_reducible repeat (first | refine blk_drewN ?_ _ | refine blk_drew ?_ | refine blk_alloc ?_ _)); refine blk_put (cs := #[.int .i64 (wrap64 (Int.tmod a0 249)), .int .i64 0, .int .i64 0]) ?_ 2 _ rfl; (with_reducible repeat (first | refine blk_drewN ?_ _ | refine blk_drew ?_ | refine blk_alloc ?_ _)); refine blk_put (cs := #[.int .i64 (wrap64 (Int.tmod a0 249)), .int .i64 0, .int .i64 0]) ?_ 1 _ rfl; (with_reducible repeat (first | refine blk_drewN ?_ _ | refine blk_drew ?_ | refine blk_alloc ?_ _)); refine blk_put (cs := #[.int .i64 0, .int .i64 0, .int .i64 0]) ?_ 0 _ rfl; (with_reducible repeat (first | refine blk_drewN ?_ _ | refine blk_drew ?_ | refine blk_alloc ?_ _)); exact BK265.out) hb); have n1_ := Aside0.mk (below_step (by repeat (first | (with_reducible first | exact HB.out | apply below_alloc | apply pw_below_drewN | apply below_drew1 | refine below_set ?_ GE265.out) | exact HB.out)) hb); clear BK265; clear HB; have BK265 := n0_; have HB := n1_; clear n0_ n1_; (try clear hb); (try clear hb2); (try clear hk); (try clear hi); have hcz58_0 : w57.cell? ⟨gb265, 0, none⟩ = some (.int .i64 (wrap64 (Int.tmod a0 249))) := (blk_cell BK265.out 0).trans rfl; have hcz58_1 : w57.cell? ⟨gb265, 1, none⟩ = some (.int .i64 0) := (blk_cell BK265.out 1).trans rfl; have hcz58_2 : w57.cell? ⟨gb265, 2, none⟩ = some (.int .i64 a1) := (blk_cell BK265.out 2).trans rfl; have hfz58_0 := blk_frozen BK265.out 0; have hfz58_1 := blk_frozen BK265.out 1; have hfz58_2 := blk_frozen BK265.out 2) | ((with_reducible refine gate_callee (f := 28) rfl ?_); refine goesL_ (some 24) rfl rfl Try.func28 (by kernel_rfl) rfl #[.agg #[.int .i64 (wrap64 (Int.tmod a0 249)), .int .i64 0, .int .i64 a1], .int .i64 (-1)] rfl (by (try simp only [List.map_toArray, List.map_cons, List.map_nil]); first | done | rfl | (simp only [List.length_drop, List.length_take]; rfl)) ?_; (with_reducible refine (car_Car_Near.calls k (wrap64 (Int.tmod a0 249)) 0 a1 (-1) t267 _ A7.out).mono ?_); rintro e w59 ⟨rfl, hb⟩; refine ⟨_, rfl, ?_⟩; have n0_ := Aside0.mk (blk_below (g := gb265) (o := .cells #[.int .i64 (wrap64 (Int.tmod a0 249)), .int .i64 0, .int .i64 a1] 37 (0, 0)) (by (with_reducible repeat (first | refine blk_drewN ?_ _ | refine blk_drew ?_ | refine blk_alloc ?_ _)); exact BK265.out) hb); have n1_ := Aside0.mk (below_step (by repeat (first | (with_reducible first | exact HB.out | apply below_alloc | apply pw_below_drewN | apply below_drew1 | refine below_set ?_ GE265.out) | exact HB.out)) hb); clear BK265; clear HB; have BK265 := n0_; have HB := n1_; clear n0_ n1_; (try clear hb); (try clear hb2); (try clear hk); (try clear hi); have hcz60_0 : w59.cell? ⟨gb265, 0, none⟩ = some (.int .i64 (wrap64 (Int.tmod a0 249))) := (blk_cell BK265.out 0).trans rfl; have hcz60_1 : w59.cell? ⟨gb265, 1, none⟩ = some (.int .i64 0) := (blk_cell BK265.out 1).trans rfl; have hcz60_2 : w59.cell? ⟨gb265, 2, none⟩ = some (.int .i64 a1) := (blk_cell BK265.out 2).trans rfl; have hfz60_0 := blk_frozen BK265.out 0; have hfz60_1 := blk_frozen BK265.out 1; have hfz60_2 := blk_frozen BK265.out 2) | ((with_reducible refine gate_callee (f := 27) rfl ?_); refine goesL_ (some 27) rfl rfl Try.func27 (by kernel_rfl) rfl #[.agg #[.int .i64 (wrap64 (Int.tmod a0 249)), .int .i64 0, .int .i64 a1], .int .i64 a2] rfl (by (try simp only [List.map_toArray, List.map_cons, List.map_nil]); first | done | rfl | (simp only [List.length_drop, List.length_take]; rfl)) ?_; (with_reducible refine (car_Car_Light.calls (wrap64 (Int.tmod a0 249)) 0 a1 a2 t268 _ A8.out).mono ?_); rintro e w61 ⟨rfl, hb⟩; refine ⟨_, rfl, ?_⟩; have n0_ := Aside0.mk (blk_below (g := gb265) (o := .cells #[.int .i64 (wrap64 (Int.tmod a0 249)), .int .i64 0, .int .i64 a1] 37 (0, 0)) (by (with_reducible repeat (first | refine blk_drewN ?_ _ | refine blk_drew ?_ | refine blk_alloc ?_ _)); exact BK265.out) hb); have n1_ := Aside0.mk (below_step (by repeat (first | (with_reducible first | exact HB.out | apply below_alloc | apply pw_below_drewN | apply below_drew1 | refine below_set ?_ GE265.out) | exact HB.out)) hb); clear BK265; clear HB; have BK265 := n0_; have HB := n1_; clear n0_ n1_; (try clear hb); (try clear hb2); (try clear hk); (try clear hi); have hcz62_0 : w61.cell? ⟨gb265, 0, none⟩ = some (.int .i64 (wrap64 (Int.tmod a0 249))) := (blk_cell BK265.out 0).trans rfl; have hcz62_1 : w61.cell? ⟨gb265, 1, none⟩ = some (.int .i64 0) := (blk_cell BK265.out 1).trans rfl; have hcz62_2 : w61.cell? ⟨gb265, 2, none⟩ = some (.int .i64 a1) := (blk_cell BK265.out 2).trans rfl; have hfz62_0 := blk_frozen BK265.out 0; have hfz62_1 := blk_frozen BK265.out 1; have hfz62_2 := blk_frozen BK265.out 2) | ((with_reducible refine gate_callee (f := 25) rfl ?_); refine goesL_ (some 29) rfl rfl Try.func25 (by kernel_rfl) rfl #[.agg #[.int .i64 (wrap64 (Int.tmod a0 249)), .int .i64 0, .int .i64 a1]] rfl (by (try simp only [List.map_toArray, List.map_cons, List.map_nil]); first | done | rfl | (simp only [List.length_drop, List.length_take]; rfl)) ?_; (with_reducible refine (car_Car_Level.calls (wrap64 (Int.tmod a0 249)) 0 a1 false _ A9.out).mono ?_); rintro e w63 ⟨rfl, hb⟩; refine ⟨_, rfl, ?_⟩; have n0_ := Aside0.mk (blk_below (g := gb265) (o := .cells #[.int .i64 (wrap64 (Int.tmod a0 249)), .int .i64 0, .int .i64 a1] 37 (0, 0)) (by (with_reducible repeat (first | refine blk_drewN ?_ _ | refine blk_drew ?_ | refine blk_alloc ?_ _)); exact BK265.out) hb); have n1_ := Aside0.mk (below_step (by repeat (first | (with_reducible first | exact HB.out | apply below_alloc | apply pw_below_drewN | apply below_drew1 | refine below_set ?_ GE265.out) | exact HB.out)) hb); clear BK265; clear HB; have BK265 := n0_; have HB := n1_; clear n0_ n1_; (try clear hb); (try clear hb2); (try clear hk); (try clear hi)))
         have n0_ := Aside0.mk (blk_drew BK265.out)
         have n1_ := Aside0.mk (below_drew1 HB.out)
         clear BK265
         clear HB
         have BK265 := n0_
         have HB := n1_
         clear n0_ n1_
         refine start_ (n := 11) (S := fun w' => w'.cell? ⟨gb265, 0, none⟩ = some (.int .i64 (wrap64 (Int.tmod a0 249))) ∧ w'.cell? ⟨gb265, 1, none⟩ = some (.int .i64 0) ∧ w'.cell? ⟨gb265, 2, none⟩ = some (.int .i64 a1)) (ds := []) #[false,false,false,false,false,false,false,false,false,false,false] (by kernel_rfl) rfl rfl ⟨(blk_cell BK265.out 0).trans rfl, (blk_cell BK265.out 1).trans rfl, (blk_cell BK265.out 2).trans rfl⟩ (fun hHeld => ?_); refine with_tabW paternosterlaw07_CarLights.tab10 paternosterlaw07_CarLights.bits10 (fun HT_ HW_ => ?_)
         generalize w63.drew = w64 at BK265 HB hHeld ⊢
         refine pure_ (i := 0) (N := some 36) (v := ?_) (a' := ?_) #[true,false,false,false,false,false,false,false,false,false,false] rfl rfl (any_of HT_.out (by kernel_rfl)) (fun _ _ _ h => h) (Or.inl ⟨by rfl, ?_⟩) ?_ ?_
         rotate_left
         ·intro w'
          go_simp
          with_reducible rfl
         rotate_left
         ·simp only [Act.put, sA, sB, sC, i64_w, i32_w]
          rfl
         refine pure_ (i := 2) (N := some 38) (v := ?_) (a' := ?_) #[true,false,true,false,false,false,false,false,false,false,false] rfl rfl (any_of HT_.out (by kernel_rfl)) (fun _ _ _ h => h) (Or.inl ⟨by rfl, ?_⟩) ?_ ?_
         rotate_left
         ·intro w'
          go_simp
          with_reducible rfl
         rotate_left
         ·simp only [Act.put, sA, sB, sC, i64_w, i32_w]
          rfl
         refine pure_ (i := 4) (N := some 40) (v := ?_) (a' := ?_) #[true,false,true,false,true,false,false,false,false,false,false] rfl rfl (any_of HT_.out (by kernel_rfl)) (fun _ _ _ h => h) (Or.inl ⟨by rfl, ?_⟩) ?_ ?_
         rotate_left
         ·intro w'
          go_simp
          with_reducible rfl
         rotate_left
         ·simp only [Act.put, sA, sB, sC, i64_w, i32_w]
          rfl
         refine take_ (i := 1) (N := some 37) (v := ?_) (a' := ?_) #[true,true,true,false,true,false,false,false,false,false,false] rfl rfl (take_ofW HT_.out HW_.out (by kernel_rfl)) (fun _ _ _ h => h) (Or.inl ⟨by rfl, ?_⟩) hHeld ?_ ?_
         rotate_left
         ·rintro w' ⟨s0, s1, s2⟩
          go_simp
          with_reducible rfl
         rotate_left
         ·simp only [Act.put, sA, sB, sC, i64_w, i32_w]
          rfl
         refine take_ (i := 3) (N := some 39) (v := ?_) (a' := ?_) #[true,true,true,true,true,false,false,false,false,false,false] rfl rfl (take_ofW HT_.out HW_.out (by kernel_rfl)) (fun _ _ _ h => h) (Or.inl ⟨by rfl, ?_⟩) hHeld ?_ ?_
         rotate_left
         ·rintro w' ⟨s0, s1, s2⟩
          go_simp
          with_reducible rfl
         rotate_left
         ·simp only [Act.put, sA, sB, sC, i64_w, i32_w]
          rfl
         refine join_ (σ := Nat) 1 #[true,true,true,true,true,true,true,true,true,true,false] (fun s_ => [(41, .int .i64 t270), (12, .pointer (some ⟨s_, 0, none⟩)), (42, .int .i64 (wrap64 (t268 * t270))), (43, .int .i64 (wrap64 ((wrap64 (Int.tmod a0 249)) + (wrap64 (t268 * t270))))), (44, .agg #[.int .i64 (wrap64 ((wrap64 (Int.tmod a0 249)) + (wrap64 (t268 * t270)))), .int .i64 0, .int .i64 0])]) (fun s_ w' => (w'.cell? ⟨gb265, 0, none⟩ = some (.int .i64 (wrap64 (Int.tmod a0 249))) ∧ w'.cell? ⟨gb265, 1, none⟩ = some (.int .i64 0) ∧ w'.cell? ⟨gb265, 2, none⟩ = some (.int .i64 a1)) ∧ (w'.heap[gb265]? = some (.cells #[.int .i64 (wrap64 (Int.tmod a0 249)), .int .i64 0, .int .i64 a1] 37 (0, 0))) ∧ (w'.heap[s_]? = some (.cells #[.int .i64 0, .int .i64 0, .int .i64 0] 37 (0, 0))) ∧ (w.heap.size ≤ s_) ∧ (w.heap.size ≤ s_) ∧ (gb265 ≠ s_) ∧ (s_ ≠ gb265) ∧ (Below w.heap.size w w')) ?_ ?_
         rotate_left
         ·intro hCont
          refine two_ (i := 5) (j := 9) (Ni := some 41) (Nj := some 12) #[true,true,true,true,true,true,false,false,false,false,false] #[true,true,true,true,true,false,false,false,false,true,false] rfl rfl rfl rfl (two_of HT_.out (by kernel_rfl)) (by decide) (by decide) (fun K hK => ?_) (fun K hK => ?_)
          ·skip
           refine goes_ Try.func28 (by kernel_rfl) rfl #[.agg #[.int .i64 (wrap64 (Int.tmod a0 249)), .int .i64 0, .int .i64 a1], .int .i64 t268] (by rfl) rfl rfl (by (try simp only [List.map_toArray, List.map_cons, List.map_nil]); first | done | rfl | (simp only [List.length_drop, List.length_take]; rfl)) ?_
           with_reducible refine (car_Car_Near.calls k (wrap64 (Int.tmod a0 249)) 0 a1 t268 t270 _ A22.out).mono ?_
           rintro e w65 ⟨rfl, hb⟩
           refine ⟨_, rfl, ?_⟩
           have n0_ := Aside0.mk (blk_below (g := gb265) (o := .cells #[.int .i64 (wrap64 (Int.tmod a0 249)), .int .i64 0, .int .i64 a1] 37 (0, 0)) (by (with_reducible repeat (first | refine blk_drewN ?_ _ | refine blk_drew ?_ | refine blk_alloc ?_ _)); exact BK265.out) hb)
           have n1_ := Aside0.mk (below_step (by repeat (first | (with_reducible first | exact HB.out | apply below_alloc | apply pw_below_drewN | apply below_drew1 | refine below_set ?_ GE265.out) | exact HB.out)) hb)
           clear BK265
           clear HB
           have BK265 := n0_
           have HB := n1_
           clear n0_ n1_
           (try clear hb)
           (try clear hb2)
           (try clear hk)
           (try clear hi)
           refine hK.out _ _ ⟨(blk_cell BK265.out 0).trans rfl, (blk_cell BK265.out 1).trans rfl, (blk_cell BK265.out 2).trans rfl⟩ (fun hHeld => ?_)
           clear hK K
           refine norm_ (a' := ?_) ?_ ?_
           rotate_left
           ·show Act.put _ (some 41) _ = _
            simp only [Act.put, sA, sB, sC, i64_w, i32_w]
            rfl
           refine pure_ (i := 6) (N := some 42) (v := ?_) (a' := ?_) #[true,true,true,true,true,true,true,false,false,false,false] rfl rfl (any_of HT_.out (by kernel_rfl)) (fun _ _ _ h => h) (Or.inl ⟨by rfl, ?_⟩) ?_ ?_
           rotate_left
           ·intro w'
            go_simp
            with_reducible rfl
           rotate_left
           ·simp only [Act.put, sA, sB, sC, i64_w, i32_w]
            rfl
           refine pure_ (i := 7) (N := some 43) (v := ?_) (a' := ?_) #[true,true,true,true,true,true,true,true,false,false,false] rfl rfl (any_of HT_.out (by kernel_rfl)) (fun _ _ _ h => h) (Or.inl ⟨by rfl, ?_⟩) ?_ ?_
           rotate_left
           ·intro w'
            go_simp
            with_reducible rfl
           rotate_left
           ·simp only [Act.put, sA, sB, sC, i64_w, i32_w]
            rfl
           refine pure_ (i := 8) (N := some 44) (v := ?_) (a' := ?_) #[true,true,true,true,true,true,true,true,true,false,false] rfl rfl (any_of HT_.out (by kernel_rfl)) (fun _ _ _ h => h) (Or.inl ⟨by rfl, ?_⟩) ?_ ?_
           rotate_left
           ·intro w'
            go_simp
            with_reducible rfl
           rotate_left
           ·simp only [Act.put, sA, sB, sC, i64_w, i32_w]
            rfl
           refine one_ (i := 9) (N := some 12) #[true,true,true,true,true,true,true,true,true,true,false] rfl rfl (one_of HT_.out (by kernel_rfl)) (by decide) (fun K hK => ?_)
           refine box_step ?hg (N := 12) ?hd (cs := #[.int .i64 0, .int .i64 0, .int .i64 0]) (t := 37) ?hr ?_; (case hd => rfl); (case hg => rfl); (case hr => first | (go_simp; done) | (go_simp; rfl))
           intro gb271 hg w66 hbox hb
           have n0_ := Aside0.mk (blk_below (g := gb265) (o := .cells #[.int .i64 (wrap64 (Int.tmod a0 249)), .int .i64 0, .int .i64 a1] 37 (0, 0)) (by (with_reducible repeat (first | refine blk_drewN ?_ _ | refine blk_drew ?_ | refine blk_alloc ?_ _)); exact BK265.out) hb)
           have n1_ := Aside0.mk (below_step (by repeat (first | (with_reducible first | exact HB.out | apply below_alloc | apply pw_below_drewN | apply below_drew1 | refine below_set ?_ GE265.out) | exact HB.out)) hb)
           have n2_ := Aside0.mk (hbox)
           have n3_ := Aside0.mk ((by rw [hg]; exact (below_size (by repeat (first | (with_reducible first | exact HB.out | apply below_alloc | apply pw_below_drewN | apply below_drew1 | refine below_set ?_ GE265.out) | exact HB.out))) : w.heap.size ≤ gb271))
           have n4_ := Aside0.mk ((by rw [hg]; exact (below_size (by repeat (first | (with_reducible first | exact HB.out | apply below_alloc | apply pw_below_drewN | apply below_drew1 | refine below_set ?_ GE265.out) | exact HB.out))) : w.heap.size ≤ gb271))
           have n5_ := Aside0.mk ((by rw [hg]; exact Nat.ne_of_lt (blk_lt (g := gb265) (o := .cells #[.int .i64 (wrap64 (Int.tmod a0 249)), .int .i64 0, .int .i64 a1] 37 (0, 0)) (by (with_reducible repeat (first | refine blk_drewN ?_ _ | refine blk_drew ?_ | refine blk_alloc ?_ _)); exact BK265.out)) : gb265 ≠ gb271))
           have n6_ := Aside0.mk ((by rw [hg]; exact Nat.ne_of_gt (blk_lt (g := gb265) (o := .cells #[.int .i64 (wrap64 (Int.tmod a0 249)), .int .i64 0, .int .i64 a1] 37 (0, 0)) (by (with_reducible repeat (first | refine blk_drewN ?_ _ | refine blk_drew ?_ | refine blk_alloc ?_ _)); exact BK265.out)) : gb271 ≠ gb265))
           clear BK265
           clear HB
           have BK265 := n0_
           have HB := n1_
           have BK271 := n2_
           have GW271 := n3_
           have GE271 := n4_
           have NB265_271 := n5_
           have NB271_265 := n6_
           clear n0_ n1_ n2_ n3_ n4_ n5_ n6_
           clear hb hbox hg
           refine hK.out _ _ ⟨(blk_cell BK265.out 0).trans rfl, (blk_cell BK265.out 1).trans rfl, (blk_cell BK265.out 2).trans rfl⟩ (fun hHeld => ?_)
           clear hK K
           refine norm_ (a' := ?_) ?_ ?_
           rotate_left
           ·show Act.put _ (some 12) _ = _
            simp only [Act.put, sA, sB, sC, i64_w, i32_w]
            rfl
           exact norm_ (by simp only [putAll, Act.put, sA, sB, sC]) (hCont (gb271) _ ⟨hHeld, (by (with_reducible repeat (first | refine blk_drewN ?_ _ | refine blk_drew ?_ | refine blk_alloc ?_ _)); exact BK265.out), (by (with_reducible repeat (first | refine blk_drewN ?_ _ | refine blk_drew ?_ | refine blk_alloc ?_ _)); exact BK271.out), GW271.out, GE271.out, NB265_271.out, NB271_265.out, (by repeat (first | (with_reducible first | exact HB.out | apply below_alloc | apply pw_below_drewN | apply below_drew1 | refine below_set ?_ GE265.out | refine below_set ?_ GE271.out) | exact HB.out))⟩)
          ·skip
           refine box_step ?hg (N := 12) ?hd (cs := #[.int .i64 0, .int .i64 0, .int .i64 0]) (t := 37) ?hr ?_; (case hd => rfl); (case hg => rfl); (case hr => first | (go_simp; done) | (go_simp; rfl))
           intro gb271 hg w65 hbox hb
           have n0_ := Aside0.mk (blk_below (g := gb265) (o := .cells #[.int .i64 (wrap64 (Int.tmod a0 249)), .int .i64 0, .int .i64 a1] 37 (0, 0)) (by (with_reducible repeat (first | refine blk_drewN ?_ _ | refine blk_drew ?_ | refine blk_alloc ?_ _)); exact BK265.out) hb)
           have n1_ := Aside0.mk (below_step (by repeat (first | (with_reducible first | exact HB.out | apply below_alloc | apply pw_below_drewN | apply below_drew1 | refine below_set ?_ GE265.out) | exact HB.out)) hb)
           have n2_ := Aside0.mk (hbox)
           have n3_ := Aside0.mk ((by rw [hg]; exact (below_size (by repeat (first | (with_reducible first | exact HB.out | apply below_alloc | apply pw_below_drewN | apply below_drew1 | refine below_set ?_ GE265.out) | exact HB.out))) : w.heap.size ≤ gb271))
           have n4_ := Aside0.mk ((by rw [hg]; exact (below_size (by repeat (first | (with_reducible first | exact HB.out | apply below_alloc | apply pw_below_drewN | apply below_drew1 | refine below_set ?_ GE265.out) | exact HB.out))) : w.heap.size ≤ gb271))
           have n5_ := Aside0.mk ((by rw [hg]; exact Nat.ne_of_lt (blk_lt (g := gb265) (o := .cells #[.int .i64 (wrap64 (Int.tmod a0 249)), .int .i64 0, .int .i64 a1] 37 (0, 0)) (by (with_reducible repeat (first | refine blk_drewN ?_ _ | refine blk_drew ?_ | refine blk_alloc ?_ _)); exact BK265.out)) : gb265 ≠ gb271))
           have n6_ := Aside0.mk ((by rw [hg]; exact Nat.ne_of_gt (blk_lt (g := gb265) (o := .cells #[.int .i64 (wrap64 (Int.tmod a0 249)), .int .i64 0, .int .i64 a1] 37 (0, 0)) (by (with_reducible repeat (first | refine blk_drewN ?_ _ | refine blk_drew ?_ | refine blk_alloc ?_ _)); exact BK265.out)) : gb271 ≠ gb265))
           clear BK265
           clear HB
           have BK265 := n0_
           have HB := n1_
           have BK271 := n2_
           have GW271 := n3_
           have GE271 := n4_
           have NB265_271 := n5_
           have NB271_265 := n6_
           clear n0_ n1_ n2_ n3_ n4_ n5_ n6_
           clear hb hbox hg
           refine hK.out _ _ ⟨(blk_cell BK265.out 0).trans rfl, (blk_cell BK265.out 1).trans rfl, (blk_cell BK265.out 2).trans rfl⟩ (fun hHeld => ?_)
           clear hK K
           refine norm_ (a' := ?_) ?_ ?_
           rotate_left
           ·show Act.put _ (some 12) _ = _
            simp only [Act.put, sA, sB, sC, i64_w, i32_w]
            rfl
           refine one_ (i := 5) (N := some 41) #[true,true,true,true,true,true,false,false,false,true,false] rfl rfl (one_of HT_.out (by kernel_rfl)) (by decide) (fun K hK => ?_)
           refine goes_ Try.func28 (by kernel_rfl) rfl #[.agg #[.int .i64 (wrap64 (Int.tmod a0 249)), .int .i64 0, .int .i64 a1], .int .i64 t268] (by rfl) rfl rfl (by (try simp only [List.map_toArray, List.map_cons, List.map_nil]); first | done | rfl | (simp only [List.length_drop, List.length_take]; rfl)) ?_
           with_reducible refine (car_Car_Near.calls k (wrap64 (Int.tmod a0 249)) 0 a1 t268 t270 _ A22.out).mono ?_
           rintro e w66 ⟨rfl, hb⟩
           refine ⟨_, rfl, ?_⟩
           have n0_ := Aside0.mk (blk_below (g := gb265) (o := .cells #[.int .i64 (wrap64 (Int.tmod a0 249)), .int .i64 0, .int .i64 a1] 37 (0, 0)) (by (with_reducible repeat (first | refine blk_drewN ?_ _ | refine blk_drew ?_ | refine blk_alloc ?_ _)); exact BK265.out) hb)
           have n1_ := Aside0.mk (blk_below (g := gb271) (o := .cells #[.int .i64 0, .int .i64 0, .int .i64 0] 37 (0, 0)) (by (with_reducible repeat (first | refine blk_drewN ?_ _ | refine blk_drew ?_ | refine blk_alloc ?_ _)); exact BK271.out) hb)
           have n2_ := Aside0.mk (below_step (by repeat (first | (with_reducible first | exact HB.out | apply below_alloc | apply pw_below_drewN | apply below_drew1 | refine below_set ?_ GE265.out | refine below_set ?_ GE271.out) | exact HB.out)) hb)
           clear BK265
           clear BK271
           clear HB
           have BK265 := n0_
           have BK271 := n1_
           have HB := n2_
           clear n0_ n1_ n2_
           (try clear hb)
           (try clear hb2)
           (try clear hk)
           (try clear hi)
           refine hK.out _ _ ⟨(blk_cell BK265.out 0).trans rfl, (blk_cell BK265.out 1).trans rfl, (blk_cell BK265.out 2).trans rfl⟩ (fun hHeld => ?_)
           clear hK K
           refine norm_ (a' := ?_) ?_ ?_
           rotate_left
           ·show Act.put _ (some 41) _ = _
            simp only [Act.put, sA, sB, sC, i64_w, i32_w]
            rfl
           refine pure_ (i := 6) (N := some 42) (v := ?_) (a' := ?_) #[true,true,true,true,true,true,true,false,false,true,false] rfl rfl (any_of HT_.out (by kernel_rfl)) (fun _ _ _ h => h) (Or.inl ⟨by rfl, ?_⟩) ?_ ?_
           rotate_left
           ·intro w'
            go_simp
            with_reducible rfl
           rotate_left
           ·simp only [Act.put, sA, sB, sC, i64_w, i32_w]
            rfl
           refine pure_ (i := 7) (N := some 43) (v := ?_) (a' := ?_) #[true,true,true,true,true,true,true,true,false,true,false] rfl rfl (any_of HT_.out (by kernel_rfl)) (fun _ _ _ h => h) (Or.inl ⟨by rfl, ?_⟩) ?_ ?_
           rotate_left
           ·intro w'
            go_simp
            with_reducible rfl
           rotate_left
           ·simp only [Act.put, sA, sB, sC, i64_w, i32_w]
            rfl
           refine pure_ (i := 8) (N := some 44) (v := ?_) (a' := ?_) #[true,true,true,true,true,true,true,true,true,true,false] rfl rfl (any_of HT_.out (by kernel_rfl)) (fun _ _ _ h => h) (Or.inl ⟨by rfl, ?_⟩) ?_ ?_
           rotate_left
           ·intro w'
            go_simp
            with_reducible rfl
           rotate_left
           ·simp only [Act.put, sA, sB, sC, i64_w, i32_w]
            rfl
           exact norm_ (by simp only [putAll, Act.put, sA, sB, sC]) (hCont (gb271) _ ⟨hHeld, (by (with_reducible repeat (first | refine blk_drewN ?_ _ | refine blk_drew ?_ | refine blk_alloc ?_ _)); exact BK265.out), (by (with_reducible repeat (first | refine blk_drewN ?_ _ | refine blk_drew ?_ | refine blk_alloc ?_ _)); exact BK271.out), GW271.out, GE271.out, NB265_271.out, NB271_265.out, (by repeat (first | (with_reducible first | exact HB.out | apply below_alloc | apply pw_below_drewN | apply below_drew1 | refine below_set ?_ GE265.out | refine below_set ?_ GE271.out) | exact HB.out))⟩)
         rintro gb271 w67 ⟨hS_, h0_, h1_, h2_, h3_, h4_, h5_, h6_⟩
         have n0_ : Aside0 (w67.heap[gb265]? = some (.cells #[.int .i64 (wrap64 (Int.tmod a0 249)), .int .i64 0, .int .i64 a1] 37 (0, 0))) := ⟨h0_⟩
         have n1_ : Aside0 (w67.heap[gb271]? = some (.cells #[.int .i64 0, .int .i64 0, .int .i64 0] 37 (0, 0))) := ⟨h1_⟩
         have n2_ : Aside0 (w.heap.size ≤ gb271) := ⟨h2_⟩
         have n3_ : Aside0 (w.heap.size ≤ gb271) := ⟨h3_⟩
         have n4_ : Aside0 (gb265 ≠ gb271) := ⟨h4_⟩
         have n5_ : Aside0 (gb271 ≠ gb265) := ⟨h5_⟩
         have n6_ : Aside0 (Below w.heap.size w w67) := ⟨h6_⟩
         clear BK265
         clear HB
         clear h0_ h1_ h2_ h3_ h4_ h5_ h6_
         have BK265 := n0_
         have BK271 := n1_
         have GW271 := n2_
         have GE271 := n3_
         have NB265_271 := n4_
         have NB271_265 := n5_
         have HB := n6_
         clear n0_ n1_ n2_ n3_ n4_ n5_ n6_
         have hHeld : w67.cell? ⟨gb265, 0, none⟩ = some (.int .i64 (wrap64 (Int.tmod a0 249))) ∧ w67.cell? ⟨gb265, 1, none⟩ = some (.int .i64 0) ∧ w67.cell? ⟨gb265, 2, none⟩ = some (.int .i64 a1) := hS_
         refine norm_ (a' := ?_) ?_ ?_
         rotate_left
         ·simp only [putAll, Act.put, sA, sB, sC]
          rfl
         refine one_ (i := 10) (N := none) #[true,true,true,true,true,true,true,true,true,true,true] rfl rfl (one_of HT_.out (by kernel_rfl)) (by decide) (fun K hK => ?_)
         have hs68 : w67.cell? ⟨gb271, 0, none⟩ = some (.int .i64 0) := (blk_cell BK271.out 0).trans rfl
         have hfs68 := blk_frozen BK271.out 0
         have hns68_0 := NB265_271.out
         have hms68_0 := NB271_265.out
         have hs69 : w67.cell? ⟨gb271, 1, none⟩ = some (.int .i64 0) := (blk_cell BK271.out 1).trans rfl
         have hfs69 := blk_frozen BK271.out 1
         have hns69_0 := NB265_271.out
         have hms69_0 := NB271_265.out
         have hs70 : w67.cell? ⟨gb271, 2, none⟩ = some (.int .i64 0) := (blk_cell BK271.out 2).trans rfl
         have hfs70 := blk_frozen BK271.out 2
         have hns70_0 := NB265_271.out
         have hms70_0 := NB271_265.out
         refine skip_ (w1 := ?_) (by rfl) rfl ?_ ?_
         rotate_left
         ·go_simp
          rfl
         refine hK.out _ _ ⟨((cell_far (p := ⟨gb271, _, none⟩) NB265_271.out _).trans (((cell_far (p := ⟨gb271, _, none⟩) NB265_271.out _).trans (((cell_far (p := ⟨gb271, _, none⟩) NB265_271.out _).trans (hHeld.1)))))), ((cell_far (p := ⟨gb271, _, none⟩) NB265_271.out _).trans (((cell_far (p := ⟨gb271, _, none⟩) NB265_271.out _).trans (((cell_far (p := ⟨gb271, _, none⟩) NB265_271.out _).trans (hHeld.2.1)))))), ((cell_far (p := ⟨gb271, _, none⟩) NB265_271.out _).trans (((cell_far (p := ⟨gb271, _, none⟩) NB265_271.out _).trans (((cell_far (p := ⟨gb271, _, none⟩) NB265_271.out _).trans (hHeld.2.2))))))⟩ (fun hHeld => ?_)
         clear hK K
         refine done_ (done_of HT_.out (by kernel_rfl)) ?_
         try go_wp2
         have n0_ : Aside0 ((((w67.setCell ⟨gb271, 0, none⟩ (.int .i64 (wrap64 ((wrap64 (Int.tmod a0 249)) + (wrap64 (t268 * t270)))))).setCell ⟨gb271, 1, none⟩ (.int .i64 0)).setCell ⟨gb271, 2, none⟩ (.int .i64 0)).heap[gb265]? = some (.cells #[.int .i64 (wrap64 (Int.tmod a0 249)), .int .i64 0, .int .i64 a1] 37 (0, 0))) := ⟨by (with_reducible repeat (first | refine blk_drewN ?_ _ | refine blk_drew ?_ | refine blk_alloc ?_ _)); refine blk_far ?_ NB265_271.out _; (with_reducible repeat (first | refine blk_drewN ?_ _ | refine blk_drew ?_ | refine blk_alloc ?_ _)); refine blk_far ?_ NB265_271.out _; (with_reducible repeat (first | refine blk_drewN ?_ _ | refine blk_drew ?_ | refine blk_alloc ?_ _)); refine blk_far ?_ NB265_271.out _; (with_reducible repeat (first | refine blk_drewN ?_ _ | refine blk_drew ?_ | refine blk_alloc ?_ _)); exact BK265.out⟩
         have n1_ : Aside0 ((((w67.setCell ⟨gb271, 0, none⟩ (.int .i64 (wrap64 ((wrap64 (Int.tmod a0 249)) + (wrap64 (t268 * t270)))))).setCell ⟨gb271, 1, none⟩ (.int .i64 0)).setCell ⟨gb271, 2, none⟩ (.int .i64 0)).heap[gb271]? = some (.cells #[.int .i64 (wrap64 ((wrap64 (Int.tmod a0 249)) + (wrap64 (t268 * t270)))), .int .i64 0, .int .i64 0] 37 (0, 0))) := ⟨by (with_reducible repeat (first | refine blk_drewN ?_ _ | refine blk_drew ?_ | refine blk_alloc ?_ _)); refine blk_put (cs := #[.int .i64 (wrap64 ((wrap64 (Int.tmod a0 249)) + (wrap64 (t268 * t270)))), .int .i64 0, .int .i64 0]) ?_ 2 _ rfl; (with_reducible repeat (first | refine blk_drewN ?_ _ | refine blk_drew ?_ | refine blk_alloc ?_ _)); refine blk_put (cs := #[.int .i64 (wrap64 ((wrap64 (Int.tmod a0 249)) + (wrap64 (t268 * t270)))), .int .i64 0, .int .i64 0]) ?_ 1 _ rfl; (with_reducible repeat (first | refine blk_drewN ?_ _ | refine blk_drew ?_ | refine blk_alloc ?_ _)); refine blk_put (cs := #[.int .i64 0, .int .i64 0, .int .i64 0]) ?_ 0 _ rfl; (with_reducible repeat (first | refine blk_drewN ?_ _ | refine blk_drew ?_ | refine blk_alloc ?_ _)); exact BK271.out⟩
         have n2_ : Aside0 (Below w.heap.size w (((w67.setCell ⟨gb271, 0, none⟩ (.int .i64 (wrap64 ((wrap64 (Int.tmod a0 249)) + (wrap64 (t268 * t270)))))).setCell ⟨gb271, 1, none⟩ (.int .i64 0)).setCell ⟨gb271, 2, none⟩ (.int .i64 0))) := ⟨by repeat (first | (with_reducible first | exact HB.out | apply below_alloc | apply pw_below_drewN | apply below_drew1 | refine below_set ?_ GE265.out | refine below_set ?_ GE271.out) | exact HB.out)⟩
         (try clear BK265)
         (try clear BK271)
         (try clear HB)
         generalize (((w67.setCell ⟨gb271, 0, none⟩ (.int .i64 (wrap64 ((wrap64 (Int.tmod a0 249)) + (wrap64 (t268 * t270)))))).setCell ⟨gb271, 1, none⟩ (.int .i64 0)).setCell ⟨gb271, 2, none⟩ (.int .i64 0)) = w71 at n0_ n1_ n2_ ⊢
         have BK265 := n0_
         have BK271 := n1_
         have HB := n2_
         clear n0_ n1_ n2_
         have n0_ := Aside0.mk (blk_drew BK265.out)
         have n1_ := Aside0.mk (blk_drew BK271.out)
         have n2_ := Aside0.mk (below_drew1 HB.out)
         clear BK265
         clear BK271
         clear HB
         have BK265 := n0_
         have BK271 := n1_
         have HB := n2_
         clear n0_ n1_ n2_
         refine start_ (n := 40) (S := fun w' => w'.cell? ⟨gb271, 0, none⟩ = some (.int .i64 (wrap64 ((wrap64 (Int.tmod a0 249)) + (wrap64 (t268 * t270))))) ∧ w'.cell? ⟨gb271, 1, none⟩ = some (.int .i64 0) ∧ w'.cell? ⟨gb271, 2, none⟩ = some (.int .i64 0) ∧ w'.cell? ⟨gb265, 0, none⟩ = some (.int .i64 (wrap64 (Int.tmod a0 249))) ∧ w'.cell? ⟨gb265, 1, none⟩ = some (.int .i64 0) ∧ w'.cell? ⟨gb265, 2, none⟩ = some (.int .i64 a1)) (ds := []) #[false,false,false,false,false,false,false,false,false,false,false,false,false,false,false,false,false,false,false,false,false,false,false,false,false,false,false,false,false,false,false,false,false,false,false,false,false,false,false,false] (by kernel_rfl) rfl rfl ⟨(blk_cell BK271.out 0).trans rfl, (blk_cell BK271.out 1).trans rfl, (blk_cell BK271.out 2).trans rfl, (blk_cell BK265.out 0).trans rfl, (blk_cell BK265.out 1).trans rfl, (blk_cell BK265.out 2).trans rfl⟩ (fun hHeld => ?_); refine with_tabW paternosterlaw07_CarLights.tab11 paternosterlaw07_CarLights.bits11 (fun HT_ HW_ => ?_)
         generalize w71.drew = w72 at BK265 BK271 HB hHeld ⊢
         refine pure_ (i := 0) (N := some 45) (v := ?_) (a' := ?_) #[true,false,false,false,false,false,false,false,false,false,false,false,false,false,false,false,false,false,false,false,false,false,false,false,false,false,false,false,false,false,false,false,false,false,false,false,false,false,false,false] rfl rfl (any_of HT_.out (by kernel_rfl)) (fun _ _ _ h => h) (Or.inl ⟨by rfl, ?_⟩) ?_ ?_
         rotate_left
         ·intro w'
          go_simp
          with_reducible rfl
         rotate_left
         ·simp only [Act.put, sA, sB, sC, i64_w, i32_w]
          rfl
         refine pure_ (i := 1) (N := some 46) (v := ?_) (a' := ?_) #[true,true,false,false,false,false,false,false,false,false,false,false,false,false,false,false,false,false,false,false,false,false,false,false,false,false,false,false,false,false,false,false,false,false,false,false,false,false,false,false] rfl rfl (any_of HT_.out (by kernel_rfl)) (fun _ _ _ h => h) (Or.inl ⟨by rfl, ?_⟩) ?_ ?_
         rotate_left
         ·intro w'
          go_simp
          with_reducible rfl
         rotate_left
         ·simp only [Act.put, sA, sB, sC, i64_w, i32_w]
          rfl
         refine pure_ (i := 2) (N := some 47) (v := ?_) (a' := ?_) #[true,true,true,false,false,false,false,false,false,false,false,false,false,false,false,false,false,false,false,false,false,false,false,false,false,false,false,false,false,false,false,false,false,false,false,false,false,false,false,false] rfl rfl (any_of HT_.out (by kernel_rfl)) (fun _ _ _ h => h) (Or.inl ⟨by rfl, ?_⟩) ?_ ?_
         rotate_left
         ·intro w'
          go_simp
          with_reducible rfl
         rotate_left
         ·simp only [Act.put, sA, sB, sC, i64_w, i32_w]
          rfl
         refine pure_ (i := 3) (N := some 48) (v := ?_) (a' := ?_) #[true,true,true,true,false,false,false,false,false,false,false,false,false,false,false,false,false,false,false,false,false,false,false,false,false,false,false,false,false,false,false,false,false,false,false,false,false,false,false,false] rfl rfl (any_of HT_.out (by kernel_rfl)) (fun _ _ _ h => h) (Or.inl ⟨by rfl, ?_⟩) ?_ ?_
         rotate_left
         ·intro w'
          go_simp
          with_reducible rfl
         rotate_left
         ·simp only [Act.put, sA, sB, sC, i64_w, i32_w]
          rfl
         refine pure_ (i := 4) (N := some 49) (v := ?_) (a' := ?_) #[true,true,true,true,true,false,false,false,false,false,false,false,false,false,false,false,false,false,false,false,false,false,false,false,false,false,false,false,false,false,false,false,false,false,false,false,false,false,false,false] rfl rfl (any_of HT_.out (by kernel_rfl)) (fun _ _ _ h => h) (Or.inl ⟨by rfl, ?_⟩) ?_ ?_
         rotate_left
         ·intro w'
          go_simp
          with_reducible rfl
         rotate_left
         ·simp only [Act.put, sA, sB, sC, i64_w, i32_w]
          rfl
         refine pure_ (i := 5) (N := some 50) (v := ?_) (a' := ?_) #[true,true,true,true,true,true,false,false,false,false,false,false,false,false,false,false,false,false,false,false,false,false,false,false,false,false,false,false,false,false,false,false,false,false,false,false,false,false,false,false] rfl rfl (any_of HT_.out (by kernel_rfl)) (fun _ _ _ h => h) (Or.inl ⟨by rfl, ?_⟩) ?_ ?_
         rotate_left
         ·intro w'
          go_simp
          with_reducible rfl
         rotate_left
         ·simp only [Act.put, sA, sB, sC, i64_w, i32_w]
          rfl
         refine pure_ (i := 6) (N := some 51) (v := ?_) (a' := ?_) #[true,true,true,true,true,true,true,false,false,false,false,false,false,false,false,false,false,false,false,false,false,false,false,false,false,false,false,false,false,false,false,false,false,false,false,false,false,false,false,false] rfl rfl (any_of HT_.out (by kernel_rfl)) (fun _ _ _ h => h) (Or.inl ⟨by rfl, ?_⟩) ?_ ?_
         rotate_left
         ·intro w'
          go_simp
          with_reducible rfl
         rotate_left
         ·simp only [Act.put, sA, sB, sC, i64_w, i32_w]
          rfl
         refine pure_ (i := 7) (N := some 52) (v := ?_) (a' := ?_) #[true,true,true,true,true,true,true,true,false,false,false,false,false,false,false,false,false,false,false,false,false,false,false,false,false,false,false,false,false,false,false,false,false,false,false,false,false,false,false,false] rfl rfl (any_of HT_.out (by kernel_rfl)) (fun _ _ _ h => h) (Or.inl ⟨by rfl, ?_⟩) ?_ ?_
         rotate_left
         ·intro w'
          go_simp
          with_reducible rfl
         rotate_left
         ·simp only [Act.put, sA, sB, sC, i64_w, i32_w]
          rfl
         refine pure_ (i := 8) (N := some 53) (v := ?_) (a' := ?_) #[true,true,true,true,true,true,true,true,true,false,false,false,false,false,false,false,false,false,false,false,false,false,false,false,false,false,false,false,false,false,false,false,false,false,false,false,false,false,false,false] rfl rfl (any_of HT_.out (by kernel_rfl)) (fun _ _ _ h => h) (Or.inl ⟨by rfl, ?_⟩) ?_ ?_
         rotate_left
         ·intro w'
          go_simp
          with_reducible rfl
         rotate_left
         ·simp only [Act.put, sA, sB, sC, i64_w, i32_w]
          rfl
         refine pure_ (i := 9) (N := some 54) (v := ?_) (a' := ?_) #[true,true,true,true,true,true,true,true,true,true,false,false,false,false,false,false,false,false,false,false,false,false,false,false,false,false,false,false,false,false,false,false,false,false,false,false,false,false,false,false] rfl rfl (any_of HT_.out (by kernel_rfl)) (fun _ _ _ h => h) (Or.inl ⟨by rfl, ?_⟩) ?_ ?_
         rotate_left
         ·intro w'
          go_simp
          with_reducible rfl
         rotate_left
         ·simp only [Act.put, sA, sB, sC, i64_w, i32_w]
          rfl
         refine pure_ (i := 10) (N := some 55) (v := ?_) (a' := ?_) #[true,true,true,true,true,true,true,true,true,true,true,false,false,false,false,false,false,false,false,false,false,false,false,false,false,false,false,false,false,false,false,false,false,false,false,false,false,false,false,false] rfl rfl (any_of HT_.out (by kernel_rfl)) (fun _ _ _ h => h) (Or.inl ⟨by rfl, ?_⟩) ?_ ?_
         rotate_left
         ·intro w'
          go_simp
          with_reducible rfl
         rotate_left
         ·simp only [Act.put, sA, sB, sC, i64_w, i32_w]
          rfl
         refine pure_ (i := 11) (N := some 56) (v := ?_) (a' := ?_) #[true,true,true,true,true,true,true,true,true,true,true,true,false,false,false,false,false,false,false,false,false,false,false,false,false,false,false,false,false,false,false,false,false,false,false,false,false,false,false,false] rfl rfl (any_of HT_.out (by kernel_rfl)) (fun _ _ _ h => h) (Or.inl ⟨by rfl, ?_⟩) ?_ ?_
         rotate_left
         ·intro w'
          go_simp
          with_reducible rfl
         rotate_left
         ·simp only [Act.put, sA, sB, sC, i64_w, i32_w]
          rfl
         refine pure_ (i := 12) (N := some 57) (v := ?_) (a' := ?_) #[true,true,true,true,true,true,true,true,true,true,true,true,true,false,false,false,false,false,false,false,false,false,false,false,false,false,false,false,false,false,false,false,false,false,false,false,false,false,false,false] rfl rfl (any_of HT_.out (by kernel_rfl)) (fun _ _ _ h => h) (Or.inl ⟨by rfl, ?_⟩) ?_ ?_
         rotate_left
         ·intro w'
          go_simp
          with_reducible rfl
         rotate_left
         ·simp only [Act.put, sA, sB, sC, i64_w, i32_w]
          rfl
         refine take_ (i := 13) (N := some 58) (v := ?_) (a' := ?_) #[true,true,true,true,true,true,true,true,true,true,true,true,true,true,false,false,false,false,false,false,false,false,false,false,false,false,false,false,false,false,false,false,false,false,false,false,false,false,false,false] rfl rfl (take_ofW HT_.out HW_.out (by kernel_rfl)) (fun _ _ _ h => h) (Or.inl ⟨by rfl, ?_⟩) hHeld ?_ ?_
         rotate_left
         ·rintro w' ⟨s0, s1, s2, s3, s4, s5⟩
          go_simp
          with_reducible rfl
         rotate_left
         ·simp only [Act.put, sA, sB, sC, i64_w, i32_w]
          rfl
         refine one_ (i := 14) (N := some 59) #[true,true,true,true,true,true,true,true,true,true,true,true,true,true,true,false,false,false,false,false,false,false,false,false,false,false,false,false,false,false,false,false,false,false,false,false,false,false,false,false] rfl rfl (one_of HT_.out (by kernel_rfl)) (by decide) (fun K hK => ?_)
         refine goes_ Try.func25 (by kernel_rfl) rfl #[.agg #[.int .i64 (wrap64 ((wrap64 (Int.tmod a0 249)) + (wrap64 (t268 * t270)))), .int .i64 0, .int .i64 0]] (by rfl) rfl rfl (by (try simp only [List.map_toArray, List.map_cons, List.map_nil]); first | done | rfl | (simp only [List.length_drop, List.length_take]; rfl)) ?_
         with_reducible refine (car_Car_Level.calls (wrap64 ((wrap64 (Int.tmod a0 249)) + (wrap64 (t268 * t270)))) 0 0 true _ A26.out).mono ?_
         rintro e w73 ⟨rfl, hb⟩
         refine ⟨_, rfl, ?_⟩
         have n0_ := Aside0.mk (blk_below (g := gb265) (o := .cells #[.int .i64 (wrap64 (Int.tmod a0 249)), .int .i64 0, .int .i64 a1] 37 (0, 0)) (by (with_reducible repeat (first | refine blk_drewN ?_ _ | refine blk_drew ?_ | refine blk_alloc ?_ _)); exact BK265.out) hb)
         have n1_ := Aside0.mk (blk_below (g := gb271) (o := .cells #[.int .i64 (wrap64 ((wrap64 (Int.tmod a0 249)) + (wrap64 (t268 * t270)))), .int .i64 0, .int .i64 0] 37 (0, 0)) (by (with_reducible repeat (first | refine blk_drewN ?_ _ | refine blk_drew ?_ | refine blk_alloc ?_ _)); exact BK271.out) hb)
         have n2_ := Aside0.mk (below_step (by repeat (first | (with_reducible first | exact HB.out | apply below_alloc | apply pw_below_drewN | apply below_drew1 | refine below_set ?_ GE265.out | refine below_set ?_ GE271.out) | exact HB.out)) hb)
         clear BK265
         clear BK271
         clear HB
         have BK265 := n0_
         have BK271 := n1_
         have HB := n2_
         clear n0_ n1_ n2_
         (try clear hb)
         (try clear hb2)
         (try clear hk)
         (try clear hi)
         refine hK.out _ _ ⟨(blk_cell BK271.out 0).trans rfl, (blk_cell BK271.out 1).trans rfl, (blk_cell BK271.out 2).trans rfl, (blk_cell BK265.out 0).trans rfl, (blk_cell BK265.out 1).trans rfl, (blk_cell BK265.out 2).trans rfl⟩ (fun hHeld => ?_)
         clear hK K
         refine norm_ (a' := ?_) ?_ ?_
         rotate_left
         ·show Act.put _ (some 59) _ = _
          simp only [Act.put, sA, sB, sC, i64_w, i32_w]
          rfl
         refine pure_ (i := 15) (N := some 60) (v := ?_) (a' := ?_) #[true,true,true,true,true,true,true,true,true,true,true,true,true,true,true,true,false,false,false,false,false,false,false,false,false,false,false,false,false,false,false,false,false,false,false,false,false,false,false,false] rfl rfl (any_of HT_.out (by kernel_rfl)) (fun _ _ _ h => h) (Or.inl ⟨by rfl, ?_⟩) ?_ ?_
         rotate_left
         ·intro w'
          go_simp
          with_reducible rfl
         rotate_left
         ·simp only [Act.put, sA, sB, sC, i64_w, i32_w]
          rfl
         refine pure_ (i := 16) (N := some 61) (v := ?_) (a' := ?_) #[true,true,true,true,true,true,true,true,true,true,true,true,true,true,true,true,true,false,false,false,false,false,false,false,false,false,false,false,false,false,false,false,false,false,false,false,false,false,false,false] rfl rfl (any_of HT_.out (by kernel_rfl)) (fun _ _ _ h => h) (Or.inl ⟨by rfl, ?_⟩) ?_ ?_
         rotate_left
         ·intro w'
          go_simp
          with_reducible rfl
         rotate_left
         ·simp only [Act.put, sA, sB, sC, i64_w, i32_w]
          rfl
         refine take_ (i := 17) (N := some 62) (v := ?_) (a' := ?_) #[true,true,true,true,true,true,true,true,true,true,true,true,true,true,true,true,true,true,false,false,false,false,false,false,false,false,false,false,false,false,false,false,false,false,false,false,false,false,false,false] rfl rfl (take_ofW HT_.out HW_.out (by kernel_rfl)) (fun _ _ _ h => h) (Or.inl ⟨by rfl, ?_⟩) hHeld ?_ ?_
         rotate_left
         ·rintro w' ⟨s0, s1, s2, s3, s4, s5⟩
          go_simp
          with_reducible rfl
         rotate_left
         ·simp only [Act.put, sA, sB, sC, i64_w, i32_w]
          rfl
         refine take_ (i := 19) (N := some 64) (v := ?_) (a' := ?_) #[true,true,true,true,true,true,true,true,true,true,true,true,true,true,true,true,true,true,false,true,false,false,false,false,false,false,false,false,false,false,false,false,false,false,false,false,false,false,false,false] rfl rfl (take_ofW HT_.out HW_.out (by kernel_rfl)) (fun _ _ _ h => h) (Or.inl ⟨by rfl, ?_⟩) hHeld ?_ ?_
         rotate_left
         ·rintro w' ⟨s0, s1, s2, s3, s4, s5⟩
          go_simp
          with_reducible rfl
         rotate_left
         ·simp only [Act.put, sA, sB, sC, i64_w, i32_w]
          rfl
         refine one_ (i := 18) (N := some 63) #[true,true,true,true,true,true,true,true,true,true,true,true,true,true,true,true,true,true,true,true,false,false,false,false,false,false,false,false,false,false,false,false,false,false,false,false,false,false,false,false] rfl rfl (one_of HT_.out (by kernel_rfl)) (by decide) (fun K hK => ?_)
         refine goes_ Try.func26 (by kernel_rfl) rfl #[.agg #[.int .i64 (wrap64 ((wrap64 (Int.tmod a0 249)) + (wrap64 (t268 * t270)))), .int .i64 0, .int .i64 0]] (by rfl) rfl rfl (by (try simp only [List.map_toArray, List.map_cons, List.map_nil]); first | done | rfl | (simp only [List.length_drop, List.length_take]; rfl)) ?_
         with_reducible refine (car_Car_Floor.calls (wrap64 ((wrap64 (Int.tmod a0 249)) + (wrap64 (t268 * t270)))) 0 0 t273 _ A28.out).mono ?_
         rintro e w74 ⟨rfl, hb⟩
         refine ⟨_, rfl, ?_⟩
         have n0_ := Aside0.mk (blk_below (g := gb265) (o := .cells #[.int .i64 (wrap64 (Int.tmod a0 249)), .int .i64 0, .int .i64 a1] 37 (0, 0)) (by (with_reducible repeat (first | refine blk_drewN ?_ _ | refine blk_drew ?_ | refine blk_alloc ?_ _)); exact BK265.out) hb)
         have n1_ := Aside0.mk (blk_below (g := gb271) (o := .cells #[.int .i64 (wrap64 ((wrap64 (Int.tmod a0 249)) + (wrap64 (t268 * t270)))), .int .i64 0, .int .i64 0] 37 (0, 0)) (by (with_reducible repeat (first | refine blk_drewN ?_ _ | refine blk_drew ?_ | refine blk_alloc ?_ _)); exact BK271.out) hb)
         have n2_ := Aside0.mk (below_step (by repeat (first | (with_reducible first | exact HB.out | apply below_alloc | apply pw_below_drewN | apply below_drew1 | refine below_set ?_ GE265.out | refine below_set ?_ GE271.out) | exact HB.out)) hb)
         clear BK265
         clear BK271
         clear HB
         have BK265 := n0_
         have BK271 := n1_
         have HB := n2_
         clear n0_ n1_ n2_
         (try clear hb)
         (try clear hb2)
         (try clear hk)
         (try clear hi)
         refine hK.out _ _ ⟨(blk_cell BK271.out 0).trans rfl, (blk_cell BK271.out 1).trans rfl, (blk_cell BK271.out 2).trans rfl, (blk_cell BK265.out 0).trans rfl, (blk_cell BK265.out 1).trans rfl, (blk_cell BK265.out 2).trans rfl⟩ (fun hHeld => ?_)
         clear hK K
         refine norm_ (a' := ?_) ?_ ?_
         rotate_left
         ·show Act.put _ (some 63) _ = _
          simp only [Act.put, sA, sB, sC, i64_w, i32_w]
          rfl
         refine one_ (i := 20) (N := some 65) #[true,true,true,true,true,true,true,true,true,true,true,true,true,true,true,true,true,true,true,true,true,false,false,false,false,false,false,false,false,false,false,false,false,false,false,false,false,false,false,false] rfl rfl (one_of HT_.out (by kernel_rfl)) (by decide) (fun K hK => ?_)
         refine goes_ Try.func26 (by kernel_rfl) rfl #[.agg #[.int .i64 (wrap64 (Int.tmod a0 249)), .int .i64 0, .int .i64 a1]] (by rfl) rfl rfl (by (try simp only [List.map_toArray, List.map_cons, List.map_nil]); first | done | rfl | (simp only [List.length_drop, List.length_take]; rfl)) ?_
         with_reducible refine (car_Car_Floor.calls (wrap64 (Int.tmod a0 249)) 0 a1 t274 _ A29.out).mono ?_
         rintro e w75 ⟨rfl, hb⟩
         refine ⟨_, rfl, ?_⟩
         have n0_ := Aside0.mk (blk_below (g := gb265) (o := .cells #[.int .i64 (wrap64 (Int.tmod a0 249)), .int .i64 0, .int .i64 a1] 37 (0, 0)) (by (with_reducible repeat (first | refine blk_drewN ?_ _ | refine blk_drew ?_ | refine blk_alloc ?_ _)); exact BK265.out) hb)
         have n1_ := Aside0.mk (blk_below (g := gb271) (o := .cells #[.int .i64 (wrap64 ((wrap64 (Int.tmod a0 249)) + (wrap64 (t268 * t270)))), .int .i64 0, .int .i64 0] 37 (0, 0)) (by (with_reducible repeat (first | refine blk_drewN ?_ _ | refine blk_drew ?_ | refine blk_alloc ?_ _)); exact BK271.out) hb)
         have n2_ := Aside0.mk (below_step (by repeat (first | (with_reducible first | exact HB.out | apply below_alloc | apply pw_below_drewN | apply below_drew1 | refine below_set ?_ GE265.out | refine below_set ?_ GE271.out) | exact HB.out)) hb)
         clear BK265
         clear BK271
         clear HB
         have BK265 := n0_
         have BK271 := n1_
         have HB := n2_
         clear n0_ n1_ n2_
         (try clear hb)
         (try clear hb2)
         (try clear hk)
         (try clear hi)
         refine hK.out _ _ ⟨(blk_cell BK271.out 0).trans rfl, (blk_cell BK271.out 1).trans rfl, (blk_cell BK271.out 2).trans rfl, (blk_cell BK265.out 0).trans rfl, (blk_cell BK265.out 1).trans rfl, (blk_cell BK265.out 2).trans rfl⟩ (fun hHeld => ?_)
         clear hK K
         refine norm_ (a' := ?_) ?_ ?_
         rotate_left
         ·show Act.put _ (some 65) _ = _
          simp only [Act.put, sA, sB, sC, i64_w, i32_w]
          rfl
         refine pure_ (i := 21) (N := some 66) (v := ?_) (a' := ?_) #[true,true,true,true,true,true,true,true,true,true,true,true,true,true,true,true,true,true,true,true,true,true,false,false,false,false,false,false,false,false,false,false,false,false,false,false,false,false,false,false] rfl rfl (any_of HT_.out (by kernel_rfl)) (fun _ _ _ h => h) (Or.inl ⟨by rfl, ?_⟩) ?_ ?_
         rotate_left
         ·intro w'
          go_simp
          with_reducible rfl
         rotate_left
         ·simp only [Act.put, sA, sB, sC, i64_w, i32_w]
          rfl
         refine pure_ (i := 22) (N := some 67) (v := ?_) (a' := ?_) #[true,true,true,true,true,true,true,true,true,true,true,true,true,true,true,true,true,true,true,true,true,true,true,false,false,false,false,false,false,false,false,false,false,false,false,false,false,false,false,false] rfl rfl (any_of HT_.out (by kernel_rfl)) (fun _ _ _ h => h) (Or.inl ⟨by rfl, ?_⟩) ?_ ?_
         rotate_left
         ·intro w'
          go_simp
          with_reducible rfl
         rotate_left
         ·simp only [Act.put, sA, sB, sC, i64_w, i32_w]
          rfl
         refine pure_ (i := 23) (N := some 68) (v := undef) (a' := ?_) #[true,true,true,true,true,true,true,true,true,true,true,true,true,true,true,true,true,true,true,true,true,true,true,true,false,false,false,false,false,false,false,false,false,false,false,false,false,false,false,false] rfl rfl (any_of HT_.out (by kernel_rfl)) (fun _ _ _ h => h) (Or.inr ⟨by rfl, rfl⟩) ?_ ?_
         rotate_left
         ·simp only [Act.put, sA, sB, sC, i64_w, i32_w]
          rfl
         refine pure_ (i := 24) (N := some 69) (v := undef) (a' := ?_) #[true,true,true,true,true,true,true,true,true,true,true,true,true,true,true,true,true,true,true,true,true,true,true,true,true,false,false,false,false,false,false,false,false,false,false,false,false,false,false,false] rfl rfl (any_of HT_.out (by kernel_rfl)) (fun _ _ _ h => h) (Or.inr ⟨by rfl, rfl⟩) ?_ ?_
         rotate_left
         ·simp only [Act.put, sA, sB, sC, i64_w, i32_w]
          rfl
         refine pure_ (i := 25) (N := some 70) (v := undef) (a' := ?_) #[true,true,true,true,true,true,true,true,true,true,true,true,true,true,true,true,true,true,true,true,true,true,true,true,true,true,false,false,false,false,false,false,false,false,false,false,false,false,false,false] rfl rfl (any_of HT_.out (by kernel_rfl)) (fun _ _ _ h => h) (Or.inr ⟨by rfl, rfl⟩) ?_ ?_
         rotate_left
         ·simp only [Act.put, sA, sB, sC, i64_w, i32_w]
          rfl
         refine pure_ (i := 26) (N := some 71) (v := undef) (a' := ?_) #[true,true,true,true,true,true,true,true,true,true,true,true,true,true,true,true,true,true,true,true,true,true,true,true,true,true,true,false,false,false,false,false,false,false,false,false,false,false,false,false] rfl rfl (any_of HT_.out (by kernel_rfl)) (fun _ _ _ h => h) (Or.inr ⟨by rfl, rfl⟩) ?_ ?_
         rotate_left
         ·simp only [Act.put, sA, sB, sC, i64_w, i32_w]
          rfl
         refine pure_ (i := 27) (N := some 72) (v := undef) (a' := ?_) #[true,true,true,true,true,true,true,true,true,true,true,true,true,true,true,true,true,true,true,true,true,true,true,true,true,true,true,true,false,false,false,false,false,false,false,false,false,false,false,false] rfl rfl (any_of HT_.out (by kernel_rfl)) (fun _ _ _ h => h) (Or.inr ⟨by rfl, rfl⟩) ?_ ?_
         rotate_left
         ·simp only [Act.put, sA, sB, sC, i64_w, i32_w]
          rfl
         refine pure_ (i := 28) (N := some 73) (v := undef) (a' := ?_) #[true,true,true,true,true,true,true,true,true,true,true,true,true,true,true,true,true,true,true,true,true,true,true,true,true,true,true,true,true,false,false,false,false,false,false,false,false,false,false,false] rfl rfl (any_of HT_.out (by kernel_rfl)) (fun _ _ _ h => h) (Or.inr ⟨by rfl, rfl⟩) ?_ ?_
         rotate_left
         ·simp only [Act.put, sA, sB, sC, i64_w, i32_w]
          rfl
         refine pure_ (i := 29) (N := some 74) (v := ?_) (a' := ?_) #[true,true,true,true,true,true,true,true,true,true,true,true,true,true,true,true,true,true,true,true,true,true,true,true,true,true,true,true,true,true,false,false,false,false,false,false,false,false,false,false] rfl rfl (any_of HT_.out (by kernel_rfl)) (fun _ _ _ h => h) (Or.inl ⟨by rfl, ?_⟩) ?_ ?_
         rotate_left
         ·intro w'
          go_simp
          with_reducible rfl
         rotate_left
         ·simp only [Act.put, sA, sB, sC, i64_w, i32_w]
          rfl
         refine pure_ (i := 30) (N := some 75) (v := ?_) (a' := ?_) #[true,true,true,true,true,true,true,true,true,true,true,true,true,true,true,true,true,true,true,true,true,true,true,true,true,true,true,true,true,true,true,false,false,false,false,false,false,false,false,false] rfl rfl (any_of HT_.out (by kernel_rfl)) (fun _ _ _ h => h) (Or.inl ⟨by rfl, ?_⟩) ?_ ?_
         rotate_left
         ·intro w'
          go_simp
          with_reducible rfl
         rotate_left
         ·simp only [Act.put, sA, sB, sC, i64_w, i32_w]
          rfl
         refine pure_ (i := 31) (N := some 76) (v := ?_) (a' := ?_) #[true,true,true,true,true,true,true,true,true,true,true,true,true,true,true,true,true,true,true,true,true,true,true,true,true,true,true,true,true,true,true,true,false,false,false,false,false,false,false,false] rfl rfl (any_of HT_.out (by kernel_rfl)) (fun _ _ _ h => h) (Or.inl ⟨by rfl, ?_⟩) ?_ ?_
         rotate_left
         ·intro w'
          go_simp
          with_reducible rfl
         rotate_left
         ·simp only [Act.put, sA, sB, sC, i64_w, i32_w]
          rfl
         refine pure_ (i := 32) (N := some 77) (v := ?_) (a' := ?_) #[true,true,true,true,true,true,true,true,true,true,true,true,true,true,true,true,true,true,true,true,true,true,true,true,true,true,true,true,true,true,true,true,true,false,false,false,false,false,false,false] rfl rfl (any_of HT_.out (by kernel_rfl)) (fun _ _ _ h => h) (Or.inl ⟨by rfl, ?_⟩) ?_ ?_
         rotate_left
         ·intro w'
          go_simp
          with_reducible rfl
         rotate_left
         ·simp only [Act.put, sA, sB, sC, i64_w, i32_w]
          rfl
         refine pure_ (i := 33) (N := some 78) (v := ?_) (a' := ?_) #[true,true,true,true,true,true,true,true,true,true,true,true,true,true,true,true,true,true,true,true,true,true,true,true,true,true,true,true,true,true,true,true,true,true,false,false,false,false,false,false] rfl rfl (any_of HT_.out (by kernel_rfl)) (fun _ _ _ h => h) (Or.inl ⟨by rfl, ?_⟩) ?_ ?_
         rotate_left
         ·intro w'
          go_simp
          with_reducible rfl
         rotate_left
         ·simp only [Act.put, sA, sB, sC, i64_w, i32_w]
          rfl
         refine pure_ (i := 34) (N := some 79) (v := ?_) (a' := ?_) #[true,true,true,true,true,true,true,true,true,true,true,true,true,true,true,true,true,true,true,true,true,true,true,true,true,true,true,true,true,true,true,true,true,true,true,false,false,false,false,false] rfl rfl (any_of HT_.out (by kernel_rfl)) (fun _ _ _ h => h) (Or.inl ⟨by rfl, ?_⟩) ?_ ?_
         rotate_left
         ·intro w'
          go_simp
          with_reducible rfl
         rotate_left
         ·simp only [Act.put, sA, sB, sC, i64_w, i32_w]
          rfl
         refine pure_ (i := 35) (N := some 80) (v := ?_) (a' := ?_) #[true,true,true,true,true,true,true,true,true,true,true,true,true,true,true,true,true,true,true,true,true,true,true,true,true,true,true,true,true,true,true,true,true,true,true,true,false,false,false,false] rfl rfl (any_of HT_.out (by kernel_rfl)) (fun _ _ _ h => h) (Or.inl ⟨by rfl, ?_⟩) ?_ ?_
         rotate_left
         ·intro w'
          go_simp
          with_reducible rfl
         rotate_left
         ·simp only [Act.put, sA, sB, sC, i64_w, i32_w]
          rfl
         refine pure_ (i := 36) (N := some 81) (v := ?_) (a' := ?_) #[true,true,true,true,true,true,true,true,true,true,true,true,true,true,true,true,true,true,true,true,true,true,true,true,true,true,true,true,true,true,true,true,true,true,true,true,true,false,false,false] rfl rfl (any_of HT_.out (by kernel_rfl)) (fun _ _ _ h => h) (Or.inl ⟨by rfl, ?_⟩) ?_ ?_
         rotate_left
         ·intro w'
          go_simp
          with_reducible rfl
         rotate_left
         ·simp only [Act.put, sA, sB, sC, i64_w, i32_w]
          rfl
         refine pure_ (i := 37) (N := some 82) (v := ?_) (a' := ?_) #[true,true,true,true,true,true,true,true,true,true,true,true,true,true,true,true,true,true,true,true,true,true,true,true,true,true,true,true,true,true,true,true,true,true,true,true,true,true,false,false] rfl rfl (any_of HT_.out (by kernel_rfl)) (fun _ _ _ h => h) (Or.inl ⟨by rfl, ?_⟩) ?_ ?_
         rotate_left
         ·intro w'
          go_simp
          with_reducible rfl
         rotate_left
         ·simp only [Act.put, sA, sB, sC, i64_w, i32_w]
          rfl
         refine pure_ (i := 38) (N := some 83) (v := ?_) (a' := ?_) #[true,true,true,true,true,true,true,true,true,true,true,true,true,true,true,true,true,true,true,true,true,true,true,true,true,true,true,true,true,true,true,true,true,true,true,true,true,true,true,false] rfl rfl (any_of HT_.out (by kernel_rfl)) (fun _ _ _ h => h) (Or.inl ⟨by rfl, ?_⟩) ?_ ?_
         rotate_left
         ·intro w'
          go_simp
          with_reducible rfl
         rotate_left
         ·simp only [Act.put, sA, sB, sC, i64_w, i32_w]
          rfl
         refine pure_ (i := 39) (N := some 6) (v := ?_) (a' := ?_) #[true,true,true,true,true,true,true,true,true,true,true,true,true,true,true,true,true,true,true,true,true,true,true,true,true,true,true,true,true,true,true,true,true,true,true,true,true,true,true,true] rfl rfl (any_of HT_.out (by kernel_rfl)) (fun _ _ _ h => h) (Or.inl ⟨by rfl, ?_⟩) ?_ ?_
         rotate_left
         ·intro w'
          go_simp
          with_reducible rfl
         rotate_left
         ·simp only [Act.put, sA, sB, sC, i64_w, i32_w]
          rfl
         refine done_ (done_of HT_.out (by kernel_rfl)) ?_
         try go_wp2
         go_ret
         exact ⟨by first | rfl | (simp [errW_none, errW_some] <;> rfl) | (simp [*, errW_none, errW_some] <;> rfl), by repeat (first | (with_reducible first | exact HB.out | apply below_alloc | apply pw_below_drewN | apply below_drew1 | refine below_set ?_ GE265.out | refine below_set ?_ GE271.out) | exact HB.out)⟩
       ·rw [if_neg c30] at H
        have c30b0 : (t273 == t274) = false := beq_eq_false_iff_ne.mpr c30
        have c30b1 : (t273 != t274) = true := bne_iff_ne.mpr c30
        replace H := Option.bind_eq_some_iff.mp H
        obtain ⟨t275, A760, H⟩ := H
        replace H : ((car_Car_Floor.f (wrap64 (Int.tmod a0 249)) 0 a1).bind fun t276 => (if t275 = (wrap64 (t276 + 1)) then (if t268 = 1 then (some true) else (some (t268 == (-1)))) else (some false))) = some r := H
        have A76 := Aside0.mk A760
        clear A760
        replace H := Option.bind_eq_some_iff.mp H
        obtain ⟨t276, A770, H⟩ := H
        replace H : (if t275 = (wrap64 (t276 + 1)) then (if t268 = 1 then (some true) else (some (t268 == (-1)))) else (some false)) = some r := H
        have A77 := Aside0.mk A770
        clear A770
        by_cases c78 : t275 = (wrap64 (t276 + 1))
        ·rw [if_pos c78] at H
         have c78b0 : (t275 == (wrap64 (t276 + 1))) = true := beq_iff_eq.mpr c78
         have c78b1 : (t275 != (wrap64 (t276 + 1))) = false := bne_eq_false_iff_eq.mpr c78
         clear c78
         by_cases c79 : t268 = 1
         ·rw [if_pos c79] at H
          have c79b0 : (t268 == 1) = true := beq_iff_eq.mpr c79
          have c79b1 : (t268 != 1) = false := bne_eq_false_iff_eq.mpr c79
          clear c79
          obtain rfl := Option.some.inj H
          go_enter Try.func11, Try.ntmps11
          try go_wp2_with (first | ((with_reducible refine gate_callee (f := 18) rfl ?_); refine goesL_ (some 13) rfl rfl Try.func18 (by kernel_rfl) rfl #[] rfl (by (try simp only [List.map_toArray, List.map_cons, List.map_nil]); first | done | rfl | (simp only [List.length_drop, List.length_take]; rfl)) ?_; (with_reducible refine (paternosterlaw07_awake.calls k  true _ A4.out).mono ?_); rintro e w80 ⟨rfl, hb⟩; refine ⟨_, rfl, ?_⟩; have n0_ := Aside0.mk (below_step (by repeat (first | (with_reducible first | exact HB.out | apply below_alloc | apply pw_below_drewN | apply below_drew1) | exact HB.out)) hb); clear HB; have HB := n0_; clear n0_; (try clear hb); (try clear hb2); (try clear hk); (try clear hi)) | ((with_reducible refine gate_dst (N := 8) rfl ?_); refine box_event ?hg (N := 8) ?hd (cs := #[.int .i64 0, .int .i64 0, .int .i64 0]) (t := 37) ?hr ?_; (case hd => rfl); (case hg => rfl); (case hr => first | (go_simp; done) | (go_simp; rfl)); intro gb265 hg w81 hbox hb; have n0_ := Aside0.mk (below_step (by repeat (first | (with_reducible first | exact HB.out | apply below_alloc | apply pw_below_drewN | apply below_drew1) | exact HB.out)) hb); have n1_ := Aside0.mk (hbox); have n2_ := Aside0.mk ((by rw [hg]; exact (below_size (by repeat (first | (with_reducible first | exact HB.out | apply below_alloc | apply pw_below_drewN | apply below_drew1) | exact HB.out))) : w.heap.size ≤ gb265)); have n3_ := Aside0.mk ((by rw [hg]; exact (below_size (by repeat (first | (with_reducible first | exact HB.out | apply below_alloc | apply pw_below_drewN | apply below_drew1) | exact HB.out))) : w.heap.size ≤ gb265)); clear HB; have HB := n0_; have BK265 := n1_; have GW265 := n2_; have GE265 := n3_; clear n0_ n1_ n2_ n3_; clear hb hbox hg; have hcz82_0 : w81.cell? ⟨gb265, 0, none⟩ = some (.int .i64 0) := (blk_cell BK265.out 0).trans rfl; have hcz82_1 : w81.cell? ⟨gb265, 1, none⟩ = some (.int .i64 0) := (blk_cell BK265.out 1).trans rfl; have hcz82_2 : w81.cell? ⟨gb265, 2, none⟩ = some (.int .i64 0) := (blk_cell BK265.out 2).trans rfl; have hfz82_0 := blk_frozen BK265.out 0; have hfz82_1 := blk_frozen BK265.out 1; have hfz82_2 := blk_frozen BK265.out 2) | ((with_reducible refine gate_callee (f := 28) rfl ?_); refine goesL_ (some 22) rfl rfl Try.func28 (by kernel_rfl) rfl #[.agg #[.int .i64 (wrap64 (Int.tmod a0 249)), .int .i64 0, .int .i64 a1], .int .i64 1] rfl (by (try simp only [List.map_toArray, List.map_cons, List.map_nil]); first | done | rfl | (simp only [List.length_drop, List.length_take]; rfl)) ?_; (with_reducible refine (car_Car_Near.calls k (wrap64 (Int.tmod a0 249)) 0 a1 1 t266 _ A6.out).mono ?_); rintro e w83 ⟨rfl, hb⟩; refine ⟨_, rfl, ?_⟩; have n0_ := Aside0.mk (blk_below (g := gb265) (o := .cells #[.int .i64 (wrap64 (Int.tmod a0 249)), .int .i64 0, .int .i64 a1] 37 (0, 0)) (by (with_reducible repeat (first | refine blk_drewN ?_ _ | refine blk_drew ?_ | refine blk_alloc ?_ _)); refine blk_put (cs := #[.int .i64 (wrap64 (Int.tmod a0 249)), .int .i64 0, .int .i64 0]) ?_ 2 _ rfl; (with_reducible repeat (first | refine blk_drewN ?_ _ | refine blk_drew ?_ | refine blk_alloc ?_ _)); refine blk_put (cs := #[.int .i64 (wrap64 (Int.tmod a0 249)), .int .i64 0, .int .i64 0]) ?_ 1 _ rfl; (with_reducible repeat (first | refine blk_drewN ?_ _ | refine blk_drew ?_ | refine blk_alloc ?_ _)); refine blk_put (cs := #[.int .i64 0, .int .i64 0, .int .i64 0]) ?_ 0 _ rfl; (with_reducible repeat (first | refine blk_drewN ?_ _ | refine blk_drew ?_ | refine blk_alloc ?_ _)); exact BK265.out) hb); have n1_ := Aside0.mk (below_step (by repeat (first | (with_reducible first | exact HB.out | apply below_alloc | apply pw_below_drewN | apply below_drew1 | refine below_set ?_ GE265.out) | exact HB.out)) hb); clear BK265; clear HB; have BK265 := n0_; have HB := n1_; clear n0_ n1_; (try clear hb); (try clear hb2); (try clear hk); (try clear hi); have hcz84_0 : w83.cell? ⟨gb265, 0, none⟩ = some (.int .i64 (wrap64 (Int.tmod a0 249))) := (blk_cell BK265.out 0).trans rfl; have hcz84_1 : w83.cell? ⟨gb265, 1, none⟩ = some (.int .i64 0) := (blk_cell BK265.out 1).trans rfl; have hcz84_2 : w83.cell? ⟨gb265, 2, none⟩ = some (.int .i64 a1) := (blk_cell BK265.out 2).trans rfl; have hfz84_0 := blk_frozen BK265.out 0; have hfz84_1 := blk_frozen BK265.out 1; have hfz84_2 := blk_frozen BK265.out 2) | ((with_reducible refine gate_callee (f := 28) rfl ?_); refine goesL_ (some 24) rfl rfl Try.func28 (by kernel_rfl) rfl #[.agg #[.int .i64 (wrap64 (Int.tmod a0 249)), .int .i64 0, .int .i64 a1], .int .i64 (-1)] rfl (by (try simp only [List.map_toArray, List.map_cons, List.map_nil]); first | done | rfl | (simp only [List.length_drop, List.length_take]; rfl)) ?_; (with_reducible refine (car_Car_Near.calls k (wrap64 (Int.tmod a0 249)) 0 a1 (-1) t267 _ A7.out).mono ?_); rintro e w85 ⟨rfl, hb⟩; refine ⟨_, rfl, ?_⟩; have n0_ := Aside0.mk (blk_below (g := gb265) (o := .cells #[.int .i64 (wrap64 (Int.tmod a0 249)), .int .i64 0, .int .i64 a1] 37 (0, 0)) (by (with_reducible repeat (first | refine blk_drewN ?_ _ | refine blk_drew ?_ | refine blk_alloc ?_ _)); exact BK265.out) hb); have n1_ := Aside0.mk (below_step (by repeat (first | (with_reducible first | exact HB.out | apply below_alloc | apply pw_below_drewN | apply below_drew1 | refine below_set ?_ GE265.out) | exact HB.out)) hb); clear BK265; clear HB; have BK265 := n0_; have HB := n1_; clear n0_ n1_; (try clear hb); (try clear hb2); (try clear hk); (try clear hi); have hcz86_0 : w85.cell? ⟨gb265, 0, none⟩ = some (.int .i64 (wrap64 (Int.tmod a0 249))) := (blk_cell BK265.out 0).trans rfl; have hcz86_1 : w85.cell? ⟨gb265, 1, none⟩ = some (.int .i64 0) := (blk_cell BK265.out 1).trans rfl; have hcz86_2 : w85.cell? ⟨gb265, 2, none⟩ = some (.int .i64 a1) := (blk_cell BK265.out 2).trans rfl; have hfz86_0 := blk_frozen BK265.out 0; have hfz86_1 := blk_frozen BK265.out 1; have hfz86_2 := blk_frozen BK265.out 2) | ((with_reducible refine gate_callee (f := 27) rfl ?_); refine goesL_ (some 27) rfl rfl Try.func27 (by kernel_rfl) rfl #[.agg #[.int .i64 (wrap64 (Int.tmod a0 249)), .int .i64 0, .int .i64 a1], .int .i64 a2] rfl (by (try simp only [List.map_toArray, List.map_cons, List.map_nil]); first | done | rfl | (simp only [List.length_drop, List.length_take]; rfl)) ?_; (with_reducible refine (car_Car_Light.calls (wrap64 (Int.tmod a0 249)) 0 a1 a2 t268 _ A8.out).mono ?_); rintro e w87 ⟨rfl, hb⟩; refine ⟨_, rfl, ?_⟩; have n0_ := Aside0.mk (blk_below (g := gb265) (o := .cells #[.int .i64 (wrap64 (Int.tmod a0 249)), .int .i64 0, .int .i64 a1] 37 (0, 0)) (by (with_reducible repeat (first | refine blk_drewN ?_ _ | refine blk_drew ?_ | refine blk_alloc ?_ _)); exact BK265.out) hb); have n1_ := Aside0.mk (below_step (by repeat (first | (with_reducible first | exact HB.out | apply below_alloc | apply pw_below_drewN | apply below_drew1 | refine below_set ?_ GE265.out) | exact HB.out)) hb); clear BK265; clear HB; have BK265 := n0_; have HB := n1_; clear n0_ n1_; (try clear hb); (try clear hb2); (try clear hk); (try clear hi); have hcz88_0 : w87.cell? ⟨gb265, 0, none⟩ = some (.int .i64 (wrap64 (Int.tmod a0 249))) := (blk_cell BK265.out 0).trans rfl; have hcz88_1 : w87.cell? ⟨gb265, 1, none⟩ = some (.int .i64 0) := (blk_cell BK265.out 1).trans rfl; have hcz88_2 : w87.cell? ⟨gb265, 2, none⟩ = some (.int .i64 a1) := (blk_cell BK265.out 2).trans rfl; have hfz88_0 := blk_frozen BK265.out 0; have hfz88_1 := blk_frozen BK265.out 1; have hfz88_2 := blk_frozen BK265.out 2) | ((with_reducible refine gate_callee (f := 25) rfl ?_); refine goesL_ (some 29) rfl rfl Try.func25 (by kernel_rfl) rfl #[.agg #[.int .i64 (wrap64 (Int.tmod a0 249)), .int .i64 0, .int .i64 a1]] rfl (by (try simp only [List.map_toArray, List.map_cons, List.map_nil]); first | done | rfl | (simp only [List.length_drop, List.length_take]; rfl)) ?_; (with_reducible refine (car_Car_Level.calls (wrap64 (Int.tmod a0 249)) 0 a1 false _ A9.out).mono ?_); rintro e w89 ⟨rfl, hb⟩; refine ⟨_, rfl, ?_⟩; have n0_ := Aside0.mk (blk_below (g := gb265) (o := .cells #[.int .i64 (wrap64 (Int.tmod a0 249)), .int .i64 0, .int .i64 a1] 37 (0, 0)) (by (with_reducible repeat (first | refine blk_drewN ?_ _ | refine blk_drew ?_ | refine blk_alloc ?_ _)); exact BK265.out) hb); have n1_ := Aside0.mk (below_step (by repeat (first | (with_reducible first | exact HB.out | apply below_alloc | apply pw_below_drewN | apply below_drew1 | refine below_set ?_ GE265.out) | exact HB.out)) hb); clear BK265; clear HB; have BK265 := n0_; have HB := n1_; clear n0_ n1_; (try clear hb); (try clear hb2); (try clear hk); (try clear hi)))
          have n0_ := Aside0.mk (blk_drew BK265.out)
          have n1_ := Aside0.mk (below_drew1 HB.out)
          clear BK265
          clear HB
          have BK265 := n0_
          have HB := n1_
          clear n0_ n1_
          refine start_ (n := 11) (S := fun w' => w'.cell? ⟨gb265, 0, none⟩ = some (.int .i64 (wrap64 (Int.tmod a0 249))) ∧ w'.cell? ⟨gb265, 1, none⟩ = some (.int .i64 0) ∧ w'.cell? ⟨gb265, 2, none⟩ = some (.int .i64 a1)) (ds := []) #[false,false,false,false,false,false,false,false,false,false,false] (by kernel_rfl) rfl rfl ⟨(blk_cell BK265.out 0).trans rfl, (blk_cell BK265.out 1).trans rfl, (blk_cell BK265.out 2).trans rfl⟩ (fun hHeld => ?_); refine with_tabW paternosterlaw07_CarLights.tab10 paternosterlaw07_CarLights.bits10 (fun HT_ HW_ => ?_)
          generalize w89.drew = w90 at BK265 HB hHeld ⊢
          refine pure_ (i := 0) (N := some 36) (v := ?_) (a' := ?_) #[true,false,false,false,false,false,false,false,false,false,false] rfl rfl (any_of HT_.out (by kernel_rfl)) (fun _ _ _ h => h) (Or.inl ⟨by rfl, ?_⟩) ?_ ?_
          rotate_left
          ·intro w'
           go_simp
           with_reducible rfl
          rotate_left
          ·simp only [Act.put, sA, sB, sC, i64_w, i32_w]
           rfl
          refine pure_ (i := 2) (N := some 38) (v := ?_) (a' := ?_) #[true,false,true,false,false,false,false,false,false,false,false] rfl rfl (any_of HT_.out (by kernel_rfl)) (fun _ _ _ h => h) (Or.inl ⟨by rfl, ?_⟩) ?_ ?_
          rotate_left
          ·intro w'
           go_simp
           with_reducible rfl
          rotate_left
          ·simp only [Act.put, sA, sB, sC, i64_w, i32_w]
           rfl
          refine pure_ (i := 4) (N := some 40) (v := ?_) (a' := ?_) #[true,false,true,false,true,false,false,false,false,false,false] rfl rfl (any_of HT_.out (by kernel_rfl)) (fun _ _ _ h => h) (Or.inl ⟨by rfl, ?_⟩) ?_ ?_
          rotate_left
          ·intro w'
           go_simp
           with_reducible rfl
          rotate_left
          ·simp only [Act.put, sA, sB, sC, i64_w, i32_w]
           rfl
          refine take_ (i := 1) (N := some 37) (v := ?_) (a' := ?_) #[true,true,true,false,true,false,false,false,false,false,false] rfl rfl (take_ofW HT_.out HW_.out (by kernel_rfl)) (fun _ _ _ h => h) (Or.inl ⟨by rfl, ?_⟩) hHeld ?_ ?_
          rotate_left
          ·rintro w' ⟨s0, s1, s2⟩
           go_simp
           with_reducible rfl
          rotate_left
          ·simp only [Act.put, sA, sB, sC, i64_w, i32_w]
           rfl
          refine take_ (i := 3) (N := some 39) (v := ?_) (a' := ?_) #[true,true,true,true,true,false,false,false,false,false,false] rfl rfl (take_ofW HT_.out HW_.out (by kernel_rfl)) (fun _ _ _ h => h) (Or.inl ⟨by rfl, ?_⟩) hHeld ?_ ?_
          rotate_left
          ·rintro w' ⟨s0, s1, s2⟩
           go_simp
           with_reducible rfl
          rotate_left
          ·simp only [Act.put, sA, sB, sC, i64_w, i32_w]
           rfl
          refine join_ (σ := Nat) 1 #[true,true,true,true,true,true,true,true,true,true,false] (fun s_ => [(41, .int .i64 t270), (12, .pointer (some ⟨s_, 0, none⟩)), (42, .int .i64 (wrap64 (t268 * t270))), (43, .int .i64 (wrap64 ((wrap64 (Int.tmod a0 249)) + (wrap64 (t268 * t270))))), (44, .agg #[.int .i64 (wrap64 ((wrap64 (Int.tmod a0 249)) + (wrap64 (t268 * t270)))), .int .i64 0, .int .i64 0])]) (fun s_ w' => (w'.cell? ⟨gb265, 0, none⟩ = some (.int .i64 (wrap64 (Int.tmod a0 249))) ∧ w'.cell? ⟨gb265, 1, none⟩ = some (.int .i64 0) ∧ w'.cell? ⟨gb265, 2, none⟩ = some (.int .i64 a1)) ∧ (w'.heap[gb265]? = some (.cells #[.int .i64 (wrap64 (Int.tmod a0 249)), .int .i64 0, .int .i64 a1] 37 (0, 0))) ∧ (w'.heap[s_]? = some (.cells #[.int .i64 0, .int .i64 0, .int .i64 0] 37 (0, 0))) ∧ (w.heap.size ≤ s_) ∧ (w.heap.size ≤ s_) ∧ (gb265 ≠ s_) ∧ (s_ ≠ gb265) ∧ (Below w.heap.size w w')) ?_ ?_
          rotate_left
          ·intro hCont
           refine two_ (i := 5) (j := 9) (Ni := some 41) (Nj := some 12) #[true,true,true,true,true,true,false,false,false,false,false] #[true,true,true,true,true,false,false,false,false,true,false] rfl rfl rfl rfl (two_of HT_.out (by kernel_rfl)) (by decide) (by decide) (fun K hK => ?_) (fun K hK => ?_)
           ·skip
            refine goes_ Try.func28 (by kernel_rfl) rfl #[.agg #[.int .i64 (wrap64 (Int.tmod a0 249)), .int .i64 0, .int .i64 a1], .int .i64 t268] (by rfl) rfl rfl (by (try simp only [List.map_toArray, List.map_cons, List.map_nil]); first | done | rfl | (simp only [List.length_drop, List.length_take]; rfl)) ?_
            with_reducible refine (car_Car_Near.calls k (wrap64 (Int.tmod a0 249)) 0 a1 t268 t270 _ A22.out).mono ?_
            rintro e w91 ⟨rfl, hb⟩
            refine ⟨_, rfl, ?_⟩
            have n0_ := Aside0.mk (blk_below (g := gb265) (o := .cells #[.int .i64 (wrap64 (Int.tmod a0 249)), .int .i64 0, .int .i64 a1] 37 (0, 0)) (by (with_reducible repeat (first | refine blk_drewN ?_ _ | refine blk_drew ?_ | refine blk_alloc ?_ _)); exact BK265.out) hb)
            have n1_ := Aside0.mk (below_step (by repeat (first | (with_reducible first | exact HB.out | apply below_alloc | apply pw_below_drewN | apply below_drew1 | refine below_set ?_ GE265.out) | exact HB.out)) hb)
            clear BK265
            clear HB
            have BK265 := n0_
            have HB := n1_
            clear n0_ n1_
            (try clear hb)
            (try clear hb2)
            (try clear hk)
            (try clear hi)
            refine hK.out _ _ ⟨(blk_cell BK265.out 0).trans rfl, (blk_cell BK265.out 1).trans rfl, (blk_cell BK265.out 2).trans rfl⟩ (fun hHeld => ?_)
            clear hK K
            refine norm_ (a' := ?_) ?_ ?_
            rotate_left
            ·show Act.put _ (some 41) _ = _
             simp only [Act.put, sA, sB, sC, i64_w, i32_w]
             rfl
            refine pure_ (i := 6) (N := some 42) (v := ?_) (a' := ?_) #[true,true,true,true,true,true,true,false,false,false,false] rfl rfl (any_of HT_.out (by kernel_rfl)) (fun _ _ _ h => h) (Or.inl ⟨by rfl, ?_⟩) ?_ ?_
            rotate_left
            ·intro w'
             go_simp
             with_reducible rfl
            rotate_left
            ·simp only [Act.put, sA, sB, sC, i64_w, i32_w]
             rfl
            refine pure_ (i := 7) (N := some 43) (v := ?_) (a' := ?_) #[true,true,true,true,true,true,true,true,false,false,false] rfl rfl (any_of HT_.out (by kernel_rfl)) (fun _ _ _ h => h) (Or.inl ⟨by rfl, ?_⟩) ?_ ?_
            rotate_left
            ·intro w'
             go_simp
             with_reducible rfl
            rotate_left
            ·simp only [Act.put, sA, sB, sC, i64_w, i32_w]
             rfl
            refine pure_ (i := 8) (N := some 44) (v := ?_) (a' := ?_) #[true,true,true,true,true,true,true,true,true,false,false] rfl rfl (any_of HT_.out (by kernel_rfl)) (fun _ _ _ h => h) (Or.inl ⟨by rfl, ?_⟩) ?_ ?_
            rotate_left
            ·intro w'
             go_simp
             with_reducible rfl
            rotate_left
            ·simp only [Act.put, sA, sB, sC, i64_w, i32_w]
             rfl
            refine one_ (i := 9) (N := some 12) #[true,true,true,true,true,true,true,true,true,true,false] rfl rfl (one_of HT_.out (by kernel_rfl)) (by decide) (fun K hK => ?_)
            refine box_step ?hg (N := 12) ?hd (cs := #[.int .i64 0, .int .i64 0, .int .i64 0]) (t := 37) ?hr ?_; (case hd => rfl); (case hg => rfl); (case hr => first | (go_simp; done) | (go_simp; rfl))
            intro gb271 hg w92 hbox hb
            have n0_ := Aside0.mk (blk_below (g := gb265) (o := .cells #[.int .i64 (wrap64 (Int.tmod a0 249)), .int .i64 0, .int .i64 a1] 37 (0, 0)) (by (with_reducible repeat (first | refine blk_drewN ?_ _ | refine blk_drew ?_ | refine blk_alloc ?_ _)); exact BK265.out) hb)
            have n1_ := Aside0.mk (below_step (by repeat (first | (with_reducible first | exact HB.out | apply below_alloc | apply pw_below_drewN | apply below_drew1 | refine below_set ?_ GE265.out) | exact HB.out)) hb)
            have n2_ := Aside0.mk (hbox)
            have n3_ := Aside0.mk ((by rw [hg]; exact (below_size (by repeat (first | (with_reducible first | exact HB.out | apply below_alloc | apply pw_below_drewN | apply below_drew1 | refine below_set ?_ GE265.out) | exact HB.out))) : w.heap.size ≤ gb271))
            have n4_ := Aside0.mk ((by rw [hg]; exact (below_size (by repeat (first | (with_reducible first | exact HB.out | apply below_alloc | apply pw_below_drewN | apply below_drew1 | refine below_set ?_ GE265.out) | exact HB.out))) : w.heap.size ≤ gb271))
            have n5_ := Aside0.mk ((by rw [hg]; exact Nat.ne_of_lt (blk_lt (g := gb265) (o := .cells #[.int .i64 (wrap64 (Int.tmod a0 249)), .int .i64 0, .int .i64 a1] 37 (0, 0)) (by (with_reducible repeat (first | refine blk_drewN ?_ _ | refine blk_drew ?_ | refine blk_alloc ?_ _)); exact BK265.out)) : gb265 ≠ gb271))
            have n6_ := Aside0.mk ((by rw [hg]; exact Nat.ne_of_gt (blk_lt (g := gb265) (o := .cells #[.int .i64 (wrap64 (Int.tmod a0 249)), .int .i64 0, .int .i64 a1] 37 (0, 0)) (by (with_reducible repeat (first | refine blk_drewN ?_ _ | refine blk_drew ?_ | refine blk_alloc ?_ _)); exact BK265.out)) : gb271 ≠ gb265))
            clear BK265
            clear HB
            have BK265 := n0_
            have HB := n1_
            have BK271 := n2_
            have GW271 := n3_
            have GE271 := n4_
            have NB265_271 := n5_
            have NB271_265 := n6_
            clear n0_ n1_ n2_ n3_ n4_ n5_ n6_
            clear hb hbox hg
            refine hK.out _ _ ⟨(blk_cell BK265.out 0).trans rfl, (blk_cell BK265.out 1).trans rfl, (blk_cell BK265.out 2).trans rfl⟩ (fun hHeld => ?_)
            clear hK K
            refine norm_ (a' := ?_) ?_ ?_
            rotate_left
            ·show Act.put _ (some 12) _ = _
             simp only [Act.put, sA, sB, sC, i64_w, i32_w]
             rfl
            exact norm_ (by simp only [putAll, Act.put, sA, sB, sC]) (hCont (gb271) _ ⟨hHeld, (by (with_reducible repeat (first | refine blk_drewN ?_ _ | refine blk_drew ?_ | refine blk_alloc ?_ _)); exact BK265.out), (by (with_reducible repeat (first | refine blk_drewN ?_ _ | refine blk_drew ?_ | refine blk_alloc ?_ _)); exact BK271.out), GW271.out, GE271.out, NB265_271.out, NB271_265.out, (by repeat (first | (with_reducible first | exact HB.out | apply below_alloc | apply pw_below_drewN | apply below_drew1 | refine below_set ?_ GE265.out | refine below_set ?_ GE271.out) | exact HB.out))⟩)
           ·skip
            refine box_step ?hg (N := 12) ?hd (cs := #[.int .i64 0, .int .i64 0, .int .i64 0]) (t := 37) ?hr ?_; (case hd => rfl); (case hg => rfl); (case hr => first | (go_simp; done) | (go_simp; rfl))
            intro gb271 hg w91 hbox hb
            have n0_ := Aside0.mk (blk_below (g := gb265) (o := .cells #[.int .i64 (wrap64 (Int.tmod a0 249)), .int .i64 0, .int .i64 a1] 37 (0, 0)) (by (with_reducible repeat (first | refine blk_drewN ?_ _ | refine blk_drew ?_ | refine blk_alloc ?_ _)); exact BK265.out) hb)
            have n1_ := Aside0.mk (below_step (by repeat (first | (with_reducible first | exact HB.out | apply below_alloc | apply pw_below_drewN | apply below_drew1 | refine below_set ?_ GE265.out) | exact HB.out)) hb)
            have n2_ := Aside0.mk (hbox)
            have n3_ := Aside0.mk ((by rw [hg]; exact (below_size (by repeat (first | (with_reducible first | exact HB.out | apply below_alloc | apply pw_below_drewN | apply below_drew1 | refine below_set ?_ GE265.out) | exact HB.out))) : w.heap.size ≤ gb271))
            have n4_ := Aside0.mk ((by rw [hg]; exact (below_size (by repeat (first | (with_reducible first | exact HB.out | apply below_alloc | apply pw_below_drewN | apply below_drew1 | refine below_set ?_ GE265.out) | exact HB.out))) : w.heap.size ≤ gb271))
            have n5_ := Aside0.mk ((by rw [hg]; exact Nat.ne_of_lt (blk_lt (g := gb265) (o := .cells #[.int .i64 (wrap64 (Int.tmod a0 249)), .int .i64 0, .int .i64 a1] 37 (0, 0)) (by (with_reducible repeat (first | refine blk_drewN ?_ _ | refine blk_drew ?_ | refine blk_alloc ?_ _)); exact BK265.out)) : gb265 ≠ gb271))
            have n6_ := Aside0.mk ((by rw [hg]; exact Nat.ne_of_gt (blk_lt (g := gb265) (o := .cells #[.int .i64 (wrap64 (Int.tmod a0 249)), .int .i64 0, .int .i64 a1] 37 (0, 0)) (by (with_reducible repeat (first | refine blk_drewN ?_ _ | refine blk_drew ?_ | refine blk_alloc ?_ _)); exact BK265.out)) : gb271 ≠ gb265))
            clear BK265
            clear HB
            have BK265 := n0_
            have HB := n1_
            have BK271 := n2_
            have GW271 := n3_
            have GE271 := n4_
            have NB265_271 := n5_
            have NB271_265 := n6_
            clear n0_ n1_ n2_ n3_ n4_ n5_ n6_
            clear hb hbox hg
            refine hK.out _ _ ⟨(blk_cell BK265.out 0).trans rfl, (blk_cell BK265.out 1).trans rfl, (blk_cell BK265.out 2).trans rfl⟩ (fun hHeld => ?_)
            clear hK K
            refine norm_ (a' := ?_) ?_ ?_
            rotate_left
            ·show Act.put _ (some 12) _ = _
             simp only [Act.put, sA, sB, sC, i64_w, i32_w]
             rfl
            refine one_ (i := 5) (N := some 41) #[true,true,true,true,true,true,false,false,false,true,false] rfl rfl (one_of HT_.out (by kernel_rfl)) (by decide) (fun K hK => ?_)
            refine goes_ Try.func28 (by kernel_rfl) rfl #[.agg #[.int .i64 (wrap64 (Int.tmod a0 249)), .int .i64 0, .int .i64 a1], .int .i64 t268] (by rfl) rfl rfl (by (try simp only [List.map_toArray, List.map_cons, List.map_nil]); first | done | rfl | (simp only [List.length_drop, List.length_take]; rfl)) ?_
            with_reducible refine (car_Car_Near.calls k (wrap64 (Int.tmod a0 249)) 0 a1 t268 t270 _ A22.out).mono ?_
            rintro e w92 ⟨rfl, hb⟩
            refine ⟨_, rfl, ?_⟩
            have n0_ := Aside0.mk (blk_below (g := gb265) (o := .cells #[.int .i64 (wrap64 (Int.tmod a0 249)), .int .i64 0, .int .i64 a1] 37 (0, 0)) (by (with_reducible repeat (first | refine blk_drewN ?_ _ | refine blk_drew ?_ | refine blk_alloc ?_ _)); exact BK265.out) hb)
            have n1_ := Aside0.mk (blk_below (g := gb271) (o := .cells #[.int .i64 0, .int .i64 0, .int .i64 0] 37 (0, 0)) (by (with_reducible repeat (first | refine blk_drewN ?_ _ | refine blk_drew ?_ | refine blk_alloc ?_ _)); exact BK271.out) hb)
            have n2_ := Aside0.mk (below_step (by repeat (first | (with_reducible first | exact HB.out | apply below_alloc | apply pw_below_drewN | apply below_drew1 | refine below_set ?_ GE265.out | refine below_set ?_ GE271.out) | exact HB.out)) hb)
            clear BK265
            clear BK271
            clear HB
            have BK265 := n0_
            have BK271 := n1_
            have HB := n2_
            clear n0_ n1_ n2_
            (try clear hb)
            (try clear hb2)
            (try clear hk)
            (try clear hi)
            refine hK.out _ _ ⟨(blk_cell BK265.out 0).trans rfl, (blk_cell BK265.out 1).trans rfl, (blk_cell BK265.out 2).trans rfl⟩ (fun hHeld => ?_)
            clear hK K
            refine norm_ (a' := ?_) ?_ ?_
            rotate_left
            ·show Act.put _ (some 41) _ = _
             simp only [Act.put, sA, sB, sC, i64_w, i32_w]
             rfl
            refine pure_ (i := 6) (N := some 42) (v := ?_) (a' := ?_) #[true,true,true,true,true,true,true,false,false,true,false] rfl rfl (any_of HT_.out (by kernel_rfl)) (fun _ _ _ h => h) (Or.inl ⟨by rfl, ?_⟩) ?_ ?_
            rotate_left
            ·intro w'
             go_simp
             with_reducible rfl
            rotate_left
            ·simp only [Act.put, sA, sB, sC, i64_w, i32_w]
             rfl
            refine pure_ (i := 7) (N := some 43) (v := ?_) (a' := ?_) #[true,true,true,true,true,true,true,true,false,true,false] rfl rfl (any_of HT_.out (by kernel_rfl)) (fun _ _ _ h => h) (Or.inl ⟨by rfl, ?_⟩) ?_ ?_
            rotate_left
            ·intro w'
             go_simp
             with_reducible rfl
            rotate_left
            ·simp only [Act.put, sA, sB, sC, i64_w, i32_w]
             rfl
            refine pure_ (i := 8) (N := some 44) (v := ?_) (a' := ?_) #[true,true,true,true,true,true,true,true,true,true,false] rfl rfl (any_of HT_.out (by kernel_rfl)) (fun _ _ _ h => h) (Or.inl ⟨by rfl, ?_⟩) ?_ ?_
            rotate_left
            ·intro w'
             go_simp
             with_reducible rfl
            rotate_left
            ·simp only [Act.put, sA, sB, sC, i64_w, i32_w]
             rfl
            exact norm_ (by simp only [putAll, Act.put, sA, sB, sC]) (hCont (gb271) _ ⟨hHeld, (by (with_reducible repeat (first | refine blk_drewN ?_ _ | refine blk_drew ?_ | refine blk_alloc ?_ _)); exact BK265.out), (by (with_reducible repeat (first | refine blk_drewN ?_ _ | refine blk_drew ?_ | refine blk_alloc ?_ _)); exact BK271.out), GW271.out, GE271.out, NB265_271.out, NB271_265.out, (by repeat (first | (with_reducible first | exact HB.out | apply below_alloc | apply pw_below_drewN | apply below_drew1 | refine below_set ?_ GE265.out | refine below_set ?_ GE271.out) | exact HB.out))⟩)
          rintro gb271 w93 ⟨hS_, h0_, h1_, h2_, h3_, h4_, h5_, h6_⟩
          have n0_ : Aside0 (w93.heap[gb265]? = some (.cells #[.int .i64 (wrap64 (Int.tmod a0 249)), .int .i64 0, .int .i64 a1] 37 (0, 0))) := ⟨h0_⟩
          have n1_ : Aside0 (w93.heap[gb271]? = some (.cells #[.int .i64 0, .int .i64 0, .int .i64 0] 37 (0, 0))) := ⟨h1_⟩
          have n2_ : Aside0 (w.heap.size ≤ gb271) := ⟨h2_⟩
          have n3_ : Aside0 (w.heap.size ≤ gb271) := ⟨h3_⟩
          have n4_ : Aside0 (gb265 ≠ gb271) := ⟨h4_⟩
          have n5_ : Aside0 (gb271 ≠ gb265) := ⟨h5_⟩
          have n6_ : Aside0 (Below w.heap.size w w93) := ⟨h6_⟩
          clear BK265
          clear HB
          clear h0_ h1_ h2_ h3_ h4_ h5_ h6_
          have BK265 := n0_
          have BK271 := n1_
          have GW271 := n2_
          have GE271 := n3_
          have NB265_271 := n4_
          have NB271_265 := n5_
          have HB := n6_
          clear n0_ n1_ n2_ n3_ n4_ n5_ n6_
          have hHeld : w93.cell? ⟨gb265, 0, none⟩ = some (.int .i64 (wrap64 (Int.tmod a0 249))) ∧ w93.cell? ⟨gb265, 1, none⟩ = some (.int .i64 0) ∧ w93.cell? ⟨gb265, 2, none⟩ = some (.int .i64 a1) := hS_
          refine norm_ (a' := ?_) ?_ ?_
          rotate_left
          ·simp only [putAll, Act.put, sA, sB, sC]
           rfl
          refine one_ (i := 10) (N := none) #[true,true,true,true,true,true,true,true,true,true,true] rfl rfl (one_of HT_.out (by kernel_rfl)) (by decide) (fun K hK => ?_)
          have hs94 : w93.cell? ⟨gb271, 0, none⟩ = some (.int .i64 0) := (blk_cell BK271.out 0).trans rfl
          have hfs94 := blk_frozen BK271.out 0
          have hns94_0 := NB265_271.out
          have hms94_0 := NB271_265.out
          have hs95 : w93.cell? ⟨gb271, 1, none⟩ = some (.int .i64 0) := (blk_cell BK271.out 1).trans rfl
          have hfs95 := blk_frozen BK271.out 1
          have hns95_0 := NB265_271.out
          have hms95_0 := NB271_265.out
          have hs96 : w93.cell? ⟨gb271, 2, none⟩ = some (.int .i64 0) := (blk_cell BK271.out 2).trans rfl
          have hfs96 := blk_frozen BK271.out 2
          have hns96_0 := NB265_271.out
          have hms96_0 := NB271_265.out
          refine skip_ (w1 := ?_) (by rfl) rfl ?_ ?_
          rotate_left
          ·go_simp
           rfl
          refine hK.out _ _ ⟨((cell_far (p := ⟨gb271, _, none⟩) NB265_271.out _).trans (((cell_far (p := ⟨gb271, _, none⟩) NB265_271.out _).trans (((cell_far (p := ⟨gb271, _, none⟩) NB265_271.out _).trans (hHeld.1)))))), ((cell_far (p := ⟨gb271, _, none⟩) NB265_271.out _).trans (((cell_far (p := ⟨gb271, _, none⟩) NB265_271.out _).trans (((cell_far (p := ⟨gb271, _, none⟩) NB265_271.out _).trans (hHeld.2.1)))))), ((cell_far (p := ⟨gb271, _, none⟩) NB265_271.out _).trans (((cell_far (p := ⟨gb271, _, none⟩) NB265_271.out _).trans (((cell_far (p := ⟨gb271, _, none⟩) NB265_271.out _).trans (hHeld.2.2))))))⟩ (fun hHeld => ?_)
          clear hK K
          refine done_ (done_of HT_.out (by kernel_rfl)) ?_
          try go_wp2
          have n0_ : Aside0 ((((w93.setCell ⟨gb271, 0, none⟩ (.int .i64 (wrap64 ((wrap64 (Int.tmod a0 249)) + (wrap64 (t268 * t270)))))).setCell ⟨gb271, 1, none⟩ (.int .i64 0)).setCell ⟨gb271, 2, none⟩ (.int .i64 0)).heap[gb265]? = some (.cells #[.int .i64 (wrap64 (Int.tmod a0 249)), .int .i64 0, .int .i64 a1] 37 (0, 0))) := ⟨by (with_reducible repeat (first | refine blk_drewN ?_ _ | refine blk_drew ?_ | refine blk_alloc ?_ _)); refine blk_far ?_ NB265_271.out _; (with_reducible repeat (first | refine blk_drewN ?_ _ | refine blk_drew ?_ | refine blk_alloc ?_ _)); refine blk_far ?_ NB265_271.out _; (with_reducible repeat (first | refine blk_drewN ?_ _ | refine blk_drew ?_ | refine blk_alloc ?_ _)); refine blk_far ?_ NB265_271.out _; (with_reducible repeat (first | refine blk_drewN ?_ _ | refine blk_drew ?_ | refine blk_alloc ?_ _)); exact BK265.out⟩
          have n1_ : Aside0 ((((w93.setCell ⟨gb271, 0, none⟩ (.int .i64 (wrap64 ((wrap64 (Int.tmod a0 249)) + (wrap64 (t268 * t270)))))).setCell ⟨gb271, 1, none⟩ (.int .i64 0)).setCell ⟨gb271, 2, none⟩ (.int .i64 0)).heap[gb271]? = some (.cells #[.int .i64 (wrap64 ((wrap64 (Int.tmod a0 249)) + (wrap64 (t268 * t270)))), .int .i64 0, .int .i64 0] 37 (0, 0))) := ⟨by (with_reducible repeat (first | refine blk_drewN ?_ _ | refine blk_drew ?_ | refine blk_alloc ?_ _)); refine blk_put (cs := #[.int .i64 (wrap64 ((wrap64 (Int.tmod a0 249)) + (wrap64 (t268 * t270)))), .int .i64 0, .int .i64 0]) ?_ 2 _ rfl; (with_reducible repeat (first | refine blk_drewN ?_ _ | refine blk_drew ?_ | refine blk_alloc ?_ _)); refine blk_put (cs := #[.int .i64 (wrap64 ((wrap64 (Int.tmod a0 249)) + (wrap64 (t268 * t270)))), .int .i64 0, .int .i64 0]) ?_ 1 _ rfl; (with_reducible repeat (first | refine blk_drewN ?_ _ | refine blk_drew ?_ | refine blk_alloc ?_ _)); refine blk_put (cs := #[.int .i64 0, .int .i64 0, .int .i64 0]) ?_ 0 _ rfl; (with_reducible repeat (first | refine blk_drewN ?_ _ | refine blk_drew ?_ | refine blk_alloc ?_ _)); exact BK271.out⟩
          have n2_ : Aside0 (Below w.heap.size w (((w93.setCell ⟨gb271, 0, none⟩ (.int .i64 (wrap64 ((wrap64 (Int.tmod a0 249)) + (wrap64 (t268 * t270)))))).setCell ⟨gb271, 1, none⟩ (.int .i64 0)).setCell ⟨gb271, 2, none⟩ (.int .i64 0))) := ⟨by repeat (first | (with_reducible first | exact HB.out | apply below_alloc | apply pw_below_drewN | apply below_drew1 | refine below_set ?_ GE265.out | refine below_set ?_ GE271.out) | exact HB.out)⟩
          (try clear BK265)
          (try clear BK271)
          (try clear HB)
          generalize (((w93.setCell ⟨gb271, 0, none⟩ (.int .i64 (wrap64 ((wrap64 (Int.tmod a0 249)) + (wrap64 (t268 * t270)))))).setCell ⟨gb271, 1, none⟩ (.int .i64 0)).setCell ⟨gb271, 2, none⟩ (.int .i64 0)) = w97 at n0_ n1_ n2_ ⊢
          have BK265 := n0_
          have BK271 := n1_
          have HB := n2_
          clear n0_ n1_ n2_
          have n0_ := Aside0.mk (blk_drew BK265.out)
          have n1_ := Aside0.mk (blk_drew BK271.out)
          have n2_ := Aside0.mk (below_drew1 HB.out)
          clear BK265
          clear BK271
          clear HB
          have BK265 := n0_
          have BK271 := n1_
          have HB := n2_
          clear n0_ n1_ n2_
          refine start_ (n := 40) (S := fun w' => w'.cell? ⟨gb271, 0, none⟩ = some (.int .i64 (wrap64 ((wrap64 (Int.tmod a0 249)) + (wrap64 (t268 * t270))))) ∧ w'.cell? ⟨gb271, 1, none⟩ = some (.int .i64 0) ∧ w'.cell? ⟨gb271, 2, none⟩ = some (.int .i64 0) ∧ w'.cell? ⟨gb265, 0, none⟩ = some (.int .i64 (wrap64 (Int.tmod a0 249))) ∧ w'.cell? ⟨gb265, 1, none⟩ = some (.int .i64 0) ∧ w'.cell? ⟨gb265, 2, none⟩ = some (.int .i64 a1)) (ds := []) #[false,false,false,false,false,false,false,false,false,false,false,false,false,false,false,false,false,false,false,false,false,false,false,false,false,false,false,false,false,false,false,false,false,false,false,false,false,false,false,false] (by kernel_rfl) rfl rfl ⟨(blk_cell BK271.out 0).trans rfl, (blk_cell BK271.out 1).trans rfl, (blk_cell BK271.out 2).trans rfl, (blk_cell BK265.out 0).trans rfl, (blk_cell BK265.out 1).trans rfl, (blk_cell BK265.out 2).trans rfl⟩ (fun hHeld => ?_); refine with_tabW paternosterlaw07_CarLights.tab11 paternosterlaw07_CarLights.bits11 (fun HT_ HW_ => ?_)
          generalize w97.drew = w98 at BK265 BK271 HB hHeld ⊢
          refine pure_ (i := 0) (N := some 45) (v := ?_) (a' := ?_) #[true,false,false,false,false,false,false,false,false,false,false,false,false,false,false,false,false,false,false,false,false,false,false,false,false,false,false,false,false,false,false,false,false,false,false,false,false,false,false,false] rfl rfl (any_of HT_.out (by kernel_rfl)) (fun _ _ _ h => h) (Or.inl ⟨by rfl, ?_⟩) ?_ ?_
          rotate_left
          ·intro w'
           go_simp
           with_reducible rfl
          rotate_left
          ·simp only [Act.put, sA, sB, sC, i64_w, i32_w]
           rfl
          refine pure_ (i := 1) (N := some 46) (v := ?_) (a' := ?_) #[true,true,false,false,false,false,false,false,false,false,false,false,false,false,false,false,false,false,false,false,false,false,false,false,false,false,false,false,false,false,false,false,false,false,false,false,false,false,false,false] rfl rfl (any_of HT_.out (by kernel_rfl)) (fun _ _ _ h => h) (Or.inl ⟨by rfl, ?_⟩) ?_ ?_
          rotate_left
          ·intro w'
           go_simp
           with_reducible rfl
          rotate_left
          ·simp only [Act.put, sA, sB, sC, i64_w, i32_w]
           rfl
          refine pure_ (i := 2) (N := some 47) (v := ?_) (a' := ?_) #[true,true,true,false,false,false,false,false,false,false,false,false,false,false,false,false,false,false,false,false,false,false,false,false,false,false,false,false,false,false,false,false,false,false,false,false,false,false,false,false] rfl rfl (any_of HT_.out (by kernel_rfl)) (fun _ _ _ h => h) (Or.inl ⟨by rfl, ?_⟩) ?_ ?_
          rotate_left
          ·intro w'
           go_simp
           with_reducible rfl
          rotate_left
          ·simp only [Act.put, sA, sB, sC, i64_w, i32_w]
           rfl
          refine pure_ (i := 3) (N := some 48) (v := ?_) (a' := ?_) #[true,true,true,true,false,false,false,false,false,false,false,false,false,false,false,false,false,false,false,false,false,false,false,false,false,false,false,false,false,false,false,false,false,false,false,false,false,false,false,false] rfl rfl (any_of HT_.out (by kernel_rfl)) (fun _ _ _ h => h) (Or.inl ⟨by rfl, ?_⟩) ?_ ?_
          rotate_left
          ·intro w'
           go_simp
           with_reducible rfl
          rotate_left
          ·simp only [Act.put, sA, sB, sC, i64_w, i32_w]
           rfl
          refine pure_ (i := 4) (N := some 49) (v := ?_) (a' := ?_) #[true,true,true,true,true,false,false,false,false,false,false,false,false,false,false,false,false,false,false,false,false,false,false,false,false,false,false,false,false,false,false,false,false,false,false,false,false,false,false,false] rfl rfl (any_of HT_.out (by kernel_rfl)) (fun _ _ _ h => h) (Or.inl ⟨by rfl, ?_⟩) ?_ ?_
          rotate_left
          ·intro w'
           go_simp
           with_reducible rfl
          rotate_left
          ·simp only [Act.put, sA, sB, sC, i64_w, i32_w]
           rfl
          refine pure_ (i := 5) (N := some 50) (v := ?_) (a' := ?_) #[true,true,true,true,true,true,false,false,false,false,false,false,false,false,false,false,false,false,false,false,false,false,false,false,false,false,false,false,false,false,false,false,false,false,false,false,false,false,false,false] rfl rfl (any_of HT_.out (by kernel_rfl)) (fun _ _ _ h => h) (Or.inl ⟨by rfl, ?_⟩) ?_ ?_
          rotate_left
          ·intro w'
           go_simp
           with_reducible rfl
          rotate_left
          ·simp only [Act.put, sA, sB, sC, i64_w, i32_w]
           rfl
          refine pure_ (i := 6) (N := some 51) (v := ?_) (a' := ?_) #[true,true,true,true,true,true,true,false,false,false,false,false,false,false,false,false,false,false,false,false,false,false,false,false,false,false,false,false,false,false,false,false,false,false,false,false,false,false,false,false] rfl rfl (any_of HT_.out (by kernel_rfl)) (fun _ _ _ h => h) (Or.inl ⟨by rfl, ?_⟩) ?_ ?_
          rotate_left
          ·intro w'
           go_simp
           with_reducible rfl
          rotate_left
          ·simp only [Act.put, sA, sB, sC, i64_w, i32_w]
           rfl
          refine pure_ (i := 7) (N := some 52) (v := ?_) (a' := ?_) #[true,true,true,true,true,true,true,true,false,false,false,false,false,false,false,false,false,false,false,false,false,false,false,false,false,false,false,false,false,false,false,false,false,false,false,false,false,false,false,false] rfl rfl (any_of HT_.out (by kernel_rfl)) (fun _ _ _ h => h) (Or.inl ⟨by rfl, ?_⟩) ?_ ?_
          rotate_left
          ·intro w'
           go_simp
           with_reducible rfl
          rotate_left
          ·simp only [Act.put, sA, sB, sC, i64_w, i32_w]
           rfl
          refine pure_ (i := 8) (N := some 53) (v := ?_) (a' := ?_) #[true,true,true,true,true,true,true,true,true,false,false,false,false,false,false,false,false,false,false,false,false,false,false,false,false,false,false,false,false,false,false,false,false,false,false,false,false,false,false,false] rfl rfl (any_of HT_.out (by kernel_rfl)) (fun _ _ _ h => h) (Or.inl ⟨by rfl, ?_⟩) ?_ ?_
          rotate_left
          ·intro w'
           go_simp
           with_reducible rfl
          rotate_left
          ·simp only [Act.put, sA, sB, sC, i64_w, i32_w]
           rfl
          refine pure_ (i := 9) (N := some 54) (v := ?_) (a' := ?_) #[true,true,true,true,true,true,true,true,true,true,false,false,false,false,false,false,false,false,false,false,false,false,false,false,false,false,false,false,false,false,false,false,false,false,false,false,false,false,false,false] rfl rfl (any_of HT_.out (by kernel_rfl)) (fun _ _ _ h => h) (Or.inl ⟨by rfl, ?_⟩) ?_ ?_
          rotate_left
          ·intro w'
           go_simp
           with_reducible rfl
          rotate_left
          ·simp only [Act.put, sA, sB, sC, i64_w, i32_w]
           rfl
          refine pure_ (i := 10) (N := some 55) (v := ?_) (a' := ?_) #[true,true,true,true,true,true,true,true,true,true,true,false,false,false,false,false,false,false,false,false,false,false,false,false,false,false,false,false,false,false,false,false,false,false,false,false,false,false,false,false] rfl rfl (any_of HT_.out (by kernel_rfl)) (fun _ _ _ h => h) (Or.inl ⟨by rfl, ?_⟩) ?_ ?_
          rotate_left
          ·intro w'
           go_simp
           with_reducible rfl
          rotate_left
          ·simp only [Act.put, sA, sB, sC, i64_w, i32_w]
           rfl
          refine pure_ (i := 11) (N := some 56) (v := ?_) (a' := ?_) #[true,true,true,true,true,true,true,true,true,true,true,true,false,false,false,false,false,false,false,false,false,false,false,false,false,false,false,false,false,false,false,false,false,false,false,false,false,false,false,false] rfl rfl (any_of HT_.out (by kernel_rfl)) (fun _ _ _ h => h) (Or.inl ⟨by rfl, ?_⟩) ?_ ?_
          rotate_left
          ·intro w'
           go_simp
           with_reducible rfl
          rotate_left
          ·simp only [Act.put, sA, sB, sC, i64_w, i32_w]
           rfl
          refine pure_ (i := 12) (N := some 57) (v := ?_) (a' := ?_) #[true,true,true,true,true,true,true,true,true,true,true,true,true,false,false,false,false,false,false,false,false,false,false,false,false,false,false,false,false,false,false,false,false,false,false,false,false,false,false,false] rfl rfl (any_of HT_.out (by kernel_rfl)) (fun _ _ _ h => h) (Or.inl ⟨by rfl, ?_⟩) ?_ ?_
          rotate_left
          ·intro w'
           go_simp
           with_reducible rfl
          rotate_left
          ·simp only [Act.put, sA, sB, sC, i64_w, i32_w]
           rfl
          refine take_ (i := 13) (N := some 58) (v := ?_) (a' := ?_) #[true,true,true,true,true,true,true,true,true,true,true,true,true,true,false,false,false,false,false,false,false,false,false,false,false,false,false,false,false,false,false,false,false,false,false,false,false,false,false,false] rfl rfl (take_ofW HT_.out HW_.out (by kernel_rfl)) (fun _ _ _ h => h) (Or.inl ⟨by rfl, ?_⟩) hHeld ?_ ?_
          rotate_left
          ·rintro w' ⟨s0, s1, s2, s3, s4, s5⟩
           go_simp
           with_reducible rfl
          rotate_left
          ·simp only [Act.put, sA, sB, sC, i64_w, i32_w]
           rfl
          refine one_ (i := 14) (N := some 59) #[true,true,true,true,true,true,true,true,true,true,true,true,true,true,true,false,false,false,false,false,false,false,false,false,false,false,false,false,false,false,false,false,false,false,false,false,false,false,false,false] rfl rfl (one_of HT_.out (by kernel_rfl)) (by decide) (fun K hK => ?_)
          refine goes_ Try.func25 (by kernel_rfl) rfl #[.agg #[.int .i64 (wrap64 ((wrap64 (Int.tmod a0 249)) + (wrap64 (t268 * t270)))), .int .i64 0, .int .i64 0]] (by rfl) rfl rfl (by (try simp only [List.map_toArray, List.map_cons, List.map_nil]); first | done | rfl | (simp only [List.length_drop, List.length_take]; rfl)) ?_
          with_reducible refine (car_Car_Level.calls (wrap64 ((wrap64 (Int.tmod a0 249)) + (wrap64 (t268 * t270)))) 0 0 true _ A26.out).mono ?_
          rintro e w99 ⟨rfl, hb⟩
          refine ⟨_, rfl, ?_⟩
          have n0_ := Aside0.mk (blk_below (g := gb265) (o := .cells #[.int .i64 (wrap64 (Int.tmod a0 249)), .int .i64 0, .int .i64 a1] 37 (0, 0)) (by (with_reducible repeat (first | refine blk_drewN ?_ _ | refine blk_drew ?_ | refine blk_alloc ?_ _)); exact BK265.out) hb)
          have n1_ := Aside0.mk (blk_below (g := gb271) (o := .cells #[.int .i64 (wrap64 ((wrap64 (Int.tmod a0 249)) + (wrap64 (t268 * t270)))), .int .i64 0, .int .i64 0] 37 (0, 0)) (by (with_reducible repeat (first | refine blk_drewN ?_ _ | refine blk_drew ?_ | refine blk_alloc ?_ _)); exact BK271.out) hb)
          have n2_ := Aside0.mk (below_step (by repeat (first | (with_reducible first | exact HB.out | apply below_alloc | apply pw_below_drewN | apply below_drew1 | refine below_set ?_ GE265.out | refine below_set ?_ GE271.out) | exact HB.out)) hb)
          clear BK265
          clear BK271
          clear HB
          have BK265 := n0_
          have BK271 := n1_
          have HB := n2_
          clear n0_ n1_ n2_
          (try clear hb)
          (try clear hb2)
          (try clear hk)
          (try clear hi)
          refine hK.out _ _ ⟨(blk_cell BK271.out 0).trans rfl, (blk_cell BK271.out 1).trans rfl, (blk_cell BK271.out 2).trans rfl, (blk_cell BK265.out 0).trans rfl, (blk_cell BK265.out 1).trans rfl, (blk_cell BK265.out 2).trans rfl⟩ (fun hHeld => ?_)
          clear hK K
          refine norm_ (a' := ?_) ?_ ?_
          rotate_left
          ·show Act.put _ (some 59) _ = _
           simp only [Act.put, sA, sB, sC, i64_w, i32_w]
           rfl
          refine pure_ (i := 15) (N := some 60) (v := ?_) (a' := ?_) #[true,true,true,true,true,true,true,true,true,true,true,true,true,true,true,true,false,false,false,false,false,false,false,false,false,false,false,false,false,false,false,false,false,false,false,false,false,false,false,false] rfl rfl (any_of HT_.out (by kernel_rfl)) (fun _ _ _ h => h) (Or.inl ⟨by rfl, ?_⟩) ?_ ?_
          rotate_left
          ·intro w'
           go_simp
           with_reducible rfl
          rotate_left
          ·simp only [Act.put, sA, sB, sC, i64_w, i32_w]
           rfl
          refine pure_ (i := 16) (N := some 61) (v := ?_) (a' := ?_) #[true,true,true,true,true,true,true,true,true,true,true,true,true,true,true,true,true,false,false,false,false,false,false,false,false,false,false,false,false,false,false,false,false,false,false,false,false,false,false,false] rfl rfl (any_of HT_.out (by kernel_rfl)) (fun _ _ _ h => h) (Or.inl ⟨by rfl, ?_⟩) ?_ ?_
          rotate_left
          ·intro w'
           go_simp
           with_reducible rfl
          rotate_left
          ·simp only [Act.put, sA, sB, sC, i64_w, i32_w]
           rfl
          refine take_ (i := 17) (N := some 62) (v := ?_) (a' := ?_) #[true,true,true,true,true,true,true,true,true,true,true,true,true,true,true,true,true,true,false,false,false,false,false,false,false,false,false,false,false,false,false,false,false,false,false,false,false,false,false,false] rfl rfl (take_ofW HT_.out HW_.out (by kernel_rfl)) (fun _ _ _ h => h) (Or.inl ⟨by rfl, ?_⟩) hHeld ?_ ?_
          rotate_left
          ·rintro w' ⟨s0, s1, s2, s3, s4, s5⟩
           go_simp
           with_reducible rfl
          rotate_left
          ·simp only [Act.put, sA, sB, sC, i64_w, i32_w]
           rfl
          refine take_ (i := 19) (N := some 64) (v := ?_) (a' := ?_) #[true,true,true,true,true,true,true,true,true,true,true,true,true,true,true,true,true,true,false,true,false,false,false,false,false,false,false,false,false,false,false,false,false,false,false,false,false,false,false,false] rfl rfl (take_ofW HT_.out HW_.out (by kernel_rfl)) (fun _ _ _ h => h) (Or.inl ⟨by rfl, ?_⟩) hHeld ?_ ?_
          rotate_left
          ·rintro w' ⟨s0, s1, s2, s3, s4, s5⟩
           go_simp
           with_reducible rfl
          rotate_left
          ·simp only [Act.put, sA, sB, sC, i64_w, i32_w]
           rfl
          refine one_ (i := 18) (N := some 63) #[true,true,true,true,true,true,true,true,true,true,true,true,true,true,true,true,true,true,true,true,false,false,false,false,false,false,false,false,false,false,false,false,false,false,false,false,false,false,false,false] rfl rfl (one_of HT_.out (by kernel_rfl)) (by decide) (fun K hK => ?_)
          refine goes_ Try.func26 (by kernel_rfl) rfl #[.agg #[.int .i64 (wrap64 ((wrap64 (Int.tmod a0 249)) + (wrap64 (t268 * t270)))), .int .i64 0, .int .i64 0]] (by rfl) rfl rfl (by (try simp only [List.map_toArray, List.map_cons, List.map_nil]); first | done | rfl | (simp only [List.length_drop, List.length_take]; rfl)) ?_
          with_reducible refine (car_Car_Floor.calls (wrap64 ((wrap64 (Int.tmod a0 249)) + (wrap64 (t268 * t270)))) 0 0 t273 _ A28.out).mono ?_
          rintro e w100 ⟨rfl, hb⟩
          refine ⟨_, rfl, ?_⟩
          have n0_ := Aside0.mk (blk_below (g := gb265) (o := .cells #[.int .i64 (wrap64 (Int.tmod a0 249)), .int .i64 0, .int .i64 a1] 37 (0, 0)) (by (with_reducible repeat (first | refine blk_drewN ?_ _ | refine blk_drew ?_ | refine blk_alloc ?_ _)); exact BK265.out) hb)
          have n1_ := Aside0.mk (blk_below (g := gb271) (o := .cells #[.int .i64 (wrap64 ((wrap64 (Int.tmod a0 249)) + (wrap64 (t268 * t270)))), .int .i64 0, .int .i64 0] 37 (0, 0)) (by (with_reducible repeat (first | refine blk_drewN ?_ _ | refine blk_drew ?_ | refine blk_alloc ?_ _)); exact BK271.out) hb)
          have n2_ := Aside0.mk (below_step (by repeat (first | (with_reducible first | exact HB.out | apply below_alloc | apply pw_below_drewN | apply below_drew1 | refine below_set ?_ GE265.out | refine below_set ?_ GE271.out) | exact HB.out)) hb)
          clear BK265
          clear BK271
          clear HB
          have BK265 := n0_
          have BK271 := n1_
          have HB := n2_
          clear n0_ n1_ n2_
          (try clear hb)
          (try clear hb2)
          (try clear hk)
          (try clear hi)
          refine hK.out _ _ ⟨(blk_cell BK271.out 0).trans rfl, (blk_cell BK271.out 1).trans rfl, (blk_cell BK271.out 2).trans rfl, (blk_cell BK265.out 0).trans rfl, (blk_cell BK265.out 1).trans rfl, (blk_cell BK265.out 2).trans rfl⟩ (fun hHeld => ?_)
          clear hK K
          refine norm_ (a' := ?_) ?_ ?_
          rotate_left
          ·show Act.put _ (some 63) _ = _
           simp only [Act.put, sA, sB, sC, i64_w, i32_w]
           rfl
          refine one_ (i := 20) (N := some 65) #[true,true,true,true,true,true,true,true,true,true,true,true,true,true,true,true,true,true,true,true,true,false,false,false,false,false,false,false,false,false,false,false,false,false,false,false,false,false,false,false] rfl rfl (one_of HT_.out (by kernel_rfl)) (by decide) (fun K hK => ?_)
          refine goes_ Try.func26 (by kernel_rfl) rfl #[.agg #[.int .i64 (wrap64 (Int.tmod a0 249)), .int .i64 0, .int .i64 a1]] (by rfl) rfl rfl (by (try simp only [List.map_toArray, List.map_cons, List.map_nil]); first | done | rfl | (simp only [List.length_drop, List.length_take]; rfl)) ?_
          with_reducible refine (car_Car_Floor.calls (wrap64 (Int.tmod a0 249)) 0 a1 t274 _ A29.out).mono ?_
          rintro e w101 ⟨rfl, hb⟩
          refine ⟨_, rfl, ?_⟩
          have n0_ := Aside0.mk (blk_below (g := gb265) (o := .cells #[.int .i64 (wrap64 (Int.tmod a0 249)), .int .i64 0, .int .i64 a1] 37 (0, 0)) (by (with_reducible repeat (first | refine blk_drewN ?_ _ | refine blk_drew ?_ | refine blk_alloc ?_ _)); exact BK265.out) hb)
          have n1_ := Aside0.mk (blk_below (g := gb271) (o := .cells #[.int .i64 (wrap64 ((wrap64 (Int.tmod a0 249)) + (wrap64 (t268 * t270)))), .int .i64 0, .int .i64 0] 37 (0, 0)) (by (with_reducible repeat (first | refine blk_drewN ?_ _ | refine blk_drew ?_ | refine blk_alloc ?_ _)); exact BK271.out) hb)
          have n2_ := Aside0.mk (below_step (by repeat (first | (with_reducible first | exact HB.out | apply below_alloc | apply pw_below_drewN | apply below_drew1 | refine below_set ?_ GE265.out | refine below_set ?_ GE271.out) | exact HB.out)) hb)
          clear BK265
          clear BK271
          clear HB
          have BK265 := n0_
          have BK271 := n1_
          have HB := n2_
          clear n0_ n1_ n2_
          (try clear hb)
          (try clear hb2)
          (try clear hk)
          (try clear hi)
          refine hK.out _ _ ⟨(blk_cell BK271.out 0).trans rfl, (blk_cell BK271.out 1).trans rfl, (blk_cell BK271.out 2).trans rfl, (blk_cell BK265.out 0).trans rfl, (blk_cell BK265.out 1).trans rfl, (blk_cell BK265.out 2).trans rfl⟩ (fun hHeld => ?_)
          clear hK K
          refine norm_ (a' := ?_) ?_ ?_
          rotate_left
          ·show Act.put _ (some 65) _ = _
           simp only [Act.put, sA, sB, sC, i64_w, i32_w]
           rfl
          refine pure_ (i := 21) (N := some 66) (v := ?_) (a' := ?_) #[true,true,true,true,true,true,true,true,true,true,true,true,true,true,true,true,true,true,true,true,true,true,false,false,false,false,false,false,false,false,false,false,false,false,false,false,false,false,false,false] rfl rfl (any_of HT_.out (by kernel_rfl)) (fun _ _ _ h => h) (Or.inl ⟨by rfl, ?_⟩) ?_ ?_
          rotate_left
          ·intro w'
           go_simp
           with_reducible rfl
          rotate_left
          ·simp only [Act.put, sA, sB, sC, i64_w, i32_w]
           rfl
          refine pure_ (i := 22) (N := some 67) (v := ?_) (a' := ?_) #[true,true,true,true,true,true,true,true,true,true,true,true,true,true,true,true,true,true,true,true,true,true,true,false,false,false,false,false,false,false,false,false,false,false,false,false,false,false,false,false] rfl rfl (any_of HT_.out (by kernel_rfl)) (fun _ _ _ h => h) (Or.inl ⟨by rfl, ?_⟩) ?_ ?_
          rotate_left
          ·intro w'
           go_simp
           with_reducible rfl
          rotate_left
          ·simp only [Act.put, sA, sB, sC, i64_w, i32_w]
           rfl
          refine take_ (i := 23) (N := some 68) (v := ?_) (a' := ?_) #[true,true,true,true,true,true,true,true,true,true,true,true,true,true,true,true,true,true,true,true,true,true,true,true,false,false,false,false,false,false,false,false,false,false,false,false,false,false,false,false] rfl rfl (take_ofW HT_.out HW_.out (by kernel_rfl)) (fun _ _ _ h => h) (Or.inl ⟨by rfl, ?_⟩) hHeld ?_ ?_
          rotate_left
          ·rintro w' ⟨s0, s1, s2, s3, s4, s5⟩
           go_simp
           with_reducible rfl
          rotate_left
          ·simp only [Act.put, sA, sB, sC, i64_w, i32_w]
           rfl
          refine take_ (i := 25) (N := some 70) (v := ?_) (a' := ?_) #[true,true,true,true,true,true,true,true,true,true,true,true,true,true,true,true,true,true,true,true,true,true,true,true,false,true,false,false,false,false,false,false,false,false,false,false,false,false,false,false] rfl rfl (take_ofW HT_.out HW_.out (by kernel_rfl)) (fun _ _ _ h => h) (Or.inl ⟨by rfl, ?_⟩) hHeld ?_ ?_
          rotate_left
          ·rintro w' ⟨s0, s1, s2, s3, s4, s5⟩
           go_simp
           with_reducible rfl
          rotate_left
          ·simp only [Act.put, sA, sB, sC, i64_w, i32_w]
           rfl
          refine one_ (i := 24) (N := some 69) #[true,true,true,true,true,true,true,true,true,true,true,true,true,true,true,true,true,true,true,true,true,true,true,true,true,true,false,false,false,false,false,false,false,false,false,false,false,false,false,false] rfl rfl (one_of HT_.out (by kernel_rfl)) (by decide) (fun K hK => ?_)
          refine goes_ Try.func26 (by kernel_rfl) rfl #[.agg #[.int .i64 (wrap64 ((wrap64 (Int.tmod a0 249)) + (wrap64 (t268 * t270)))), .int .i64 0, .int .i64 0]] (by rfl) rfl rfl (by (try simp only [List.map_toArray, List.map_cons, List.map_nil]); first | done | rfl | (simp only [List.length_drop, List.length_take]; rfl)) ?_
          with_reducible refine (car_Car_Floor.calls (wrap64 ((wrap64 (Int.tmod a0 249)) + (wrap64 (t268 * t270)))) 0 0 t275 _ A76.out).mono ?_
          rintro e w102 ⟨rfl, hb⟩
          refine ⟨_, rfl, ?_⟩
          have n0_ := Aside0.mk (blk_below (g := gb265) (o := .cells #[.int .i64 (wrap64 (Int.tmod a0 249)), .int .i64 0, .int .i64 a1] 37 (0, 0)) (by (with_reducible repeat (first | refine blk_drewN ?_ _ | refine blk_drew ?_ | refine blk_alloc ?_ _)); exact BK265.out) hb)
          have n1_ := Aside0.mk (blk_below (g := gb271) (o := .cells #[.int .i64 (wrap64 ((wrap64 (Int.tmod a0 249)) + (wrap64 (t268 * t270)))), .int .i64 0, .int .i64 0] 37 (0, 0)) (by (with_reducible repeat (first | refine blk_drewN ?_ _ | refine blk_drew ?_ | refine blk_alloc ?_ _)); exact BK271.out) hb)
          have n2_ := Aside0.mk (below_step (by repeat (first | (with_reducible first | exact HB.out | apply below_alloc | apply pw_below_drewN | apply below_drew1 | refine below_set ?_ GE265.out | refine below_set ?_ GE271.out) | exact HB.out)) hb)
          clear BK265
          clear BK271
          clear HB
          have BK265 := n0_
          have BK271 := n1_
          have HB := n2_
          clear n0_ n1_ n2_
          (try clear hb)
          (try clear hb2)
          (try clear hk)
          (try clear hi)
          refine hK.out _ _ ⟨(blk_cell BK271.out 0).trans rfl, (blk_cell BK271.out 1).trans rfl, (blk_cell BK271.out 2).trans rfl, (blk_cell BK265.out 0).trans rfl, (blk_cell BK265.out 1).trans rfl, (blk_cell BK265.out 2).trans rfl⟩ (fun hHeld => ?_)
          clear hK K
          refine norm_ (a' := ?_) ?_ ?_
          rotate_left
          ·show Act.put _ (some 69) _ = _
           simp only [Act.put, sA, sB, sC, i64_w, i32_w]
           rfl
          refine one_ (i := 26) (N := some 71) #[true,true,true,true,true,true,true,true,true,true,true,true,true,true,true,true,true,true,true,true,true,true,true,true,true,true,true,false,false,false,false,false,false,false,false,false,false,false,false,false] rfl rfl (one_of HT_.out (by kernel_rfl)) (by decide) (fun K hK => ?_)
          refine goes_ Try.func26 (by kernel_rfl) rfl #[.agg #[.int .i64 (wrap64 (Int.tmod a0 249)), .int .i64 0, .int .i64 a1]] (by rfl) rfl rfl (by (try simp only [List.map_toArray, List.map_cons, List.map_nil]); first | done | rfl | (simp only [List.length_drop, List.length_take]; rfl)) ?_
          with_reducible refine (car_Car_Floor.calls (wrap64 (Int.tmod a0 249)) 0 a1 t276 _ A77.out).mono ?_
          rintro e w103 ⟨rfl, hb⟩
          refine ⟨_, rfl, ?_⟩
          have n0_ := Aside0.mk (blk_below (g := gb265) (o := .cells #[.int .i64 (wrap64 (Int.tmod a0 249)), .int .i64 0, .int .i64 a1] 37 (0, 0)) (by (with_reducible repeat (first | refine blk_drewN ?_ _ | refine blk_drew ?_ | refine blk_alloc ?_ _)); exact BK265.out) hb)
          have n1_ := Aside0.mk (blk_below (g := gb271) (o := .cells #[.int .i64 (wrap64 ((wrap64 (Int.tmod a0 249)) + (wrap64 (t268 * t270)))), .int .i64 0, .int .i64 0] 37 (0, 0)) (by (with_reducible repeat (first | refine blk_drewN ?_ _ | refine blk_drew ?_ | refine blk_alloc ?_ _)); exact BK271.out) hb)
          have n2_ := Aside0.mk (below_step (by repeat (first | (with_reducible first | exact HB.out | apply below_alloc | apply pw_below_drewN | apply below_drew1 | refine below_set ?_ GE265.out | refine below_set ?_ GE271.out) | exact HB.out)) hb)
          clear BK265
          clear BK271
          clear HB
          have BK265 := n0_
          have BK271 := n1_
          have HB := n2_
          clear n0_ n1_ n2_
          (try clear hb)
          (try clear hb2)
          (try clear hk)
          (try clear hi)
          refine hK.out _ _ ⟨(blk_cell BK271.out 0).trans rfl, (blk_cell BK271.out 1).trans rfl, (blk_cell BK271.out 2).trans rfl, (blk_cell BK265.out 0).trans rfl, (blk_cell BK265.out 1).trans rfl, (blk_cell BK265.out 2).trans rfl⟩ (fun hHeld => ?_)
          clear hK K
          refine norm_ (a' := ?_) ?_ ?_
          rotate_left
          ·show Act.put _ (some 71) _ = _
           simp only [Act.put, sA, sB, sC, i64_w, i32_w]
           rfl
          refine pure_ (i := 27) (N := some 72) (v := ?_) (a' := ?_) #[true,true,true,true,true,true,true,true,true,true,true,true,true,true,true,true,true,true,true,true,true,true,true,true,true,true,true,true,false,false,false,false,false,false,false,false,false,false,false,false] rfl rfl (any_of HT_.out (by kernel_rfl)) (fun _ _ _ h => h) (Or.inl ⟨by rfl, ?_⟩) ?_ ?_
          rotate_left
          ·intro w'
           go_simp
           with_reducible rfl
          rotate_left
          ·simp only [Act.put, sA, sB, sC, i64_w, i32_w]
           rfl
          refine pure_ (i := 28) (N := some 73) (v := ?_) (a' := ?_) #[true,true,true,true,true,true,true,true,true,true,true,true,true,true,true,true,true,true,true,true,true,true,true,true,true,true,true,true,true,false,false,false,false,false,false,false,false,false,false,false] rfl rfl (any_of HT_.out (by kernel_rfl)) (fun _ _ _ h => h) (Or.inl ⟨by rfl, ?_⟩) ?_ ?_
          rotate_left
          ·intro w'
           go_simp
           with_reducible rfl
          rotate_left
          ·simp only [Act.put, sA, sB, sC, i64_w, i32_w]
           rfl
          refine pure_ (i := 29) (N := some 74) (v := ?_) (a' := ?_) #[true,true,true,true,true,true,true,true,true,true,true,true,true,true,true,true,true,true,true,true,true,true,true,true,true,true,true,true,true,true,false,false,false,false,false,false,false,false,false,false] rfl rfl (any_of HT_.out (by kernel_rfl)) (fun _ _ _ h => h) (Or.inl ⟨by rfl, ?_⟩) ?_ ?_
          rotate_left
          ·intro w'
           go_simp
           with_reducible rfl
          rotate_left
          ·simp only [Act.put, sA, sB, sC, i64_w, i32_w]
           rfl
          refine pure_ (i := 30) (N := some 75) (v := ?_) (a' := ?_) #[true,true,true,true,true,true,true,true,true,true,true,true,true,true,true,true,true,true,true,true,true,true,true,true,true,true,true,true,true,true,true,false,false,false,false,false,false,false,false,false] rfl rfl (any_of HT_.out (by kernel_rfl)) (fun _ _ _ h => h) (Or.inl ⟨by rfl, ?_⟩) ?_ ?_
          rotate_left
          ·intro w'
           go_simp
           with_reducible rfl
          rotate_left
          ·simp only [Act.put, sA, sB, sC, i64_w, i32_w]
           rfl
          refine pure_ (i := 31) (N := some 76) (v := ?_) (a' := ?_) #[true,true,true,true,true,true,true,true,true,true,true,true,true,true,true,true,true,true,true,true,true,true,true,true,true,true,true,true,true,true,true,true,false,false,false,false,false,false,false,false] rfl rfl (any_of HT_.out (by kernel_rfl)) (fun _ _ _ h => h) (Or.inl ⟨by rfl, ?_⟩) ?_ ?_
          rotate_left
          ·intro w'
           go_simp
           with_reducible rfl
          rotate_left
          ·simp only [Act.put, sA, sB, sC, i64_w, i32_w]
           rfl
          refine pure_ (i := 32) (N := some 77) (v := ?_) (a' := ?_) #[true,true,true,true,true,true,true,true,true,true,true,true,true,true,true,true,true,true,true,true,true,true,true,true,true,true,true,true,true,true,true,true,true,false,false,false,false,false,false,false] rfl rfl (any_of HT_.out (by kernel_rfl)) (fun _ _ _ h => h) (Or.inl ⟨by rfl, ?_⟩) ?_ ?_
          rotate_left
          ·intro w'
           go_simp
           with_reducible rfl
          rotate_left
          ·simp only [Act.put, sA, sB, sC, i64_w, i32_w]
           rfl
          refine pure_ (i := 33) (N := some 78) (v := ?_) (a' := ?_) #[true,true,true,true,true,true,true,true,true,true,true,true,true,true,true,true,true,true,true,true,true,true,true,true,true,true,true,true,true,true,true,true,true,true,false,false,false,false,false,false] rfl rfl (any_of HT_.out (by kernel_rfl)) (fun _ _ _ h => h) (Or.inl ⟨by rfl, ?_⟩) ?_ ?_
          rotate_left
          ·intro w'
           go_simp
           with_reducible rfl
          rotate_left
          ·simp only [Act.put, sA, sB, sC, i64_w, i32_w]
           rfl
          refine pure_ (i := 34) (N := some 79) (v := ?_) (a' := ?_) #[true,true,true,true,true,true,true,true,true,true,true,true,true,true,true,true,true,true,true,true,true,true,true,true,true,true,true,true,true,true,true,true,true,true,true,false,false,false,false,false] rfl rfl (any_of HT_.out (by kernel_rfl)) (fun _ _ _ h => h) (Or.inl ⟨by rfl, ?_⟩) ?_ ?_
          rotate_left
          ·intro w'
           go_simp
           with_reducible rfl
          rotate_left
          ·simp only [Act.put, sA, sB, sC, i64_w, i32_w]
           rfl
          refine pure_ (i := 35) (N := some 80) (v := undef) (a' := ?_) #[true,true,true,true,true,true,true,true,true,true,true,true,true,true,true,true,true,true,true,true,true,true,true,true,true,true,true,true,true,true,true,true,true,true,true,true,false,false,false,false] rfl rfl (any_of HT_.out (by kernel_rfl)) (fun _ _ _ h => h) (Or.inr ⟨by rfl, rfl⟩) ?_ ?_
          rotate_left
          ·simp only [Act.put, sA, sB, sC, i64_w, i32_w]
           rfl
          refine pure_ (i := 36) (N := some 81) (v := undef) (a' := ?_) #[true,true,true,true,true,true,true,true,true,true,true,true,true,true,true,true,true,true,true,true,true,true,true,true,true,true,true,true,true,true,true,true,true,true,true,true,true,false,false,false] rfl rfl (any_of HT_.out (by kernel_rfl)) (fun _ _ _ h => h) (Or.inr ⟨by rfl, rfl⟩) ?_ ?_
          rotate_left
          ·simp only [Act.put, sA, sB, sC, i64_w, i32_w]
           rfl
          refine pure_ (i := 37) (N := some 82) (v := ?_) (a' := ?_) #[true,true,true,true,true,true,true,true,true,true,true,true,true,true,true,true,true,true,true,true,true,true,true,true,true,true,true,true,true,true,true,true,true,true,true,true,true,true,false,false] rfl rfl (any_of HT_.out (by kernel_rfl)) (fun _ _ _ h => h) (Or.inl ⟨by rfl, ?_⟩) ?_ ?_
          rotate_left
          ·intro w'
           go_simp
           with_reducible rfl
          rotate_left
          ·simp only [Act.put, sA, sB, sC, i64_w, i32_w]
           rfl
          refine pure_ (i := 38) (N := some 83) (v := ?_) (a' := ?_) #[true,true,true,true,true,true,true,true,true,true,true,true,true,true,true,true,true,true,true,true,true,true,true,true,true,true,true,true,true,true,true,true,true,true,true,true,true,true,true,false] rfl rfl (any_of HT_.out (by kernel_rfl)) (fun _ _ _ h => h) (Or.inl ⟨by rfl, ?_⟩) ?_ ?_
          rotate_left
          ·intro w'
           go_simp
           with_reducible rfl
          rotate_left
          ·simp only [Act.put, sA, sB, sC, i64_w, i32_w]
           rfl
          refine pure_ (i := 39) (N := some 6) (v := ?_) (a' := ?_) #[true,true,true,true,true,true,true,true,true,true,true,true,true,true,true,true,true,true,true,true,true,true,true,true,true,true,true,true,true,true,true,true,true,true,true,true,true,true,true,true] rfl rfl (any_of HT_.out (by kernel_rfl)) (fun _ _ _ h => h) (Or.inl ⟨by rfl, ?_⟩) ?_ ?_
          rotate_left
          ·intro w'
           go_simp
           with_reducible rfl
          rotate_left
          ·simp only [Act.put, sA, sB, sC, i64_w, i32_w]
           rfl
          refine done_ (done_of HT_.out (by kernel_rfl)) ?_
          try go_wp2
          go_ret
          exact ⟨by first | rfl | (simp [errW_none, errW_some] <;> rfl) | (simp [*, errW_none, errW_some] <;> rfl), by repeat (first | (with_reducible first | exact HB.out | apply below_alloc | apply pw_below_drewN | apply below_drew1 | refine below_set ?_ GE265.out | refine below_set ?_ GE271.out) | exact HB.out)⟩
         ·rw [if_neg c79] at H
          have c79b0 : (t268 == 1) = false := beq_eq_false_iff_ne.mpr c79
          have c79b1 : (t268 != 1) = true := bne_iff_ne.mpr c79
          obtain rfl := Option.some.inj H
          go_enter Try.func11, Try.ntmps11
          try go_wp2_with (first | ((with_reducible refine gate_callee (f := 18) rfl ?_); refine goesL_ (some 13) rfl rfl Try.func18 (by kernel_rfl) rfl #[] rfl (by (try simp only [List.map_toArray, List.map_cons, List.map_nil]); first | done | rfl | (simp only [List.length_drop, List.length_take]; rfl)) ?_; (with_reducible refine (paternosterlaw07_awake.calls k  true _ A4.out).mono ?_); rintro e w104 ⟨rfl, hb⟩; refine ⟨_, rfl, ?_⟩; have n0_ := Aside0.mk (below_step (by repeat (first | (with_reducible first | exact HB.out | apply below_alloc | apply pw_below_drewN | apply below_drew1) | exact HB.out)) hb); clear HB; have HB := n0_; clear n0_; (try clear hb); (try clear hb2); (try clear hk); (try clear hi)) | ((with_reducible refine gate_dst (N := 8) rfl ?_); refine box_event ?hg (N := 8) ?hd (cs := #[.int .i64 0, .int .i64 0, .int .i64 0]) (t := 37) ?hr ?_; (case hd => rfl); (case hg => rfl); (case hr => first | (go_simp; done) | (go_simp; rfl)); intro gb265 hg w105 hbox hb; have n0_ := Aside0.mk (below_step (by repeat (first | (with_reducible first | exact HB.out | apply below_alloc | apply pw_below_drewN | apply below_drew1) | exact HB.out)) hb); have n1_ := Aside0.mk (hbox); have n2_ := Aside0.mk ((by rw [hg]; exact (below_size (by repeat (first | (with_reducible first | exact HB.out | apply below_alloc | apply pw_below_drewN | apply below_drew1) | exact HB.out))) : w.heap.size ≤ gb265)); have n3_ := Aside0.mk ((by rw [hg]; exact (below_size (by repeat (first | (with_reducible first | exact HB.out | apply below_alloc | apply pw_below_drewN | apply below_drew1) | exact HB.out))) : w.heap.size ≤ gb265)); clear HB; have HB := n0_; have BK265 := n1_; have GW265 := n2_; have GE265 := n3_; clear n0_ n1_ n2_ n3_; clear hb hbox hg; have hcz106_0 : w105.cell? ⟨gb265, 0, none⟩ = some (.int .i64 0) := (blk_cell BK265.out 0).trans rfl; have hcz106_1 : w105.cell? ⟨gb265, 1, none⟩ = some (.int .i64 0) := (blk_cell BK265.out 1).trans rfl; have hcz106_2 : w105.cell? ⟨gb265, 2, none⟩ = some (.int .i64 0) := (blk_cell BK265.out 2).trans rfl; have hfz106_0 := blk_frozen BK265.out 0; have hfz106_1 := blk_frozen BK265.out 1; have hfz106_2 := blk_frozen BK265.out 2) | ((with_reducible refine gate_callee (f := 28) rfl ?_); refine goesL_ (some 22) rfl rfl Try.func28 (by kernel_rfl) rfl #[.agg #[.int .i64 (wrap64 (Int.tmod a0 249)), .int .i64 0, .int .i64 a1], .int .i64 1] rfl (by (try simp only [List.map_toArray, List.map_cons, List.map_nil]); first | done | rfl | (simp only [List.length_drop, List.length_take]; rfl)) ?_; (with_reducible refine (car_Car_Near.calls k (wrap64 (Int.tmod a0 249)) 0 a1 1 t266 _ A6.out).mono ?_); rintro e w107 ⟨rfl, hb⟩; refine ⟨_, rfl, ?_⟩; have n0_ := Aside0.mk (blk_below (g := gb265) (o := .cells #[.int .i64 (wrap64 (Int.tmod a0 249)), .int .i64 0, .int .i64 a1] 37 (0, 0)) (by (with_reducible repeat (first | refine blk_drewN ?_ _ | refine blk_drew ?_ | refine blk_alloc ?_ _)); refine blk_put (cs := #[.int .i64 (wrap64 (Int.tmod a0 249)), .int .i64 0, .int .i64 0]) ?_ 2 _ rfl; (with_reducible repeat (first | refine blk_drewN ?_ _ | refine blk_drew ?_ | refine blk_alloc ?_ _)); refine blk_put (cs := #[.int .i64 (wrap64 (Int.tmod a0 249)), .int .i64 0, .int .i64 0]) ?_ 1 _ rfl; (with_reducible repeat (first | refine blk_drewN ?_ _ | refine blk_drew ?_ | refine blk_alloc ?_ _)); refine blk_put (cs := #[.int .i64 0, .int .i64 0, .int .i64 0]) ?_ 0 _ rfl; (with_reducible repeat (first | refine blk_drewN ?_ _ | refine blk_drew ?_ | refine blk_alloc ?_ _)); exact BK265.out) hb); have n1_ := Aside0.mk (below_step (by repeat (first | (with_reducible first | exact HB.out | apply below_alloc | apply pw_below_drewN | apply below_drew1 | refine below_set ?_ GE265.out) | exact HB.out)) hb); clear BK265; clear HB; have BK265 := n0_; have HB := n1_; clear n0_ n1_; (try clear hb); (try clear hb2); (try clear hk); (try clear hi); have hcz108_0 : w107.cell? ⟨gb265, 0, none⟩ = some (.int .i64 (wrap64 (Int.tmod a0 249))) := (blk_cell BK265.out 0).trans rfl; have hcz108_1 : w107.cell? ⟨gb265, 1, none⟩ = some (.int .i64 0) := (blk_cell BK265.out 1).trans rfl; have hcz108_2 : w107.cell? ⟨gb265, 2, none⟩ = some (.int .i64 a1) := (blk_cell BK265.out 2).trans rfl; have hfz108_0 := blk_frozen BK265.out 0; have hfz108_1 := blk_frozen BK265.out 1; have hfz108_2 := blk_frozen BK265.out 2) | ((with_reducible refine gate_callee (f := 28) rfl ?_); refine goesL_ (some 24) rfl rfl Try.func28 (by kernel_rfl) rfl #[.agg #[.int .i64 (wrap64 (Int.tmod a0 249)), .int .i64 0, .int .i64 a1], .int .i64 (-1)] rfl (by (try simp only [List.map_toArray, List.map_cons, List.map_nil]); first | done | rfl | (simp only [List.length_drop, List.length_take]; rfl)) ?_; (with_reducible refine (car_Car_Near.calls k (wrap64 (Int.tmod a0 249)) 0 a1 (-1) t267 _ A7.out).mono ?_); rintro e w109 ⟨rfl, hb⟩; refine ⟨_, rfl, ?_⟩; have n0_ := Aside0.mk (blk_below (g := gb265) (o := .cells #[.int .i64 (wrap64 (Int.tmod a0 249)), .int .i64 0, .int .i64 a1] 37 (0, 0)) (by (with_reducible repeat (first | refine blk_drewN ?_ _ | refine blk_drew ?_ | refine blk_alloc ?_ _)); exact BK265.out) hb); have n1_ := Aside0.mk (below_step (by repeat (first | (with_reducible first | exact HB.out | apply below_alloc | apply pw_below_drewN | apply below_drew1 | refine below_set ?_ GE265.out) | exact HB.out)) hb); clear BK265; clear HB; have BK265 := n0_; have HB := n1_; clear n0_ n1_; (try clear hb); (try clear hb2); (try clear hk); (try clear hi); have hcz110_0 : w109.cell? ⟨gb265, 0, none⟩ = some (.int .i64 (wrap64 (Int.tmod a0 249))) := (blk_cell BK265.out 0).trans rfl; have hcz110_1 : w109.cell? ⟨gb265, 1, none⟩ = some (.int .i64 0) := (blk_cell BK265.out 1).trans rfl; have hcz110_2 : w109.cell? ⟨gb265, 2, none⟩ = some (.int .i64 a1) := (blk_cell BK265.out 2).trans rfl; have hfz110_0 := blk_frozen BK265.out 0; have hfz110_1 := blk_frozen BK265.out 1; have hfz110_2 := blk_frozen BK265.out 2) | ((with_reducible refine gate_callee (f := 27) rfl ?_); refine goesL_ (some 27) rfl rfl Try.func27 (by kernel_rfl) rfl #[.agg #[.int .i64 (wrap64 (Int.tmod a0 249)), .int .i64 0, .int .i64 a1], .int .i64 a2] rfl (by (try simp only [List.map_toArray, List.map_cons, List.map_nil]); first | done | rfl | (simp only [List.length_drop, List.length_take]; rfl)) ?_; (with_reducible refine (car_Car_Light.calls (wrap64 (Int.tmod a0 249)) 0 a1 a2 t268 _ A8.out).mono ?_); rintro e w111 ⟨rfl, hb⟩; refine ⟨_, rfl, ?_⟩; have n0_ := Aside0.mk (blk_below (g := gb265) (o := .cells #[.int .i64 (wrap64 (Int.tmod a0 249)), .int .i64 0, .int .i64 a1] 37 (0, 0)) (by (with_reducible repeat (first | refine blk_drewN ?_ _ | refine blk_drew ?_ | refine blk_alloc ?_ _)); exact BK265.out) hb); have n1_ := Aside0.mk (below_step (by repeat (first | (with_reducible first | exact HB.out | apply below_alloc | apply pw_below_drewN | apply below_drew1 | refine below_set ?_ GE265.out) | exact HB.out)) hb); clear BK265; clear HB; have BK265 := n0_; have HB := n1_; clear n0_ n1_; (try clear hb); (try clear hb2); (try clear hk); (try clear hi); have hcz112_0 : w111.cell? ⟨gb265, 0, none⟩ = some (.int .i64 (wrap64 (Int.tmod a0 249))) := (blk_cell BK265.out 0).trans rfl; have hcz112_1 : w111.cell? ⟨gb265, 1, none⟩ = some (.int .i64 0) := (blk_cell BK265.out 1).trans rfl; have hcz112_2 : w111.cell? ⟨gb265, 2, none⟩ = some (.int .i64 a1) := (blk_cell BK265.out 2).trans rfl; have hfz112_0 := blk_frozen BK265.out 0; have hfz112_1 := blk_frozen BK265.out 1; have hfz112_2 := blk_frozen BK265.out 2) | ((with_reducible refine gate_callee (f := 25) rfl ?_); refine goesL_ (some 29) rfl rfl Try.func25 (by kernel_rfl) rfl #[.agg #[.int .i64 (wrap64 (Int.tmod a0 249)), .int .i64 0, .int .i64 a1]] rfl (by (try simp only [List.map_toArray, List.map_cons, List.map_nil]); first | done | rfl | (simp only [List.length_drop, List.length_take]; rfl)) ?_; (with_reducible refine (car_Car_Level.calls (wrap64 (Int.tmod a0 249)) 0 a1 false _ A9.out).mono ?_); rintro e w113 ⟨rfl, hb⟩; refine ⟨_, rfl, ?_⟩; have n0_ := Aside0.mk (blk_below (g := gb265) (o := .cells #[.int .i64 (wrap64 (Int.tmod a0 249)), .int .i64 0, .int .i64 a1] 37 (0, 0)) (by (with_reducible repeat (first | refine blk_drewN ?_ _ | refine blk_drew ?_ | refine blk_alloc ?_ _)); exact BK265.out) hb); have n1_ := Aside0.mk (below_step (by repeat (first | (with_reducible first | exact HB.out | apply below_alloc | apply pw_below_drewN | apply below_drew1 | refine below_set ?_ GE265.out) | exact HB.out)) hb); clear BK265; clear HB; have BK265 := n0_; have HB := n1_; clear n0_ n1_; (try clear hb); (try clear hb2); (try clear hk); (try clear hi)))
          have n0_ := Aside0.mk (blk_drew BK265.out)
          have n1_ := Aside0.mk (below_drew1 HB.out)
          clear BK265
          clear HB
          have BK265 := n0_
          have HB := n1_
          clear n0_ n1_
          refine start_ (n := 11) (S := fun w' => w'.cell? ⟨gb265, 0, none⟩ = some (.int .i64 (wrap64 (Int.tmod a0 249))) ∧ w'.cell? ⟨gb265, 1, none⟩ = some (.int .i64 0) ∧ w'.cell? ⟨gb265, 2, none⟩ = some (.int .i64 a1)) (ds := []) #[false,false,false,false,false,false,false,false,false,false,false] (by kernel_rfl) rfl rfl ⟨(blk_cell BK265.out 0).trans rfl, (blk_cell BK265.out 1).trans rfl, (blk_cell BK265.out 2).trans rfl⟩ (fun hHeld => ?_); refine with_tabW paternosterlaw07_CarLights.tab10 paternosterlaw07_CarLights.bits10 (fun HT_ HW_ => ?_)
          generalize w113.drew = w114 at BK265 HB hHeld ⊢
          refine pure_ (i := 0) (N := some 36) (v := ?_) (a' := ?_) #[true,false,false,false,false,false,false,false,false,false,false] rfl rfl (any_of HT_.out (by kernel_rfl)) (fun _ _ _ h => h) (Or.inl ⟨by rfl, ?_⟩) ?_ ?_
          rotate_left
          ·intro w'
           go_simp
           with_reducible rfl
          rotate_left
          ·simp only [Act.put, sA, sB, sC, i64_w, i32_w]
           rfl
          refine pure_ (i := 2) (N := some 38) (v := ?_) (a' := ?_) #[true,false,true,false,false,false,false,false,false,false,false] rfl rfl (any_of HT_.out (by kernel_rfl)) (fun _ _ _ h => h) (Or.inl ⟨by rfl, ?_⟩) ?_ ?_
          rotate_left
          ·intro w'
           go_simp
           with_reducible rfl
          rotate_left
          ·simp only [Act.put, sA, sB, sC, i64_w, i32_w]
           rfl
          refine pure_ (i := 4) (N := some 40) (v := ?_) (a' := ?_) #[true,false,true,false,true,false,false,false,false,false,false] rfl rfl (any_of HT_.out (by kernel_rfl)) (fun _ _ _ h => h) (Or.inl ⟨by rfl, ?_⟩) ?_ ?_
          rotate_left
          ·intro w'
           go_simp
           with_reducible rfl
          rotate_left
          ·simp only [Act.put, sA, sB, sC, i64_w, i32_w]
           rfl
          refine take_ (i := 1) (N := some 37) (v := ?_) (a' := ?_) #[true,true,true,false,true,false,false,false,false,false,false] rfl rfl (take_ofW HT_.out HW_.out (by kernel_rfl)) (fun _ _ _ h => h) (Or.inl ⟨by rfl, ?_⟩) hHeld ?_ ?_
          rotate_left
          ·rintro w' ⟨s0, s1, s2⟩
           go_simp
           with_reducible rfl
          rotate_left
          ·simp only [Act.put, sA, sB, sC, i64_w, i32_w]
           rfl
          refine take_ (i := 3) (N := some 39) (v := ?_) (a' := ?_) #[true,true,true,true,true,false,false,false,false,false,false] rfl rfl (take_ofW HT_.out HW_.out (by kernel_rfl)) (fun _ _ _ h => h) (Or.inl ⟨by rfl, ?_⟩) hHeld ?_ ?_
          rotate_left
          ·rintro w' ⟨s0, s1, s2⟩
           go_simp
           with_reducible rfl
          rotate_left
          ·simp only [Act.put, sA, sB, sC, i64_w, i32_w]
           rfl
          refine join_ (σ := Nat) 1 #[true,true,true,true,true,true,true,true,true,true,false] (fun s_ => [(41, .int .i64 t270), (12, .pointer (some ⟨s_, 0, none⟩)), (42, .int .i64 (wrap64 (t268 * t270))), (43, .int .i64 (wrap64 ((wrap64 (Int.tmod a0 249)) + (wrap64 (t268 * t270))))), (44, .agg #[.int .i64 (wrap64 ((wrap64 (Int.tmod a0 249)) + (wrap64 (t268 * t270)))), .int .i64 0, .int .i64 0])]) (fun s_ w' => (w'.cell? ⟨gb265, 0, none⟩ = some (.int .i64 (wrap64 (Int.tmod a0 249))) ∧ w'.cell? ⟨gb265, 1, none⟩ = some (.int .i64 0) ∧ w'.cell? ⟨gb265, 2, none⟩ = some (.int .i64 a1)) ∧ (w'.heap[gb265]? = some (.cells #[.int .i64 (wrap64 (Int.tmod a0 249)), .int .i64 0, .int .i64 a1] 37 (0, 0))) ∧ (w'.heap[s_]? = some (.cells #[.int .i64 0, .int .i64 0, .int .i64 0] 37 (0, 0))) ∧ (w.heap.size ≤ s_) ∧ (w.heap.size ≤ s_) ∧ (gb265 ≠ s_) ∧ (s_ ≠ gb265) ∧ (Below w.heap.size w w')) ?_ ?_
          rotate_left
          ·intro hCont
           refine two_ (i := 5) (j := 9) (Ni := some 41) (Nj := some 12) #[true,true,true,true,true,true,false,false,false,false,false] #[true,true,true,true,true,false,false,false,false,true,false] rfl rfl rfl rfl (two_of HT_.out (by kernel_rfl)) (by decide) (by decide) (fun K hK => ?_) (fun K hK => ?_)
           ·skip
            refine goes_ Try.func28 (by kernel_rfl) rfl #[.agg #[.int .i64 (wrap64 (Int.tmod a0 249)), .int .i64 0, .int .i64 a1], .int .i64 t268] (by rfl) rfl rfl (by (try simp only [List.map_toArray, List.map_cons, List.map_nil]); first | done | rfl | (simp only [List.length_drop, List.length_take]; rfl)) ?_
            with_reducible refine (car_Car_Near.calls k (wrap64 (Int.tmod a0 249)) 0 a1 t268 t270 _ A22.out).mono ?_
            rintro e w115 ⟨rfl, hb⟩
            refine ⟨_, rfl, ?_⟩
            have n0_ := Aside0.mk (blk_below (g := gb265) (o := .cells #[.int .i64 (wrap64 (Int.tmod a0 249)), .int .i64 0, .int .i64 a1] 37 (0, 0)) (by (with_reducible repeat (first | refine blk_drewN ?_ _ | refine blk_drew ?_ | refine blk_alloc ?_ _)); exact BK265.out) hb)
            have n1_ := Aside0.mk (below_step (by repeat (first | (with_reducible first | exact HB.out | apply below_alloc | apply pw_below_drewN | apply below_drew1 | refine below_set ?_ GE265.out) | exact HB.out)) hb)
            clear BK265
            clear HB
            have BK265 := n0_
            have HB := n1_
            clear n0_ n1_
            (try clear hb)
            (try clear hb2)
            (try clear hk)
            (try clear hi)
            refine hK.out _ _ ⟨(blk_cell BK265.out 0).trans rfl, (blk_cell BK265.out 1).trans rfl, (blk_cell BK265.out 2).trans rfl⟩ (fun hHeld => ?_)
            clear hK K
            refine norm_ (a' := ?_) ?_ ?_
            rotate_left
            ·show Act.put _ (some 41) _ = _
             simp only [Act.put, sA, sB, sC, i64_w, i32_w]
             rfl
            refine pure_ (i := 6) (N := some 42) (v := ?_) (a' := ?_) #[true,true,true,true,true,true,true,false,false,false,false] rfl rfl (any_of HT_.out (by kernel_rfl)) (fun _ _ _ h => h) (Or.inl ⟨by rfl, ?_⟩) ?_ ?_
            rotate_left
            ·intro w'
             go_simp
             with_reducible rfl
            rotate_left
            ·simp only [Act.put, sA, sB, sC, i64_w, i32_w]
             rfl
            refine pure_ (i := 7) (N := some 43) (v := ?_) (a' := ?_) #[true,true,true,true,true,true,true,true,false,false,false] rfl rfl (any_of HT_.out (by kernel_rfl)) (fun _ _ _ h => h) (Or.inl ⟨by rfl, ?_⟩) ?_ ?_
            rotate_left
            ·intro w'
             go_simp
             with_reducible rfl
            rotate_left
            ·simp only [Act.put, sA, sB, sC, i64_w, i32_w]
             rfl
            refine pure_ (i := 8) (N := some 44) (v := ?_) (a' := ?_) #[true,true,true,true,true,true,true,true,true,false,false] rfl rfl (any_of HT_.out (by kernel_rfl)) (fun _ _ _ h => h) (Or.inl ⟨by rfl, ?_⟩) ?_ ?_
            rotate_left
            ·intro w'
             go_simp
             with_reducible rfl
            rotate_left
            ·simp only [Act.put, sA, sB, sC, i64_w, i32_w]
             rfl
            refine one_ (i := 9) (N := some 12) #[true,true,true,true,true,true,true,true,true,true,false] rfl rfl (one_of HT_.out (by kernel_rfl)) (by decide) (fun K hK => ?_)
            refine box_step ?hg (N := 12) ?hd (cs := #[.int .i64 0, .int .i64 0, .int .i64 0]) (t := 37) ?hr ?_; (case hd => rfl); (case hg => rfl); (case hr => first | (go_simp; done) | (go_simp; rfl))
            intro gb271 hg w116 hbox hb
            have n0_ := Aside0.mk (blk_below (g := gb265) (o := .cells #[.int .i64 (wrap64 (Int.tmod a0 249)), .int .i64 0, .int .i64 a1] 37 (0, 0)) (by (with_reducible repeat (first | refine blk_drewN ?_ _ | refine blk_drew ?_ | refine blk_alloc ?_ _)); exact BK265.out) hb)
            have n1_ := Aside0.mk (below_step (by repeat (first | (with_reducible first | exact HB.out | apply below_alloc | apply pw_below_drewN | apply below_drew1 | refine below_set ?_ GE265.out) | exact HB.out)) hb)
            have n2_ := Aside0.mk (hbox)
            have n3_ := Aside0.mk ((by rw [hg]; exact (below_size (by repeat (first | (with_reducible first | exact HB.out | apply below_alloc | apply pw_below_drewN | apply below_drew1 | refine below_set ?_ GE265.out) | exact HB.out))) : w.heap.size ≤ gb271))
            have n4_ := Aside0.mk ((by rw [hg]; exact (below_size (by repeat (first | (with_reducible first | exact HB.out | apply below_alloc | apply pw_below_drewN | apply below_drew1 | refine below_set ?_ GE265.out) | exact HB.out))) : w.heap.size ≤ gb271))
            have n5_ := Aside0.mk ((by rw [hg]; exact Nat.ne_of_lt (blk_lt (g := gb265) (o := .cells #[.int .i64 (wrap64 (Int.tmod a0 249)), .int .i64 0, .int .i64 a1] 37 (0, 0)) (by (with_reducible repeat (first | refine blk_drewN ?_ _ | refine blk_drew ?_ | refine blk_alloc ?_ _)); exact BK265.out)) : gb265 ≠ gb271))
            have n6_ := Aside0.mk ((by rw [hg]; exact Nat.ne_of_gt (blk_lt (g := gb265) (o := .cells #[.int .i64 (wrap64 (Int.tmod a0 249)), .int .i64 0, .int .i64 a1] 37 (0, 0)) (by (with_reducible repeat (first | refine blk_drewN ?_ _ | refine blk_drew ?_ | refine blk_alloc ?_ _)); exact BK265.out)) : gb271 ≠ gb265))
            clear BK265
            clear HB
            have BK265 := n0_
            have HB := n1_
            have BK271 := n2_
            have GW271 := n3_
            have GE271 := n4_
            have NB265_271 := n5_
            have NB271_265 := n6_
            clear n0_ n1_ n2_ n3_ n4_ n5_ n6_
            clear hb hbox hg
            refine hK.out _ _ ⟨(blk_cell BK265.out 0).trans rfl, (blk_cell BK265.out 1).trans rfl, (blk_cell BK265.out 2).trans rfl⟩ (fun hHeld => ?_)
            clear hK K
            refine norm_ (a' := ?_) ?_ ?_
            rotate_left
            ·show Act.put _ (some 12) _ = _
             simp only [Act.put, sA, sB, sC, i64_w, i32_w]
             rfl
            exact norm_ (by simp only [putAll, Act.put, sA, sB, sC]) (hCont (gb271) _ ⟨hHeld, (by (with_reducible repeat (first | refine blk_drewN ?_ _ | refine blk_drew ?_ | refine blk_alloc ?_ _)); exact BK265.out), (by (with_reducible repeat (first | refine blk_drewN ?_ _ | refine blk_drew ?_ | refine blk_alloc ?_ _)); exact BK271.out), GW271.out, GE271.out, NB265_271.out, NB271_265.out, (by repeat (first | (with_reducible first | exact HB.out | apply below_alloc | apply pw_below_drewN | apply below_drew1 | refine below_set ?_ GE265.out | refine below_set ?_ GE271.out) | exact HB.out))⟩)
           ·skip
            refine box_step ?hg (N := 12) ?hd (cs := #[.int .i64 0, .int .i64 0, .int .i64 0]) (t := 37) ?hr ?_; (case hd => rfl); (case hg => rfl); (case hr => first | (go_simp; done) | (go_simp; rfl))
            intro gb271 hg w115 hbox hb
            have n0_ := Aside0.mk (blk_below (g := gb265) (o := .cells #[.int .i64 (wrap64 (Int.tmod a0 249)), .int .i64 0, .int .i64 a1] 37 (0, 0)) (by (with_reducible repeat (first | refine blk_drewN ?_ _ | refine blk_drew ?_ | refine blk_alloc ?_ _)); exact BK265.out) hb)
            have n1_ := Aside0.mk (below_step (by repeat (first | (with_reducible first | exact HB.out | apply below_alloc | apply pw_below_drewN | apply below_drew1 | refine below_set ?_ GE265.out) | exact HB.out)) hb)
            have n2_ := Aside0.mk (hbox)
            have n3_ := Aside0.mk ((by rw [hg]; exact (below_size (by repeat (first | (with_reducible first | exact HB.out | apply below_alloc | apply pw_below_drewN | apply below_drew1 | refine below_set ?_ GE265.out) | exact HB.out))) : w.heap.size ≤ gb271))
            have n4_ := Aside0.mk ((by rw [hg]; exact (below_size (by repeat (first | (with_reducible first | exact HB.out | apply below_alloc | apply pw_below_drewN | apply below_drew1 | refine below_set ?_ GE265.out) | exact HB.out))) : w.heap.size ≤ gb271))
            have n5_ := Aside0.mk ((by rw [hg]; exact Nat.ne_of_lt (blk_lt (g := gb265) (o := .cells #[.int .i64 (wrap64 (Int.tmod a0 249)), .int .i64 0, .int .i64 a1] 37 (0, 0)) (by (with_reducible repeat (first | refine blk_drewN ?_ _ | refine blk_drew ?_ | refine blk_alloc ?_ _)); exact BK265.out)) : gb265 ≠ gb271))
            have n6_ := Aside0.mk ((by rw [hg]; exact Nat.ne_of_gt (blk_lt (g := gb265) (o := .cells #[.int .i64 (wrap64 (Int.tmod a0 249)), .int .i64 0, .int .i64 a1] 37 (0, 0)) (by (with_reducible repeat (first | refine blk_drewN ?_ _ | refine blk_drew ?_ | refine blk_alloc ?_ _)); exact BK265.out)) : gb271 ≠ gb265))
            clear BK265
            clear HB
            have BK265 := n0_
            have HB := n1_
            have BK271 := n2_
            have GW271 := n3_
            have GE271 := n4_
            have NB265_271 := n5_
            have NB271_265 := n6_
            clear n0_ n1_ n2_ n3_ n4_ n5_ n6_
            clear hb hbox hg
            refine hK.out _ _ ⟨(blk_cell BK265.out 0).trans rfl, (blk_cell BK265.out 1).trans rfl, (blk_cell BK265.out 2).trans rfl⟩ (fun hHeld => ?_)
            clear hK K
            refine norm_ (a' := ?_) ?_ ?_
            rotate_left
            ·show Act.put _ (some 12) _ = _
             simp only [Act.put, sA, sB, sC, i64_w, i32_w]
             rfl
            refine one_ (i := 5) (N := some 41) #[true,true,true,true,true,true,false,false,false,true,false] rfl rfl (one_of HT_.out (by kernel_rfl)) (by decide) (fun K hK => ?_)
            refine goes_ Try.func28 (by kernel_rfl) rfl #[.agg #[.int .i64 (wrap64 (Int.tmod a0 249)), .int .i64 0, .int .i64 a1], .int .i64 t268] (by rfl) rfl rfl (by (try simp only [List.map_toArray, List.map_cons, List.map_nil]); first | done | rfl | (simp only [List.length_drop, List.length_take]; rfl)) ?_
            with_reducible refine (car_Car_Near.calls k (wrap64 (Int.tmod a0 249)) 0 a1 t268 t270 _ A22.out).mono ?_
            rintro e w116 ⟨rfl, hb⟩
            refine ⟨_, rfl, ?_⟩
            have n0_ := Aside0.mk (blk_below (g := gb265) (o := .cells #[.int .i64 (wrap64 (Int.tmod a0 249)), .int .i64 0, .int .i64 a1] 37 (0, 0)) (by (with_reducible repeat (first | refine blk_drewN ?_ _ | refine blk_drew ?_ | refine blk_alloc ?_ _)); exact BK265.out) hb)
            have n1_ := Aside0.mk (blk_below (g := gb271) (o := .cells #[.int .i64 0, .int .i64 0, .int .i64 0] 37 (0, 0)) (by (with_reducible repeat (first | refine blk_drewN ?_ _ | refine blk_drew ?_ | refine blk_alloc ?_ _)); exact BK271.out) hb)
            have n2_ := Aside0.mk (below_step (by repeat (first | (with_reducible first | exact HB.out | apply below_alloc | apply pw_below_drewN | apply below_drew1 | refine below_set ?_ GE265.out | refine below_set ?_ GE271.out) | exact HB.out)) hb)
            clear BK265
            clear BK271
            clear HB
            have BK265 := n0_
            have BK271 := n1_
            have HB := n2_
            clear n0_ n1_ n2_
            (try clear hb)
            (try clear hb2)
            (try clear hk)
            (try clear hi)
            refine hK.out _ _ ⟨(blk_cell BK265.out 0).trans rfl, (blk_cell BK265.out 1).trans rfl, (blk_cell BK265.out 2).trans rfl⟩ (fun hHeld => ?_)
            clear hK K
            refine norm_ (a' := ?_) ?_ ?_
            rotate_left
            ·show Act.put _ (some 41) _ = _
             simp only [Act.put, sA, sB, sC, i64_w, i32_w]
             rfl
            refine pure_ (i := 6) (N := some 42) (v := ?_) (a' := ?_) #[true,true,true,true,true,true,true,false,false,true,false] rfl rfl (any_of HT_.out (by kernel_rfl)) (fun _ _ _ h => h) (Or.inl ⟨by rfl, ?_⟩) ?_ ?_
            rotate_left
            ·intro w'
             go_simp
             with_reducible rfl
            rotate_left
            ·simp only [Act.put, sA, sB, sC, i64_w, i32_w]
             rfl
            refine pure_ (i := 7) (N := some 43) (v := ?_) (a' := ?_) #[true,true,true,true,true,true,true,true,false,true,false] rfl rfl (any_of HT_.out (by kernel_rfl)) (fun _ _ _ h => h) (Or.inl ⟨by rfl, ?_⟩) ?_ ?_
            rotate_left
            ·intro w'
             go_simp
             with_reducible rfl
            rotate_left
            ·simp only [Act.put, sA, sB, sC, i64_w, i32_w]
             rfl
            refine pure_ (i := 8) (N := some 44) (v := ?_) (a' := ?_) #[true,true,true,true,true,true,true,true,true,true,false] rfl rfl (any_of HT_.out (by kernel_rfl)) (fun _ _ _ h => h) (Or.inl ⟨by rfl, ?_⟩) ?_ ?_
            rotate_left
            ·intro w'
             go_simp
             with_reducible rfl
            rotate_left
            ·simp only [Act.put, sA, sB, sC, i64_w, i32_w]
             rfl
            exact norm_ (by simp only [putAll, Act.put, sA, sB, sC]) (hCont (gb271) _ ⟨hHeld, (by (with_reducible repeat (first | refine blk_drewN ?_ _ | refine blk_drew ?_ | refine blk_alloc ?_ _)); exact BK265.out), (by (with_reducible repeat (first | refine blk_drewN ?_ _ | refine blk_drew ?_ | refine blk_alloc ?_ _)); exact BK271.out), GW271.out, GE271.out, NB265_271.out, NB271_265.out, (by repeat (first | (with_reducible first | exact HB.out | apply below_alloc | apply pw_below_drewN | apply below_drew1 | refine below_set ?_ GE265.out | refine below_set ?_ GE271.out) | exact HB.out))⟩)
          rintro gb271 w117 ⟨hS_, h0_, h1_, h2_, h3_, h4_, h5_, h6_⟩
          have n0_ : Aside0 (w117.heap[gb265]? = some (.cells #[.int .i64 (wrap64 (Int.tmod a0 249)), .int .i64 0, .int .i64 a1] 37 (0, 0))) := ⟨h0_⟩
          have n1_ : Aside0 (w117.heap[gb271]? = some (.cells #[.int .i64 0, .int .i64 0, .int .i64 0] 37 (0, 0))) := ⟨h1_⟩
          have n2_ : Aside0 (w.heap.size ≤ gb271) := ⟨h2_⟩
          have n3_ : Aside0 (w.heap.size ≤ gb271) := ⟨h3_⟩
          have n4_ : Aside0 (gb265 ≠ gb271) := ⟨h4_⟩
          have n5_ : Aside0 (gb271 ≠ gb265) := ⟨h5_⟩
          have n6_ : Aside0 (Below w.heap.size w w117) := ⟨h6_⟩
          clear BK265
          clear HB
          clear h0_ h1_ h2_ h3_ h4_ h5_ h6_
          have BK265 := n0_
          have BK271 := n1_
          have GW271 := n2_
          have GE271 := n3_
          have NB265_271 := n4_
          have NB271_265 := n5_
          have HB := n6_
          clear n0_ n1_ n2_ n3_ n4_ n5_ n6_
          have hHeld : w117.cell? ⟨gb265, 0, none⟩ = some (.int .i64 (wrap64 (Int.tmod a0 249))) ∧ w117.cell? ⟨gb265, 1, none⟩ = some (.int .i64 0) ∧ w117.cell? ⟨gb265, 2, none⟩ = some (.int .i64 a1) := hS_
          refine norm_ (a' := ?_) ?_ ?_
          rotate_left
          ·simp only [putAll, Act.put, sA, sB, sC]
           rfl
          refine one_ (i := 10) (N := none) #[true,true,true,true,true,true,true,true,true,true,true] rfl rfl (one_of HT_.out (by kernel_rfl)) (by decide) (fun K hK => ?_)
          have hs118 : w117.cell? ⟨gb271, 0, none⟩ = some (.int .i64 0) := (blk_cell BK271.out 0).trans rfl
          have hfs118 := blk_frozen BK271.out 0
          have hns118_0 := NB265_271.out
          have hms118_0 := NB271_265.out
          have hs119 : w117.cell? ⟨gb271, 1, none⟩ = some (.int .i64 0) := (blk_cell BK271.out 1).trans rfl
          have hfs119 := blk_frozen BK271.out 1
          have hns119_0 := NB265_271.out
          have hms119_0 := NB271_265.out
          have hs120 : w117.cell? ⟨gb271, 2, none⟩ = some (.int .i64 0) := (blk_cell BK271.out 2).trans rfl
          have hfs120 := blk_frozen BK271.out 2
          have hns120_0 := NB265_271.out
          have hms120_0 := NB271_265.out
          refine skip_ (w1 := ?_) (by rfl) rfl ?_ ?_
          rotate_left
          ·go_simp
           rfl
          refine hK.out _ _ ⟨((cell_far (p := ⟨gb271, _, none⟩) NB265_271.out _).trans (((cell_far (p := ⟨gb271, _, none⟩) NB265_271.out _).trans (((cell_far (p := ⟨gb271, _, none⟩) NB265_271.out _).trans (hHeld.1)))))), ((cell_far (p := ⟨gb271, _, none⟩) NB265_271.out _).trans (((cell_far (p := ⟨gb271, _, none⟩) NB265_271.out _).trans (((cell_far (p := ⟨gb271, _, none⟩) NB265_271.out _).trans (hHeld.2.1)))))), ((cell_far (p := ⟨gb271, _, none⟩) NB265_271.out _).trans (((cell_far (p := ⟨gb271, _, none⟩) NB265_271.out _).trans (((cell_far (p := ⟨gb271, _, none⟩) NB265_271.out _).trans (hHeld.2.2))))))⟩ (fun hHeld => ?_)
          clear hK K
          refine done_ (done_of HT_.out (by kernel_rfl)) ?_
          try go_wp2
          have n0_ : Aside0 ((((w117.setCell ⟨gb271, 0, none⟩ (.int .i64 (wrap64 ((wrap64 (Int.tmod a0 249)) + (wrap64 (t268 * t270)))))).setCell ⟨gb271, 1, none⟩ (.int .i64 0)).setCell ⟨gb271, 2, none⟩ (.int .i64 0)).heap[gb265]? = some (.cells #[.int .i64 (wrap64 (Int.tmod a0 249)), .int .i64 0, .int .i64 a1] 37 (0, 0))) := ⟨by (with_reducible repeat (first | refine blk_drewN ?_ _ | refine blk_drew ?_ | refine blk_alloc ?_ _)); refine blk_far ?_ NB265_271.out _; (with_reducible repeat (first | refine blk_drewN ?_ _ | refine blk_drew ?_ | refine blk_alloc ?_ _)); refine blk_far ?_ NB265_271.out _; (with_reducible repeat (first | refine blk_drewN ?_ _ | refine blk_drew ?_ | refine blk_alloc ?_ _)); refine blk_far ?_ NB265_271.out _; (with_reducible repeat (first | refine blk_drewN ?_ _ | refine blk_drew ?_ | refine blk_alloc ?_ _)); exact BK265.out⟩
          have n1_ : Aside0 ((((w117.setCell ⟨gb271, 0, none⟩ (.int .i64 (wrap64 ((wrap64 (Int.tmod a0 249)) + (wrap64 (t268 * t270)))))).setCell ⟨gb271, 1, none⟩ (.int .i64 0)).setCell ⟨gb271, 2, none⟩ (.int .i64 0)).heap[gb271]? = some (.cells #[.int .i64 (wrap64 ((wrap64 (Int.tmod a0 249)) + (wrap64 (t268 * t270)))), .int .i64 0, .int .i64 0] 37 (0, 0))) := ⟨by (with_reducible repeat (first | refine blk_drewN ?_ _ | refine blk_drew ?_ | refine blk_alloc ?_ _)); refine blk_put (cs := #[.int .i64 (wrap64 ((wrap64 (Int.tmod a0 249)) + (wrap64 (t268 * t270)))), .int .i64 0, .int .i64 0]) ?_ 2 _ rfl; (with_reducible repeat (first | refine blk_drewN ?_ _ | refine blk_drew ?_ | refine blk_alloc ?_ _)); refine blk_put (cs := #[.int .i64 (wrap64 ((wrap64 (Int.tmod a0 249)) + (wrap64 (t268 * t270)))), .int .i64 0, .int .i64 0]) ?_ 1 _ rfl; (with_reducible repeat (first | refine blk_drewN ?_ _ | refine blk_drew ?_ | refine blk_alloc ?_ _)); refine blk_put (cs := #[.int .i64 0, .int .i64 0, .int .i64 0]) ?_ 0 _ rfl; (with_reducible repeat (first | refine blk_drewN ?_ _ | refine blk_drew ?_ | refine blk_alloc ?_ _)); exact BK271.out⟩
          have n2_ : Aside0 (Below w.heap.size w (((w117.setCell ⟨gb271, 0, none⟩ (.int .i64 (wrap64 ((wrap64 (Int.tmod a0 249)) + (wrap64 (t268 * t270)))))).setCell ⟨gb271, 1, none⟩ (.int .i64 0)).setCell ⟨gb271, 2, none⟩ (.int .i64 0))) := ⟨by repeat (first | (with_reducible first | exact HB.out | apply below_alloc | apply pw_below_drewN | apply below_drew1 | refine below_set ?_ GE265.out | refine below_set ?_ GE271.out) | exact HB.out)⟩
          (try clear BK265)
          (try clear BK271)
          (try clear HB)
          generalize (((w117.setCell ⟨gb271, 0, none⟩ (.int .i64 (wrap64 ((wrap64 (Int.tmod a0 249)) + (wrap64 (t268 * t270)))))).setCell ⟨gb271, 1, none⟩ (.int .i64 0)).setCell ⟨gb271, 2, none⟩ (.int .i64 0)) = w121 at n0_ n1_ n2_ ⊢
          have BK265 := n0_
          have BK271 := n1_
          have HB := n2_
          clear n0_ n1_ n2_
          have n0_ := Aside0.mk (blk_drew BK265.out)
          have n1_ := Aside0.mk (blk_drew BK271.out)
          have n2_ := Aside0.mk (below_drew1 HB.out)
          clear BK265
          clear BK271
          clear HB
          have BK265 := n0_
          have BK271 := n1_
          have HB := n2_
          clear n0_ n1_ n2_
          refine start_ (n := 40) (S := fun w' => w'.cell? ⟨gb271, 0, none⟩ = some (.int .i64 (wrap64 ((wrap64 (Int.tmod a0 249)) + (wrap64 (t268 * t270))))) ∧ w'.cell? ⟨gb271, 1, none⟩ = some (.int .i64 0) ∧ w'.cell? ⟨gb271, 2, none⟩ = some (.int .i64 0) ∧ w'.cell? ⟨gb265, 0, none⟩ = some (.int .i64 (wrap64 (Int.tmod a0 249))) ∧ w'.cell? ⟨gb265, 1, none⟩ = some (.int .i64 0) ∧ w'.cell? ⟨gb265, 2, none⟩ = some (.int .i64 a1)) (ds := []) #[false,false,false,false,false,false,false,false,false,false,false,false,false,false,false,false,false,false,false,false,false,false,false,false,false,false,false,false,false,false,false,false,false,false,false,false,false,false,false,false] (by kernel_rfl) rfl rfl ⟨(blk_cell BK271.out 0).trans rfl, (blk_cell BK271.out 1).trans rfl, (blk_cell BK271.out 2).trans rfl, (blk_cell BK265.out 0).trans rfl, (blk_cell BK265.out 1).trans rfl, (blk_cell BK265.out 2).trans rfl⟩ (fun hHeld => ?_); refine with_tabW paternosterlaw07_CarLights.tab11 paternosterlaw07_CarLights.bits11 (fun HT_ HW_ => ?_)
          generalize w121.drew = w122 at BK265 BK271 HB hHeld ⊢
          refine pure_ (i := 0) (N := some 45) (v := ?_) (a' := ?_) #[true,false,false,false,false,false,false,false,false,false,false,false,false,false,false,false,false,false,false,false,false,false,false,false,false,false,false,false,false,false,false,false,false,false,false,false,false,false,false,false] rfl rfl (any_of HT_.out (by kernel_rfl)) (fun _ _ _ h => h) (Or.inl ⟨by rfl, ?_⟩) ?_ ?_
          rotate_left
          ·intro w'
           go_simp
           with_reducible rfl
          rotate_left
          ·simp only [Act.put, sA, sB, sC, i64_w, i32_w]
           rfl
          refine pure_ (i := 1) (N := some 46) (v := ?_) (a' := ?_) #[true,true,false,false,false,false,false,false,false,false,false,false,false,false,false,false,false,false,false,false,false,false,false,false,false,false,false,false,false,false,false,false,false,false,false,false,false,false,false,false] rfl rfl (any_of HT_.out (by kernel_rfl)) (fun _ _ _ h => h) (Or.inl ⟨by rfl, ?_⟩) ?_ ?_
          rotate_left
          ·intro w'
           go_simp
           with_reducible rfl
          rotate_left
          ·simp only [Act.put, sA, sB, sC, i64_w, i32_w]
           rfl
          refine pure_ (i := 2) (N := some 47) (v := ?_) (a' := ?_) #[true,true,true,false,false,false,false,false,false,false,false,false,false,false,false,false,false,false,false,false,false,false,false,false,false,false,false,false,false,false,false,false,false,false,false,false,false,false,false,false] rfl rfl (any_of HT_.out (by kernel_rfl)) (fun _ _ _ h => h) (Or.inl ⟨by rfl, ?_⟩) ?_ ?_
          rotate_left
          ·intro w'
           go_simp
           with_reducible rfl
          rotate_left
          ·simp only [Act.put, sA, sB, sC, i64_w, i32_w]
           rfl
          refine pure_ (i := 3) (N := some 48) (v := ?_) (a' := ?_) #[true,true,true,true,false,false,false,false,false,false,false,false,false,false,false,false,false,false,false,false,false,false,false,false,false,false,false,false,false,false,false,false,false,false,false,false,false,false,false,false] rfl rfl (any_of HT_.out (by kernel_rfl)) (fun _ _ _ h => h) (Or.inl ⟨by rfl, ?_⟩) ?_ ?_
          rotate_left
          ·intro w'
           go_simp
           with_reducible rfl
          rotate_left
          ·simp only [Act.put, sA, sB, sC, i64_w, i32_w]
           rfl
          refine pure_ (i := 4) (N := some 49) (v := ?_) (a' := ?_) #[true,true,true,true,true,false,false,false,false,false,false,false,false,false,false,false,false,false,false,false,false,false,false,false,false,false,false,false,false,false,false,false,false,false,false,false,false,false,false,false] rfl rfl (any_of HT_.out (by kernel_rfl)) (fun _ _ _ h => h) (Or.inl ⟨by rfl, ?_⟩) ?_ ?_
          rotate_left
          ·intro w'
           go_simp
           with_reducible rfl
          rotate_left
          ·simp only [Act.put, sA, sB, sC, i64_w, i32_w]
           rfl
          refine pure_ (i := 5) (N := some 50) (v := ?_) (a' := ?_) #[true,true,true,true,true,true,false,false,false,false,false,false,false,false,false,false,false,false,false,false,false,false,false,false,false,false,false,false,false,false,false,false,false,false,false,false,false,false,false,false] rfl rfl (any_of HT_.out (by kernel_rfl)) (fun _ _ _ h => h) (Or.inl ⟨by rfl, ?_⟩) ?_ ?_
          rotate_left
          ·intro w'
           go_simp
           with_reducible rfl
          rotate_left
          ·simp only [Act.put, sA, sB, sC, i64_w, i32_w]
           rfl
          refine pure_ (i := 6) (N := some 51) (v := ?_) (a' := ?_) #[true,true,true,true,true,true,true,false,false,false,false,false,false,false,false,false,false,false,false,false,false,false,false,false,false,false,false,false,false,false,false,false,false,false,false,false,false,false,false,false] rfl rfl (any_of HT_.out (by kernel_rfl)) (fun _ _ _ h => h) (Or.inl ⟨by rfl, ?_⟩) ?_ ?_
          rotate_left
          ·intro w'
           go_simp
           with_reducible rfl
          rotate_left
          ·simp only [Act.put, sA, sB, sC, i64_w, i32_w]
           rfl
          refine pure_ (i := 7) (N := some 52) (v := ?_) (a' := ?_) #[true,true,true,true,true,true,true,true,false,false,false,false,false,false,false,false,false,false,false,false,false,false,false,false,false,false,false,false,false,false,false,false,false,false,false,false,false,false,false,false] rfl rfl (any_of HT_.out (by kernel_rfl)) (fun _ _ _ h => h) (Or.inl ⟨by rfl, ?_⟩) ?_ ?_
          rotate_left
          ·intro w'
           go_simp
           with_reducible rfl
          rotate_left
          ·simp only [Act.put, sA, sB, sC, i64_w, i32_w]
           rfl
          refine pure_ (i := 8) (N := some 53) (v := ?_) (a' := ?_) #[true,true,true,true,true,true,true,true,true,false,false,false,false,false,false,false,false,false,false,false,false,false,false,false,false,false,false,false,false,false,false,false,false,false,false,false,false,false,false,false] rfl rfl (any_of HT_.out (by kernel_rfl)) (fun _ _ _ h => h) (Or.inl ⟨by rfl, ?_⟩) ?_ ?_
          rotate_left
          ·intro w'
           go_simp
           with_reducible rfl
          rotate_left
          ·simp only [Act.put, sA, sB, sC, i64_w, i32_w]
           rfl
          refine pure_ (i := 9) (N := some 54) (v := ?_) (a' := ?_) #[true,true,true,true,true,true,true,true,true,true,false,false,false,false,false,false,false,false,false,false,false,false,false,false,false,false,false,false,false,false,false,false,false,false,false,false,false,false,false,false] rfl rfl (any_of HT_.out (by kernel_rfl)) (fun _ _ _ h => h) (Or.inl ⟨by rfl, ?_⟩) ?_ ?_
          rotate_left
          ·intro w'
           go_simp
           with_reducible rfl
          rotate_left
          ·simp only [Act.put, sA, sB, sC, i64_w, i32_w]
           rfl
          refine pure_ (i := 10) (N := some 55) (v := ?_) (a' := ?_) #[true,true,true,true,true,true,true,true,true,true,true,false,false,false,false,false,false,false,false,false,false,false,false,false,false,false,false,false,false,false,false,false,false,false,false,false,false,false,false,false] rfl rfl (any_of HT_.out (by kernel_rfl)) (fun _ _ _ h => h) (Or.inl ⟨by rfl, ?_⟩) ?_ ?_
          rotate_left
          ·intro w'
           go_simp
           with_reducible rfl
          rotate_left
          ·simp only [Act.put, sA, sB, sC, i64_w, i32_w]
           rfl
          refine pure_ (i := 11) (N := some 56) (v := ?_) (a' := ?_) #[true,true,true,true,true,true,true,true,true,true,true,true,false,false,false,false,false,false,false,false,false,false,false,false,false,false,false,false,false,false,false,false,false,false,false,false,false,false,false,false] rfl rfl (any_of HT_.out (by kernel_rfl)) (fun _ _ _ h => h) (Or.inl ⟨by rfl, ?_⟩) ?_ ?_
          rotate_left
          ·intro w'
           go_simp
           with_reducible rfl
          rotate_left
          ·simp only [Act.put, sA, sB, sC, i64_w, i32_w]
           rfl
          refine pure_ (i := 12) (N := some 57) (v := ?_) (a' := ?_) #[true,true,true,true,true,true,true,true,true,true,true,true,true,false,false,false,false,false,false,false,false,false,false,false,false,false,false,false,false,false,false,false,false,false,false,false,false,false,false,false] rfl rfl (any_of HT_.out (by kernel_rfl)) (fun _ _ _ h => h) (Or.inl ⟨by rfl, ?_⟩) ?_ ?_
          rotate_left
          ·intro w'
           go_simp
           with_reducible rfl
          rotate_left
          ·simp only [Act.put, sA, sB, sC, i64_w, i32_w]
           rfl
          refine take_ (i := 13) (N := some 58) (v := ?_) (a' := ?_) #[true,true,true,true,true,true,true,true,true,true,true,true,true,true,false,false,false,false,false,false,false,false,false,false,false,false,false,false,false,false,false,false,false,false,false,false,false,false,false,false] rfl rfl (take_ofW HT_.out HW_.out (by kernel_rfl)) (fun _ _ _ h => h) (Or.inl ⟨by rfl, ?_⟩) hHeld ?_ ?_
          rotate_left
          ·rintro w' ⟨s0, s1, s2, s3, s4, s5⟩
           go_simp
           with_reducible rfl
          rotate_left
          ·simp only [Act.put, sA, sB, sC, i64_w, i32_w]
           rfl
          refine one_ (i := 14) (N := some 59) #[true,true,true,true,true,true,true,true,true,true,true,true,true,true,true,false,false,false,false,false,false,false,false,false,false,false,false,false,false,false,false,false,false,false,false,false,false,false,false,false] rfl rfl (one_of HT_.out (by kernel_rfl)) (by decide) (fun K hK => ?_)
          refine goes_ Try.func25 (by kernel_rfl) rfl #[.agg #[.int .i64 (wrap64 ((wrap64 (Int.tmod a0 249)) + (wrap64 (t268 * t270)))), .int .i64 0, .int .i64 0]] (by rfl) rfl rfl (by (try simp only [List.map_toArray, List.map_cons, List.map_nil]); first | done | rfl | (simp only [List.length_drop, List.length_take]; rfl)) ?_
          with_reducible refine (car_Car_Level.calls (wrap64 ((wrap64 (Int.tmod a0 249)) + (wrap64 (t268 * t270)))) 0 0 true _ A26.out).mono ?_
          rintro e w123 ⟨rfl, hb⟩
          refine ⟨_, rfl, ?_⟩
          have n0_ := Aside0.mk (blk_below (g := gb265) (o := .cells #[.int .i64 (wrap64 (Int.tmod a0 249)), .int .i64 0, .int .i64 a1] 37 (0, 0)) (by (with_reducible repeat (first | refine blk_drewN ?_ _ | refine blk_drew ?_ | refine blk_alloc ?_ _)); exact BK265.out) hb)
          have n1_ := Aside0.mk (blk_below (g := gb271) (o := .cells #[.int .i64 (wrap64 ((wrap64 (Int.tmod a0 249)) + (wrap64 (t268 * t270)))), .int .i64 0, .int .i64 0] 37 (0, 0)) (by (with_reducible repeat (first | refine blk_drewN ?_ _ | refine blk_drew ?_ | refine blk_alloc ?_ _)); exact BK271.out) hb)
          have n2_ := Aside0.mk (below_step (by repeat (first | (with_reducible first | exact HB.out | apply below_alloc | apply pw_below_drewN | apply below_drew1 | refine below_set ?_ GE265.out | refine below_set ?_ GE271.out) | exact HB.out)) hb)
          clear BK265
          clear BK271
          clear HB
          have BK265 := n0_
          have BK271 := n1_
          have HB := n2_
          clear n0_ n1_ n2_
          (try clear hb)
          (try clear hb2)
          (try clear hk)
          (try clear hi)
          refine hK.out _ _ ⟨(blk_cell BK271.out 0).trans rfl, (blk_cell BK271.out 1).trans rfl, (blk_cell BK271.out 2).trans rfl, (blk_cell BK265.out 0).trans rfl, (blk_cell BK265.out 1).trans rfl, (blk_cell BK265.out 2).trans rfl⟩ (fun hHeld => ?_)
          clear hK K
          refine norm_ (a' := ?_) ?_ ?_
          rotate_left
          ·show Act.put _ (some 59) _ = _
           simp only [Act.put, sA, sB, sC, i64_w, i32_w]
           rfl
          refine pure_ (i := 15) (N := some 60) (v := ?_) (a' := ?_) #[true,true,true,true,true,true,true,true,true,true,true,true,true,true,true,true,false,false,false,false,false,false,false,false,false,false,false,false,false,false,false,false,false,false,false,false,false,false,false,false] rfl rfl (any_of HT_.out (by kernel_rfl)) (fun _ _ _ h => h) (Or.inl ⟨by rfl, ?_⟩) ?_ ?_
          rotate_left
          ·intro w'
           go_simp
           with_reducible rfl
          rotate_left
          ·simp only [Act.put, sA, sB, sC, i64_w, i32_w]
           rfl
          refine pure_ (i := 16) (N := some 61) (v := ?_) (a' := ?_) #[true,true,true,true,true,true,true,true,true,true,true,true,true,true,true,true,true,false,false,false,false,false,false,false,false,false,false,false,false,false,false,false,false,false,false,false,false,false,false,false] rfl rfl (any_of HT_.out (by kernel_rfl)) (fun _ _ _ h => h) (Or.inl ⟨by rfl, ?_⟩) ?_ ?_
          rotate_left
          ·intro w'
           go_simp
           with_reducible rfl
          rotate_left
          ·simp only [Act.put, sA, sB, sC, i64_w, i32_w]
           rfl
          refine take_ (i := 17) (N := some 62) (v := ?_) (a' := ?_) #[true,true,true,true,true,true,true,true,true,true,true,true,true,true,true,true,true,true,false,false,false,false,false,false,false,false,false,false,false,false,false,false,false,false,false,false,false,false,false,false] rfl rfl (take_ofW HT_.out HW_.out (by kernel_rfl)) (fun _ _ _ h => h) (Or.inl ⟨by rfl, ?_⟩) hHeld ?_ ?_
          rotate_left
          ·rintro w' ⟨s0, s1, s2, s3, s4, s5⟩
           go_simp
           with_reducible rfl
          rotate_left
          ·simp only [Act.put, sA, sB, sC, i64_w, i32_w]
           rfl
          refine take_ (i := 19) (N := some 64) (v := ?_) (a' := ?_) #[true,true,true,true,true,true,true,true,true,true,true,true,true,true,true,true,true,true,false,true,false,false,false,false,false,false,false,false,false,false,false,false,false,false,false,false,false,false,false,false] rfl rfl (take_ofW HT_.out HW_.out (by kernel_rfl)) (fun _ _ _ h => h) (Or.inl ⟨by rfl, ?_⟩) hHeld ?_ ?_
          rotate_left
          ·rintro w' ⟨s0, s1, s2, s3, s4, s5⟩
           go_simp
           with_reducible rfl
          rotate_left
          ·simp only [Act.put, sA, sB, sC, i64_w, i32_w]
           rfl
          refine one_ (i := 18) (N := some 63) #[true,true,true,true,true,true,true,true,true,true,true,true,true,true,true,true,true,true,true,true,false,false,false,false,false,false,false,false,false,false,false,false,false,false,false,false,false,false,false,false] rfl rfl (one_of HT_.out (by kernel_rfl)) (by decide) (fun K hK => ?_)
          refine goes_ Try.func26 (by kernel_rfl) rfl #[.agg #[.int .i64 (wrap64 ((wrap64 (Int.tmod a0 249)) + (wrap64 (t268 * t270)))), .int .i64 0, .int .i64 0]] (by rfl) rfl rfl (by (try simp only [List.map_toArray, List.map_cons, List.map_nil]); first | done | rfl | (simp only [List.length_drop, List.length_take]; rfl)) ?_
          with_reducible refine (car_Car_Floor.calls (wrap64 ((wrap64 (Int.tmod a0 249)) + (wrap64 (t268 * t270)))) 0 0 t273 _ A28.out).mono ?_
          rintro e w124 ⟨rfl, hb⟩
          refine ⟨_, rfl, ?_⟩
          have n0_ := Aside0.mk (blk_below (g := gb265) (o := .cells #[.int .i64 (wrap64 (Int.tmod a0 249)), .int .i64 0, .int .i64 a1] 37 (0, 0)) (by (with_reducible repeat (first | refine blk_drewN ?_ _ | refine blk_drew ?_ | refine blk_alloc ?_ _)); exact BK265.out) hb)
          have n1_ := Aside0.mk (blk_below (g := gb271) (o := .cells #[.int .i64 (wrap64 ((wrap64 (Int.tmod a0 249)) + (wrap64 (t268 * t270)))), .int .i64 0, .int .i64 0] 37 (0, 0)) (by (with_reducible repeat (first | refine blk_drewN ?_ _ | refine blk_drew ?_ | refine blk_alloc ?_ _)); exact BK271.out) hb)
          have n2_ := Aside0.mk (below_step (by repeat (first | (with_reducible first | exact HB.out | apply below_alloc | apply pw_below_drewN | apply below_drew1 | refine below_set ?_ GE265.out | refine below_set ?_ GE271.out) | exact HB.out)) hb)
          clear BK265
          clear BK271
          clear HB
          have BK265 := n0_
          have BK271 := n1_
          have HB := n2_
          clear n0_ n1_ n2_
          (try clear hb)
          (try clear hb2)
          (try clear hk)
          (try clear hi)
          refine hK.out _ _ ⟨(blk_cell BK271.out 0).trans rfl, (blk_cell BK271.out 1).trans rfl, (blk_cell BK271.out 2).trans rfl, (blk_cell BK265.out 0).trans rfl, (blk_cell BK265.out 1).trans rfl, (blk_cell BK265.out 2).trans rfl⟩ (fun hHeld => ?_)
          clear hK K
          refine norm_ (a' := ?_) ?_ ?_
          rotate_left
          ·show Act.put _ (some 63) _ = _
           simp only [Act.put, sA, sB, sC, i64_w, i32_w]
           rfl
          refine one_ (i := 20) (N := some 65) #[true,true,true,true,true,true,true,true,true,true,true,true,true,true,true,true,true,true,true,true,true,false,false,false,false,false,false,false,false,false,false,false,false,false,false,false,false,false,false,false] rfl rfl (one_of HT_.out (by kernel_rfl)) (by decide) (fun K hK => ?_)
          refine goes_ Try.func26 (by kernel_rfl) rfl #[.agg #[.int .i64 (wrap64 (Int.tmod a0 249)), .int .i64 0, .int .i64 a1]] (by rfl) rfl rfl (by (try simp only [List.map_toArray, List.map_cons, List.map_nil]); first | done | rfl | (simp only [List.length_drop, List.length_take]; rfl)) ?_
          with_reducible refine (car_Car_Floor.calls (wrap64 (Int.tmod a0 249)) 0 a1 t274 _ A29.out).mono ?_
          rintro e w125 ⟨rfl, hb⟩
          refine ⟨_, rfl, ?_⟩
          have n0_ := Aside0.mk (blk_below (g := gb265) (o := .cells #[.int .i64 (wrap64 (Int.tmod a0 249)), .int .i64 0, .int .i64 a1] 37 (0, 0)) (by (with_reducible repeat (first | refine blk_drewN ?_ _ | refine blk_drew ?_ | refine blk_alloc ?_ _)); exact BK265.out) hb)
          have n1_ := Aside0.mk (blk_below (g := gb271) (o := .cells #[.int .i64 (wrap64 ((wrap64 (Int.tmod a0 249)) + (wrap64 (t268 * t270)))), .int .i64 0, .int .i64 0] 37 (0, 0)) (by (with_reducible repeat (first | refine blk_drewN ?_ _ | refine blk_drew ?_ | refine blk_alloc ?_ _)); exact BK271.out) hb)
          have n2_ := Aside0.mk (below_step (by repeat (first | (with_reducible first | exact HB.out | apply below_alloc | apply pw_below_drewN | apply below_drew1 | refine below_set ?_ GE265.out | refine below_set ?_ GE271.out) | exact HB.out)) hb)
          clear BK265
          clear BK271
          clear HB
          have BK265 := n0_
          have BK271 := n1_
          have HB := n2_
          clear n0_ n1_ n2_
          (try clear hb)
          (try clear hb2)
          (try clear hk)
          (try clear hi)
          refine hK.out _ _ ⟨(blk_cell BK271.out 0).trans rfl, (blk_cell BK271.out 1).trans rfl, (blk_cell BK271.out 2).trans rfl, (blk_cell BK265.out 0).trans rfl, (blk_cell BK265.out 1).trans rfl, (blk_cell BK265.out 2).trans rfl⟩ (fun hHeld => ?_)
          clear hK K
          refine norm_ (a' := ?_) ?_ ?_
          rotate_left
          ·show Act.put _ (some 65) _ = _
           simp only [Act.put, sA, sB, sC, i64_w, i32_w]
           rfl
          refine pure_ (i := 21) (N := some 66) (v := ?_) (a' := ?_) #[true,true,true,true,true,true,true,true,true,true,true,true,true,true,true,true,true,true,true,true,true,true,false,false,false,false,false,false,false,false,false,false,false,false,false,false,false,false,false,false] rfl rfl (any_of HT_.out (by kernel_rfl)) (fun _ _ _ h => h) (Or.inl ⟨by rfl, ?_⟩) ?_ ?_
          rotate_left
          ·intro w'
           go_simp
           with_reducible rfl
          rotate_left
          ·simp only [Act.put, sA, sB, sC, i64_w, i32_w]
           rfl
          refine pure_ (i := 22) (N := some 67) (v := ?_) (a' := ?_) #[true,true,true,true,true,true,true,true,true,true,true,true,true,true,true,true,true,true,true,true,true,true,true,false,false,false,false,false,false,false,false,false,false,false,false,false,false,false,false,false] rfl rfl (any_of HT_.out (by kernel_rfl)) (fun _ _ _ h => h) (Or.inl ⟨by rfl, ?_⟩) ?_ ?_
          rotate_left
          ·intro w'
           go_simp
           with_reducible rfl
          rotate_left
          ·simp only [Act.put, sA, sB, sC, i64_w, i32_w]
           rfl
          refine take_ (i := 23) (N := some 68) (v := ?_) (a' := ?_) #[true,true,true,true,true,true,true,true,true,true,true,true,true,true,true,true,true,true,true,true,true,true,true,true,false,false,false,false,false,false,false,false,false,false,false,false,false,false,false,false] rfl rfl (take_ofW HT_.out HW_.out (by kernel_rfl)) (fun _ _ _ h => h) (Or.inl ⟨by rfl, ?_⟩) hHeld ?_ ?_
          rotate_left
          ·rintro w' ⟨s0, s1, s2, s3, s4, s5⟩
           go_simp
           with_reducible rfl
          rotate_left
          ·simp only [Act.put, sA, sB, sC, i64_w, i32_w]
           rfl
          refine take_ (i := 25) (N := some 70) (v := ?_) (a' := ?_) #[true,true,true,true,true,true,true,true,true,true,true,true,true,true,true,true,true,true,true,true,true,true,true,true,false,true,false,false,false,false,false,false,false,false,false,false,false,false,false,false] rfl rfl (take_ofW HT_.out HW_.out (by kernel_rfl)) (fun _ _ _ h => h) (Or.inl ⟨by rfl, ?_⟩) hHeld ?_ ?_
          rotate_left
          ·rintro w' ⟨s0, s1, s2, s3, s4, s5⟩
           go_simp
           with_reducible rfl
          rotate_left
          ·simp only [Act.put, sA, sB, sC, i64_w, i32_w]
           rfl
          refine one_ (i := 24) (N := some 69) #[true,true,true,true,true,true,true,true,true,true,true,true,true,true,true,true,true,true,true,true,true,true,true,true,true,true,false,false,false,false,false,false,false,false,false,false,false,false,false,false] rfl rfl (one_of HT_.out (by kernel_rfl)) (by decide) (fun K hK => ?_)
          refine goes_ Try.func26 (by kernel_rfl) rfl #[.agg #[.int .i64 (wrap64 ((wrap64 (Int.tmod a0 249)) + (wrap64 (t268 * t270)))), .int .i64 0, .int .i64 0]] (by rfl) rfl rfl (by (try simp only [List.map_toArray, List.map_cons, List.map_nil]); first | done | rfl | (simp only [List.length_drop, List.length_take]; rfl)) ?_
          with_reducible refine (car_Car_Floor.calls (wrap64 ((wrap64 (Int.tmod a0 249)) + (wrap64 (t268 * t270)))) 0 0 t275 _ A76.out).mono ?_
          rintro e w126 ⟨rfl, hb⟩
          refine ⟨_, rfl, ?_⟩
          have n0_ := Aside0.mk (blk_below (g := gb265) (o := .cells #[.int .i64 (wrap64 (Int.tmod a0 249)), .int .i64 0, .int .i64 a1] 37 (0, 0)) (by (with_reducible repeat (first | refine blk_drewN ?_ _ | refine blk_drew ?_ | refine blk_alloc ?_ _)); exact BK265.out) hb)
          have n1_ := Aside0.mk (blk_below (g := gb271) (o := .cells #[.int .i64 (wrap64 ((wrap64 (Int.tmod a0 249)) + (wrap64 (t268 * t270)))), .int .i64 0, .int .i64 0] 37 (0, 0)) (by (with_reducible repeat (first | refine blk_drewN ?_ _ | refine blk_drew ?_ | refine blk_alloc ?_ _)); exact BK271.out) hb)
          have n2_ := Aside0.mk (below_step (by repeat (first | (with_reducible first | exact HB.out | apply below_alloc | apply pw_below_drewN | apply below_drew1 | refine below_set ?_ GE265.out | refine below_set ?_ GE271.out) | exact HB.out)) hb)
          clear BK265
          clear BK271
          clear HB
          have BK265 := n0_
          have BK271 := n1_
          have HB := n2_
          clear n0_ n1_ n2_
          (try clear hb)
          (try clear hb2)
          (try clear hk)
          (try clear hi)
          refine hK.out _ _ ⟨(blk_cell BK271.out 0).trans rfl, (blk_cell BK271.out 1).trans rfl, (blk_cell BK271.out 2).trans rfl, (blk_cell BK265.out 0).trans rfl, (blk_cell BK265.out 1).trans rfl, (blk_cell BK265.out 2).trans rfl⟩ (fun hHeld => ?_)
          clear hK K
          refine norm_ (a' := ?_) ?_ ?_
          rotate_left
          ·show Act.put _ (some 69) _ = _
           simp only [Act.put, sA, sB, sC, i64_w, i32_w]
           rfl
          refine one_ (i := 26) (N := some 71) #[true,true,true,true,true,true,true,true,true,true,true,true,true,true,true,true,true,true,true,true,true,true,true,true,true,true,true,false,false,false,false,false,false,false,false,false,false,false,false,false] rfl rfl (one_of HT_.out (by kernel_rfl)) (by decide) (fun K hK => ?_)
          refine goes_ Try.func26 (by kernel_rfl) rfl #[.agg #[.int .i64 (wrap64 (Int.tmod a0 249)), .int .i64 0, .int .i64 a1]] (by rfl) rfl rfl (by (try simp only [List.map_toArray, List.map_cons, List.map_nil]); first | done | rfl | (simp only [List.length_drop, List.length_take]; rfl)) ?_
          with_reducible refine (car_Car_Floor.calls (wrap64 (Int.tmod a0 249)) 0 a1 t276 _ A77.out).mono ?_
          rintro e w127 ⟨rfl, hb⟩
          refine ⟨_, rfl, ?_⟩
          have n0_ := Aside0.mk (blk_below (g := gb265) (o := .cells #[.int .i64 (wrap64 (Int.tmod a0 249)), .int .i64 0, .int .i64 a1] 37 (0, 0)) (by (with_reducible repeat (first | refine blk_drewN ?_ _ | refine blk_drew ?_ | refine blk_alloc ?_ _)); exact BK265.out) hb)
          have n1_ := Aside0.mk (blk_below (g := gb271) (o := .cells #[.int .i64 (wrap64 ((wrap64 (Int.tmod a0 249)) + (wrap64 (t268 * t270)))), .int .i64 0, .int .i64 0] 37 (0, 0)) (by (with_reducible repeat (first | refine blk_drewN ?_ _ | refine blk_drew ?_ | refine blk_alloc ?_ _)); exact BK271.out) hb)
          have n2_ := Aside0.mk (below_step (by repeat (first | (with_reducible first | exact HB.out | apply below_alloc | apply pw_below_drewN | apply below_drew1 | refine below_set ?_ GE265.out | refine below_set ?_ GE271.out) | exact HB.out)) hb)
          clear BK265
          clear BK271
          clear HB
          have BK265 := n0_
          have BK271 := n1_
          have HB := n2_
          clear n0_ n1_ n2_
          (try clear hb)
          (try clear hb2)
          (try clear hk)
          (try clear hi)
          refine hK.out _ _ ⟨(blk_cell BK271.out 0).trans rfl, (blk_cell BK271.out 1).trans rfl, (blk_cell BK271.out 2).trans rfl, (blk_cell BK265.out 0).trans rfl, (blk_cell BK265.out 1).trans rfl, (blk_cell BK265.out 2).trans rfl⟩ (fun hHeld => ?_)
          clear hK K
          refine norm_ (a' := ?_) ?_ ?_
          rotate_left
          ·show Act.put _ (some 71) _ = _
           simp only [Act.put, sA, sB, sC, i64_w, i32_w]
           rfl
          refine pure_ (i := 27) (N := some 72) (v := ?_) (a' := ?_) #[true,true,true,true,true,true,true,true,true,true,true,true,true,true,true,true,true,true,true,true,true,true,true,true,true,true,true,true,false,false,false,false,false,false,false,false,false,false,false,false] rfl rfl (any_of HT_.out (by kernel_rfl)) (fun _ _ _ h => h) (Or.inl ⟨by rfl, ?_⟩) ?_ ?_
          rotate_left
          ·intro w'
           go_simp
           with_reducible rfl
          rotate_left
          ·simp only [Act.put, sA, sB, sC, i64_w, i32_w]
           rfl
          refine pure_ (i := 28) (N := some 73) (v := ?_) (a' := ?_) #[true,true,true,true,true,true,true,true,true,true,true,true,true,true,true,true,true,true,true,true,true,true,true,true,true,true,true,true,true,false,false,false,false,false,false,false,false,false,false,false] rfl rfl (any_of HT_.out (by kernel_rfl)) (fun _ _ _ h => h) (Or.inl ⟨by rfl, ?_⟩) ?_ ?_
          rotate_left
          ·intro w'
           go_simp
           with_reducible rfl
          rotate_left
          ·simp only [Act.put, sA, sB, sC, i64_w, i32_w]
           rfl
          refine pure_ (i := 29) (N := some 74) (v := ?_) (a' := ?_) #[true,true,true,true,true,true,true,true,true,true,true,true,true,true,true,true,true,true,true,true,true,true,true,true,true,true,true,true,true,true,false,false,false,false,false,false,false,false,false,false] rfl rfl (any_of HT_.out (by kernel_rfl)) (fun _ _ _ h => h) (Or.inl ⟨by rfl, ?_⟩) ?_ ?_
          rotate_left
          ·intro w'
           go_simp
           with_reducible rfl
          rotate_left
          ·simp only [Act.put, sA, sB, sC, i64_w, i32_w]
           rfl
          refine pure_ (i := 30) (N := some 75) (v := ?_) (a' := ?_) #[true,true,true,true,true,true,true,true,true,true,true,true,true,true,true,true,true,true,true,true,true,true,true,true,true,true,true,true,true,true,true,false,false,false,false,false,false,false,false,false] rfl rfl (any_of HT_.out (by kernel_rfl)) (fun _ _ _ h => h) (Or.inl ⟨by rfl, ?_⟩) ?_ ?_
          rotate_left
          ·intro w'
           go_simp
           with_reducible rfl
          rotate_left
          ·simp only [Act.put, sA, sB, sC, i64_w, i32_w]
           rfl
          refine pure_ (i := 31) (N := some 76) (v := ?_) (a' := ?_) #[true,true,true,true,true,true,true,true,true,true,true,true,true,true,true,true,true,true,true,true,true,true,true,true,true,true,true,true,true,true,true,true,false,false,false,false,false,false,false,false] rfl rfl (any_of HT_.out (by kernel_rfl)) (fun _ _ _ h => h) (Or.inl ⟨by rfl, ?_⟩) ?_ ?_
          rotate_left
          ·intro w'
           go_simp
           with_reducible rfl
          rotate_left
          ·simp only [Act.put, sA, sB, sC, i64_w, i32_w]
           rfl
          refine pure_ (i := 32) (N := some 77) (v := ?_) (a' := ?_) #[true,true,true,true,true,true,true,true,true,true,true,true,true,true,true,true,true,true,true,true,true,true,true,true,true,true,true,true,true,true,true,true,true,false,false,false,false,false,false,false] rfl rfl (any_of HT_.out (by kernel_rfl)) (fun _ _ _ h => h) (Or.inl ⟨by rfl, ?_⟩) ?_ ?_
          rotate_left
          ·intro w'
           go_simp
           with_reducible rfl
          rotate_left
          ·simp only [Act.put, sA, sB, sC, i64_w, i32_w]
           rfl
          refine pure_ (i := 33) (N := some 78) (v := ?_) (a' := ?_) #[true,true,true,true,true,true,true,true,true,true,true,true,true,true,true,true,true,true,true,true,true,true,true,true,true,true,true,true,true,true,true,true,true,true,false,false,false,false,false,false] rfl rfl (any_of HT_.out (by kernel_rfl)) (fun _ _ _ h => h) (Or.inl ⟨by rfl, ?_⟩) ?_ ?_
          rotate_left
          ·intro w'
           go_simp
           with_reducible rfl
          rotate_left
          ·simp only [Act.put, sA, sB, sC, i64_w, i32_w]
           rfl
          refine pure_ (i := 34) (N := some 79) (v := ?_) (a' := ?_) #[true,true,true,true,true,true,true,true,true,true,true,true,true,true,true,true,true,true,true,true,true,true,true,true,true,true,true,true,true,true,true,true,true,true,true,false,false,false,false,false] rfl rfl (any_of HT_.out (by kernel_rfl)) (fun _ _ _ h => h) (Or.inl ⟨by rfl, ?_⟩) ?_ ?_
          rotate_left
          ·intro w'
           go_simp
           with_reducible rfl
          rotate_left
          ·simp only [Act.put, sA, sB, sC, i64_w, i32_w]
           rfl
          refine pure_ (i := 35) (N := some 80) (v := ?_) (a' := ?_) #[true,true,true,true,true,true,true,true,true,true,true,true,true,true,true,true,true,true,true,true,true,true,true,true,true,true,true,true,true,true,true,true,true,true,true,true,false,false,false,false] rfl rfl (any_of HT_.out (by kernel_rfl)) (fun _ _ _ h => h) (Or.inl ⟨by rfl, ?_⟩) ?_ ?_
          rotate_left
          ·intro w'
           go_simp
           with_reducible rfl
          rotate_left
          ·simp only [Act.put, sA, sB, sC, i64_w, i32_w]
           rfl
          refine pure_ (i := 36) (N := some 81) (v := ?_) (a' := ?_) #[true,true,true,true,true,true,true,true,true,true,true,true,true,true,true,true,true,true,true,true,true,true,true,true,true,true,true,true,true,true,true,true,true,true,true,true,true,false,false,false] rfl rfl (any_of HT_.out (by kernel_rfl)) (fun _ _ _ h => h) (Or.inl ⟨by rfl, ?_⟩) ?_ ?_
          rotate_left
          ·intro w'
           go_simp
           with_reducible rfl
          rotate_left
          ·simp only [Act.put, sA, sB, sC, i64_w, i32_w]
           rfl
          refine pure_ (i := 37) (N := some 82) (v := ?_) (a' := ?_) #[true,true,true,true,true,true,true,true,true,true,true,true,true,true,true,true,true,true,true,true,true,true,true,true,true,true,true,true,true,true,true,true,true,true,true,true,true,true,false,false] rfl rfl (any_of HT_.out (by kernel_rfl)) (fun _ _ _ h => h) (Or.inl ⟨by rfl, ?_⟩) ?_ ?_
          rotate_left
          ·intro w'
           go_simp
           with_reducible rfl
          rotate_left
          ·simp only [Act.put, sA, sB, sC, i64_w, i32_w]
           rfl
          refine pure_ (i := 38) (N := some 83) (v := ?_) (a' := ?_) #[true,true,true,true,true,true,true,true,true,true,true,true,true,true,true,true,true,true,true,true,true,true,true,true,true,true,true,true,true,true,true,true,true,true,true,true,true,true,true,false] rfl rfl (any_of HT_.out (by kernel_rfl)) (fun _ _ _ h => h) (Or.inl ⟨by rfl, ?_⟩) ?_ ?_
          rotate_left
          ·intro w'
           go_simp
           with_reducible rfl
          rotate_left
          ·simp only [Act.put, sA, sB, sC, i64_w, i32_w]
           rfl
          refine pure_ (i := 39) (N := some 6) (v := ?_) (a' := ?_) #[true,true,true,true,true,true,true,true,true,true,true,true,true,true,true,true,true,true,true,true,true,true,true,true,true,true,true,true,true,true,true,true,true,true,true,true,true,true,true,true] rfl rfl (any_of HT_.out (by kernel_rfl)) (fun _ _ _ h => h) (Or.inl ⟨by rfl, ?_⟩) ?_ ?_
          rotate_left
          ·intro w'
           go_simp
           with_reducible rfl
          rotate_left
          ·simp only [Act.put, sA, sB, sC, i64_w, i32_w]
           rfl
          refine done_ (done_of HT_.out (by kernel_rfl)) ?_
          try go_wp2
          go_ret
          exact ⟨by first | rfl | (simp [errW_none, errW_some] <;> rfl) | (simp [*, errW_none, errW_some] <;> rfl), by repeat (first | (with_reducible first | exact HB.out | apply below_alloc | apply pw_below_drewN | apply below_drew1 | refine below_set ?_ GE265.out | refine below_set ?_ GE271.out) | exact HB.out)⟩
        ·rw [if_neg c78] at H
         have c78b0 : (t275 == (wrap64 (t276 + 1))) = false := beq_eq_false_iff_ne.mpr c78
         have c78b1 : (t275 != (wrap64 (t276 + 1))) = true := bne_iff_ne.mpr c78
         exact absurd (Option.some.inj H) (by rw [HT.out]; decide)
      ·replace c27 := Bool.eq_false_iff.mpr c27
       subst c27
       have H1 : (some false) = some r := by rw [if_neg (show ¬ (false = true) by decide)] at H; exact H
       clear H
       have H := H1
       clear H1
       exact absurd (Option.some.inj H) (by rw [HT.out]; decide)
     ·rw [if_neg c25] at H
      have c25b0 : ((wrap64 (t266 + t267)) == 8) = false := beq_eq_false_iff_ne.mpr c25
      have c25b1 : ((wrap64 (t266 + t267)) != 8) = true := bne_iff_ne.mpr c25
      exact absurd (Option.some.inj H) (by rw [HT.out]; decide)
    ·rw [if_neg c24] at H
     have c24b0 : decide (0 < t267) = false := decide_eq_false c24
     clear c24
     exact absurd (Option.some.inj H) (by rw [HT.out]; decide)
   ·rw [if_neg c23] at H
    have c23b0 : decide (0 < t266) = false := decide_eq_false c23
    clear c23
    exact absurd (Option.some.inj H) (by rw [HT.out]; decide)
 ·replace c5 := Bool.eq_false_iff.mpr c5
  subst c5
  have H1 : (some false) = some r := by rw [if_neg (show ¬ (false = true) by decide)] at H; exact H
  clear H
  have H := H1
  clear H1
  exact absurd (Option.some.inj H) (by rw [HT.out]; decide)

/-- THE ONE PURE STATEMENT of paternosterlaw07_CarLights: yours. -/
def paternosterlaw07_CarLights.Pure : Prop := ∀ (a0 : Int) (a1 : Int) (a2 : Int), (Lit.int .u16 a0).wf = true → (Lit.int .i64 a1).wf = true → (Lit.int .i64 a2).wf = true → ∃ k, paternosterlaw07_CarLights.f k a0 a1 a2 = some true
theorem paternosterlaw07_CarLights.walk (P : paternosterlaw07_CarLights.Pure) (a0 : Int) (a1 : Int) (a2 : Int) (w : World) (w0 : (Lit.int .u16 a0).wf = true) (w1 : (Lit.int .i64 a1).wf = true) (w2 : (Lit.int .i64 a2).wf = true) :
  Calls Try.prog 11 #[.int .u16 a0, .int .i64 a1, .int .i64 a2] w fun e w' => e = .returned (.bool true) ∧ Below w.heap.size w w' := by
 obtain ⟨k, h⟩ := P a0 a1 a2 w0 w1 w2
 refine (paternosterlaw07_CarLights.calls k a0 a1 a2 true w rfl h).mono ?_
 rintro e w' ⟨rfl, hd⟩
 exact ⟨rfl, hd⟩

end Go.Proofs.Ytgoagpjmnobjhaa.Q
