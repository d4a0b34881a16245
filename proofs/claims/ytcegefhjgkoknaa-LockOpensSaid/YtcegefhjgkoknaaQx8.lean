-- Written by a program of this session (turned from the kit's print.py) out of the translation. Not trusted: Lean checks it.
import Derived.Test.YtcegefhjgkoknaaQx0
namespace Go.Proofs.Ytcegefhjgkoknaa.Q
open Go.RowKit Go.Proofs.YtcegefhjgkoknaaW.PrintWords Go.Proofs.YtcegefhjgkoknaaW.PrintLast Go.Proofs.YtcegefhjgkoknaaW.PrintMore
attribute [local go_sem] max2_int min2_int max_two min_two max_three min_three max_four min_four   -- for this text's walks alone
set_option linter.unusedVariables false
set_option linter.unusedSimpArgs false

attribute [local go_sem] fld23_0 fld23_1 fld23_2 fld25_0 fld25_1 fld27_0 fld27_1 fld27_2 fld27_3 fld37_0 fld37_1
/-! ### leaf_Leaf_Step: function 25 -/
def leafBy (what : Int) : Int := if what = 2 then -1 else if what = 1 then 1 else 0
/-- How far doors are open a tick on. -/
def leafTo (o w what : Int) (b : Bool) : Int := if what = 2 ∧ b = true then o else if w < (if wrap64 (o + leafBy what) < 0 then 0 else wrap64 (o + leafBy what)) then w else (if wrap64 (o + leafBy what) < 0 then 0 else wrap64 (o + leafBy what))
def leaf_Leaf_Step.f (a0_0 : Int) (a0_1 : Int) (a1 : Int) (a2 : Bool) : Option (Int × Int) := some (leafTo a0_0 a0_1 a1 a2, a0_1)
theorem leaf_Leaf_Step.walks (o wd what : Int) (b : Bool) (w : World) :
    Calls Try.prog 25 #[.agg #[.int .i64 o, .int .i64 wd], .int .i64 what, .bool b] w fun e w' => e = .returned (.agg #[.int .i64 (leafTo o wd what b), .int .i64 wd]) ∧ Below w.heap.size w w' := by
  have hb0 := Below.refl w.heap.size w
  by_cases h2 : what = 2
  · subst h2
    cases b
    · go_enter Try.func25, Try.ntmps25
      go_wp2
      all_goals
        refine bodyPost_ret (v := .agg #[.int .i64 (leafTo o wd 2 false), .int .i64 wd]) (by simp [results, Try.results25, go_sem, leafTo, leafBy, *]; try omega) rfl ⟨rfl, by repeat (first | exact hb0 | apply below_alloc)⟩
    · go_enter Try.func25, Try.ntmps25
      go_wp2
      refine bodyPost_ret (v := .agg #[.int .i64 (leafTo o wd 2 true), .int .i64 wd]) (by simp [results, Try.results25, go_sem, leafTo]) rfl ⟨rfl, by repeat (first | exact hb0 | apply below_alloc)⟩
  · have h2b : (what == 2) = false := beq_eq_false_iff_ne.2 h2
    by_cases h1 : what = 1
    · subst h1
      go_enter Try.func25, Try.ntmps25
      go_wp2
      all_goals
        refine bodyPost_ret (v := .agg #[.int .i64 (leafTo o wd 1 b), .int .i64 wd]) (by simp [results, Try.results25, go_sem, leafTo, leafBy, *]; try omega) rfl ⟨rfl, by repeat (first | exact hb0 | apply below_alloc)⟩
    · have h1b : (what == 1) = false := beq_eq_false_iff_ne.2 h1
      go_enter Try.func25, Try.ntmps25
      go_wp2
      all_goals
        refine bodyPost_ret (v := .agg #[.int .i64 (leafTo o wd what b), .int .i64 wd]) (by simp [results, Try.results25, go_sem, leafTo, leafBy, *]; try omega) rfl ⟨rfl, by repeat (first | exact hb0 | apply below_alloc)⟩
theorem leaf_Leaf_Step.calls (a0_0 : Int) (a0_1 : Int) (a1 : Int) (a2 : Bool) (r1 : Int) (r2 : Int) (w : World) (h : leaf_Leaf_Step.f a0_0 a0_1 a1 a2 = some (r1, r2)) :
    Calls Try.prog 25 #[.agg #[.int .i64 a0_0, .int .i64 a0_1], .int .i64 a1, .bool a2] w fun e w' => e = .returned (.agg #[.int .i64 r1, .int .i64 r2]) ∧ Below w.heap.size w w' := by
  simp only [leaf_Leaf_Step.f, Option.some.injEq, Prod.mk.injEq] at h
  obtain ⟨rfl, rfl⟩ := h
  exact leaf_Leaf_Step.walks a0_0 a0_1 a1 a2 w

end Go.Proofs.Ytcegefhjgkoknaa.Q
