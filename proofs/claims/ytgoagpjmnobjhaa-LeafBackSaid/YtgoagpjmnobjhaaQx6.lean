-- Written by a program of this session (turned from the kit's print.py) out of the translation. Not trusted: Lean checks it.
import Derived.Test.YtgoagpjmnobjhaaQx0
import Derived.Test.YtgoagpjmnobjhaaQx1
import Derived.Test.YtgoagpjmnobjhaaQx2
namespace Go.Proofs.Ytgoagpjmnobjhaa.Q
open Go.RowKit Go.Proofs.YtgoagpjmnobjhaaW.PrintWords Go.Proofs.YtgoagpjmnobjhaaW.PrintLast Go.Proofs.YtgoagpjmnobjhaaW.PrintMore
attribute [local go_sem] max2_int min2_int max_two min_two max_three min_three max_four min_four   -- for this text's walks alone
set_option linter.unusedVariables false
set_option linter.unusedSimpArgs false

attribute [local go_sem] fld24_0 fld24_1 fld37_0 fld37_1 fld37_2 fld44_0 fld44_1 fld44_2
attribute [local go_sem high] eqA24
/-! ### paternosterlaw08_LeafBack: function 6 -/
def paternosterlaw08_LeafBack.f (a0 : Int) (a1 : Int) : Option (Bool) := (paternosterlaw08_awake.f).bind fun t144 => (if t144 = true then (if (wrap64 ((wrap64 ((wrap64 (Int.tmod a1 16)) + 1)) + 1)) = 0 then (none) else ((leaf_Leaf_Step.f (Int.tmod (wrap64 (a0)) (wrap64 ((wrap64 ((wrap64 (Int.tmod a1 16)) + 1)) + 1))) (wrap64 ((wrap64 (Int.tmod a1 16)) + 1)) 1 false).bind fun bt146 => ((leaf_Leaf_Step.f bt146.1 bt146.2 2 false).bind fun bt148 => ((leaf_Leaf_Step.f (Int.tmod (wrap64 (a0)) (wrap64 ((wrap64 ((wrap64 (Int.tmod a1 16)) + 1)) + 1))) (wrap64 ((wrap64 (Int.tmod a1 16)) + 1)) 2 false).bind fun bt151 => ((leaf_Leaf_Step.f bt151.1 bt151.2 1 false).bind fun bt153 => ((leaf_Leaf_Wide.f (Int.tmod (wrap64 (a0)) (wrap64 ((wrap64 ((wrap64 (Int.tmod a1 16)) + 1)) + 1))) (wrap64 ((wrap64 (Int.tmod a1 16)) + 1))).bind fun t156 => (if ((bt148.1 == (Int.tmod (wrap64 (a0)) (wrap64 ((wrap64 ((wrap64 (Int.tmod a1 16)) + 1)) + 1))) && (bt148.2 == (wrap64 ((wrap64 (Int.tmod a1 16)) + 1)))) == (!t156)) = true then ((leaf_Leaf_Shut.f (Int.tmod (wrap64 (a0)) (wrap64 ((wrap64 ((wrap64 (Int.tmod a1 16)) + 1)) + 1))) (wrap64 ((wrap64 (Int.tmod a1 16)) + 1))).bind fun t157 => (if ((bt153.1 == (Int.tmod (wrap64 (a0)) (wrap64 ((wrap64 ((wrap64 (Int.tmod a1 16)) + 1)) + 1))) && (bt153.2 == (wrap64 ((wrap64 (Int.tmod a1 16)) + 1)))) == (!t157)) = true then ((leaf_Leaf_Step.f (Int.tmod (wrap64 (a0)) (wrap64 ((wrap64 ((wrap64 (Int.tmod a1 16)) + 1)) + 1))) (wrap64 ((wrap64 (Int.tmod a1 16)) + 1)) 0 true).bind fun bt158 => (if (bt158.1 == (Int.tmod (wrap64 (a0)) (wrap64 ((wrap64 ((wrap64 (Int.tmod a1 16)) + 1)) + 1))) && (bt158.2 == (wrap64 ((wrap64 (Int.tmod a1 16)) + 1)))) = true then ((leaf_Leaf_Step.f (Int.tmod (wrap64 (a0)) (wrap64 ((wrap64 ((wrap64 (Int.tmod a1 16)) + 1)) + 1))) (wrap64 ((wrap64 (Int.tmod a1 16)) + 1)) 2 true).bind fun bt160 => (some (bt160.1 == (Int.tmod (wrap64 (a0)) (wrap64 ((wrap64 ((wrap64 (Int.tmod a1 16)) + 1)) + 1))) && (bt160.2 == (wrap64 ((wrap64 (Int.tmod a1 16)) + 1)))))) else (some false))) else (some false))) else (some false)))))))) else (some false))
def paternosterlaw08_LeafBack.T8 : Bool × List (List Nat × List Nat) := (true, [([], []), ([], []), ([0, 1], [0, 1]), ([], []), ([3], [3]), ([4], [4]), ([2, 5], [2, 5]), ([6, 4], [6]), ([7], [7]), ([7], [7]), ([8, 9, 7], [7, 8, 9]), ([7], [7]), ([11, 7, 7], [7, 11]), ([12, 7], [7, 12]), ([10, 13, 7], [7, 10, 13]), ([7, 14], [7, 14]), ([15, 12], [15]), ([16], [16]), ([17, 16, 16], [16, 17]), ([16], [16]), ([18, 19, 16], [16, 18, 19]), ([16, 20], [16, 20]), ([21, 18], [21]), ([22], [22]), ([23, 22, 22], [22, 23]), ([22], [22]), ([24, 25, 22], [22, 24, 25]), ([22, 26], [22, 26]), ([27, 24, 0, 1, 2, 3, 4, 5, 6, 7, 8, 9, 10, 11, 12, 13, 14, 15, 16, 17, 18, 19, 20, 21, 22, 23, 24, 25, 26, 27], [27])])
def paternosterlaw08_LeafBack.B8 : List Nat := [0, 0, 3, 0, 8, 24, 63, 127, 255, 255, 1023, 255, 2303, 6399, 16383, 32767, 65535, 131071, 262143, 131071, 1048575, 2097151, 4194303, 8388607, 16777215, 8388607, 67108863, 134217727, 268435455]
theorem paternosterlaw08_LeafBack.tab8 : rtab .any (opsOf Try.f6 8) = paternosterlaw08_LeafBack.T8 := by kernel_rfl
theorem paternosterlaw08_LeafBack.bits8 : waitsOk paternosterlaw08_LeafBack.T8.2 paternosterlaw08_LeafBack.B8 = true := by kernel_rfl
set_option maxHeartbeats 8000000 in
set_option maxRecDepth 100000 in
theorem paternosterlaw08_LeafBack.calls (a0 : Int) (a1 : Int) (r : Bool) (w : World) (h : paternosterlaw08_LeafBack.f a0 a1 = some r) :
    Calls Try.prog 6 #[.int .u8 a0, .int .u8 a1] w fun e w' => e = .returned (.bool r) ∧ Below w.heap.size w w' := by
  have hu24 := Try.underlying24
  have HB := Aside0.mk (Below.refl w.heap.size w)
  have H : ((paternosterlaw08_awake.f).bind fun t144 => (if t144 = true then (if (wrap64 ((wrap64 ((wrap64 (Int.tmod a1 16)) + 1)) + 1)) = 0 then (none) else ((leaf_Leaf_Step.f (Int.tmod (wrap64 (a0)) (wrap64 ((wrap64 ((wrap64 (Int.tmod a1 16)) + 1)) + 1))) (wrap64 ((wrap64 (Int.tmod a1 16)) + 1)) 1 false).bind fun bt146 => ((leaf_Leaf_Step.f bt146.1 bt146.2 2 false).bind fun bt148 => ((leaf_Leaf_Step.f (Int.tmod (wrap64 (a0)) (wrap64 ((wrap64 ((wrap64 (Int.tmod a1 16)) + 1)) + 1))) (wrap64 ((wrap64 (Int.tmod a1 16)) + 1)) 2 false).bind fun bt151 => ((leaf_Leaf_Step.f bt151.1 bt151.2 1 false).bind fun bt153 => ((leaf_Leaf_Wide.f (Int.tmod (wrap64 (a0)) (wrap64 ((wrap64 ((wrap64 (Int.tmod a1 16)) + 1)) + 1))) (wrap64 ((wrap64 (Int.tmod a1 16)) + 1))).bind fun t156 => (if ((bt148.1 == (Int.tmod (wrap64 (a0)) (wrap64 ((wrap64 ((wrap64 (Int.tmod a1 16)) + 1)) + 1))) && (bt148.2 == (wrap64 ((wrap64 (Int.tmod a1 16)) + 1)))) == (!t156)) = true then ((leaf_Leaf_Shut.f (Int.tmod (wrap64 (a0)) (wrap64 ((wrap64 ((wrap64 (Int.tmod a1 16)) + 1)) + 1))) (wrap64 ((wrap64 (Int.tmod a1 16)) + 1))).bind fun t157 => (if ((bt153.1 == (Int.tmod (wrap64 (a0)) (wrap64 ((wrap64 ((wrap64 (Int.tmod a1 16)) + 1)) + 1))) && (bt153.2 == (wrap64 ((wrap64 (Int.tmod a1 16)) + 1)))) == (!t157)) = true then ((leaf_Leaf_Step.f (Int.tmod (wrap64 (a0)) (wrap64 ((wrap64 ((wrap64 (Int.tmod a1 16)) + 1)) + 1))) (wrap64 ((wrap64 (Int.tmod a1 16)) + 1)) 0 true).bind fun bt158 => (if (bt158.1 == (Int.tmod (wrap64 (a0)) (wrap64 ((wrap64 ((wrap64 (Int.tmod a1 16)) + 1)) + 1))) && (bt158.2 == (wrap64 ((wrap64 (Int.tmod a1 16)) + 1)))) = true then ((leaf_Leaf_Step.f (Int.tmod (wrap64 (a0)) (wrap64 ((wrap64 ((wrap64 (Int.tmod a1 16)) + 1)) + 1))) (wrap64 ((wrap64 (Int.tmod a1 16)) + 1)) 2 true).bind fun bt160 => (some (bt160.1 == (Int.tmod (wrap64 (a0)) (wrap64 ((wrap64 ((wrap64 (Int.tmod a1 16)) + 1)) + 1))) && (bt160.2 == (wrap64 ((wrap64 (Int.tmod a1 16)) + 1)))))) else (some false))) else (some false))) else (some false)))))))) else (some false))) = some r := h
  clear h
  replace H := Option.bind_eq_some_iff.mp H
  obtain ⟨t144, A30, H⟩ := H
  replace H : (if t144 = true then (if (wrap64 ((wrap64 ((wrap64 (Int.tmod a1 16)) + 1)) + 1)) = 0 then (none) else ((leaf_Leaf_Step.f (Int.tmod (wrap64 (a0)) (wrap64 ((wrap64 ((wrap64 (Int.tmod a1 16)) + 1)) + 1))) (wrap64 ((wrap64 (Int.tmod a1 16)) + 1)) 1 false).bind fun bt146 => ((leaf_Leaf_Step.f bt146.1 bt146.2 2 false).bind fun bt148 => ((leaf_Leaf_Step.f (Int.tmod (wrap64 (a0)) (wrap64 ((wrap64 ((wrap64 (Int.tmod a1 16)) + 1)) + 1))) (wrap64 ((wrap64 (Int.tmod a1 16)) + 1)) 2 false).bind fun bt151 => ((leaf_Leaf_Step.f bt151.1 bt151.2 1 false).bind fun bt153 => ((leaf_Leaf_Wide.f (Int.tmod (wrap64 (a0)) (wrap64 ((wrap64 ((wrap64 (Int.tmod a1 16)) + 1)) + 1))) (wrap64 ((wrap64 (Int.tmod a1 16)) + 1))).bind fun t156 => (if ((bt148.1 == (Int.tmod (wrap64 (a0)) (wrap64 ((wrap64 ((wrap64 (Int.tmod a1 16)) + 1)) + 1))) && (bt148.2 == (wrap64 ((wrap64 (Int.tmod a1 16)) + 1)))) == (!t156)) = true then ((leaf_Leaf_Shut.f (Int.tmod (wrap64 (a0)) (wrap64 ((wrap64 ((wrap64 (Int.tmod a1 16)) + 1)) + 1))) (wrap64 ((wrap64 (Int.tmod a1 16)) + 1))).bind fun t157 => (if ((bt153.1 == (Int.tmod (wrap64 (a0)) (wrap64 ((wrap64 ((wrap64 (Int.tmod a1 16)) + 1)) + 1))) && (bt153.2 == (wrap64 ((wrap64 (Int.tmod a1 16)) + 1)))) == (!t157)) = true then ((leaf_Leaf_Step.f (Int.tmod (wrap64 (a0)) (wrap64 ((wrap64 ((wrap64 (Int.tmod a1 16)) + 1)) + 1))) (wrap64 ((wrap64 (Int.tmod a1 16)) + 1)) 0 true).bind fun bt158 => (if (bt158.1 == (Int.tmod (wrap64 (a0)) (wrap64 ((wrap64 ((wrap64 (Int.tmod a1 16)) + 1)) + 1))) && (bt158.2 == (wrap64 ((wrap64 (Int.tmod a1 16)) + 1)))) = true then ((leaf_Leaf_Step.f (Int.tmod (wrap64 (a0)) (wrap64 ((wrap64 ((wrap64 (Int.tmod a1 16)) + 1)) + 1))) (wrap64 ((wrap64 (Int.tmod a1 16)) + 1)) 2 true).bind fun bt160 => (some (bt160.1 == (Int.tmod (wrap64 (a0)) (wrap64 ((wrap64 ((wrap64 (Int.tmod a1 16)) + 1)) + 1))) && (bt160.2 == (wrap64 ((wrap64 (Int.tmod a1 16)) + 1)))))) else (some false))) else (some false))) else (some false)))))))) else (some false)) = some r := H
  have A3 := Aside0.mk A30
  clear A30
  by_cases c4 : t144 = true
  · subst c4
    have H1 : (if (wrap64 ((wrap64 ((wrap64 (Int.tmod a1 16)) + 1)) + 1)) = 0 then (none) else ((leaf_Leaf_Step.f (Int.tmod (wrap64 (a0)) (wrap64 ((wrap64 ((wrap64 (Int.tmod a1 16)) + 1)) + 1))) (wrap64 ((wrap64 (Int.tmod a1 16)) + 1)) 1 false).bind fun bt146 => ((leaf_Leaf_Step.f bt146.1 bt146.2 2 false).bind fun bt148 => ((leaf_Leaf_Step.f (Int.tmod (wrap64 (a0)) (wrap64 ((wrap64 ((wrap64 (Int.tmod a1 16)) + 1)) + 1))) (wrap64 ((wrap64 (Int.tmod a1 16)) + 1)) 2 false).bind fun bt151 => ((leaf_Leaf_Step.f bt151.1 bt151.2 1 false).bind fun bt153 => ((leaf_Leaf_Wide.f (Int.tmod (wrap64 (a0)) (wrap64 ((wrap64 ((wrap64 (Int.tmod a1 16)) + 1)) + 1))) (wrap64 ((wrap64 (Int.tmod a1 16)) + 1))).bind fun t156 => (if ((bt148.1 == (Int.tmod (wrap64 (a0)) (wrap64 ((wrap64 ((wrap64 (Int.tmod a1 16)) + 1)) + 1))) && (bt148.2 == (wrap64 ((wrap64 (Int.tmod a1 16)) + 1)))) == (!t156)) = true then ((leaf_Leaf_Shut.f (Int.tmod (wrap64 (a0)) (wrap64 ((wrap64 ((wrap64 (Int.tmod a1 16)) + 1)) + 1))) (wrap64 ((wrap64 (Int.tmod a1 16)) + 1))).bind fun t157 => (if ((bt153.1 == (Int.tmod (wrap64 (a0)) (wrap64 ((wrap64 ((wrap64 (Int.tmod a1 16)) + 1)) + 1))) && (bt153.2 == (wrap64 ((wrap64 (Int.tmod a1 16)) + 1)))) == (!t157)) = true then ((leaf_Leaf_Step.f (Int.tmod (wrap64 (a0)) (wrap64 ((wrap64 ((wrap64 (Int.tmod a1 16)) + 1)) + 1))) (wrap64 ((wrap64 (Int.tmod a1 16)) + 1)) 0 true).bind fun bt158 => (if (bt158.1 == (Int.tmod (wrap64 (a0)) (wrap64 ((wrap64 ((wrap64 (Int.tmod a1 16)) + 1)) + 1))) && (bt158.2 == (wrap64 ((wrap64 (Int.tmod a1 16)) + 1)))) = true then ((leaf_Leaf_Step.f (Int.tmod (wrap64 (a0)) (wrap64 ((wrap64 ((wrap64 (Int.tmod a1 16)) + 1)) + 1))) (wrap64 ((wrap64 (Int.tmod a1 16)) + 1)) 2 true).bind fun bt160 => (some (bt160.1 == (Int.tmod (wrap64 (a0)) (wrap64 ((wrap64 ((wrap64 (Int.tmod a1 16)) + 1)) + 1))) && (bt160.2 == (wrap64 ((wrap64 (Int.tmod a1 16)) + 1)))))) else (some false))) else (some false))) else (some false)))))))) = some r := by rw [if_pos rfl] at H; exact H
    clear H
    have H := H1
    clear H1
    by_cases c5 : (wrap64 ((wrap64 ((wrap64 (Int.tmod a1 16)) + 1)) + 1)) = 0
    · rw [if_pos c5] at H
      exact absurd H (by simp)
    · rw [if_neg c5] at H
      have c5b0 : ((wrap64 ((wrap64 ((wrap64 (Int.tmod a1 16)) + 1)) + 1)) == 0) = false := beq_eq_false_iff_ne.mpr c5
      have c5b1 : ((wrap64 ((wrap64 ((wrap64 (Int.tmod a1 16)) + 1)) + 1)) != 0) = true := bne_iff_ne.mpr c5
      replace H := Option.bind_eq_some_iff.mp H
      obtain ⟨⟨t146, t147⟩, A60, H⟩ := H
      replace H : ((leaf_Leaf_Step.f t146 t147 2 false).bind fun bt148 => ((leaf_Leaf_Step.f (Int.tmod (wrap64 (a0)) (wrap64 ((wrap64 ((wrap64 (Int.tmod a1 16)) + 1)) + 1))) (wrap64 ((wrap64 (Int.tmod a1 16)) + 1)) 2 false).bind fun bt151 => ((leaf_Leaf_Step.f bt151.1 bt151.2 1 false).bind fun bt153 => ((leaf_Leaf_Wide.f (Int.tmod (wrap64 (a0)) (wrap64 ((wrap64 ((wrap64 (Int.tmod a1 16)) + 1)) + 1))) (wrap64 ((wrap64 (Int.tmod a1 16)) + 1))).bind fun t156 => (if ((bt148.1 == (Int.tmod (wrap64 (a0)) (wrap64 ((wrap64 ((wrap64 (Int.tmod a1 16)) + 1)) + 1))) && (bt148.2 == (wrap64 ((wrap64 (Int.tmod a1 16)) + 1)))) == (!t156)) = true then ((leaf_Leaf_Shut.f (Int.tmod (wrap64 (a0)) (wrap64 ((wrap64 ((wrap64 (Int.tmod a1 16)) + 1)) + 1))) (wrap64 ((wrap64 (Int.tmod a1 16)) + 1))).bind fun t157 => (if ((bt153.1 == (Int.tmod (wrap64 (a0)) (wrap64 ((wrap64 ((wrap64 (Int.tmod a1 16)) + 1)) + 1))) && (bt153.2 == (wrap64 ((wrap64 (Int.tmod a1 16)) + 1)))) == (!t157)) = true then ((leaf_Leaf_Step.f (Int.tmod (wrap64 (a0)) (wrap64 ((wrap64 ((wrap64 (Int.tmod a1 16)) + 1)) + 1))) (wrap64 ((wrap64 (Int.tmod a1 16)) + 1)) 0 true).bind fun bt158 => (if (bt158.1 == (Int.tmod (wrap64 (a0)) (wrap64 ((wrap64 ((wrap64 (Int.tmod a1 16)) + 1)) + 1))) && (bt158.2 == (wrap64 ((wrap64 (Int.tmod a1 16)) + 1)))) = true then ((leaf_Leaf_Step.f (Int.tmod (wrap64 (a0)) (wrap64 ((wrap64 ((wrap64 (Int.tmod a1 16)) + 1)) + 1))) (wrap64 ((wrap64 (Int.tmod a1 16)) + 1)) 2 true).bind fun bt160 => (some (bt160.1 == (Int.tmod (wrap64 (a0)) (wrap64 ((wrap64 ((wrap64 (Int.tmod a1 16)) + 1)) + 1))) && (bt160.2 == (wrap64 ((wrap64 (Int.tmod a1 16)) + 1)))))) else (some false))) else (some false))) else (some false)))))) = some r := H
      have A6 := Aside0.mk A60
      clear A60
      replace H := Option.bind_eq_some_iff.mp H
      obtain ⟨⟨t148, t149⟩, A70, H⟩ := H
      replace H : ((leaf_Leaf_Step.f (Int.tmod (wrap64 (a0)) (wrap64 ((wrap64 ((wrap64 (Int.tmod a1 16)) + 1)) + 1))) (wrap64 ((wrap64 (Int.tmod a1 16)) + 1)) 2 false).bind fun bt151 => ((leaf_Leaf_Step.f bt151.1 bt151.2 1 false).bind fun bt153 => ((leaf_Leaf_Wide.f (Int.tmod (wrap64 (a0)) (wrap64 ((wrap64 ((wrap64 (Int.tmod a1 16)) + 1)) + 1))) (wrap64 ((wrap64 (Int.tmod a1 16)) + 1))).bind fun t156 => (if ((t148 == (Int.tmod (wrap64 (a0)) (wrap64 ((wrap64 ((wrap64 (Int.tmod a1 16)) + 1)) + 1))) && (t149 == (wrap64 ((wrap64 (Int.tmod a1 16)) + 1)))) == (!t156)) = true then ((leaf_Leaf_Shut.f (Int.tmod (wrap64 (a0)) (wrap64 ((wrap64 ((wrap64 (Int.tmod a1 16)) + 1)) + 1))) (wrap64 ((wrap64 (Int.tmod a1 16)) + 1))).bind fun t157 => (if ((bt153.1 == (Int.tmod (wrap64 (a0)) (wrap64 ((wrap64 ((wrap64 (Int.tmod a1 16)) + 1)) + 1))) && (bt153.2 == (wrap64 ((wrap64 (Int.tmod a1 16)) + 1)))) == (!t157)) = true then ((leaf_Leaf_Step.f (Int.tmod (wrap64 (a0)) (wrap64 ((wrap64 ((wrap64 (Int.tmod a1 16)) + 1)) + 1))) (wrap64 ((wrap64 (Int.tmod a1 16)) + 1)) 0 true).bind fun bt158 => (if (bt158.1 == (Int.tmod (wrap64 (a0)) (wrap64 ((wrap64 ((wrap64 (Int.tmod a1 16)) + 1)) + 1))) && (bt158.2 == (wrap64 ((wrap64 (Int.tmod a1 16)) + 1)))) = true then ((leaf_Leaf_Step.f (Int.tmod (wrap64 (a0)) (wrap64 ((wrap64 ((wrap64 (Int.tmod a1 16)) + 1)) + 1))) (wrap64 ((wrap64 (Int.tmod a1 16)) + 1)) 2 true).bind fun bt160 => (some (bt160.1 == (Int.tmod (wrap64 (a0)) (wrap64 ((wrap64 ((wrap64 (Int.tmod a1 16)) + 1)) + 1))) && (bt160.2 == (wrap64 ((wrap64 (Int.tmod a1 16)) + 1)))))) else (some false))) else (some false))) else (some false))))) = some r := H
      have A7 := Aside0.mk A70
      clear A70
      replace H := Option.bind_eq_some_iff.mp H
      obtain ⟨⟨t151, t152⟩, A80, H⟩ := H
      replace H : ((leaf_Leaf_Step.f t151 t152 1 false).bind fun bt153 => ((leaf_Leaf_Wide.f (Int.tmod (wrap64 (a0)) (wrap64 ((wrap64 ((wrap64 (Int.tmod a1 16)) + 1)) + 1))) (wrap64 ((wrap64 (Int.tmod a1 16)) + 1))).bind fun t156 => (if ((t148 == (Int.tmod (wrap64 (a0)) (wrap64 ((wrap64 ((wrap64 (Int.tmod a1 16)) + 1)) + 1))) && (t149 == (wrap64 ((wrap64 (Int.tmod a1 16)) + 1)))) == (!t156)) = true then ((leaf_Leaf_Shut.f (Int.tmod (wrap64 (a0)) (wrap64 ((wrap64 ((wrap64 (Int.tmod a1 16)) + 1)) + 1))) (wrap64 ((wrap64 (Int.tmod a1 16)) + 1))).bind fun t157 => (if ((bt153.1 == (Int.tmod (wrap64 (a0)) (wrap64 ((wrap64 ((wrap64 (Int.tmod a1 16)) + 1)) + 1))) && (bt153.2 == (wrap64 ((wrap64 (Int.tmod a1 16)) + 1)))) == (!t157)) = true then ((leaf_Leaf_Step.f (Int.tmod (wrap64 (a0)) (wrap64 ((wrap64 ((wrap64 (Int.tmod a1 16)) + 1)) + 1))) (wrap64 ((wrap64 (Int.tmod a1 16)) + 1)) 0 true).bind fun bt158 => (if (bt158.1 == (Int.tmod (wrap64 (a0)) (wrap64 ((wrap64 ((wrap64 (Int.tmod a1 16)) + 1)) + 1))) && (bt158.2 == (wrap64 ((wrap64 (Int.tmod a1 16)) + 1)))) = true then ((leaf_Leaf_Step.f (Int.tmod (wrap64 (a0)) (wrap64 ((wrap64 ((wrap64 (Int.tmod a1 16)) + 1)) + 1))) (wrap64 ((wrap64 (Int.tmod a1 16)) + 1)) 2 true).bind fun bt160 => (some (bt160.1 == (Int.tmod (wrap64 (a0)) (wrap64 ((wrap64 ((wrap64 (Int.tmod a1 16)) + 1)) + 1))) && (bt160.2 == (wrap64 ((wrap64 (Int.tmod a1 16)) + 1)))))) else (some false))) else (some false))) else (some false)))) = some r := H
      have A8 := Aside0.mk A80
      clear A80
      replace H := Option.bind_eq_some_iff.mp H
      obtain ⟨⟨t153, t154⟩, A90, H⟩ := H
      replace H : ((leaf_Leaf_Wide.f (Int.tmod (wrap64 (a0)) (wrap64 ((wrap64 ((wrap64 (Int.tmod a1 16)) + 1)) + 1))) (wrap64 ((wrap64 (Int.tmod a1 16)) + 1))).bind fun t156 => (if ((t148 == (Int.tmod (wrap64 (a0)) (wrap64 ((wrap64 ((wrap64 (Int.tmod a1 16)) + 1)) + 1))) && (t149 == (wrap64 ((wrap64 (Int.tmod a1 16)) + 1)))) == (!t156)) = true then ((leaf_Leaf_Shut.f (Int.tmod (wrap64 (a0)) (wrap64 ((wrap64 ((wrap64 (Int.tmod a1 16)) + 1)) + 1))) (wrap64 ((wrap64 (Int.tmod a1 16)) + 1))).bind fun t157 => (if ((t153 == (Int.tmod (wrap64 (a0)) (wrap64 ((wrap64 ((wrap64 (Int.tmod a1 16)) + 1)) + 1))) && (t154 == (wrap64 ((wrap64 (Int.tmod a1 16)) + 1)))) == (!t157)) = true then ((leaf_Leaf_Step.f (Int.tmod (wrap64 (a0)) (wrap64 ((wrap64 ((wrap64 (Int.tmod a1 16)) + 1)) + 1))) (wrap64 ((wrap64 (Int.tmod a1 16)) + 1)) 0 true).bind fun bt158 => (if (bt158.1 == (Int.tmod (wrap64 (a0)) (wrap64 ((wrap64 ((wrap64 (Int.tmod a1 16)) + 1)) + 1))) && (bt158.2 == (wrap64 ((wrap64 (Int.tmod a1 16)) + 1)))) = true then ((leaf_Leaf_Step.f (Int.tmod (wrap64 (a0)) (wrap64 ((wrap64 ((wrap64 (Int.tmod a1 16)) + 1)) + 1))) (wrap64 ((wrap64 (Int.tmod a1 16)) + 1)) 2 true).bind fun bt160 => (some (bt160.1 == (Int.tmod (wrap64 (a0)) (wrap64 ((wrap64 ((wrap64 (Int.tmod a1 16)) + 1)) + 1))) && (bt160.2 == (wrap64 ((wrap64 (Int.tmod a1 16)) + 1)))))) else (some false))) else (some false))) else (some false))) = some r := H
      have A9 := Aside0.mk A90
      clear A90
      replace H := Option.bind_eq_some_iff.mp H
      obtain ⟨t156, A100, H⟩ := H
      replace H : (if ((t148 == (Int.tmod (wrap64 (a0)) (wrap64 ((wrap64 ((wrap64 (Int.tmod a1 16)) + 1)) + 1))) && (t149 == (wrap64 ((wrap64 (Int.tmod a1 16)) + 1)))) == (!t156)) = true then ((leaf_Leaf_Shut.f (Int.tmod (wrap64 (a0)) (wrap64 ((wrap64 ((wrap64 (Int.tmod a1 16)) + 1)) + 1))) (wrap64 ((wrap64 (Int.tmod a1 16)) + 1))).bind fun t157 => (if ((t153 == (Int.tmod (wrap64 (a0)) (wrap64 ((wrap64 ((wrap64 (Int.tmod a1 16)) + 1)) + 1))) && (t154 == (wrap64 ((wrap64 (Int.tmod a1 16)) + 1)))) == (!t157)) = true then ((leaf_Leaf_Step.f (Int.tmod (wrap64 (a0)) (wrap64 ((wrap64 ((wrap64 (Int.tmod a1 16)) + 1)) + 1))) (wrap64 ((wrap64 (Int.tmod a1 16)) + 1)) 0 true).bind fun bt158 => (if (bt158.1 == (Int.tmod (wrap64 (a0)) (wrap64 ((wrap64 ((wrap64 (Int.tmod a1 16)) + 1)) + 1))) && (bt158.2 == (wrap64 ((wrap64 (Int.tmod a1 16)) + 1)))) = true then ((leaf_Leaf_Step.f (Int.tmod (wrap64 (a0)) (wrap64 ((wrap64 ((wrap64 (Int.tmod a1 16)) + 1)) + 1))) (wrap64 ((wrap64 (Int.tmod a1 16)) + 1)) 2 true).bind fun bt160 => (some (bt160.1 == (Int.tmod (wrap64 (a0)) (wrap64 ((wrap64 ((wrap64 (Int.tmod a1 16)) + 1)) + 1))) && (bt160.2 == (wrap64 ((wrap64 (Int.tmod a1 16)) + 1)))))) else (some false))) else (some false))) else (some false)) = some r := H
      have A10 := Aside0.mk A100
      clear A100
      by_cases c11 : ((t148 == (Int.tmod (wrap64 (a0)) (wrap64 ((wrap64 ((wrap64 (Int.tmod a1 16)) + 1)) + 1))) && (t149 == (wrap64 ((wrap64 (Int.tmod a1 16)) + 1)))) == (!t156)) = true
      · rw [if_pos c11] at H
        have c11b0 : ((t148 == (Int.tmod (wrap64 (a0)) (wrap64 ((wrap64 ((wrap64 (Int.tmod a1 16)) + 1)) + 1))) && (t149 == (wrap64 ((wrap64 (Int.tmod a1 16)) + 1)))) == (!t156)) = true := c11
        (try (have c11b1 : decide ((t148 == (Int.tmod (wrap64 (a0)) (wrap64 ((wrap64 ((wrap64 (Int.tmod a1 16)) + 1)) + 1))) && (t149 == (wrap64 ((wrap64 (Int.tmod a1 16)) + 1)))) = (!t156)) = true := by simpa using c11))
        (try (have c11b2 : ((t148 == (Int.tmod (wrap64 (a0)) (wrap64 ((wrap64 ((wrap64 (Int.tmod a1 16)) + 1)) + 1))) && (t149 == (wrap64 ((wrap64 (Int.tmod a1 16)) + 1)))) == (!t156)) = true := by simpa using c11))
        clear c11
        replace H := Option.bind_eq_some_iff.mp H
        obtain ⟨t157, A120, H⟩ := H
        replace H : (if ((t153 == (Int.tmod (wrap64 (a0)) (wrap64 ((wrap64 ((wrap64 (Int.tmod a1 16)) + 1)) + 1))) && (t154 == (wrap64 ((wrap64 (Int.tmod a1 16)) + 1)))) == (!t157)) = true then ((leaf_Leaf_Step.f (Int.tmod (wrap64 (a0)) (wrap64 ((wrap64 ((wrap64 (Int.tmod a1 16)) + 1)) + 1))) (wrap64 ((wrap64 (Int.tmod a1 16)) + 1)) 0 true).bind fun bt158 => (if (bt158.1 == (Int.tmod (wrap64 (a0)) (wrap64 ((wrap64 ((wrap64 (Int.tmod a1 16)) + 1)) + 1))) && (bt158.2 == (wrap64 ((wrap64 (Int.tmod a1 16)) + 1)))) = true then ((leaf_Leaf_Step.f (Int.tmod (wrap64 (a0)) (wrap64 ((wrap64 ((wrap64 (Int.tmod a1 16)) + 1)) + 1))) (wrap64 ((wrap64 (Int.tmod a1 16)) + 1)) 2 true).bind fun bt160 => (some (bt160.1 == (Int.tmod (wrap64 (a0)) (wrap64 ((wrap64 ((wrap64 (Int.tmod a1 16)) + 1)) + 1))) && (bt160.2 == (wrap64 ((wrap64 (Int.tmod a1 16)) + 1)))))) else (some false))) else (some false)) = some r := H
        have A12 := Aside0.mk A120
        clear A120
        by_cases c13 : ((t153 == (Int.tmod (wrap64 (a0)) (wrap64 ((wrap64 ((wrap64 (Int.tmod a1 16)) + 1)) + 1))) && (t154 == (wrap64 ((wrap64 (Int.tmod a1 16)) + 1)))) == (!t157)) = true
        · rw [if_pos c13] at H
          have c13b0 : ((t153 == (Int.tmod (wrap64 (a0)) (wrap64 ((wrap64 ((wrap64 (Int.tmod a1 16)) + 1)) + 1))) && (t154 == (wrap64 ((wrap64 (Int.tmod a1 16)) + 1)))) == (!t157)) = true := c13
          (try (have c13b1 : decide ((t153 == (Int.tmod (wrap64 (a0)) (wrap64 ((wrap64 ((wrap64 (Int.tmod a1 16)) + 1)) + 1))) && (t154 == (wrap64 ((wrap64 (Int.tmod a1 16)) + 1)))) = (!t157)) = true := by simpa using c13))
          (try (have c13b2 : ((t153 == (Int.tmod (wrap64 (a0)) (wrap64 ((wrap64 ((wrap64 (Int.tmod a1 16)) + 1)) + 1))) && (t154 == (wrap64 ((wrap64 (Int.tmod a1 16)) + 1)))) == (!t157)) = true := by simpa using c13))
          clear c13
          replace H := Option.bind_eq_some_iff.mp H
          obtain ⟨⟨t158, t159⟩, A140, H⟩ := H
          replace H : (if (t158 == (Int.tmod (wrap64 (a0)) (wrap64 ((wrap64 ((wrap64 (Int.tmod a1 16)) + 1)) + 1))) && (t159 == (wrap64 ((wrap64 (Int.tmod a1 16)) + 1)))) = true then ((leaf_Leaf_Step.f (Int.tmod (wrap64 (a0)) (wrap64 ((wrap64 ((wrap64 (Int.tmod a1 16)) + 1)) + 1))) (wrap64 ((wrap64 (Int.tmod a1 16)) + 1)) 2 true).bind fun bt160 => (some (bt160.1 == (Int.tmod (wrap64 (a0)) (wrap64 ((wrap64 ((wrap64 (Int.tmod a1 16)) + 1)) + 1))) && (bt160.2 == (wrap64 ((wrap64 (Int.tmod a1 16)) + 1)))))) else (some false)) = some r := H
          have A14 := Aside0.mk A140
          clear A140
          by_cases c15 : (t158 == (Int.tmod (wrap64 (a0)) (wrap64 ((wrap64 ((wrap64 (Int.tmod a1 16)) + 1)) + 1))) && (t159 == (wrap64 ((wrap64 (Int.tmod a1 16)) + 1)))) = true
          · rw [if_pos c15] at H
            have c15b0 : (t158 == (Int.tmod (wrap64 (a0)) (wrap64 ((wrap64 ((wrap64 (Int.tmod a1 16)) + 1)) + 1))) && (t159 == (wrap64 ((wrap64 (Int.tmod a1 16)) + 1)))) = true := c15
            (try (have c15b1 : decide (t158 = (Int.tmod (wrap64 (a0)) (wrap64 ((wrap64 ((wrap64 (Int.tmod a1 16)) + 1)) + 1))) && (t159 == (wrap64 ((wrap64 (Int.tmod a1 16)) + 1)))) = true := by simpa using c15))
            (try (have c15b2 : (t158 == (Int.tmod (wrap64 (a0)) (wrap64 ((wrap64 ((wrap64 (Int.tmod a1 16)) + 1)) + 1))) && (t159 == (wrap64 ((wrap64 (Int.tmod a1 16)) + 1)))) = true := by simpa using c15))
            clear c15
            replace H := Option.bind_eq_some_iff.mp H
            obtain ⟨⟨t160, t161⟩, A160, H⟩ := H
            replace H : (some (t160 == (Int.tmod (wrap64 (a0)) (wrap64 ((wrap64 ((wrap64 (Int.tmod a1 16)) + 1)) + 1))) && (t161 == (wrap64 ((wrap64 (Int.tmod a1 16)) + 1))))) = some r := H
            have A16 := Aside0.mk A160
            clear A160
            obtain rfl := Option.some.inj H
            go_enter Try.func6, Try.ntmps6
            try go_wp2_with (first | ((with_reducible refine gate_callee (f := 12) rfl ?_); refine goesL_ (some 10) rfl rfl Try.func12 (by kernel_rfl) rfl #[] rfl (by (try simp only [List.map_toArray, List.map_cons, List.map_nil]); first | done | rfl | (simp only [List.length_drop, List.length_take]; rfl)) ?_; (with_reducible refine (paternosterlaw08_awake.calls  true _ A3.out).mono ?_); rintro e w17 ⟨rfl, hb⟩; refine ⟨_, rfl, ?_⟩; have n0_ := Aside0.mk (below_step (by repeat (first | (with_reducible first | exact HB.out | apply below_alloc | apply pw_below_drewN | apply below_drew1) | exact HB.out)) hb); clear HB; have HB := n0_; clear n0_; (try clear hb); (try clear hb2); (try clear hk); (try clear hi)) | ((with_reducible refine gate_dst (N := 7) rfl ?_); refine box_event ?hg (N := 7) ?hd (cs := #[.int .i64 0, .int .i64 0]) (t := 24) ?hr ?_; (case hd => rfl); (case hg => rfl); (case hr => first | (go_simp; done) | (go_simp; rfl)); intro gb145 hg w18 hbox hb; have n0_ := Aside0.mk (below_step (by repeat (first | (with_reducible first | exact HB.out | apply below_alloc | apply pw_below_drewN | apply below_drew1) | exact HB.out)) hb); have n1_ := Aside0.mk (hbox); have n2_ := Aside0.mk ((by rw [hg]; exact (below_size (by repeat (first | (with_reducible first | exact HB.out | apply below_alloc | apply pw_below_drewN | apply below_drew1) | exact HB.out))) : w.heap.size ≤ gb145)); have n3_ := Aside0.mk ((by rw [hg]; exact (below_size (by repeat (first | (with_reducible first | exact HB.out | apply below_alloc | apply pw_below_drewN | apply below_drew1) | exact HB.out))) : w.heap.size ≤ gb145)); clear HB; have HB := n0_; have BK145 := n1_; have GW145 := n2_; have GE145 := n3_; clear n0_ n1_ n2_ n3_; clear hb hbox hg; have hcz19_0 : w18.cell? ⟨gb145, 0, none⟩ = some (.int .i64 0) := (blk_cell BK145.out 0).trans rfl; have hcz19_1 : w18.cell? ⟨gb145, 1, none⟩ = some (.int .i64 0) := (blk_cell BK145.out 1).trans rfl; have hfz19_0 := blk_frozen BK145.out 0; have hfz19_1 := blk_frozen BK145.out 1) | ((with_reducible refine gate_callee (f := 13) rfl ?_); refine goesL_ (some 25) rfl rfl Try.func13 (by kernel_rfl) rfl #[.agg #[.int .i64 (Int.tmod (wrap64 (a0)) (wrap64 ((wrap64 ((wrap64 (Int.tmod a1 16)) + 1)) + 1))), .int .i64 (wrap64 ((wrap64 (Int.tmod a1 16)) + 1))], .int .i64 1, .bool false] rfl (by (try simp only [List.map_toArray, List.map_cons, List.map_nil]); first | done | rfl | (simp only [List.length_drop, List.length_take]; rfl)) ?_; (with_reducible refine (leaf_Leaf_Step.calls (Int.tmod (wrap64 (a0)) (wrap64 ((wrap64 ((wrap64 (Int.tmod a1 16)) + 1)) + 1))) (wrap64 ((wrap64 (Int.tmod a1 16)) + 1)) 1 false t146 t147 _ A6.out).mono ?_); rintro e w20 ⟨rfl, hb⟩; refine ⟨_, rfl, ?_⟩; have n0_ := Aside0.mk (blk_below (g := gb145) (o := .cells #[.int .i64 (Int.tmod (wrap64 (a0)) (wrap64 ((wrap64 ((wrap64 (Int.tmod a1 16)) + 1)) + 1))), .int .i64 (wrap64 ((wrap64 (Int.tmod a1 16)) + 1))] 24 (0, 0)) (by (with_reducible repeat (first | refine blk_drewN ?_ _ | refine blk_drew ?_ | refine blk_alloc ?_ _)); refine blk_put (cs := #[.int .i64 (Int.tmod (wrap64 (a0)) (wrap64 ((wrap64 ((wrap64 (Int.tmod a1 16)) + 1)) + 1))), .int .i64 0]) ?_ 1 _ rfl; (with_reducible repeat (first | refine blk_drewN ?_ _ | refine blk_drew ?_ | refine blk_alloc ?_ _)); refine blk_put (cs := #[.int .i64 0, .int .i64 0]) ?_ 0 _ rfl; (with_reducible repeat (first | refine blk_drewN ?_ _ | refine blk_drew ?_ | refine blk_alloc ?_ _)); exact BK145.out) hb); have n1_ := Aside0.mk (below_step (by repeat (first | (with_reducible first | exact HB.out | apply below_alloc | apply pw_below_drewN | apply below_drew1 | refine below_set ?_ GE145.out) | exact HB.out)) hb); clear BK145; clear HB; have BK145 := n0_; have HB := n1_; clear n0_ n1_; (try clear hb); (try clear hb2); (try clear hk); (try clear hi)) | ((with_reducible refine gate_callee (f := 13) rfl ?_); refine goesL_ (some 26) rfl rfl Try.func13 (by kernel_rfl) rfl #[.agg #[.int .i64 t146, .int .i64 t147], .int .i64 2, .bool false] rfl (by (try simp only [List.map_toArray, List.map_cons, List.map_nil]); first | done | rfl | (simp only [List.length_drop, List.length_take]; rfl)) ?_; (with_reducible refine (leaf_Leaf_Step.calls t146 t147 2 false t148 t149 _ A7.out).mono ?_); rintro e w21 ⟨rfl, hb⟩; refine ⟨_, rfl, ?_⟩; have n0_ := Aside0.mk (blk_below (g := gb145) (o := .cells #[.int .i64 (Int.tmod (wrap64 (a0)) (wrap64 ((wrap64 ((wrap64 (Int.tmod a1 16)) + 1)) + 1))), .int .i64 (wrap64 ((wrap64 (Int.tmod a1 16)) + 1))] 24 (0, 0)) (by (with_reducible repeat (first | refine blk_drewN ?_ _ | refine blk_drew ?_ | refine blk_alloc ?_ _)); exact BK145.out) hb); have n1_ := Aside0.mk (below_step (by repeat (first | (with_reducible first | exact HB.out | apply below_alloc | apply pw_below_drewN | apply below_drew1 | refine below_set ?_ GE145.out) | exact HB.out)) hb); clear BK145; clear HB; have BK145 := n0_; have HB := n1_; clear n0_ n1_; (try clear hb); (try clear hb2); (try clear hk); (try clear hi)) | ((with_reducible refine gate_dst (N := 8) rfl ?_); refine box_event ?hg (N := 8) ?hd (cs := #[.int .i64 0, .int .i64 0]) (t := 24) ?hr ?_; (case hd => rfl); (case hg => rfl); (case hr => first | (go_simp; done) | (go_simp; rfl)); intro gb150 hg w22 hbox hb; have n0_ := Aside0.mk (blk_below (g := gb145) (o := .cells #[.int .i64 (Int.tmod (wrap64 (a0)) (wrap64 ((wrap64 ((wrap64 (Int.tmod a1 16)) + 1)) + 1))), .int .i64 (wrap64 ((wrap64 (Int.tmod a1 16)) + 1))] 24 (0, 0)) (by (with_reducible repeat (first | refine blk_drewN ?_ _ | refine blk_drew ?_ | refine blk_alloc ?_ _)); exact BK145.out) hb); have n1_ := Aside0.mk (below_step (by repeat (first | (with_reducible first | exact HB.out | apply below_alloc | apply pw_below_drewN | apply below_drew1 | refine below_set ?_ GE145.out) | exact HB.out)) hb); have n2_ := Aside0.mk (hbox); have n3_ := Aside0.mk ((by rw [hg]; exact (below_size (by repeat (first | (with_reducible first | exact HB.out | apply below_alloc | apply pw_below_drewN | apply below_drew1 | refine below_set ?_ GE145.out) | exact HB.out))) : w.heap.size ≤ gb150)); have n4_ := Aside0.mk ((by rw [hg]; exact (below_size (by repeat (first | (with_reducible first | exact HB.out | apply below_alloc | apply pw_below_drewN | apply below_drew1 | refine below_set ?_ GE145.out) | exact HB.out))) : w.heap.size ≤ gb150)); have n5_ := Aside0.mk ((by rw [hg]; exact Nat.ne_of_lt (blk_lt (g := gb145) (o := .cells #[.int .i64 (Int.tmod (wrap64 (a0)) (wrap64 ((wrap64 ((wrap64 (Int.tmod a1 16)) + 1)) + 1))), .int .i64 (wrap64 ((wrap64 (Int.tmod a1 16)) + 1))] 24 (0, 0)) (by (with_reducible repeat (first | refine blk_drewN ?_ _ | refine blk_drew ?_ | refine blk_alloc ?_ _)); exact BK145.out)) : gb145 ≠ gb150)); have n6_ := Aside0.mk ((by rw [hg]; exact Nat.ne_of_gt (blk_lt (g := gb145) (o := .cells #[.int .i64 (Int.tmod (wrap64 (a0)) (wrap64 ((wrap64 ((wrap64 (Int.tmod a1 16)) + 1)) + 1))), .int .i64 (wrap64 ((wrap64 (Int.tmod a1 16)) + 1))] 24 (0, 0)) (by (with_reducible repeat (first | refine blk_drewN ?_ _ | refine blk_drew ?_ | refine blk_alloc ?_ _)); exact BK145.out)) : gb150 ≠ gb145)); clear BK145; clear HB; have BK145 := n0_; have HB := n1_; have BK150 := n2_; have GW150 := n3_; have GE150 := n4_; have NB145_150 := n5_; have NB150_145 := n6_; clear n0_ n1_ n2_ n3_ n4_ n5_ n6_; clear hb hbox hg; have hnb23 := NB150_145.out; have hnc23 := NB145_150.out; have hcz24_0 : w22.cell? ⟨gb150, 0, none⟩ = some (.int .i64 0) := (blk_cell BK150.out 0).trans rfl; have hcz24_1 : w22.cell? ⟨gb150, 1, none⟩ = some (.int .i64 0) := (blk_cell BK150.out 1).trans rfl; have hfz24_0 := blk_frozen BK150.out 0; have hfz24_1 := blk_frozen BK150.out 1; have hcz25_0 : w22.cell? ⟨gb145, 0, none⟩ = some (.int .i64 (Int.tmod (wrap64 (a0)) (wrap64 ((wrap64 ((wrap64 (Int.tmod a1 16)) + 1)) + 1)))) := (blk_cell BK145.out 0).trans rfl; have hcz25_1 : w22.cell? ⟨gb145, 1, none⟩ = some (.int .i64 (wrap64 ((wrap64 (Int.tmod a1 16)) + 1))) := (blk_cell BK145.out 1).trans rfl; have hfz25_0 := blk_frozen BK145.out 0; have hfz25_1 := blk_frozen BK145.out 1) | ((with_reducible refine gate_callee (f := 13) rfl ?_); refine goesL_ (some 28) rfl rfl Try.func13 (by kernel_rfl) rfl #[.agg #[.int .i64 (Int.tmod (wrap64 (a0)) (wrap64 ((wrap64 ((wrap64 (Int.tmod a1 16)) + 1)) + 1))), .int .i64 (wrap64 ((wrap64 (Int.tmod a1 16)) + 1))], .int .i64 2, .bool false] rfl (by (try simp only [List.map_toArray, List.map_cons, List.map_nil]); first | done | rfl | (simp only [List.length_drop, List.length_take]; rfl)) ?_; (with_reducible refine (leaf_Leaf_Step.calls (Int.tmod (wrap64 (a0)) (wrap64 ((wrap64 ((wrap64 (Int.tmod a1 16)) + 1)) + 1))) (wrap64 ((wrap64 (Int.tmod a1 16)) + 1)) 2 false t151 t152 _ A8.out).mono ?_); rintro e w26 ⟨rfl, hb⟩; refine ⟨_, rfl, ?_⟩; have n0_ := Aside0.mk (blk_below (g := gb145) (o := .cells #[.int .i64 (Int.tmod (wrap64 (a0)) (wrap64 ((wrap64 ((wrap64 (Int.tmod a1 16)) + 1)) + 1))), .int .i64 (wrap64 ((wrap64 (Int.tmod a1 16)) + 1))] 24 (0, 0)) (by (with_reducible repeat (first | refine blk_drewN ?_ _ | refine blk_drew ?_ | refine blk_alloc ?_ _)); refine blk_far ?_ NB145_150.out _; (with_reducible repeat (first | refine blk_drewN ?_ _ | refine blk_drew ?_ | refine blk_alloc ?_ _)); refine blk_far ?_ NB145_150.out _; (with_reducible repeat (first | refine blk_drewN ?_ _ | refine blk_drew ?_ | refine blk_alloc ?_ _)); exact BK145.out) hb); have n1_ := Aside0.mk (blk_below (g := gb150) (o := .cells #[.int .i64 t148, .int .i64 t149] 24 (0, 0)) (by (with_reducible repeat (first | refine blk_drewN ?_ _ | refine blk_drew ?_ | refine blk_alloc ?_ _)); refine blk_put (cs := #[.int .i64 t148, .int .i64 0]) ?_ 1 _ rfl; (with_reducible repeat (first | refine blk_drewN ?_ _ | refine blk_drew ?_ | refine blk_alloc ?_ _)); refine blk_put (cs := #[.int .i64 0, .int .i64 0]) ?_ 0 _ rfl; (with_reducible repeat (first | refine blk_drewN ?_ _ | refine blk_drew ?_ | refine blk_alloc ?_ _)); exact BK150.out) hb); have n2_ := Aside0.mk (below_step (by repeat (first | (with_reducible first | exact HB.out | apply below_alloc | apply pw_below_drewN | apply below_drew1 | refine below_set ?_ GE145.out | refine below_set ?_ GE150.out) | exact HB.out)) hb); clear BK145; clear BK150; clear HB; have BK145 := n0_; have BK150 := n1_; have HB := n2_; clear n0_ n1_ n2_; (try clear hb); (try clear hb2); (try clear hk); (try clear hi)) | ((with_reducible refine gate_callee (f := 13) rfl ?_); refine goesL_ (some 29) rfl rfl Try.func13 (by kernel_rfl) rfl #[.agg #[.int .i64 t151, .int .i64 t152], .int .i64 1, .bool false] rfl (by (try simp only [List.map_toArray, List.map_cons, List.map_nil]); first | done | rfl | (simp only [List.length_drop, List.length_take]; rfl)) ?_; (with_reducible refine (leaf_Leaf_Step.calls t151 t152 1 false t153 t154 _ A9.out).mono ?_); rintro e w27 ⟨rfl, hb⟩; refine ⟨_, rfl, ?_⟩; have n0_ := Aside0.mk (blk_below (g := gb145) (o := .cells #[.int .i64 (Int.tmod (wrap64 (a0)) (wrap64 ((wrap64 ((wrap64 (Int.tmod a1 16)) + 1)) + 1))), .int .i64 (wrap64 ((wrap64 (Int.tmod a1 16)) + 1))] 24 (0, 0)) (by (with_reducible repeat (first | refine blk_drewN ?_ _ | refine blk_drew ?_ | refine blk_alloc ?_ _)); exact BK145.out) hb); have n1_ := Aside0.mk (blk_below (g := gb150) (o := .cells #[.int .i64 t148, .int .i64 t149] 24 (0, 0)) (by (with_reducible repeat (first | refine blk_drewN ?_ _ | refine blk_drew ?_ | refine blk_alloc ?_ _)); exact BK150.out) hb); have n2_ := Aside0.mk (below_step (by repeat (first | (with_reducible first | exact HB.out | apply below_alloc | apply pw_below_drewN | apply below_drew1 | refine below_set ?_ GE145.out | refine below_set ?_ GE150.out) | exact HB.out)) hb); clear BK145; clear BK150; clear HB; have BK145 := n0_; have BK150 := n1_; have HB := n2_; clear n0_ n1_ n2_; (try clear hb); (try clear hb2); (try clear hk); (try clear hi)) | ((with_reducible refine gate_dst (N := 9) rfl ?_); refine box_event ?hg (N := 9) ?hd (cs := #[.int .i64 0, .int .i64 0]) (t := 24) ?hr ?_; (case hd => rfl); (case hg => rfl); (case hr => first | (go_simp; done) | (go_simp; rfl)); intro gb155 hg w28 hbox hb; have n0_ := Aside0.mk (blk_below (g := gb145) (o := .cells #[.int .i64 (Int.tmod (wrap64 (a0)) (wrap64 ((wrap64 ((wrap64 (Int.tmod a1 16)) + 1)) + 1))), .int .i64 (wrap64 ((wrap64 (Int.tmod a1 16)) + 1))] 24 (0, 0)) (by (with_reducible repeat (first | refine blk_drewN ?_ _ | refine blk_drew ?_ | refine blk_alloc ?_ _)); exact BK145.out) hb); have n1_ := Aside0.mk (blk_below (g := gb150) (o := .cells #[.int .i64 t148, .int .i64 t149] 24 (0, 0)) (by (with_reducible repeat (first | refine blk_drewN ?_ _ | refine blk_drew ?_ | refine blk_alloc ?_ _)); exact BK150.out) hb); have n2_ := Aside0.mk (below_step (by repeat (first | (with_reducible first | exact HB.out | apply below_alloc | apply pw_below_drewN | apply below_drew1 | refine below_set ?_ GE145.out | refine below_set ?_ GE150.out) | exact HB.out)) hb); have n3_ := Aside0.mk (hbox); have n4_ := Aside0.mk ((by rw [hg]; exact (below_size (by repeat (first | (with_reducible first | exact HB.out | apply below_alloc | apply pw_below_drewN | apply below_drew1 | refine below_set ?_ GE145.out | refine below_set ?_ GE150.out) | exact HB.out))) : w.heap.size ≤ gb155)); have n5_ := Aside0.mk ((by rw [hg]; exact (below_size (by repeat (first | (with_reducible first | exact HB.out | apply below_alloc | apply pw_below_drewN | apply below_drew1 | refine below_set ?_ GE145.out | refine below_set ?_ GE150.out) | exact HB.out))) : w.heap.size ≤ gb155)); have n6_ := Aside0.mk ((by rw [hg]; exact Nat.ne_of_lt (blk_lt (g := gb145) (o := .cells #[.int .i64 (Int.tmod (wrap64 (a0)) (wrap64 ((wrap64 ((wrap64 (Int.tmod a1 16)) + 1)) + 1))), .int .i64 (wrap64 ((wrap64 (Int.tmod a1 16)) + 1))] 24 (0, 0)) (by (with_reducible repeat (first | refine blk_drewN ?_ _ | refine blk_drew ?_ | refine blk_alloc ?_ _)); exact BK145.out)) : gb145 ≠ gb155)); have n7_ := Aside0.mk ((by rw [hg]; exact Nat.ne_of_gt (blk_lt (g := gb145) (o := .cells #[.int .i64 (Int.tmod (wrap64 (a0)) (wrap64 ((wrap64 ((wrap64 (Int.tmod a1 16)) + 1)) + 1))), .int .i64 (wrap64 ((wrap64 (Int.tmod a1 16)) + 1))] 24 (0, 0)) (by (with_reducible repeat (first | refine blk_drewN ?_ _ | refine blk_drew ?_ | refine blk_alloc ?_ _)); exact BK145.out)) : gb155 ≠ gb145)); have n8_ := Aside0.mk ((by rw [hg]; exact Nat.ne_of_lt (blk_lt (g := gb150) (o := .cells #[.int .i64 t148, .int .i64 t149] 24 (0, 0)) (by (with_reducible repeat (first | refine blk_drewN ?_ _ | refine blk_drew ?_ | refine blk_alloc ?_ _)); exact BK150.out)) : gb150 ≠ gb155)); have n9_ := Aside0.mk ((by rw [hg]; exact Nat.ne_of_gt (blk_lt (g := gb150) (o := .cells #[.int .i64 t148, .int .i64 t149] 24 (0, 0)) (by (with_reducible repeat (first | refine blk_drewN ?_ _ | refine blk_drew ?_ | refine blk_alloc ?_ _)); exact BK150.out)) : gb155 ≠ gb150)); clear BK145; clear BK150; clear HB; have BK145 := n0_; have BK150 := n1_; have HB := n2_; have BK155 := n3_; have GW155 := n4_; have GE155 := n5_; have NB145_155 := n6_; have NB155_145 := n7_; have NB150_155 := n8_; have NB155_150 := n9_; clear n0_ n1_ n2_ n3_ n4_ n5_ n6_ n7_ n8_ n9_; clear hb hbox hg; have hnb29 := NB155_145.out; have hnc29 := NB145_155.out; have hnb30 := NB155_150.out; have hnc30 := NB150_155.out; have hcz31_0 : w28.cell? ⟨gb155, 0, none⟩ = some (.int .i64 0) := (blk_cell BK155.out 0).trans rfl; have hcz31_1 : w28.cell? ⟨gb155, 1, none⟩ = some (.int .i64 0) := (blk_cell BK155.out 1).trans rfl; have hfz31_0 := blk_frozen BK155.out 0; have hfz31_1 := blk_frozen BK155.out 1))
            have n0_ : Aside0 (((w28.setCell ⟨gb155, 0, none⟩ (.int .i64 t153)).setCell ⟨gb155, 1, none⟩ (.int .i64 t154)).heap[gb145]? = some (.cells #[.int .i64 (Int.tmod (wrap64 (a0)) (wrap64 ((wrap64 ((wrap64 (Int.tmod a1 16)) + 1)) + 1))), .int .i64 (wrap64 ((wrap64 (Int.tmod a1 16)) + 1))] 24 (0, 0))) := ⟨by (with_reducible repeat (first | refine blk_drewN ?_ _ | refine blk_drew ?_ | refine blk_alloc ?_ _)); refine blk_far ?_ NB145_155.out _; (with_reducible repeat (first | refine blk_drewN ?_ _ | refine blk_drew ?_ | refine blk_alloc ?_ _)); refine blk_far ?_ NB145_155.out _; (with_reducible repeat (first | refine blk_drewN ?_ _ | refine blk_drew ?_ | refine blk_alloc ?_ _)); exact BK145.out⟩
            have n1_ : Aside0 (((w28.setCell ⟨gb155, 0, none⟩ (.int .i64 t153)).setCell ⟨gb155, 1, none⟩ (.int .i64 t154)).heap[gb150]? = some (.cells #[.int .i64 t148, .int .i64 t149] 24 (0, 0))) := ⟨by (with_reducible repeat (first | refine blk_drewN ?_ _ | refine blk_drew ?_ | refine blk_alloc ?_ _)); refine blk_far ?_ NB150_155.out _; (with_reducible repeat (first | refine blk_drewN ?_ _ | refine blk_drew ?_ | refine blk_alloc ?_ _)); refine blk_far ?_ NB150_155.out _; (with_reducible repeat (first | refine blk_drewN ?_ _ | refine blk_drew ?_ | refine blk_alloc ?_ _)); exact BK150.out⟩
            have n2_ : Aside0 (((w28.setCell ⟨gb155, 0, none⟩ (.int .i64 t153)).setCell ⟨gb155, 1, none⟩ (.int .i64 t154)).heap[gb155]? = some (.cells #[.int .i64 t153, .int .i64 t154] 24 (0, 0))) := ⟨by (with_reducible repeat (first | refine blk_drewN ?_ _ | refine blk_drew ?_ | refine blk_alloc ?_ _)); refine blk_put (cs := #[.int .i64 t153, .int .i64 0]) ?_ 1 _ rfl; (with_reducible repeat (first | refine blk_drewN ?_ _ | refine blk_drew ?_ | refine blk_alloc ?_ _)); refine blk_put (cs := #[.int .i64 0, .int .i64 0]) ?_ 0 _ rfl; (with_reducible repeat (first | refine blk_drewN ?_ _ | refine blk_drew ?_ | refine blk_alloc ?_ _)); exact BK155.out⟩
            have n3_ : Aside0 (Below w.heap.size w ((w28.setCell ⟨gb155, 0, none⟩ (.int .i64 t153)).setCell ⟨gb155, 1, none⟩ (.int .i64 t154))) := ⟨by repeat (first | (with_reducible first | exact HB.out | apply below_alloc | apply pw_below_drewN | apply below_drew1 | refine below_set ?_ GE145.out | refine below_set ?_ GE150.out | refine below_set ?_ GE155.out) | exact HB.out)⟩
            (try clear BK145)
            (try clear BK150)
            (try clear BK155)
            (try clear HB)
            generalize ((w28.setCell ⟨gb155, 0, none⟩ (.int .i64 t153)).setCell ⟨gb155, 1, none⟩ (.int .i64 t154)) = w32 at n0_ n1_ n2_ n3_ ⊢
            have BK145 := n0_
            have BK150 := n1_
            have BK155 := n2_
            have HB := n3_
            clear n0_ n1_ n2_ n3_
            have n0_ := Aside0.mk (blk_drew BK145.out)
            have n1_ := Aside0.mk (blk_drew BK150.out)
            have n2_ := Aside0.mk (blk_drew BK155.out)
            have n3_ := Aside0.mk (below_drew1 HB.out)
            clear BK145
            clear BK150
            clear BK155
            clear HB
            have BK145 := n0_
            have BK150 := n1_
            have BK155 := n2_
            have HB := n3_
            clear n0_ n1_ n2_ n3_
            refine start_ (n := 29) (S := fun w' => w'.cell? ⟨gb150, 0, none⟩ = some (.int .i64 t148) ∧ w'.cell? ⟨gb150, 1, none⟩ = some (.int .i64 t149) ∧ w'.cell? ⟨gb145, 0, none⟩ = some (.int .i64 (Int.tmod (wrap64 (a0)) (wrap64 ((wrap64 ((wrap64 (Int.tmod a1 16)) + 1)) + 1)))) ∧ w'.cell? ⟨gb145, 1, none⟩ = some (.int .i64 (wrap64 ((wrap64 (Int.tmod a1 16)) + 1))) ∧ w'.cell? ⟨gb155, 0, none⟩ = some (.int .i64 t153) ∧ w'.cell? ⟨gb155, 1, none⟩ = some (.int .i64 t154)) (ds := []) #[false, false, false, false, false, false, false, false, false, false, false, false, false, false, false, false, false, false, false, false, false, false, false, false, false, false, false, false, false] (by kernel_rfl) rfl rfl ⟨(blk_cell BK150.out 0).trans rfl, (blk_cell BK150.out 1).trans rfl, (blk_cell BK145.out 0).trans rfl, (blk_cell BK145.out 1).trans rfl, (blk_cell BK155.out 0).trans rfl, (blk_cell BK155.out 1).trans rfl⟩ (fun hHeld => ?_); refine with_tabW paternosterlaw08_LeafBack.tab8 paternosterlaw08_LeafBack.bits8 (fun HT_ HW_ => ?_)
            generalize w32.drew = w33 at BK145 BK150 BK155 HB hHeld ⊢
            refine take_ (i := 0) (N := some 30) (v := ?_) (a' := ?_) #[true, false, false, false, false, false, false, false, false, false, false, false, false, false, false, false, false, false, false, false, false, false, false, false, false, false, false, false, false] rfl rfl (take_ofW HT_.out HW_.out (by kernel_rfl)) (fun _ _ _ h => h) (Or.inl ⟨by rfl, ?_⟩) hHeld ?_ ?_
            rotate_left
            · rintro w' ⟨s0, s1, s2, s3, s4, s5⟩
              go_simp
              with_reducible rfl
            rotate_left
            · simp only [Act.put, List.setIfInBounds_toArray, List.set_cons_zero, List.set_cons_succ, i64_w, i32_w]
              rfl
            refine take_ (i := 1) (N := some 31) (v := ?_) (a' := ?_) #[true, true, false, false, false, false, false, false, false, false, false, false, false, false, false, false, false, false, false, false, false, false, false, false, false, false, false, false, false] rfl rfl (take_ofW HT_.out HW_.out (by kernel_rfl)) (fun _ _ _ h => h) (Or.inl ⟨by rfl, ?_⟩) hHeld ?_ ?_
            rotate_left
            · rintro w' ⟨s0, s1, s2, s3, s4, s5⟩
              go_simp
              with_reducible rfl
            rotate_left
            · simp only [Act.put, List.setIfInBounds_toArray, List.set_cons_zero, List.set_cons_succ, i64_w, i32_w]
              rfl
            refine pure_ (i := 2) (N := some 32) (v := ?_) (a' := ?_) #[true, true, true, false, false, false, false, false, false, false, false, false, false, false, false, false, false, false, false, false, false, false, false, false, false, false, false, false, false] rfl rfl (any_of HT_.out (by kernel_rfl)) (fun _ _ _ h => h) (Or.inl ⟨by rfl, ?_⟩) ?_ ?_
            rotate_left
            · intro w'
              go_simp
              with_reducible rfl
            rotate_left
            · simp only [Act.put, List.setIfInBounds_toArray, List.set_cons_zero, List.set_cons_succ, i64_w, i32_w]
              rfl
            refine take_ (i := 3) (N := some 33) (v := ?_) (a' := ?_) #[true, true, true, true, false, false, false, false, false, false, false, false, false, false, false, false, false, false, false, false, false, false, false, false, false, false, false, false, false] rfl rfl (take_ofW HT_.out HW_.out (by kernel_rfl)) (fun _ _ _ h => h) (Or.inl ⟨by rfl, ?_⟩) hHeld ?_ ?_
            rotate_left
            · rintro w' ⟨s0, s1, s2, s3, s4, s5⟩
              go_simp
              with_reducible rfl
            rotate_left
            · simp only [Act.put, List.setIfInBounds_toArray, List.set_cons_zero, List.set_cons_succ, i64_w, i32_w]
              rfl
            refine one_ (i := 4) (N := some 34) #[true, true, true, true, true, false, false, false, false, false, false, false, false, false, false, false, false, false, false, false, false, false, false, false, false, false, false, false, false] rfl rfl (one_of HT_.out (by kernel_rfl)) (by decide) (fun K hK => ?_)
            refine goes_ Try.func16 (by kernel_rfl) rfl #[.agg #[.int .i64 (Int.tmod (wrap64 (a0)) (wrap64 ((wrap64 ((wrap64 (Int.tmod a1 16)) + 1)) + 1))), .int .i64 (wrap64 ((wrap64 (Int.tmod a1 16)) + 1))]] (by rfl) rfl rfl (by (try simp only [List.map_toArray, List.map_cons, List.map_nil]); first | done | rfl | (simp only [List.length_drop, List.length_take]; rfl)) ?_
            with_reducible refine (leaf_Leaf_Wide.calls (Int.tmod (wrap64 (a0)) (wrap64 ((wrap64 ((wrap64 (Int.tmod a1 16)) + 1)) + 1))) (wrap64 ((wrap64 (Int.tmod a1 16)) + 1)) t156 _ A10.out).mono ?_
            rintro e w34 ⟨rfl, hb⟩
            refine ⟨_, rfl, ?_⟩
            have n0_ := Aside0.mk (blk_below (g := gb145) (o := .cells #[.int .i64 (Int.tmod (wrap64 (a0)) (wrap64 ((wrap64 ((wrap64 (Int.tmod a1 16)) + 1)) + 1))), .int .i64 (wrap64 ((wrap64 (Int.tmod a1 16)) + 1))] 24 (0, 0)) (by (with_reducible repeat (first | refine blk_drewN ?_ _ | refine blk_drew ?_ | refine blk_alloc ?_ _)); exact BK145.out) hb)
            have n1_ := Aside0.mk (blk_below (g := gb150) (o := .cells #[.int .i64 t148, .int .i64 t149] 24 (0, 0)) (by (with_reducible repeat (first | refine blk_drewN ?_ _ | refine blk_drew ?_ | refine blk_alloc ?_ _)); exact BK150.out) hb)
            have n2_ := Aside0.mk (blk_below (g := gb155) (o := .cells #[.int .i64 t153, .int .i64 t154] 24 (0, 0)) (by (with_reducible repeat (first | refine blk_drewN ?_ _ | refine blk_drew ?_ | refine blk_alloc ?_ _)); exact BK155.out) hb)
            have n3_ := Aside0.mk (below_step (by repeat (first | (with_reducible first | exact HB.out | apply below_alloc | apply pw_below_drewN | apply below_drew1 | refine below_set ?_ GE145.out | refine below_set ?_ GE150.out | refine below_set ?_ GE155.out) | exact HB.out)) hb)
            clear BK145
            clear BK150
            clear BK155
            clear HB
            have BK145 := n0_
            have BK150 := n1_
            have BK155 := n2_
            have HB := n3_
            clear n0_ n1_ n2_ n3_
            (try clear hb)
            (try clear hb2)
            (try clear hk)
            (try clear hi)
            refine hK.out _ _ ⟨(blk_cell BK150.out 0).trans rfl, (blk_cell BK150.out 1).trans rfl, (blk_cell BK145.out 0).trans rfl, (blk_cell BK145.out 1).trans rfl, (blk_cell BK155.out 0).trans rfl, (blk_cell BK155.out 1).trans rfl⟩ (fun hHeld => ?_)
            clear hK K
            refine norm_ (a' := ?_) ?_ ?_
            rotate_left
            · show Act.put _ (some 34) _ = _
              simp only [Act.put, List.setIfInBounds_toArray, List.set_cons_zero, List.set_cons_succ, i64_w, i32_w]
              rfl
            refine pure_ (i := 5) (N := some 35) (v := ?_) (a' := ?_) #[true, true, true, true, true, true, false, false, false, false, false, false, false, false, false, false, false, false, false, false, false, false, false, false, false, false, false, false, false] rfl rfl (any_of HT_.out (by kernel_rfl)) (fun _ _ _ h => h) (Or.inl ⟨by rfl, ?_⟩) ?_ ?_
            rotate_left
            · intro w'
              go_simp
              with_reducible rfl
            rotate_left
            · simp only [Act.put, List.setIfInBounds_toArray, List.set_cons_zero, List.set_cons_succ, i64_w, i32_w]
              rfl
            refine pure_ (i := 6) (N := some 36) (v := ?_) (a' := ?_) #[true, true, true, true, true, true, true, false, false, false, false, false, false, false, false, false, false, false, false, false, false, false, false, false, false, false, false, false, false] rfl rfl (any_of HT_.out (by kernel_rfl)) (fun _ _ _ h => h) (Or.inl ⟨by rfl, ?_⟩) ?_ ?_
            rotate_left
            · intro w'
              go_simp
              with_reducible rfl
            rotate_left
            · simp only [Act.put, List.setIfInBounds_toArray, List.set_cons_zero, List.set_cons_succ, i64_w, i32_w]
              rfl
            refine pure_ (i := 7) (N := some 37) (v := ?_) (a' := ?_) #[true, true, true, true, true, true, true, true, false, false, false, false, false, false, false, false, false, false, false, false, false, false, false, false, false, false, false, false, false] rfl rfl (any_of HT_.out (by kernel_rfl)) (fun _ _ _ h => h) (Or.inl ⟨by rfl, ?_⟩) ?_ ?_
            rotate_left
            · intro w'
              go_simp
              with_reducible rfl
            rotate_left
            · simp only [Act.put, List.setIfInBounds_toArray, List.set_cons_zero, List.set_cons_succ, i64_w, i32_w]
              rfl
            refine take_ (i := 8) (N := some 38) (v := ?_) (a' := ?_) #[true, true, true, true, true, true, true, true, true, false, false, false, false, false, false, false, false, false, false, false, false, false, false, false, false, false, false, false, false] rfl rfl (take_ofW HT_.out HW_.out (by kernel_rfl)) (fun _ _ _ h => h) (Or.inl ⟨by rfl, ?_⟩) hHeld ?_ ?_
            rotate_left
            · rintro w' ⟨s0, s1, s2, s3, s4, s5⟩
              go_simp
              with_reducible rfl
            rotate_left
            · simp only [Act.put, List.setIfInBounds_toArray, List.set_cons_zero, List.set_cons_succ, i64_w, i32_w]
              rfl
            refine take_ (i := 9) (N := some 39) (v := ?_) (a' := ?_) #[true, true, true, true, true, true, true, true, true, true, false, false, false, false, false, false, false, false, false, false, false, false, false, false, false, false, false, false, false] rfl rfl (take_ofW HT_.out HW_.out (by kernel_rfl)) (fun _ _ _ h => h) (Or.inl ⟨by rfl, ?_⟩) hHeld ?_ ?_
            rotate_left
            · rintro w' ⟨s0, s1, s2, s3, s4, s5⟩
              go_simp
              with_reducible rfl
            rotate_left
            · simp only [Act.put, List.setIfInBounds_toArray, List.set_cons_zero, List.set_cons_succ, i64_w, i32_w]
              rfl
            refine pure_ (i := 10) (N := some 40) (v := ?_) (a' := ?_) #[true, true, true, true, true, true, true, true, true, true, true, false, false, false, false, false, false, false, false, false, false, false, false, false, false, false, false, false, false] rfl rfl (any_of HT_.out (by kernel_rfl)) (fun _ _ _ h => h) (Or.inl ⟨by rfl, ?_⟩) ?_ ?_
            rotate_left
            · intro w'
              go_simp
              with_reducible rfl
            rotate_left
            · simp only [Act.put, List.setIfInBounds_toArray, List.set_cons_zero, List.set_cons_succ, i64_w, i32_w]
              rfl
            refine take_ (i := 11) (N := some 41) (v := ?_) (a' := ?_) #[true, true, true, true, true, true, true, true, true, true, true, true, false, false, false, false, false, false, false, false, false, false, false, false, false, false, false, false, false] rfl rfl (take_ofW HT_.out HW_.out (by kernel_rfl)) (fun _ _ _ h => h) (Or.inl ⟨by rfl, ?_⟩) hHeld ?_ ?_
            rotate_left
            · rintro w' ⟨s0, s1, s2, s3, s4, s5⟩
              go_simp
              with_reducible rfl
            rotate_left
            · simp only [Act.put, List.setIfInBounds_toArray, List.set_cons_zero, List.set_cons_succ, i64_w, i32_w]
              rfl
            refine one_ (i := 12) (N := some 42) #[true, true, true, true, true, true, true, true, true, true, true, true, true, false, false, false, false, false, false, false, false, false, false, false, false, false, false, false, false] rfl rfl (one_of HT_.out (by kernel_rfl)) (by decide) (fun K hK => ?_)
            refine goes_ Try.func15 (by kernel_rfl) rfl #[.agg #[.int .i64 (Int.tmod (wrap64 (a0)) (wrap64 ((wrap64 ((wrap64 (Int.tmod a1 16)) + 1)) + 1))), .int .i64 (wrap64 ((wrap64 (Int.tmod a1 16)) + 1))]] (by rfl) rfl rfl (by (try simp only [List.map_toArray, List.map_cons, List.map_nil]); first | done | rfl | (simp only [List.length_drop, List.length_take]; rfl)) ?_
            with_reducible refine (leaf_Leaf_Shut.calls (Int.tmod (wrap64 (a0)) (wrap64 ((wrap64 ((wrap64 (Int.tmod a1 16)) + 1)) + 1))) (wrap64 ((wrap64 (Int.tmod a1 16)) + 1)) t157 _ A12.out).mono ?_
            rintro e w35 ⟨rfl, hb⟩
            refine ⟨_, rfl, ?_⟩
            have n0_ := Aside0.mk (blk_below (g := gb145) (o := .cells #[.int .i64 (Int.tmod (wrap64 (a0)) (wrap64 ((wrap64 ((wrap64 (Int.tmod a1 16)) + 1)) + 1))), .int .i64 (wrap64 ((wrap64 (Int.tmod a1 16)) + 1))] 24 (0, 0)) (by (with_reducible repeat (first | refine blk_drewN ?_ _ | refine blk_drew ?_ | refine blk_alloc ?_ _)); exact BK145.out) hb)
            have n1_ := Aside0.mk (blk_below (g := gb150) (o := .cells #[.int .i64 t148, .int .i64 t149] 24 (0, 0)) (by (with_reducible repeat (first | refine blk_drewN ?_ _ | refine blk_drew ?_ | refine blk_alloc ?_ _)); exact BK150.out) hb)
            have n2_ := Aside0.mk (blk_below (g := gb155) (o := .cells #[.int .i64 t153, .int .i64 t154] 24 (0, 0)) (by (with_reducible repeat (first | refine blk_drewN ?_ _ | refine blk_drew ?_ | refine blk_alloc ?_ _)); exact BK155.out) hb)
            have n3_ := Aside0.mk (below_step (by repeat (first | (with_reducible first | exact HB.out | apply below_alloc | apply pw_below_drewN | apply below_drew1 | refine below_set ?_ GE145.out | refine below_set ?_ GE150.out | refine below_set ?_ GE155.out) | exact HB.out)) hb)
            clear BK145
            clear BK150
            clear BK155
            clear HB
            have BK145 := n0_
            have BK150 := n1_
            have BK155 := n2_
            have HB := n3_
            clear n0_ n1_ n2_ n3_
            (try clear hb)
            (try clear hb2)
            (try clear hk)
            (try clear hi)
            refine hK.out _ _ ⟨(blk_cell BK150.out 0).trans rfl, (blk_cell BK150.out 1).trans rfl, (blk_cell BK145.out 0).trans rfl, (blk_cell BK145.out 1).trans rfl, (blk_cell BK155.out 0).trans rfl, (blk_cell BK155.out 1).trans rfl⟩ (fun hHeld => ?_)
            clear hK K
            refine norm_ (a' := ?_) ?_ ?_
            rotate_left
            · show Act.put _ (some 42) _ = _
              simp only [Act.put, List.setIfInBounds_toArray, List.set_cons_zero, List.set_cons_succ, i64_w, i32_w]
              rfl
            refine pure_ (i := 13) (N := some 43) (v := ?_) (a' := ?_) #[true, true, true, true, true, true, true, true, true, true, true, true, true, true, false, false, false, false, false, false, false, false, false, false, false, false, false, false, false] rfl rfl (any_of HT_.out (by kernel_rfl)) (fun _ _ _ h => h) (Or.inl ⟨by rfl, ?_⟩) ?_ ?_
            rotate_left
            · intro w'
              go_simp
              with_reducible rfl
            rotate_left
            · simp only [Act.put, List.setIfInBounds_toArray, List.set_cons_zero, List.set_cons_succ, i64_w, i32_w]
              rfl
            refine pure_ (i := 14) (N := some 44) (v := ?_) (a' := ?_) #[true, true, true, true, true, true, true, true, true, true, true, true, true, true, true, false, false, false, false, false, false, false, false, false, false, false, false, false, false] rfl rfl (any_of HT_.out (by kernel_rfl)) (fun _ _ _ h => h) (Or.inl ⟨by rfl, ?_⟩) ?_ ?_
            rotate_left
            · intro w'
              go_simp
              with_reducible rfl
            rotate_left
            · simp only [Act.put, List.setIfInBounds_toArray, List.set_cons_zero, List.set_cons_succ, i64_w, i32_w]
              rfl
            refine pure_ (i := 15) (N := some 45) (v := ?_) (a' := ?_) #[true, true, true, true, true, true, true, true, true, true, true, true, true, true, true, true, false, false, false, false, false, false, false, false, false, false, false, false, false] rfl rfl (any_of HT_.out (by kernel_rfl)) (fun _ _ _ h => h) (Or.inl ⟨by rfl, ?_⟩) ?_ ?_
            rotate_left
            · intro w'
              go_simp
              with_reducible rfl
            rotate_left
            · simp only [Act.put, List.setIfInBounds_toArray, List.set_cons_zero, List.set_cons_succ, i64_w, i32_w]
              rfl
            refine pure_ (i := 16) (N := some 46) (v := ?_) (a' := ?_) #[true, true, true, true, true, true, true, true, true, true, true, true, true, true, true, true, true, false, false, false, false, false, false, false, false, false, false, false, false] rfl rfl (any_of HT_.out (by kernel_rfl)) (fun _ _ _ h => h) (Or.inl ⟨by rfl, ?_⟩) ?_ ?_
            rotate_left
            · intro w'
              go_simp
              with_reducible rfl
            rotate_left
            · simp only [Act.put, List.setIfInBounds_toArray, List.set_cons_zero, List.set_cons_succ, i64_w, i32_w]
              rfl
            refine take_ (i := 17) (N := some 47) (v := ?_) (a' := ?_) #[true, true, true, true, true, true, true, true, true, true, true, true, true, true, true, true, true, true, false, false, false, false, false, false, false, false, false, false, false] rfl rfl (take_ofW HT_.out HW_.out (by kernel_rfl)) (fun _ _ _ h => h) (Or.inl ⟨by rfl, ?_⟩) hHeld ?_ ?_
            rotate_left
            · rintro w' ⟨s0, s1, s2, s3, s4, s5⟩
              go_simp
              with_reducible rfl
            rotate_left
            · simp only [Act.put, List.setIfInBounds_toArray, List.set_cons_zero, List.set_cons_succ, i64_w, i32_w]
              rfl
            refine take_ (i := 19) (N := some 49) (v := ?_) (a' := ?_) #[true, true, true, true, true, true, true, true, true, true, true, true, true, true, true, true, true, true, false, true, false, false, false, false, false, false, false, false, false] rfl rfl (take_ofW HT_.out HW_.out (by kernel_rfl)) (fun _ _ _ h => h) (Or.inl ⟨by rfl, ?_⟩) hHeld ?_ ?_
            rotate_left
            · rintro w' ⟨s0, s1, s2, s3, s4, s5⟩
              go_simp
              with_reducible rfl
            rotate_left
            · simp only [Act.put, List.setIfInBounds_toArray, List.set_cons_zero, List.set_cons_succ, i64_w, i32_w]
              rfl
            refine one_ (i := 18) (N := some 48) #[true, true, true, true, true, true, true, true, true, true, true, true, true, true, true, true, true, true, true, true, false, false, false, false, false, false, false, false, false] rfl rfl (one_of HT_.out (by kernel_rfl)) (by decide) (fun K hK => ?_)
            refine goes_ Try.func13 (by kernel_rfl) rfl #[.agg #[.int .i64 (Int.tmod (wrap64 (a0)) (wrap64 ((wrap64 ((wrap64 (Int.tmod a1 16)) + 1)) + 1))), .int .i64 (wrap64 ((wrap64 (Int.tmod a1 16)) + 1))], .int .i64 0, .bool true] (by rfl) rfl rfl (by (try simp only [List.map_toArray, List.map_cons, List.map_nil]); first | done | rfl | (simp only [List.length_drop, List.length_take]; rfl)) ?_
            with_reducible refine (leaf_Leaf_Step.calls (Int.tmod (wrap64 (a0)) (wrap64 ((wrap64 ((wrap64 (Int.tmod a1 16)) + 1)) + 1))) (wrap64 ((wrap64 (Int.tmod a1 16)) + 1)) 0 true t158 t159 _ A14.out).mono ?_
            rintro e w36 ⟨rfl, hb⟩
            refine ⟨_, rfl, ?_⟩
            have n0_ := Aside0.mk (blk_below (g := gb145) (o := .cells #[.int .i64 (Int.tmod (wrap64 (a0)) (wrap64 ((wrap64 ((wrap64 (Int.tmod a1 16)) + 1)) + 1))), .int .i64 (wrap64 ((wrap64 (Int.tmod a1 16)) + 1))] 24 (0, 0)) (by (with_reducible repeat (first | refine blk_drewN ?_ _ | refine blk_drew ?_ | refine blk_alloc ?_ _)); exact BK145.out) hb)
            have n1_ := Aside0.mk (blk_below (g := gb150) (o := .cells #[.int .i64 t148, .int .i64 t149] 24 (0, 0)) (by (with_reducible repeat (first | refine blk_drewN ?_ _ | refine blk_drew ?_ | refine blk_alloc ?_ _)); exact BK150.out) hb)
            have n2_ := Aside0.mk (blk_below (g := gb155) (o := .cells #[.int .i64 t153, .int .i64 t154] 24 (0, 0)) (by (with_reducible repeat (first | refine blk_drewN ?_ _ | refine blk_drew ?_ | refine blk_alloc ?_ _)); exact BK155.out) hb)
            have n3_ := Aside0.mk (below_step (by repeat (first | (with_reducible first | exact HB.out | apply below_alloc | apply pw_below_drewN | apply below_drew1 | refine below_set ?_ GE145.out | refine below_set ?_ GE150.out | refine below_set ?_ GE155.out) | exact HB.out)) hb)
            clear BK145
            clear BK150
            clear BK155
            clear HB
            have BK145 := n0_
            have BK150 := n1_
            have BK155 := n2_
            have HB := n3_
            clear n0_ n1_ n2_ n3_
            (try clear hb)
            (try clear hb2)
            (try clear hk)
            (try clear hi)
            refine hK.out _ _ ⟨(blk_cell BK150.out 0).trans rfl, (blk_cell BK150.out 1).trans rfl, (blk_cell BK145.out 0).trans rfl, (blk_cell BK145.out 1).trans rfl, (blk_cell BK155.out 0).trans rfl, (blk_cell BK155.out 1).trans rfl⟩ (fun hHeld => ?_)
            clear hK K
            refine norm_ (a' := ?_) ?_ ?_
            rotate_left
            · show Act.put _ (some 48) _ = _
              simp only [Act.put, List.setIfInBounds_toArray, List.set_cons_zero, List.set_cons_succ, i64_w, i32_w]
              rfl
            refine pure_ (i := 20) (N := some 50) (v := ?_) (a' := ?_) #[true, true, true, true, true, true, true, true, true, true, true, true, true, true, true, true, true, true, true, true, true, false, false, false, false, false, false, false, false] rfl rfl (any_of HT_.out (by kernel_rfl)) (fun _ _ _ h => h) (Or.inl ⟨by rfl, ?_⟩) ?_ ?_
            rotate_left
            · intro w'
              go_simp
              with_reducible rfl
            rotate_left
            · simp only [Act.put, List.setIfInBounds_toArray, List.set_cons_zero, List.set_cons_succ, i64_w, i32_w]
              rfl
            refine pure_ (i := 21) (N := some 51) (v := ?_) (a' := ?_) #[true, true, true, true, true, true, true, true, true, true, true, true, true, true, true, true, true, true, true, true, true, true, false, false, false, false, false, false, false] rfl rfl (any_of HT_.out (by kernel_rfl)) (fun _ _ _ h => h) (Or.inl ⟨by rfl, ?_⟩) ?_ ?_
            rotate_left
            · intro w'
              go_simp
              with_reducible rfl
            rotate_left
            · simp only [Act.put, List.setIfInBounds_toArray, List.set_cons_zero, List.set_cons_succ, i64_w, i32_w]
              rfl
            refine pure_ (i := 22) (N := some 52) (v := ?_) (a' := ?_) #[true, true, true, true, true, true, true, true, true, true, true, true, true, true, true, true, true, true, true, true, true, true, true, false, false, false, false, false, false] rfl rfl (any_of HT_.out (by kernel_rfl)) (fun _ _ _ h => h) (Or.inl ⟨by rfl, ?_⟩) ?_ ?_
            rotate_left
            · intro w'
              go_simp
              with_reducible rfl
            rotate_left
            · simp only [Act.put, List.setIfInBounds_toArray, List.set_cons_zero, List.set_cons_succ, i64_w, i32_w]
              rfl
            refine take_ (i := 23) (N := some 53) (v := ?_) (a' := ?_) #[true, true, true, true, true, true, true, true, true, true, true, true, true, true, true, true, true, true, true, true, true, true, true, true, false, false, false, false, false] rfl rfl (take_ofW HT_.out HW_.out (by kernel_rfl)) (fun _ _ _ h => h) (Or.inl ⟨by rfl, ?_⟩) hHeld ?_ ?_
            rotate_left
            · rintro w' ⟨s0, s1, s2, s3, s4, s5⟩
              go_simp
              with_reducible rfl
            rotate_left
            · simp only [Act.put, List.setIfInBounds_toArray, List.set_cons_zero, List.set_cons_succ, i64_w, i32_w]
              rfl
            refine take_ (i := 25) (N := some 55) (v := ?_) (a' := ?_) #[true, true, true, true, true, true, true, true, true, true, true, true, true, true, true, true, true, true, true, true, true, true, true, true, false, true, false, false, false] rfl rfl (take_ofW HT_.out HW_.out (by kernel_rfl)) (fun _ _ _ h => h) (Or.inl ⟨by rfl, ?_⟩) hHeld ?_ ?_
            rotate_left
            · rintro w' ⟨s0, s1, s2, s3, s4, s5⟩
              go_simp
              with_reducible rfl
            rotate_left
            · simp only [Act.put, List.setIfInBounds_toArray, List.set_cons_zero, List.set_cons_succ, i64_w, i32_w]
              rfl
            refine one_ (i := 24) (N := some 54) #[true, true, true, true, true, true, true, true, true, true, true, true, true, true, true, true, true, true, true, true, true, true, true, true, true, true, false, false, false] rfl rfl (one_of HT_.out (by kernel_rfl)) (by decide) (fun K hK => ?_)
            refine goes_ Try.func13 (by kernel_rfl) rfl #[.agg #[.int .i64 (Int.tmod (wrap64 (a0)) (wrap64 ((wrap64 ((wrap64 (Int.tmod a1 16)) + 1)) + 1))), .int .i64 (wrap64 ((wrap64 (Int.tmod a1 16)) + 1))], .int .i64 2, .bool true] (by rfl) rfl rfl (by (try simp only [List.map_toArray, List.map_cons, List.map_nil]); first | done | rfl | (simp only [List.length_drop, List.length_take]; rfl)) ?_
            with_reducible refine (leaf_Leaf_Step.calls (Int.tmod (wrap64 (a0)) (wrap64 ((wrap64 ((wrap64 (Int.tmod a1 16)) + 1)) + 1))) (wrap64 ((wrap64 (Int.tmod a1 16)) + 1)) 2 true t160 t161 _ A16.out).mono ?_
            rintro e w37 ⟨rfl, hb⟩
            refine ⟨_, rfl, ?_⟩
            have n0_ := Aside0.mk (blk_below (g := gb145) (o := .cells #[.int .i64 (Int.tmod (wrap64 (a0)) (wrap64 ((wrap64 ((wrap64 (Int.tmod a1 16)) + 1)) + 1))), .int .i64 (wrap64 ((wrap64 (Int.tmod a1 16)) + 1))] 24 (0, 0)) (by (with_reducible repeat (first | refine blk_drewN ?_ _ | refine blk_drew ?_ | refine blk_alloc ?_ _)); exact BK145.out) hb)
            have n1_ := Aside0.mk (blk_below (g := gb150) (o := .cells #[.int .i64 t148, .int .i64 t149] 24 (0, 0)) (by (with_reducible repeat (first | refine blk_drewN ?_ _ | refine blk_drew ?_ | refine blk_alloc ?_ _)); exact BK150.out) hb)
            have n2_ := Aside0.mk (blk_below (g := gb155) (o := .cells #[.int .i64 t153, .int .i64 t154] 24 (0, 0)) (by (with_reducible repeat (first | refine blk_drewN ?_ _ | refine blk_drew ?_ | refine blk_alloc ?_ _)); exact BK155.out) hb)
            have n3_ := Aside0.mk (below_step (by repeat (first | (with_reducible first | exact HB.out | apply below_alloc | apply pw_below_drewN | apply below_drew1 | refine below_set ?_ GE145.out | refine below_set ?_ GE150.out | refine below_set ?_ GE155.out) | exact HB.out)) hb)
            clear BK145
            clear BK150
            clear BK155
            clear HB
            have BK145 := n0_
            have BK150 := n1_
            have BK155 := n2_
            have HB := n3_
            clear n0_ n1_ n2_ n3_
            (try clear hb)
            (try clear hb2)
            (try clear hk)
            (try clear hi)
            refine hK.out _ _ ⟨(blk_cell BK150.out 0).trans rfl, (blk_cell BK150.out 1).trans rfl, (blk_cell BK145.out 0).trans rfl, (blk_cell BK145.out 1).trans rfl, (blk_cell BK155.out 0).trans rfl, (blk_cell BK155.out 1).trans rfl⟩ (fun hHeld => ?_)
            clear hK K
            refine norm_ (a' := ?_) ?_ ?_
            rotate_left
            · show Act.put _ (some 54) _ = _
              simp only [Act.put, List.setIfInBounds_toArray, List.set_cons_zero, List.set_cons_succ, i64_w, i32_w]
              rfl
            refine pure_ (i := 26) (N := some 56) (v := ?_) (a' := ?_) #[true, true, true, true, true, true, true, true, true, true, true, true, true, true, true, true, true, true, true, true, true, true, true, true, true, true, true, false, false] rfl rfl (any_of HT_.out (by kernel_rfl)) (fun _ _ _ h => h) (Or.inl ⟨by rfl, ?_⟩) ?_ ?_
            rotate_left
            · intro w'
              go_simp
              with_reducible rfl
            rotate_left
            · simp only [Act.put, List.setIfInBounds_toArray, List.set_cons_zero, List.set_cons_succ, i64_w, i32_w]
              rfl
            refine pure_ (i := 27) (N := some 57) (v := ?_) (a' := ?_) #[true, true, true, true, true, true, true, true, true, true, true, true, true, true, true, true, true, true, true, true, true, true, true, true, true, true, true, true, false] rfl rfl (any_of HT_.out (by kernel_rfl)) (fun _ _ _ h => h) (Or.inl ⟨by rfl, ?_⟩) ?_ ?_
            rotate_left
            · intro w'
              go_simp
              with_reducible rfl
            rotate_left
            · simp only [Act.put, List.setIfInBounds_toArray, List.set_cons_zero, List.set_cons_succ, i64_w, i32_w]
              rfl
            refine pure_ (i := 28) (N := some 4) (v := ?_) (a' := ?_) #[true, true, true, true, true, true, true, true, true, true, true, true, true, true, true, true, true, true, true, true, true, true, true, true, true, true, true, true, true] rfl rfl (any_of HT_.out (by kernel_rfl)) (fun _ _ _ h => h) (Or.inl ⟨by rfl, ?_⟩) ?_ ?_
            rotate_left
            · intro w'
              go_simp
              with_reducible rfl
            rotate_left
            · simp only [Act.put, List.setIfInBounds_toArray, List.set_cons_zero, List.set_cons_succ, i64_w, i32_w]
              rfl
            refine done_ (done_of HT_.out (by kernel_rfl)) ?_
            try go_wp2
            go_ret
            exact ⟨by first | rfl | (simp [errW_none, errW_some] <;> rfl) | (simp [*, errW_none, errW_some] <;> rfl), by repeat (first | (with_reducible first | exact HB.out | apply below_alloc | apply pw_below_drewN | apply below_drew1 | refine below_set ?_ GE145.out | refine below_set ?_ GE150.out | refine below_set ?_ GE155.out) | exact HB.out)⟩
          · rw [if_neg c15] at H
            have c15b0 : (t158 == (Int.tmod (wrap64 (a0)) (wrap64 ((wrap64 ((wrap64 (Int.tmod a1 16)) + 1)) + 1))) && (t159 == (wrap64 ((wrap64 (Int.tmod a1 16)) + 1)))) = false := by simpa using c15
            (try (have c15b1 : decide (t158 = (Int.tmod (wrap64 (a0)) (wrap64 ((wrap64 ((wrap64 (Int.tmod a1 16)) + 1)) + 1))) && (t159 == (wrap64 ((wrap64 (Int.tmod a1 16)) + 1)))) = false := by simpa using c15))
            (try (have c15b2 : (t158 == (Int.tmod (wrap64 (a0)) (wrap64 ((wrap64 ((wrap64 (Int.tmod a1 16)) + 1)) + 1))) && (t159 == (wrap64 ((wrap64 (Int.tmod a1 16)) + 1)))) = false := by simpa using c15))
            (try (have c15b3 : ¬ (t158 = (Int.tmod (wrap64 (a0)) (wrap64 ((wrap64 ((wrap64 (Int.tmod a1 16)) + 1)) + 1))) && (t159 == (wrap64 ((wrap64 (Int.tmod a1 16)) + 1)))) := by simpa using c15))
            clear c15
            obtain rfl := Option.some.inj H
            go_enter Try.func6, Try.ntmps6
            try go_wp2_with (first | ((with_reducible refine gate_callee (f := 12) rfl ?_); refine goesL_ (some 10) rfl rfl Try.func12 (by kernel_rfl) rfl #[] rfl (by (try simp only [List.map_toArray, List.map_cons, List.map_nil]); first | done | rfl | (simp only [List.length_drop, List.length_take]; rfl)) ?_; (with_reducible refine (paternosterlaw08_awake.calls  true _ A3.out).mono ?_); rintro e w38 ⟨rfl, hb⟩; refine ⟨_, rfl, ?_⟩; have n0_ := Aside0.mk (below_step (by repeat (first | (with_reducible first | exact HB.out | apply below_alloc | apply pw_below_drewN | apply below_drew1) | exact HB.out)) hb); clear HB; have HB := n0_; clear n0_; (try clear hb); (try clear hb2); (try clear hk); (try clear hi)) | ((with_reducible refine gate_dst (N := 7) rfl ?_); refine box_event ?hg (N := 7) ?hd (cs := #[.int .i64 0, .int .i64 0]) (t := 24) ?hr ?_; (case hd => rfl); (case hg => rfl); (case hr => first | (go_simp; done) | (go_simp; rfl)); intro gb145 hg w39 hbox hb; have n0_ := Aside0.mk (below_step (by repeat (first | (with_reducible first | exact HB.out | apply below_alloc | apply pw_below_drewN | apply below_drew1) | exact HB.out)) hb); have n1_ := Aside0.mk (hbox); have n2_ := Aside0.mk ((by rw [hg]; exact (below_size (by repeat (first | (with_reducible first | exact HB.out | apply below_alloc | apply pw_below_drewN | apply below_drew1) | exact HB.out))) : w.heap.size ≤ gb145)); have n3_ := Aside0.mk ((by rw [hg]; exact (below_size (by repeat (first | (with_reducible first | exact HB.out | apply below_alloc | apply pw_below_drewN | apply below_drew1) | exact HB.out))) : w.heap.size ≤ gb145)); clear HB; have HB := n0_; have BK145 := n1_; have GW145 := n2_; have GE145 := n3_; clear n0_ n1_ n2_ n3_; clear hb hbox hg; have hcz40_0 : w39.cell? ⟨gb145, 0, none⟩ = some (.int .i64 0) := (blk_cell BK145.out 0).trans rfl; have hcz40_1 : w39.cell? ⟨gb145, 1, none⟩ = some (.int .i64 0) := (blk_cell BK145.out 1).trans rfl; have hfz40_0 := blk_frozen BK145.out 0; have hfz40_1 := blk_frozen BK145.out 1) | ((with_reducible refine gate_callee (f := 13) rfl ?_); refine goesL_ (some 25) rfl rfl Try.func13 (by kernel_rfl) rfl #[.agg #[.int .i64 (Int.tmod (wrap64 (a0)) (wrap64 ((wrap64 ((wrap64 (Int.tmod a1 16)) + 1)) + 1))), .int .i64 (wrap64 ((wrap64 (Int.tmod a1 16)) + 1))], .int .i64 1, .bool false] rfl (by (try simp only [List.map_toArray, List.map_cons, List.map_nil]); first | done | rfl | (simp only [List.length_drop, List.length_take]; rfl)) ?_; (with_reducible refine (leaf_Leaf_Step.calls (Int.tmod (wrap64 (a0)) (wrap64 ((wrap64 ((wrap64 (Int.tmod a1 16)) + 1)) + 1))) (wrap64 ((wrap64 (Int.tmod a1 16)) + 1)) 1 false t146 t147 _ A6.out).mono ?_); rintro e w41 ⟨rfl, hb⟩; refine ⟨_, rfl, ?_⟩; have n0_ := Aside0.mk (blk_below (g := gb145) (o := .cells #[.int .i64 (Int.tmod (wrap64 (a0)) (wrap64 ((wrap64 ((wrap64 (Int.tmod a1 16)) + 1)) + 1))), .int .i64 (wrap64 ((wrap64 (Int.tmod a1 16)) + 1))] 24 (0, 0)) (by (with_reducible repeat (first | refine blk_drewN ?_ _ | refine blk_drew ?_ | refine blk_alloc ?_ _)); refine blk_put (cs := #[.int .i64 (Int.tmod (wrap64 (a0)) (wrap64 ((wrap64 ((wrap64 (Int.tmod a1 16)) + 1)) + 1))), .int .i64 0]) ?_ 1 _ rfl; (with_reducible repeat (first | refine blk_drewN ?_ _ | refine blk_drew ?_ | refine blk_alloc ?_ _)); refine blk_put (cs := #[.int .i64 0, .int .i64 0]) ?_ 0 _ rfl; (with_reducible repeat (first | refine blk_drewN ?_ _ | refine blk_drew ?_ | refine blk_alloc ?_ _)); exact BK145.out) hb); have n1_ := Aside0.mk (below_step (by repeat (first | (with_reducible first | exact HB.out | apply below_alloc | apply pw_below_drewN | apply below_drew1 | refine below_set ?_ GE145.out) | exact HB.out)) hb); clear BK145; clear HB; have BK145 := n0_; have HB := n1_; clear n0_ n1_; (try clear hb); (try clear hb2); (try clear hk); (try clear hi)) | ((with_reducible refine gate_callee (f := 13) rfl ?_); refine goesL_ (some 26) rfl rfl Try.func13 (by kernel_rfl) rfl #[.agg #[.int .i64 t146, .int .i64 t147], .int .i64 2, .bool false] rfl (by (try simp only [List.map_toArray, List.map_cons, List.map_nil]); first | done | rfl | (simp only [List.length_drop, List.length_take]; rfl)) ?_; (with_reducible refine (leaf_Leaf_Step.calls t146 t147 2 false t148 t149 _ A7.out).mono ?_); rintro e w42 ⟨rfl, hb⟩; refine ⟨_, rfl, ?_⟩; have n0_ := Aside0.mk (blk_below (g := gb145) (o := .cells #[.int .i64 (Int.tmod (wrap64 (a0)) (wrap64 ((wrap64 ((wrap64 (Int.tmod a1 16)) + 1)) + 1))), .int .i64 (wrap64 ((wrap64 (Int.tmod a1 16)) + 1))] 24 (0, 0)) (by (with_reducible repeat (first | refine blk_drewN ?_ _ | refine blk_drew ?_ | refine blk_alloc ?_ _)); exact BK145.out) hb); have n1_ := Aside0.mk (below_step (by repeat (first | (with_reducible first | exact HB.out | apply below_alloc | apply pw_below_drewN | apply below_drew1 | refine below_set ?_ GE145.out) | exact HB.out)) hb); clear BK145; clear HB; have BK145 := n0_; have HB := n1_; clear n0_ n1_; (try clear hb); (try clear hb2); (try clear hk); (try clear hi)) | ((with_reducible refine gate_dst (N := 8) rfl ?_); refine box_event ?hg (N := 8) ?hd (cs := #[.int .i64 0, .int .i64 0]) (t := 24) ?hr ?_; (case hd => rfl); (case hg => rfl); (case hr => first | (go_simp; done) | (go_simp; rfl)); intro gb150 hg w43 hbox hb; have n0_ := Aside0.mk (blk_below (g := gb145) (o := .cells #[.int .i64 (Int.tmod (wrap64 (a0)) (wrap64 ((wrap64 ((wrap64 (Int.tmod a1 16)) + 1)) + 1))), .int .i64 (wrap64 ((wrap64 (Int.tmod a1 16)) + 1))] 24 (0, 0)) (by (with_reducible repeat (first | refine blk_drewN ?_ _ | refine blk_drew ?_ | refine blk_alloc ?_ _)); exact BK145.out) hb); have n1_ := Aside0.mk (below_step (by repeat (first | (with_reducible first | exact HB.out | apply below_alloc | apply pw_below_drewN | apply below_drew1 | refine below_set ?_ GE145.out) | exact HB.out)) hb); have n2_ := Aside0.mk (hbox); have n3_ := Aside0.mk ((by rw [hg]; exact (below_size (by repeat (first | (with_reducible first | exact HB.out | apply below_alloc | apply pw_below_drewN | apply below_drew1 | refine below_set ?_ GE145.out) | exact HB.out))) : w.heap.size ≤ gb150)); have n4_ := Aside0.mk ((by rw [hg]; exact (below_size (by repeat (first | (with_reducible first | exact HB.out | apply below_alloc | apply pw_below_drewN | apply below_drew1 | refine below_set ?_ GE145.out) | exact HB.out))) : w.heap.size ≤ gb150)); have n5_ := Aside0.mk ((by rw [hg]; exact Nat.ne_of_lt (blk_lt (g := gb145) (o := .cells #[.int .i64 (Int.tmod (wrap64 (a0)) (wrap64 ((wrap64 ((wrap64 (Int.tmod a1 16)) + 1)) + 1))), .int .i64 (wrap64 ((wrap64 (Int.tmod a1 16)) + 1))] 24 (0, 0)) (by (with_reducible repeat (first | refine blk_drewN ?_ _ | refine blk_drew ?_ | refine blk_alloc ?_ _)); exact BK145.out)) : gb145 ≠ gb150)); have n6_ := Aside0.mk ((by rw [hg]; exact Nat.ne_of_gt (blk_lt (g := gb145) (o := .cells #[.int .i64 (Int.tmod (wrap64 (a0)) (wrap64 ((wrap64 ((wrap64 (Int.tmod a1 16)) + 1)) + 1))), .int .i64 (wrap64 ((wrap64 (Int.tmod a1 16)) + 1))] 24 (0, 0)) (by (with_reducible repeat (first | refine blk_drewN ?_ _ | refine blk_drew ?_ | refine blk_alloc ?_ _)); exact BK145.out)) : gb150 ≠ gb145)); clear BK145; clear HB; have BK145 := n0_; have HB := n1_; have BK150 := n2_; have GW150 := n3_; have GE150 := n4_; have NB145_150 := n5_; have NB150_145 := n6_; clear n0_ n1_ n2_ n3_ n4_ n5_ n6_; clear hb hbox hg; have hnb44 := NB150_145.out; have hnc44 := NB145_150.out; have hcz45_0 : w43.cell? ⟨gb150, 0, none⟩ = some (.int .i64 0) := (blk_cell BK150.out 0).trans rfl; have hcz45_1 : w43.cell? ⟨gb150, 1, none⟩ = some (.int .i64 0) := (blk_cell BK150.out 1).trans rfl; have hfz45_0 := blk_frozen BK150.out 0; have hfz45_1 := blk_frozen BK150.out 1; have hcz46_0 : w43.cell? ⟨gb145, 0, none⟩ = some (.int .i64 (Int.tmod (wrap64 (a0)) (wrap64 ((wrap64 ((wrap64 (Int.tmod a1 16)) + 1)) + 1)))) := (blk_cell BK145.out 0).trans rfl; have hcz46_1 : w43.cell? ⟨gb145, 1, none⟩ = some (.int .i64 (wrap64 ((wrap64 (Int.tmod a1 16)) + 1))) := (blk_cell BK145.out 1).trans rfl; have hfz46_0 := blk_frozen BK145.out 0; have hfz46_1 := blk_frozen BK145.out 1) | ((with_reducible refine gate_callee (f := 13) rfl ?_); refine goesL_ (some 28) rfl rfl Try.func13 (by kernel_rfl) rfl #[.agg #[.int .i64 (Int.tmod (wrap64 (a0)) (wrap64 ((wrap64 ((wrap64 (Int.tmod a1 16)) + 1)) + 1))), .int .i64 (wrap64 ((wrap64 (Int.tmod a1 16)) + 1))], .int .i64 2, .bool false] rfl (by (try simp only [List.map_toArray, List.map_cons, List.map_nil]); first | done | rfl | (simp only [List.length_drop, List.length_take]; rfl)) ?_; (with_reducible refine (leaf_Leaf_Step.calls (Int.tmod (wrap64 (a0)) (wrap64 ((wrap64 ((wrap64 (Int.tmod a1 16)) + 1)) + 1))) (wrap64 ((wrap64 (Int.tmod a1 16)) + 1)) 2 false t151 t152 _ A8.out).mono ?_); rintro e w47 ⟨rfl, hb⟩; refine ⟨_, rfl, ?_⟩; have n0_ := Aside0.mk (blk_below (g := gb145) (o := .cells #[.int .i64 (Int.tmod (wrap64 (a0)) (wrap64 ((wrap64 ((wrap64 (Int.tmod a1 16)) + 1)) + 1))), .int .i64 (wrap64 ((wrap64 (Int.tmod a1 16)) + 1))] 24 (0, 0)) (by (with_reducible repeat (first | refine blk_drewN ?_ _ | refine blk_drew ?_ | refine blk_alloc ?_ _)); refine blk_far ?_ NB145_150.out _; (with_reducible repeat (first | refine blk_drewN ?_ _ | refine blk_drew ?_ | refine blk_alloc ?_ _)); refine blk_far ?_ NB145_150.out _; (with_reducible repeat (first | refine blk_drewN ?_ _ | refine blk_drew ?_ | refine blk_alloc ?_ _)); exact BK145.out) hb); have n1_ := Aside0.mk (blk_below (g := gb150) (o := .cells #[.int .i64 t148, .int .i64 t149] 24 (0, 0)) (by (with_reducible repeat (first | refine blk_drewN ?_ _ | refine blk_drew ?_ | refine blk_alloc ?_ _)); refine blk_put (cs := #[.int .i64 t148, .int .i64 0]) ?_ 1 _ rfl; (with_reducible repeat (first | refine blk_drewN ?_ _ | refine blk_drew ?_ | refine blk_alloc ?_ _)); refine blk_put (cs := #[.int .i64 0, .int .i64 0]) ?_ 0 _ rfl; (with_reducible repeat (first | refine blk_drewN ?_ _ | refine blk_drew ?_ | refine blk_alloc ?_ _)); exact BK150.out) hb); have n2_ := Aside0.mk (below_step (by repeat (first | (with_reducible first | exact HB.out | apply below_alloc | apply pw_below_drewN | apply below_drew1 | refine below_set ?_ GE145.out | refine below_set ?_ GE150.out) | exact HB.out)) hb); clear BK145; clear BK150; clear HB; have BK145 := n0_; have BK150 := n1_; have HB := n2_; clear n0_ n1_ n2_; (try clear hb); (try clear hb2); (try clear hk); (try clear hi)) | ((with_reducible refine gate_callee (f := 13) rfl ?_); refine goesL_ (some 29) rfl rfl Try.func13 (by kernel_rfl) rfl #[.agg #[.int .i64 t151, .int .i64 t152], .int .i64 1, .bool false] rfl (by (try simp only [List.map_toArray, List.map_cons, List.map_nil]); first | done | rfl | (simp only [List.length_drop, List.length_take]; rfl)) ?_; (with_reducible refine (leaf_Leaf_Step.calls t151 t152 1 false t153 t154 _ A9.out).mono ?_); rintro e w48 ⟨rfl, hb⟩; refine ⟨_, rfl, ?_⟩; have n0_ := Aside0.mk (blk_below (g := gb145) (o := .cells #[.int .i64 (Int.tmod (wrap64 (a0)) (wrap64 ((wrap64 ((wrap64 (Int.tmod a1 16)) + 1)) + 1))), .int .i64 (wrap64 ((wrap64 (Int.tmod a1 16)) + 1))] 24 (0, 0)) (by (with_reducible repeat (first | refine blk_drewN ?_ _ | refine blk_drew ?_ | refine blk_alloc ?_ _)); exact BK145.out) hb); have n1_ := Aside0.mk (blk_below (g := gb150) (o := .cells #[.int .i64 t148, .int .i64 t149] 24 (0, 0)) (by (with_reducible repeat (first | refine blk_drewN ?_ _ | refine blk_drew ?_ | refine blk_alloc ?_ _)); exact BK150.out) hb); have n2_ := Aside0.mk (below_step (by repeat (first | (with_reducible first | exact HB.out | apply below_alloc | apply pw_below_drewN | apply below_drew1 | refine below_set ?_ GE145.out | refine below_set ?_ GE150.out) | exact HB.out)) hb); clear BK145; clear BK150; clear HB; have BK145 := n0_; have BK150 := n1_; have HB := n2_; clear n0_ n1_ n2_; (try clear hb); (try clear hb2); (try clear hk); (try clear hi)) | ((with_reducible refine gate_dst (N := 9) rfl ?_); refine box_event ?hg (N := 9) ?hd (cs := #[.int .i64 0, .int .i64 0]) (t := 24) ?hr ?_; (case hd => rfl); (case hg => rfl); (case hr => first | (go_simp; done) | (go_simp; rfl)); intro gb155 hg w49 hbox hb; have n0_ := Aside0.mk (blk_below (g := gb145) (o := .cells #[.int .i64 (Int.tmod (wrap64 (a0)) (wrap64 ((wrap64 ((wrap64 (Int.tmod a1 16)) + 1)) + 1))), .int .i64 (wrap64 ((wrap64 (Int.tmod a1 16)) + 1))] 24 (0, 0)) (by (with_reducible repeat (first | refine blk_drewN ?_ _ | refine blk_drew ?_ | refine blk_alloc ?_ _)); exact BK145.out) hb); have n1_ := Aside0.mk (blk_below (g := gb150) (o := .cells #[.int .i64 t148, .int .i64 t149] 24 (0, 0)) (by (with_reducible repeat (first | refine blk_drewN ?_ _ | refine blk_drew ?_ | refine blk_alloc ?_ _)); exact BK150.out) hb); have n2_ := Aside0.mk (below_step (by repeat (first | (with_reducible first | exact HB.out | apply below_alloc | apply pw_below_drewN | apply below_drew1 | refine below_set ?_ GE145.out | refine below_set ?_ GE150.out) | exact HB.out)) hb); have n3_ := Aside0.mk (hbox); have n4_ := Aside0.mk ((by rw [hg]; exact (below_size (by repeat (first | (with_reducible first | exact HB.out | apply below_alloc | apply pw_below_drewN | apply below_drew1 | refine below_set ?_ GE145.out | refine below_set ?_ GE150.out) | exact HB.out))) : w.heap.size ≤ gb155)); have n5_ := Aside0.mk ((by rw [hg]; exact (below_size (by repeat (first | (with_reducible first | exact HB.out | apply below_alloc | apply pw_below_drewN | apply below_drew1 | refine below_set ?_ GE145.out | refine below_set ?_ GE150.out) | exact HB.out))) : w.heap.size ≤ gb155)); have n6_ := Aside0.mk ((by rw [hg]; exact Nat.ne_of_lt (blk_lt (g := gb145) (o := .cells #[.int .i64 (Int.tmod (wrap64 (a0)) (wrap64 ((wrap64 ((wrap64 (Int.tmod a1 16)) + 1)) + 1))), .int .i64 (wrap64 ((wrap64 (Int.tmod a1 16)) + 1))] 24 (0, 0)) (by (with_reducible repeat (first | refine blk_drewN ?_ _ | refine blk_drew ?_ | refine blk_alloc ?_ _)); exact BK145.out)) : gb145 ≠ gb155)); have n7_ := Aside0.mk ((by rw [hg]; exact Nat.ne_of_gt (blk_lt (g := gb145) (o := .cells #[.int .i64 (Int.tmod (wrap64 (a0)) (wrap64 ((wrap64 ((wrap64 (Int.tmod a1 16)) + 1)) + 1))), .int .i64 (wrap64 ((wrap64 (Int.tmod a1 16)) + 1))] 24 (0, 0)) (by (with_reducible repeat (first | refine blk_drewN ?_ _ | refine blk_drew ?_ | refine blk_alloc ?_ _)); exact BK145.out)) : gb155 ≠ gb145)); have n8_ := Aside0.mk ((by rw [hg]; exact Nat.ne_of_lt (blk_lt (g := gb150) (o := .cells #[.int .i64 t148, .int .i64 t149] 24 (0, 0)) (by (with_reducible repeat (first | refine blk_drewN ?_ _ | refine blk_drew ?_ | refine blk_alloc ?_ _)); exact BK150.out)) : gb150 ≠ gb155)); have n9_ := Aside0.mk ((by rw [hg]; exact Nat.ne_of_gt (blk_lt (g := gb150) (o := .cells #[.int .i64 t148, .int .i64 t149] 24 (0, 0)) (by (with_reducible repeat (first | refine blk_drewN ?_ _ | refine blk_drew ?_ | refine blk_alloc ?_ _)); exact BK150.out)) : gb155 ≠ gb150)); clear BK145; clear BK150; clear HB; have BK145 := n0_; have BK150 := n1_; have HB := n2_; have BK155 := n3_; have GW155 := n4_; have GE155 := n5_; have NB145_155 := n6_; have NB155_145 := n7_; have NB150_155 := n8_; have NB155_150 := n9_; clear n0_ n1_ n2_ n3_ n4_ n5_ n6_ n7_ n8_ n9_; clear hb hbox hg; have hnb50 := NB155_145.out; have hnc50 := NB145_155.out; have hnb51 := NB155_150.out; have hnc51 := NB150_155.out; have hcz52_0 : w49.cell? ⟨gb155, 0, none⟩ = some (.int .i64 0) := (blk_cell BK155.out 0).trans rfl; have hcz52_1 : w49.cell? ⟨gb155, 1, none⟩ = some (.int .i64 0) := (blk_cell BK155.out 1).trans rfl; have hfz52_0 := blk_frozen BK155.out 0; have hfz52_1 := blk_frozen BK155.out 1))
            have n0_ : Aside0 (((w49.setCell ⟨gb155, 0, none⟩ (.int .i64 t153)).setCell ⟨gb155, 1, none⟩ (.int .i64 t154)).heap[gb145]? = some (.cells #[.int .i64 (Int.tmod (wrap64 (a0)) (wrap64 ((wrap64 ((wrap64 (Int.tmod a1 16)) + 1)) + 1))), .int .i64 (wrap64 ((wrap64 (Int.tmod a1 16)) + 1))] 24 (0, 0))) := ⟨by (with_reducible repeat (first | refine blk_drewN ?_ _ | refine blk_drew ?_ | refine blk_alloc ?_ _)); refine blk_far ?_ NB145_155.out _; (with_reducible repeat (first | refine blk_drewN ?_ _ | refine blk_drew ?_ | refine blk_alloc ?_ _)); refine blk_far ?_ NB145_155.out _; (with_reducible repeat (first | refine blk_drewN ?_ _ | refine blk_drew ?_ | refine blk_alloc ?_ _)); exact BK145.out⟩
            have n1_ : Aside0 (((w49.setCell ⟨gb155, 0, none⟩ (.int .i64 t153)).setCell ⟨gb155, 1, none⟩ (.int .i64 t154)).heap[gb150]? = some (.cells #[.int .i64 t148, .int .i64 t149] 24 (0, 0))) := ⟨by (with_reducible repeat (first | refine blk_drewN ?_ _ | refine blk_drew ?_ | refine blk_alloc ?_ _)); refine blk_far ?_ NB150_155.out _; (with_reducible repeat (first | refine blk_drewN ?_ _ | refine blk_drew ?_ | refine blk_alloc ?_ _)); refine blk_far ?_ NB150_155.out _; (with_reducible repeat (first | refine blk_drewN ?_ _ | refine blk_drew ?_ | refine blk_alloc ?_ _)); exact BK150.out⟩
            have n2_ : Aside0 (((w49.setCell ⟨gb155, 0, none⟩ (.int .i64 t153)).setCell ⟨gb155, 1, none⟩ (.int .i64 t154)).heap[gb155]? = some (.cells #[.int .i64 t153, .int .i64 t154] 24 (0, 0))) := ⟨by (with_reducible repeat (first | refine blk_drewN ?_ _ | refine blk_drew ?_ | refine blk_alloc ?_ _)); refine blk_put (cs := #[.int .i64 t153, .int .i64 0]) ?_ 1 _ rfl; (with_reducible repeat (first | refine blk_drewN ?_ _ | refine blk_drew ?_ | refine blk_alloc ?_ _)); refine blk_put (cs := #[.int .i64 0, .int .i64 0]) ?_ 0 _ rfl; (with_reducible repeat (first | refine blk_drewN ?_ _ | refine blk_drew ?_ | refine blk_alloc ?_ _)); exact BK155.out⟩
            have n3_ : Aside0 (Below w.heap.size w ((w49.setCell ⟨gb155, 0, none⟩ (.int .i64 t153)).setCell ⟨gb155, 1, none⟩ (.int .i64 t154))) := ⟨by repeat (first | (with_reducible first | exact HB.out | apply below_alloc | apply pw_below_drewN | apply below_drew1 | refine below_set ?_ GE145.out | refine below_set ?_ GE150.out | refine below_set ?_ GE155.out) | exact HB.out)⟩
            (try clear BK145)
            (try clear BK150)
            (try clear BK155)
            (try clear HB)
            generalize ((w49.setCell ⟨gb155, 0, none⟩ (.int .i64 t153)).setCell ⟨gb155, 1, none⟩ (.int .i64 t154)) = w53 at n0_ n1_ n2_ n3_ ⊢
            have BK145 := n0_
            have BK150 := n1_
            have BK155 := n2_
            have HB := n3_
            clear n0_ n1_ n2_ n3_
            have n0_ := Aside0.mk (blk_drew BK145.out)
            have n1_ := Aside0.mk (blk_drew BK150.out)
            have n2_ := Aside0.mk (blk_drew BK155.out)
            have n3_ := Aside0.mk (below_drew1 HB.out)
            clear BK145
            clear BK150
            clear BK155
            clear HB
            have BK145 := n0_
            have BK150 := n1_
            have BK155 := n2_
            have HB := n3_
            clear n0_ n1_ n2_ n3_
            refine start_ (n := 29) (S := fun w' => w'.cell? ⟨gb150, 0, none⟩ = some (.int .i64 t148) ∧ w'.cell? ⟨gb150, 1, none⟩ = some (.int .i64 t149) ∧ w'.cell? ⟨gb145, 0, none⟩ = some (.int .i64 (Int.tmod (wrap64 (a0)) (wrap64 ((wrap64 ((wrap64 (Int.tmod a1 16)) + 1)) + 1)))) ∧ w'.cell? ⟨gb145, 1, none⟩ = some (.int .i64 (wrap64 ((wrap64 (Int.tmod a1 16)) + 1))) ∧ w'.cell? ⟨gb155, 0, none⟩ = some (.int .i64 t153) ∧ w'.cell? ⟨gb155, 1, none⟩ = some (.int .i64 t154)) (ds := []) #[false, false, false, false, false, false, false, false, false, false, false, false, false, false, false, false, false, false, false, false, false, false, false, false, false, false, false, false, false] (by kernel_rfl) rfl rfl ⟨(blk_cell BK150.out 0).trans rfl, (blk_cell BK150.out 1).trans rfl, (blk_cell BK145.out 0).trans rfl, (blk_cell BK145.out 1).trans rfl, (blk_cell BK155.out 0).trans rfl, (blk_cell BK155.out 1).trans rfl⟩ (fun hHeld => ?_); refine with_tabW paternosterlaw08_LeafBack.tab8 paternosterlaw08_LeafBack.bits8 (fun HT_ HW_ => ?_)
            generalize w53.drew = w54 at BK145 BK150 BK155 HB hHeld ⊢
            refine take_ (i := 0) (N := some 30) (v := ?_) (a' := ?_) #[true, false, false, false, false, false, false, false, false, false, false, false, false, false, false, false, false, false, false, false, false, false, false, false, false, false, false, false, false] rfl rfl (take_ofW HT_.out HW_.out (by kernel_rfl)) (fun _ _ _ h => h) (Or.inl ⟨by rfl, ?_⟩) hHeld ?_ ?_
            rotate_left
            · rintro w' ⟨s0, s1, s2, s3, s4, s5⟩
              go_simp
              with_reducible rfl
            rotate_left
            · simp only [Act.put, List.setIfInBounds_toArray, List.set_cons_zero, List.set_cons_succ, i64_w, i32_w]
              rfl
            refine take_ (i := 1) (N := some 31) (v := ?_) (a' := ?_) #[true, true, false, false, false, false, false, false, false, false, false, false, false, false, false, false, false, false, false, false, false, false, false, false, false, false, false, false, false] rfl rfl (take_ofW HT_.out HW_.out (by kernel_rfl)) (fun _ _ _ h => h) (Or.inl ⟨by rfl, ?_⟩) hHeld ?_ ?_
            rotate_left
            · rintro w' ⟨s0, s1, s2, s3, s4, s5⟩
              go_simp
              with_reducible rfl
            rotate_left
            · simp only [Act.put, List.setIfInBounds_toArray, List.set_cons_zero, List.set_cons_succ, i64_w, i32_w]
              rfl
            refine pure_ (i := 2) (N := some 32) (v := ?_) (a' := ?_) #[true, true, true, false, false, false, false, false, false, false, false, false, false, false, false, false, false, false, false, false, false, false, false, false, false, false, false, false, false] rfl rfl (any_of HT_.out (by kernel_rfl)) (fun _ _ _ h => h) (Or.inl ⟨by rfl, ?_⟩) ?_ ?_
            rotate_left
            · intro w'
              go_simp
              with_reducible rfl
            rotate_left
            · simp only [Act.put, List.setIfInBounds_toArray, List.set_cons_zero, List.set_cons_succ, i64_w, i32_w]
              rfl
            refine take_ (i := 3) (N := some 33) (v := ?_) (a' := ?_) #[true, true, true, true, false, false, false, false, false, false, false, false, false, false, false, false, false, false, false, false, false, false, false, false, false, false, false, false, false] rfl rfl (take_ofW HT_.out HW_.out (by kernel_rfl)) (fun _ _ _ h => h) (Or.inl ⟨by rfl, ?_⟩) hHeld ?_ ?_
            rotate_left
            · rintro w' ⟨s0, s1, s2, s3, s4, s5⟩
              go_simp
              with_reducible rfl
            rotate_left
            · simp only [Act.put, List.setIfInBounds_toArray, List.set_cons_zero, List.set_cons_succ, i64_w, i32_w]
              rfl
            refine one_ (i := 4) (N := some 34) #[true, true, true, true, true, false, false, false, false, false, false, false, false, false, false, false, false, false, false, false, false, false, false, false, false, false, false, false, false] rfl rfl (one_of HT_.out (by kernel_rfl)) (by decide) (fun K hK => ?_)
            refine goes_ Try.func16 (by kernel_rfl) rfl #[.agg #[.int .i64 (Int.tmod (wrap64 (a0)) (wrap64 ((wrap64 ((wrap64 (Int.tmod a1 16)) + 1)) + 1))), .int .i64 (wrap64 ((wrap64 (Int.tmod a1 16)) + 1))]] (by rfl) rfl rfl (by (try simp only [List.map_toArray, List.map_cons, List.map_nil]); first | done | rfl | (simp only [List.length_drop, List.length_take]; rfl)) ?_
            with_reducible refine (leaf_Leaf_Wide.calls (Int.tmod (wrap64 (a0)) (wrap64 ((wrap64 ((wrap64 (Int.tmod a1 16)) + 1)) + 1))) (wrap64 ((wrap64 (Int.tmod a1 16)) + 1)) t156 _ A10.out).mono ?_
            rintro e w55 ⟨rfl, hb⟩
            refine ⟨_, rfl, ?_⟩
            have n0_ := Aside0.mk (blk_below (g := gb145) (o := .cells #[.int .i64 (Int.tmod (wrap64 (a0)) (wrap64 ((wrap64 ((wrap64 (Int.tmod a1 16)) + 1)) + 1))), .int .i64 (wrap64 ((wrap64 (Int.tmod a1 16)) + 1))] 24 (0, 0)) (by (with_reducible repeat (first | refine blk_drewN ?_ _ | refine blk_drew ?_ | refine blk_alloc ?_ _)); exact BK145.out) hb)
            have n1_ := Aside0.mk (blk_below (g := gb150) (o := .cells #[.int .i64 t148, .int .i64 t149] 24 (0, 0)) (by (with_reducible repeat (first | refine blk_drewN ?_ _ | refine blk_drew ?_ | refine blk_alloc ?_ _)); exact BK150.out) hb)
            have n2_ := Aside0.mk (blk_below (g := gb155) (o := .cells #[.int .i64 t153, .int .i64 t154] 24 (0, 0)) (by (with_reducible repeat (first | refine blk_drewN ?_ _ | refine blk_drew ?_ | refine blk_alloc ?_ _)); exact BK155.out) hb)
            have n3_ := Aside0.mk (below_step (by repeat (first | (with_reducible first | exact HB.out | apply below_alloc | apply pw_below_drewN | apply below_drew1 | refine below_set ?_ GE145.out | refine below_set ?_ GE150.out | refine below_set ?_ GE155.out) | exact HB.out)) hb)
            clear BK145
            clear BK150
            clear BK155
            clear HB
            have BK145 := n0_
            have BK150 := n1_
            have BK155 := n2_
            have HB := n3_
            clear n0_ n1_ n2_ n3_
            (try clear hb)
            (try clear hb2)
            (try clear hk)
            (try clear hi)
            refine hK.out _ _ ⟨(blk_cell BK150.out 0).trans rfl, (blk_cell BK150.out 1).trans rfl, (blk_cell BK145.out 0).trans rfl, (blk_cell BK145.out 1).trans rfl, (blk_cell BK155.out 0).trans rfl, (blk_cell BK155.out 1).trans rfl⟩ (fun hHeld => ?_)
            clear hK K
            refine norm_ (a' := ?_) ?_ ?_
            rotate_left
            · show Act.put _ (some 34) _ = _
              simp only [Act.put, List.setIfInBounds_toArray, List.set_cons_zero, List.set_cons_succ, i64_w, i32_w]
              rfl
            refine pure_ (i := 5) (N := some 35) (v := ?_) (a' := ?_) #[true, true, true, true, true, true, false, false, false, false, false, false, false, false, false, false, false, false, false, false, false, false, false, false, false, false, false, false, false] rfl rfl (any_of HT_.out (by kernel_rfl)) (fun _ _ _ h => h) (Or.inl ⟨by rfl, ?_⟩) ?_ ?_
            rotate_left
            · intro w'
              go_simp
              with_reducible rfl
            rotate_left
            · simp only [Act.put, List.setIfInBounds_toArray, List.set_cons_zero, List.set_cons_succ, i64_w, i32_w]
              rfl
            refine pure_ (i := 6) (N := some 36) (v := ?_) (a' := ?_) #[true, true, true, true, true, true, true, false, false, false, false, false, false, false, false, false, false, false, false, false, false, false, false, false, false, false, false, false, false] rfl rfl (any_of HT_.out (by kernel_rfl)) (fun _ _ _ h => h) (Or.inl ⟨by rfl, ?_⟩) ?_ ?_
            rotate_left
            · intro w'
              go_simp
              with_reducible rfl
            rotate_left
            · simp only [Act.put, List.setIfInBounds_toArray, List.set_cons_zero, List.set_cons_succ, i64_w, i32_w]
              rfl
            refine pure_ (i := 7) (N := some 37) (v := ?_) (a' := ?_) #[true, true, true, true, true, true, true, true, false, false, false, false, false, false, false, false, false, false, false, false, false, false, false, false, false, false, false, false, false] rfl rfl (any_of HT_.out (by kernel_rfl)) (fun _ _ _ h => h) (Or.inl ⟨by rfl, ?_⟩) ?_ ?_
            rotate_left
            · intro w'
              go_simp
              with_reducible rfl
            rotate_left
            · simp only [Act.put, List.setIfInBounds_toArray, List.set_cons_zero, List.set_cons_succ, i64_w, i32_w]
              rfl
            refine take_ (i := 8) (N := some 38) (v := ?_) (a' := ?_) #[true, true, true, true, true, true, true, true, true, false, false, false, false, false, false, false, false, false, false, false, false, false, false, false, false, false, false, false, false] rfl rfl (take_ofW HT_.out HW_.out (by kernel_rfl)) (fun _ _ _ h => h) (Or.inl ⟨by rfl, ?_⟩) hHeld ?_ ?_
            rotate_left
            · rintro w' ⟨s0, s1, s2, s3, s4, s5⟩
              go_simp
              with_reducible rfl
            rotate_left
            · simp only [Act.put, List.setIfInBounds_toArray, List.set_cons_zero, List.set_cons_succ, i64_w, i32_w]
              rfl
            refine take_ (i := 9) (N := some 39) (v := ?_) (a' := ?_) #[true, true, true, true, true, true, true, true, true, true, false, false, false, false, false, false, false, false, false, false, false, false, false, false, false, false, false, false, false] rfl rfl (take_ofW HT_.out HW_.out (by kernel_rfl)) (fun _ _ _ h => h) (Or.inl ⟨by rfl, ?_⟩) hHeld ?_ ?_
            rotate_left
            · rintro w' ⟨s0, s1, s2, s3, s4, s5⟩
              go_simp
              with_reducible rfl
            rotate_left
            · simp only [Act.put, List.setIfInBounds_toArray, List.set_cons_zero, List.set_cons_succ, i64_w, i32_w]
              rfl
            refine pure_ (i := 10) (N := some 40) (v := ?_) (a' := ?_) #[true, true, true, true, true, true, true, true, true, true, true, false, false, false, false, false, false, false, false, false, false, false, false, false, false, false, false, false, false] rfl rfl (any_of HT_.out (by kernel_rfl)) (fun _ _ _ h => h) (Or.inl ⟨by rfl, ?_⟩) ?_ ?_
            rotate_left
            · intro w'
              go_simp
              with_reducible rfl
            rotate_left
            · simp only [Act.put, List.setIfInBounds_toArray, List.set_cons_zero, List.set_cons_succ, i64_w, i32_w]
              rfl
            refine take_ (i := 11) (N := some 41) (v := ?_) (a' := ?_) #[true, true, true, true, true, true, true, true, true, true, true, true, false, false, false, false, false, false, false, false, false, false, false, false, false, false, false, false, false] rfl rfl (take_ofW HT_.out HW_.out (by kernel_rfl)) (fun _ _ _ h => h) (Or.inl ⟨by rfl, ?_⟩) hHeld ?_ ?_
            rotate_left
            · rintro w' ⟨s0, s1, s2, s3, s4, s5⟩
              go_simp
              with_reducible rfl
            rotate_left
            · simp only [Act.put, List.setIfInBounds_toArray, List.set_cons_zero, List.set_cons_succ, i64_w, i32_w]
              rfl
            refine one_ (i := 12) (N := some 42) #[true, true, true, true, true, true, true, true, true, true, true, true, true, false, false, false, false, false, false, false, false, false, false, false, false, false, false, false, false] rfl rfl (one_of HT_.out (by kernel_rfl)) (by decide) (fun K hK => ?_)
            refine goes_ Try.func15 (by kernel_rfl) rfl #[.agg #[.int .i64 (Int.tmod (wrap64 (a0)) (wrap64 ((wrap64 ((wrap64 (Int.tmod a1 16)) + 1)) + 1))), .int .i64 (wrap64 ((wrap64 (Int.tmod a1 16)) + 1))]] (by rfl) rfl rfl (by (try simp only [List.map_toArray, List.map_cons, List.map_nil]); first | done | rfl | (simp only [List.length_drop, List.length_take]; rfl)) ?_
            with_reducible refine (leaf_Leaf_Shut.calls (Int.tmod (wrap64 (a0)) (wrap64 ((wrap64 ((wrap64 (Int.tmod a1 16)) + 1)) + 1))) (wrap64 ((wrap64 (Int.tmod a1 16)) + 1)) t157 _ A12.out).mono ?_
            rintro e w56 ⟨rfl, hb⟩
            refine ⟨_, rfl, ?_⟩
            have n0_ := Aside0.mk (blk_below (g := gb145) (o := .cells #[.int .i64 (Int.tmod (wrap64 (a0)) (wrap64 ((wrap64 ((wrap64 (Int.tmod a1 16)) + 1)) + 1))), .int .i64 (wrap64 ((wrap64 (Int.tmod a1 16)) + 1))] 24 (0, 0)) (by (with_reducible repeat (first | refine blk_drewN ?_ _ | refine blk_drew ?_ | refine blk_alloc ?_ _)); exact BK145.out) hb)
            have n1_ := Aside0.mk (blk_below (g := gb150) (o := .cells #[.int .i64 t148, .int .i64 t149] 24 (0, 0)) (by (with_reducible repeat (first | refine blk_drewN ?_ _ | refine blk_drew ?_ | refine blk_alloc ?_ _)); exact BK150.out) hb)
            have n2_ := Aside0.mk (blk_below (g := gb155) (o := .cells #[.int .i64 t153, .int .i64 t154] 24 (0, 0)) (by (with_reducible repeat (first | refine blk_drewN ?_ _ | refine blk_drew ?_ | refine blk_alloc ?_ _)); exact BK155.out) hb)
            have n3_ := Aside0.mk (below_step (by repeat (first | (with_reducible first | exact HB.out | apply below_alloc | apply pw_below_drewN | apply below_drew1 | refine below_set ?_ GE145.out | refine below_set ?_ GE150.out | refine below_set ?_ GE155.out) | exact HB.out)) hb)
            clear BK145
            clear BK150
            clear BK155
            clear HB
            have BK145 := n0_
            have BK150 := n1_
            have BK155 := n2_
            have HB := n3_
            clear n0_ n1_ n2_ n3_
            (try clear hb)
            (try clear hb2)
            (try clear hk)
            (try clear hi)
            refine hK.out _ _ ⟨(blk_cell BK150.out 0).trans rfl, (blk_cell BK150.out 1).trans rfl, (blk_cell BK145.out 0).trans rfl, (blk_cell BK145.out 1).trans rfl, (blk_cell BK155.out 0).trans rfl, (blk_cell BK155.out 1).trans rfl⟩ (fun hHeld => ?_)
            clear hK K
            refine norm_ (a' := ?_) ?_ ?_
            rotate_left
            · show Act.put _ (some 42) _ = _
              simp only [Act.put, List.setIfInBounds_toArray, List.set_cons_zero, List.set_cons_succ, i64_w, i32_w]
              rfl
            refine pure_ (i := 13) (N := some 43) (v := ?_) (a' := ?_) #[true, true, true, true, true, true, true, true, true, true, true, true, true, true, false, false, false, false, false, false, false, false, false, false, false, false, false, false, false] rfl rfl (any_of HT_.out (by kernel_rfl)) (fun _ _ _ h => h) (Or.inl ⟨by rfl, ?_⟩) ?_ ?_
            rotate_left
            · intro w'
              go_simp
              with_reducible rfl
            rotate_left
            · simp only [Act.put, List.setIfInBounds_toArray, List.set_cons_zero, List.set_cons_succ, i64_w, i32_w]
              rfl
            refine pure_ (i := 14) (N := some 44) (v := ?_) (a' := ?_) #[true, true, true, true, true, true, true, true, true, true, true, true, true, true, true, false, false, false, false, false, false, false, false, false, false, false, false, false, false] rfl rfl (any_of HT_.out (by kernel_rfl)) (fun _ _ _ h => h) (Or.inl ⟨by rfl, ?_⟩) ?_ ?_
            rotate_left
            · intro w'
              go_simp
              with_reducible rfl
            rotate_left
            · simp only [Act.put, List.setIfInBounds_toArray, List.set_cons_zero, List.set_cons_succ, i64_w, i32_w]
              rfl
            refine pure_ (i := 15) (N := some 45) (v := ?_) (a' := ?_) #[true, true, true, true, true, true, true, true, true, true, true, true, true, true, true, true, false, false, false, false, false, false, false, false, false, false, false, false, false] rfl rfl (any_of HT_.out (by kernel_rfl)) (fun _ _ _ h => h) (Or.inl ⟨by rfl, ?_⟩) ?_ ?_
            rotate_left
            · intro w'
              go_simp
              with_reducible rfl
            rotate_left
            · simp only [Act.put, List.setIfInBounds_toArray, List.set_cons_zero, List.set_cons_succ, i64_w, i32_w]
              rfl
            refine pure_ (i := 16) (N := some 46) (v := ?_) (a' := ?_) #[true, true, true, true, true, true, true, true, true, true, true, true, true, true, true, true, true, false, false, false, false, false, false, false, false, false, false, false, false] rfl rfl (any_of HT_.out (by kernel_rfl)) (fun _ _ _ h => h) (Or.inl ⟨by rfl, ?_⟩) ?_ ?_
            rotate_left
            · intro w'
              go_simp
              with_reducible rfl
            rotate_left
            · simp only [Act.put, List.setIfInBounds_toArray, List.set_cons_zero, List.set_cons_succ, i64_w, i32_w]
              rfl
            refine take_ (i := 17) (N := some 47) (v := ?_) (a' := ?_) #[true, true, true, true, true, true, true, true, true, true, true, true, true, true, true, true, true, true, false, false, false, false, false, false, false, false, false, false, false] rfl rfl (take_ofW HT_.out HW_.out (by kernel_rfl)) (fun _ _ _ h => h) (Or.inl ⟨by rfl, ?_⟩) hHeld ?_ ?_
            rotate_left
            · rintro w' ⟨s0, s1, s2, s3, s4, s5⟩
              go_simp
              with_reducible rfl
            rotate_left
            · simp only [Act.put, List.setIfInBounds_toArray, List.set_cons_zero, List.set_cons_succ, i64_w, i32_w]
              rfl
            refine take_ (i := 19) (N := some 49) (v := ?_) (a' := ?_) #[true, true, true, true, true, true, true, true, true, true, true, true, true, true, true, true, true, true, false, true, false, false, false, false, false, false, false, false, false] rfl rfl (take_ofW HT_.out HW_.out (by kernel_rfl)) (fun _ _ _ h => h) (Or.inl ⟨by rfl, ?_⟩) hHeld ?_ ?_
            rotate_left
            · rintro w' ⟨s0, s1, s2, s3, s4, s5⟩
              go_simp
              with_reducible rfl
            rotate_left
            · simp only [Act.put, List.setIfInBounds_toArray, List.set_cons_zero, List.set_cons_succ, i64_w, i32_w]
              rfl
            refine one_ (i := 18) (N := some 48) #[true, true, true, true, true, true, true, true, true, true, true, true, true, true, true, true, true, true, true, true, false, false, false, false, false, false, false, false, false] rfl rfl (one_of HT_.out (by kernel_rfl)) (by decide) (fun K hK => ?_)
            refine goes_ Try.func13 (by kernel_rfl) rfl #[.agg #[.int .i64 (Int.tmod (wrap64 (a0)) (wrap64 ((wrap64 ((wrap64 (Int.tmod a1 16)) + 1)) + 1))), .int .i64 (wrap64 ((wrap64 (Int.tmod a1 16)) + 1))], .int .i64 0, .bool true] (by rfl) rfl rfl (by (try simp only [List.map_toArray, List.map_cons, List.map_nil]); first | done | rfl | (simp only [List.length_drop, List.length_take]; rfl)) ?_
            with_reducible refine (leaf_Leaf_Step.calls (Int.tmod (wrap64 (a0)) (wrap64 ((wrap64 ((wrap64 (Int.tmod a1 16)) + 1)) + 1))) (wrap64 ((wrap64 (Int.tmod a1 16)) + 1)) 0 true t158 t159 _ A14.out).mono ?_
            rintro e w57 ⟨rfl, hb⟩
            refine ⟨_, rfl, ?_⟩
            have n0_ := Aside0.mk (blk_below (g := gb145) (o := .cells #[.int .i64 (Int.tmod (wrap64 (a0)) (wrap64 ((wrap64 ((wrap64 (Int.tmod a1 16)) + 1)) + 1))), .int .i64 (wrap64 ((wrap64 (Int.tmod a1 16)) + 1))] 24 (0, 0)) (by (with_reducible repeat (first | refine blk_drewN ?_ _ | refine blk_drew ?_ | refine blk_alloc ?_ _)); exact BK145.out) hb)
            have n1_ := Aside0.mk (blk_below (g := gb150) (o := .cells #[.int .i64 t148, .int .i64 t149] 24 (0, 0)) (by (with_reducible repeat (first | refine blk_drewN ?_ _ | refine blk_drew ?_ | refine blk_alloc ?_ _)); exact BK150.out) hb)
            have n2_ := Aside0.mk (blk_below (g := gb155) (o := .cells #[.int .i64 t153, .int .i64 t154] 24 (0, 0)) (by (with_reducible repeat (first | refine blk_drewN ?_ _ | refine blk_drew ?_ | refine blk_alloc ?_ _)); exact BK155.out) hb)
            have n3_ := Aside0.mk (below_step (by repeat (first | (with_reducible first | exact HB.out | apply below_alloc | apply pw_below_drewN | apply below_drew1 | refine below_set ?_ GE145.out | refine below_set ?_ GE150.out | refine below_set ?_ GE155.out) | exact HB.out)) hb)
            clear BK145
            clear BK150
            clear BK155
            clear HB
            have BK145 := n0_
            have BK150 := n1_
            have BK155 := n2_
            have HB := n3_
            clear n0_ n1_ n2_ n3_
            (try clear hb)
            (try clear hb2)
            (try clear hk)
            (try clear hi)
            refine hK.out _ _ ⟨(blk_cell BK150.out 0).trans rfl, (blk_cell BK150.out 1).trans rfl, (blk_cell BK145.out 0).trans rfl, (blk_cell BK145.out 1).trans rfl, (blk_cell BK155.out 0).trans rfl, (blk_cell BK155.out 1).trans rfl⟩ (fun hHeld => ?_)
            clear hK K
            refine norm_ (a' := ?_) ?_ ?_
            rotate_left
            · show Act.put _ (some 48) _ = _
              simp only [Act.put, List.setIfInBounds_toArray, List.set_cons_zero, List.set_cons_succ, i64_w, i32_w]
              rfl
            refine pure_ (i := 20) (N := some 50) (v := ?_) (a' := ?_) #[true, true, true, true, true, true, true, true, true, true, true, true, true, true, true, true, true, true, true, true, true, false, false, false, false, false, false, false, false] rfl rfl (any_of HT_.out (by kernel_rfl)) (fun _ _ _ h => h) (Or.inl ⟨by rfl, ?_⟩) ?_ ?_
            rotate_left
            · intro w'
              go_simp
              with_reducible rfl
            rotate_left
            · simp only [Act.put, List.setIfInBounds_toArray, List.set_cons_zero, List.set_cons_succ, i64_w, i32_w]
              rfl
            refine pure_ (i := 21) (N := some 51) (v := ?_) (a' := ?_) #[true, true, true, true, true, true, true, true, true, true, true, true, true, true, true, true, true, true, true, true, true, true, false, false, false, false, false, false, false] rfl rfl (any_of HT_.out (by kernel_rfl)) (fun _ _ _ h => h) (Or.inl ⟨by rfl, ?_⟩) ?_ ?_
            rotate_left
            · intro w'
              go_simp
              with_reducible rfl
            rotate_left
            · simp only [Act.put, List.setIfInBounds_toArray, List.set_cons_zero, List.set_cons_succ, i64_w, i32_w]
              rfl
            refine pure_ (i := 22) (N := some 52) (v := ?_) (a' := ?_) #[true, true, true, true, true, true, true, true, true, true, true, true, true, true, true, true, true, true, true, true, true, true, true, false, false, false, false, false, false] rfl rfl (any_of HT_.out (by kernel_rfl)) (fun _ _ _ h => h) (Or.inl ⟨by rfl, ?_⟩) ?_ ?_
            rotate_left
            · intro w'
              go_simp
              with_reducible rfl
            rotate_left
            · simp only [Act.put, List.setIfInBounds_toArray, List.set_cons_zero, List.set_cons_succ, i64_w, i32_w]
              rfl
            refine pure_ (i := 23) (N := some 53) (v := undef) (a' := ?_) #[true, true, true, true, true, true, true, true, true, true, true, true, true, true, true, true, true, true, true, true, true, true, true, true, false, false, false, false, false] rfl rfl (any_of HT_.out (by kernel_rfl)) (fun _ _ _ h => h) (Or.inr ⟨by rfl, rfl⟩) ?_ ?_
            rotate_left
            · simp only [Act.put, List.setIfInBounds_toArray, List.set_cons_zero, List.set_cons_succ, i64_w, i32_w]
              rfl
            refine pure_ (i := 24) (N := some 54) (v := undef) (a' := ?_) #[true, true, true, true, true, true, true, true, true, true, true, true, true, true, true, true, true, true, true, true, true, true, true, true, true, false, false, false, false] rfl rfl (any_of HT_.out (by kernel_rfl)) (fun _ _ _ h => h) (Or.inr ⟨by rfl, rfl⟩) ?_ ?_
            rotate_left
            · simp only [Act.put, List.setIfInBounds_toArray, List.set_cons_zero, List.set_cons_succ, i64_w, i32_w]
              rfl
            refine pure_ (i := 25) (N := some 55) (v := undef) (a' := ?_) #[true, true, true, true, true, true, true, true, true, true, true, true, true, true, true, true, true, true, true, true, true, true, true, true, true, true, false, false, false] rfl rfl (any_of HT_.out (by kernel_rfl)) (fun _ _ _ h => h) (Or.inr ⟨by rfl, rfl⟩) ?_ ?_
            rotate_left
            · simp only [Act.put, List.setIfInBounds_toArray, List.set_cons_zero, List.set_cons_succ, i64_w, i32_w]
              rfl
            refine pure_ (i := 26) (N := some 56) (v := undef) (a' := ?_) #[true, true, true, true, true, true, true, true, true, true, true, true, true, true, true, true, true, true, true, true, true, true, true, true, true, true, true, false, false] rfl rfl (any_of HT_.out (by kernel_rfl)) (fun _ _ _ h => h) (Or.inr ⟨by rfl, rfl⟩) ?_ ?_
            rotate_left
            · simp only [Act.put, List.setIfInBounds_toArray, List.set_cons_zero, List.set_cons_succ, i64_w, i32_w]
              rfl
            refine pure_ (i := 27) (N := some 57) (v := ?_) (a' := ?_) #[true, true, true, true, true, true, true, true, true, true, true, true, true, true, true, true, true, true, true, true, true, true, true, true, true, true, true, true, false] rfl rfl (any_of HT_.out (by kernel_rfl)) (fun _ _ _ h => h) (Or.inl ⟨by rfl, ?_⟩) ?_ ?_
            rotate_left
            · intro w'
              go_simp
              with_reducible rfl
            rotate_left
            · simp only [Act.put, List.setIfInBounds_toArray, List.set_cons_zero, List.set_cons_succ, i64_w, i32_w]
              rfl
            refine pure_ (i := 28) (N := some 4) (v := ?_) (a' := ?_) #[true, true, true, true, true, true, true, true, true, true, true, true, true, true, true, true, true, true, true, true, true, true, true, true, true, true, true, true, true] rfl rfl (any_of HT_.out (by kernel_rfl)) (fun _ _ _ h => h) (Or.inl ⟨by rfl, ?_⟩) ?_ ?_
            rotate_left
            · intro w'
              go_simp
              with_reducible rfl
            rotate_left
            · simp only [Act.put, List.setIfInBounds_toArray, List.set_cons_zero, List.set_cons_succ, i64_w, i32_w]
              rfl
            refine done_ (done_of HT_.out (by kernel_rfl)) ?_
            try go_wp2
            go_ret
            exact ⟨by first | rfl | (simp [errW_none, errW_some] <;> rfl) | (simp [*, errW_none, errW_some] <;> rfl), by repeat (first | (with_reducible first | exact HB.out | apply below_alloc | apply pw_below_drewN | apply below_drew1 | refine below_set ?_ GE145.out | refine below_set ?_ GE150.out | refine below_set ?_ GE155.out) | exact HB.out)⟩
        · rw [if_neg c13] at H
          have c13b0 : ((t153 == (Int.tmod (wrap64 (a0)) (wrap64 ((wrap64 ((wrap64 (Int.tmod a1 16)) + 1)) + 1))) && (t154 == (wrap64 ((wrap64 (Int.tmod a1 16)) + 1)))) == (!t157)) = false := by simpa using c13
          (try (have c13b1 : decide ((t153 == (Int.tmod (wrap64 (a0)) (wrap64 ((wrap64 ((wrap64 (Int.tmod a1 16)) + 1)) + 1))) && (t154 == (wrap64 ((wrap64 (Int.tmod a1 16)) + 1)))) = (!t157)) = false := by simpa using c13))
          (try (have c13b2 : ((t153 == (Int.tmod (wrap64 (a0)) (wrap64 ((wrap64 ((wrap64 (Int.tmod a1 16)) + 1)) + 1))) && (t154 == (wrap64 ((wrap64 (Int.tmod a1 16)) + 1)))) == (!t157)) = false := by simpa using c13))
          (try (have c13b3 : ¬ ((t153 == (Int.tmod (wrap64 (a0)) (wrap64 ((wrap64 ((wrap64 (Int.tmod a1 16)) + 1)) + 1))) && (t154 == (wrap64 ((wrap64 (Int.tmod a1 16)) + 1)))) = (!t157)) := by simpa using c13))
          clear c13
          obtain rfl := Option.some.inj H
          go_enter Try.func6, Try.ntmps6
          try go_wp2_with (first | ((with_reducible refine gate_callee (f := 12) rfl ?_); refine goesL_ (some 10) rfl rfl Try.func12 (by kernel_rfl) rfl #[] rfl (by (try simp only [List.map_toArray, List.map_cons, List.map_nil]); first | done | rfl | (simp only [List.length_drop, List.length_take]; rfl)) ?_; (with_reducible refine (paternosterlaw08_awake.calls  true _ A3.out).mono ?_); rintro e w58 ⟨rfl, hb⟩; refine ⟨_, rfl, ?_⟩; have n0_ := Aside0.mk (below_step (by repeat (first | (with_reducible first | exact HB.out | apply below_alloc | apply pw_below_drewN | apply below_drew1) | exact HB.out)) hb); clear HB; have HB := n0_; clear n0_; (try clear hb); (try clear hb2); (try clear hk); (try clear hi)) | ((with_reducible refine gate_dst (N := 7) rfl ?_); refine box_event ?hg (N := 7) ?hd (cs := #[.int .i64 0, .int .i64 0]) (t := 24) ?hr ?_; (case hd => rfl); (case hg => rfl); (case hr => first | (go_simp; done) | (go_simp; rfl)); intro gb145 hg w59 hbox hb; have n0_ := Aside0.mk (below_step (by repeat (first | (with_reducible first | exact HB.out | apply below_alloc | apply pw_below_drewN | apply below_drew1) | exact HB.out)) hb); have n1_ := Aside0.mk (hbox); have n2_ := Aside0.mk ((by rw [hg]; exact (below_size (by repeat (first | (with_reducible first | exact HB.out | apply below_alloc | apply pw_below_drewN | apply below_drew1) | exact HB.out))) : w.heap.size ≤ gb145)); have n3_ := Aside0.mk ((by rw [hg]; exact (below_size (by repeat (first | (with_reducible first | exact HB.out | apply below_alloc | apply pw_below_drewN | apply below_drew1) | exact HB.out))) : w.heap.size ≤ gb145)); clear HB; have HB := n0_; have BK145 := n1_; have GW145 := n2_; have GE145 := n3_; clear n0_ n1_ n2_ n3_; clear hb hbox hg; have hcz60_0 : w59.cell? ⟨gb145, 0, none⟩ = some (.int .i64 0) := (blk_cell BK145.out 0).trans rfl; have hcz60_1 : w59.cell? ⟨gb145, 1, none⟩ = some (.int .i64 0) := (blk_cell BK145.out 1).trans rfl; have hfz60_0 := blk_frozen BK145.out 0; have hfz60_1 := blk_frozen BK145.out 1) | ((with_reducible refine gate_callee (f := 13) rfl ?_); refine goesL_ (some 25) rfl rfl Try.func13 (by kernel_rfl) rfl #[.agg #[.int .i64 (Int.tmod (wrap64 (a0)) (wrap64 ((wrap64 ((wrap64 (Int.tmod a1 16)) + 1)) + 1))), .int .i64 (wrap64 ((wrap64 (Int.tmod a1 16)) + 1))], .int .i64 1, .bool false] rfl (by (try simp only [List.map_toArray, List.map_cons, List.map_nil]); first | done | rfl | (simp only [List.length_drop, List.length_take]; rfl)) ?_; (with_reducible refine (leaf_Leaf_Step.calls (Int.tmod (wrap64 (a0)) (wrap64 ((wrap64 ((wrap64 (Int.tmod a1 16)) + 1)) + 1))) (wrap64 ((wrap64 (Int.tmod a1 16)) + 1)) 1 false t146 t147 _ A6.out).mono ?_); rintro e w61 ⟨rfl, hb⟩; refine ⟨_, rfl, ?_⟩; have n0_ := Aside0.mk (blk_below (g := gb145) (o := .cells #[.int .i64 (Int.tmod (wrap64 (a0)) (wrap64 ((wrap64 ((wrap64 (Int.tmod a1 16)) + 1)) + 1))), .int .i64 (wrap64 ((wrap64 (Int.tmod a1 16)) + 1))] 24 (0, 0)) (by (with_reducible repeat (first | refine blk_drewN ?_ _ | refine blk_drew ?_ | refine blk_alloc ?_ _)); refine blk_put (cs := #[.int .i64 (Int.tmod (wrap64 (a0)) (wrap64 ((wrap64 ((wrap64 (Int.tmod a1 16)) + 1)) + 1))), .int .i64 0]) ?_ 1 _ rfl; (with_reducible repeat (first | refine blk_drewN ?_ _ | refine blk_drew ?_ | refine blk_alloc ?_ _)); refine blk_put (cs := #[.int .i64 0, .int .i64 0]) ?_ 0 _ rfl; (with_reducible repeat (first | refine blk_drewN ?_ _ | refine blk_drew ?_ | refine blk_alloc ?_ _)); exact BK145.out) hb); have n1_ := Aside0.mk (below_step (by repeat (first | (with_reducible first | exact HB.out | apply below_alloc | apply pw_below_drewN | apply below_drew1 | refine below_set ?_ GE145.out) | exact HB.out)) hb); clear BK145; clear HB; have BK145 := n0_; have HB := n1_; clear n0_ n1_; (try clear hb); (try clear hb2); (try clear hk); (try clear hi)) | ((with_reducible refine gate_callee (f := 13) rfl ?_); refine goesL_ (some 26) rfl rfl Try.func13 (by kernel_rfl) rfl #[.agg #[.int .i64 t146, .int .i64 t147], .int .i64 2, .bool false] rfl (by (try simp only [List.map_toArray, List.map_cons, List.map_nil]); first | done | rfl | (simp only [List.length_drop, List.length_take]; rfl)) ?_; (with_reducible refine (leaf_Leaf_Step.calls t146 t147 2 false t148 t149 _ A7.out).mono ?_); rintro e w62 ⟨rfl, hb⟩; refine ⟨_, rfl, ?_⟩; have n0_ := Aside0.mk (blk_below (g := gb145) (o := .cells #[.int .i64 (Int.tmod (wrap64 (a0)) (wrap64 ((wrap64 ((wrap64 (Int.tmod a1 16)) + 1)) + 1))), .int .i64 (wrap64 ((wrap64 (Int.tmod a1 16)) + 1))] 24 (0, 0)) (by (with_reducible repeat (first | refine blk_drewN ?_ _ | refine blk_drew ?_ | refine blk_alloc ?_ _)); exact BK145.out) hb); have n1_ := Aside0.mk (below_step (by repeat (first | (with_reducible first | exact HB.out | apply below_alloc | apply pw_below_drewN | apply below_drew1 | refine below_set ?_ GE145.out) | exact HB.out)) hb); clear BK145; clear HB; have BK145 := n0_; have HB := n1_; clear n0_ n1_; (try clear hb); (try clear hb2); (try clear hk); (try clear hi)) | ((with_reducible refine gate_dst (N := 8) rfl ?_); refine box_event ?hg (N := 8) ?hd (cs := #[.int .i64 0, .int .i64 0]) (t := 24) ?hr ?_; (case hd => rfl); (case hg => rfl); (case hr => first | (go_simp; done) | (go_simp; rfl)); intro gb150 hg w63 hbox hb; have n0_ := Aside0.mk (blk_below (g := gb145) (o := .cells #[.int .i64 (Int.tmod (wrap64 (a0)) (wrap64 ((wrap64 ((wrap64 (Int.tmod a1 16)) + 1)) + 1))), .int .i64 (wrap64 ((wrap64 (Int.tmod a1 16)) + 1))] 24 (0, 0)) (by (with_reducible repeat (first | refine blk_drewN ?_ _ | refine blk_drew ?_ | refine blk_alloc ?_ _)); exact BK145.out) hb); have n1_ := Aside0.mk (below_step (by repeat (first | (with_reducible first | exact HB.out | apply below_alloc | apply pw_below_drewN | apply below_drew1 | refine below_set ?_ GE145.out) | exact HB.out)) hb); have n2_ := Aside0.mk (hbox); have n3_ := Aside0.mk ((by rw [hg]; exact (below_size (by repeat (first | (with_reducible first | exact HB.out | apply below_alloc | apply pw_below_drewN | apply below_drew1 | refine below_set ?_ GE145.out) | exact HB.out))) : w.heap.size ≤ gb150)); have n4_ := Aside0.mk ((by rw [hg]; exact (below_size (by repeat (first | (with_reducible first | exact HB.out | apply below_alloc | apply pw_below_drewN | apply below_drew1 | refine below_set ?_ GE145.out) | exact HB.out))) : w.heap.size ≤ gb150)); have n5_ := Aside0.mk ((by rw [hg]; exact Nat.ne_of_lt (blk_lt (g := gb145) (o := .cells #[.int .i64 (Int.tmod (wrap64 (a0)) (wrap64 ((wrap64 ((wrap64 (Int.tmod a1 16)) + 1)) + 1))), .int .i64 (wrap64 ((wrap64 (Int.tmod a1 16)) + 1))] 24 (0, 0)) (by (with_reducible repeat (first | refine blk_drewN ?_ _ | refine blk_drew ?_ | refine blk_alloc ?_ _)); exact BK145.out)) : gb145 ≠ gb150)); have n6_ := Aside0.mk ((by rw [hg]; exact Nat.ne_of_gt (blk_lt (g := gb145) (o := .cells #[.int .i64 (Int.tmod (wrap64 (a0)) (wrap64 ((wrap64 ((wrap64 (Int.tmod a1 16)) + 1)) + 1))), .int .i64 (wrap64 ((wrap64 (Int.tmod a1 16)) + 1))] 24 (0, 0)) (by (with_reducible repeat (first | refine blk_drewN ?_ _ | refine blk_drew ?_ | refine blk_alloc ?_ _)); exact BK145.out)) : gb150 ≠ gb145)); clear BK145; clear HB; have BK145 := n0_; have HB := n1_; have BK150 := n2_; have GW150 := n3_; have GE150 := n4_; have NB145_150 := n5_; have NB150_145 := n6_; clear n0_ n1_ n2_ n3_ n4_ n5_ n6_; clear hb hbox hg; have hnb64 := NB150_145.out; have hnc64 := NB145_150.out; have hcz65_0 : w63.cell? ⟨gb150, 0, none⟩ = some (.int .i64 0) := (blk_cell BK150.out 0).trans rfl; have hcz65_1 : w63.cell? ⟨gb150, 1, none⟩ = some (.int .i64 0) := (blk_cell BK150.out 1).trans rfl; have hfz65_0 := blk_frozen BK150.out 0; have hfz65_1 := blk_frozen BK150.out 1; have hcz66_0 : w63.cell? ⟨gb145, 0, none⟩ = some (.int .i64 (Int.tmod (wrap64 (a0)) (wrap64 ((wrap64 ((wrap64 (Int.tmod a1 16)) + 1)) + 1)))) := (blk_cell BK145.out 0).trans rfl; have hcz66_1 : w63.cell? ⟨gb145, 1, none⟩ = some (.int .i64 (wrap64 ((wrap64 (Int.tmod a1 16)) + 1))) := (blk_cell BK145.out 1).trans rfl; have hfz66_0 := blk_frozen BK145.out 0; have hfz66_1 := blk_frozen BK145.out 1) | ((with_reducible refine gate_callee (f := 13) rfl ?_); refine goesL_ (some 28) rfl rfl Try.func13 (by kernel_rfl) rfl #[.agg #[.int .i64 (Int.tmod (wrap64 (a0)) (wrap64 ((wrap64 ((wrap64 (Int.tmod a1 16)) + 1)) + 1))), .int .i64 (wrap64 ((wrap64 (Int.tmod a1 16)) + 1))], .int .i64 2, .bool false] rfl (by (try simp only [List.map_toArray, List.map_cons, List.map_nil]); first | done | rfl | (simp only [List.length_drop, List.length_take]; rfl)) ?_; (with_reducible refine (leaf_Leaf_Step.calls (Int.tmod (wrap64 (a0)) (wrap64 ((wrap64 ((wrap64 (Int.tmod a1 16)) + 1)) + 1))) (wrap64 ((wrap64 (Int.tmod a1 16)) + 1)) 2 false t151 t152 _ A8.out).mono ?_); rintro e w67 ⟨rfl, hb⟩; refine ⟨_, rfl, ?_⟩; have n0_ := Aside0.mk (blk_below (g := gb145) (o := .cells #[.int .i64 (Int.tmod (wrap64 (a0)) (wrap64 ((wrap64 ((wrap64 (Int.tmod a1 16)) + 1)) + 1))), .int .i64 (wrap64 ((wrap64 (Int.tmod a1 16)) + 1))] 24 (0, 0)) (by (with_reducible repeat (first | refine blk_drewN ?_ _ | refine blk_drew ?_ | refine blk_alloc ?_ _)); refine blk_far ?_ NB145_150.out _; (with_reducible repeat (first | refine blk_drewN ?_ _ | refine blk_drew ?_ | refine blk_alloc ?_ _)); refine blk_far ?_ NB145_150.out _; (with_reducible repeat (first | refine blk_drewN ?_ _ | refine blk_drew ?_ | refine blk_alloc ?_ _)); exact BK145.out) hb); have n1_ := Aside0.mk (blk_below (g := gb150) (o := .cells #[.int .i64 t148, .int .i64 t149] 24 (0, 0)) (by (with_reducible repeat (first | refine blk_drewN ?_ _ | refine blk_drew ?_ | refine blk_alloc ?_ _)); refine blk_put (cs := #[.int .i64 t148, .int .i64 0]) ?_ 1 _ rfl; (with_reducible repeat (first | refine blk_drewN ?_ _ | refine blk_drew ?_ | refine blk_alloc ?_ _)); refine blk_put (cs := #[.int .i64 0, .int .i64 0]) ?_ 0 _ rfl; (with_reducible repeat (first | refine blk_drewN ?_ _ | refine blk_drew ?_ | refine blk_alloc ?_ _)); exact BK150.out) hb); have n2_ := Aside0.mk (below_step (by repeat (first | (with_reducible first | exact HB.out | apply below_alloc | apply pw_below_drewN | apply below_drew1 | refine below_set ?_ GE145.out | refine below_set ?_ GE150.out) | exact HB.out)) hb); clear BK145; clear BK150; clear HB; have BK145 := n0_; have BK150 := n1_; have HB := n2_; clear n0_ n1_ n2_; (try clear hb); (try clear hb2); (try clear hk); (try clear hi)) | ((with_reducible refine gate_callee (f := 13) rfl ?_); refine goesL_ (some 29) rfl rfl Try.func13 (by kernel_rfl) rfl #[.agg #[.int .i64 t151, .int .i64 t152], .int .i64 1, .bool false] rfl (by (try simp only [List.map_toArray, List.map_cons, List.map_nil]); first | done | rfl | (simp only [List.length_drop, List.length_take]; rfl)) ?_; (with_reducible refine (leaf_Leaf_Step.calls t151 t152 1 false t153 t154 _ A9.out).mono ?_); rintro e w68 ⟨rfl, hb⟩; refine ⟨_, rfl, ?_⟩; have n0_ := Aside0.mk (blk_below (g := gb145) (o := .cells #[.int .i64 (Int.tmod (wrap64 (a0)) (wrap64 ((wrap64 ((wrap64 (Int.tmod a1 16)) + 1)) + 1))), .int .i64 (wrap64 ((wrap64 (Int.tmod a1 16)) + 1))] 24 (0, 0)) (by (with_reducible repeat (first | refine blk_drewN ?_ _ | refine blk_drew ?_ | refine blk_alloc ?_ _)); exact BK145.out) hb); have n1_ := Aside0.mk (blk_below (g := gb150) (o := .cells #[.int .i64 t148, .int .i64 t149] 24 (0, 0)) (by (with_reducible repeat (first | refine blk_drewN ?_ _ | refine blk_drew ?_ | refine blk_alloc ?_ _)); exact BK150.out) hb); have n2_ := Aside0.mk (below_step (by repeat (first | (with_reducible first | exact HB.out | apply below_alloc | apply pw_below_drewN | apply below_drew1 | refine below_set ?_ GE145.out | refine below_set ?_ GE150.out) | exact HB.out)) hb); clear BK145; clear BK150; clear HB; have BK145 := n0_; have BK150 := n1_; have HB := n2_; clear n0_ n1_ n2_; (try clear hb); (try clear hb2); (try clear hk); (try clear hi)) | ((with_reducible refine gate_dst (N := 9) rfl ?_); refine box_event ?hg (N := 9) ?hd (cs := #[.int .i64 0, .int .i64 0]) (t := 24) ?hr ?_; (case hd => rfl); (case hg => rfl); (case hr => first | (go_simp; done) | (go_simp; rfl)); intro gb155 hg w69 hbox hb; have n0_ := Aside0.mk (blk_below (g := gb145) (o := .cells #[.int .i64 (Int.tmod (wrap64 (a0)) (wrap64 ((wrap64 ((wrap64 (Int.tmod a1 16)) + 1)) + 1))), .int .i64 (wrap64 ((wrap64 (Int.tmod a1 16)) + 1))] 24 (0, 0)) (by (with_reducible repeat (first | refine blk_drewN ?_ _ | refine blk_drew ?_ | refine blk_alloc ?_ _)); exact BK145.out) hb); have n1_ := Aside0.mk (blk_below (g := gb150) (o := .cells #[.int .i64 t148, .int .i64 t149] 24 (0, 0)) (by (with_reducible repeat (first | refine blk_drewN ?_ _ | refine blk_drew ?_ | refine blk_alloc ?_ _)); exact BK150.out) hb); have n2_ := Aside0.mk (below_step (by repeat (first | (with_reducible first | exact HB.out | apply below_alloc | apply pw_below_drewN | apply below_drew1 | refine below_set ?_ GE145.out | refine below_set ?_ GE150.out) | exact HB.out)) hb); have n3_ := Aside0.mk (hbox); have n4_ := Aside0.mk ((by rw [hg]; exact (below_size (by repeat (first | (with_reducible first | exact HB.out | apply below_alloc | apply pw_below_drewN | apply below_drew1 | refine below_set ?_ GE145.out | refine below_set ?_ GE150.out) | exact HB.out))) : w.heap.size ≤ gb155)); have n5_ := Aside0.mk ((by rw [hg]; exact (below_size (by repeat (first | (with_reducible first | exact HB.out | apply below_alloc | apply pw_below_drewN | apply below_drew1 | refine below_set ?_ GE145.out | refine below_set ?_ GE150.out) | exact HB.out))) : w.heap.size ≤ gb155)); have n6_ := Aside0.mk ((by rw [hg]; exact Nat.ne_of_lt (blk_lt (g := gb145) (o := .cells #[.int .i64 (Int.tmod (wrap64 (a0)) (wrap64 ((wrap64 ((wrap64 (Int.tmod a1 16)) + 1)) + 1))), .int .i64 (wrap64 ((wrap64 (Int.tmod a1 16)) + 1))] 24 (0, 0)) (by (with_reducible repeat (first | refine blk_drewN ?_ _ | refine blk_drew ?_ | refine blk_alloc ?_ _)); exact BK145.out)) : gb145 ≠ gb155)); have n7_ := Aside0.mk ((by rw [hg]; exact Nat.ne_of_gt (blk_lt (g := gb145) (o := .cells #[.int .i64 (Int.tmod (wrap64 (a0)) (wrap64 ((wrap64 ((wrap64 (Int.tmod a1 16)) + 1)) + 1))), .int .i64 (wrap64 ((wrap64 (Int.tmod a1 16)) + 1))] 24 (0, 0)) (by (with_reducible repeat (first | refine blk_drewN ?_ _ | refine blk_drew ?_ | refine blk_alloc ?_ _)); exact BK145.out)) : gb155 ≠ gb145)); have n8_ := Aside0.mk ((by rw [hg]; exact Nat.ne_of_lt (blk_lt (g := gb150) (o := .cells #[.int .i64 t148, .int .i64 t149] 24 (0, 0)) (by (with_reducible repeat (first | refine blk_drewN ?_ _ | refine blk_drew ?_ | refine blk_alloc ?_ _)); exact BK150.out)) : gb150 ≠ gb155)); have n9_ := Aside0.mk ((by rw [hg]; exact Nat.ne_of_gt (blk_lt (g := gb150) (o := .cells #[.int .i64 t148, .int .i64 t149] 24 (0, 0)) (by (with_reducible repeat (first | refine blk_drewN ?_ _ | refine blk_drew ?_ | refine blk_alloc ?_ _)); exact BK150.out)) : gb155 ≠ gb150)); clear BK145; clear BK150; clear HB; have BK145 := n0_; have BK150 := n1_; have HB := n2_; have BK155 := n3_; have GW155 := n4_; have GE155 := n5_; have NB145_155 := n6_; have NB155_145 := n7_; have NB150_155 := n8_; have NB155_150 := n9_; clear n0_ n1_ n2_ n3_ n4_ n5_ n6_ n7_ n8_ n9_; clear hb hbox hg; have hnb70 := NB155_145.out; have hnc70 := NB145_155.out; have hnb71 := NB155_150.out; have hnc71 := NB150_155.out; have hcz72_0 : w69.cell? ⟨gb155, 0, none⟩ = some (.int .i64 0) := (blk_cell BK155.out 0).trans rfl; have hcz72_1 : w69.cell? ⟨gb155, 1, none⟩ = some (.int .i64 0) := (blk_cell BK155.out 1).trans rfl; have hfz72_0 := blk_frozen BK155.out 0; have hfz72_1 := blk_frozen BK155.out 1))
          have n0_ : Aside0 (((w69.setCell ⟨gb155, 0, none⟩ (.int .i64 t153)).setCell ⟨gb155, 1, none⟩ (.int .i64 t154)).heap[gb145]? = some (.cells #[.int .i64 (Int.tmod (wrap64 (a0)) (wrap64 ((wrap64 ((wrap64 (Int.tmod a1 16)) + 1)) + 1))), .int .i64 (wrap64 ((wrap64 (Int.tmod a1 16)) + 1))] 24 (0, 0))) := ⟨by (with_reducible repeat (first | refine blk_drewN ?_ _ | refine blk_drew ?_ | refine blk_alloc ?_ _)); refine blk_far ?_ NB145_155.out _; (with_reducible repeat (first | refine blk_drewN ?_ _ | refine blk_drew ?_ | refine blk_alloc ?_ _)); refine blk_far ?_ NB145_155.out _; (with_reducible repeat (first | refine blk_drewN ?_ _ | refine blk_drew ?_ | refine blk_alloc ?_ _)); exact BK145.out⟩
          have n1_ : Aside0 (((w69.setCell ⟨gb155, 0, none⟩ (.int .i64 t153)).setCell ⟨gb155, 1, none⟩ (.int .i64 t154)).heap[gb150]? = some (.cells #[.int .i64 t148, .int .i64 t149] 24 (0, 0))) := ⟨by (with_reducible repeat (first | refine blk_drewN ?_ _ | refine blk_drew ?_ | refine blk_alloc ?_ _)); refine blk_far ?_ NB150_155.out _; (with_reducible repeat (first | refine blk_drewN ?_ _ | refine blk_drew ?_ | refine blk_alloc ?_ _)); refine blk_far ?_ NB150_155.out _; (with_reducible repeat (first | refine blk_drewN ?_ _ | refine blk_drew ?_ | refine blk_alloc ?_ _)); exact BK150.out⟩
          have n2_ : Aside0 (((w69.setCell ⟨gb155, 0, none⟩ (.int .i64 t153)).setCell ⟨gb155, 1, none⟩ (.int .i64 t154)).heap[gb155]? = some (.cells #[.int .i64 t153, .int .i64 t154] 24 (0, 0))) := ⟨by (with_reducible repeat (first | refine blk_drewN ?_ _ | refine blk_drew ?_ | refine blk_alloc ?_ _)); refine blk_put (cs := #[.int .i64 t153, .int .i64 0]) ?_ 1 _ rfl; (with_reducible repeat (first | refine blk_drewN ?_ _ | refine blk_drew ?_ | refine blk_alloc ?_ _)); refine blk_put (cs := #[.int .i64 0, .int .i64 0]) ?_ 0 _ rfl; (with_reducible repeat (first | refine blk_drewN ?_ _ | refine blk_drew ?_ | refine blk_alloc ?_ _)); exact BK155.out⟩
          have n3_ : Aside0 (Below w.heap.size w ((w69.setCell ⟨gb155, 0, none⟩ (.int .i64 t153)).setCell ⟨gb155, 1, none⟩ (.int .i64 t154))) := ⟨by repeat (first | (with_reducible first | exact HB.out | apply below_alloc | apply pw_below_drewN | apply below_drew1 | refine below_set ?_ GE145.out | refine below_set ?_ GE150.out | refine below_set ?_ GE155.out) | exact HB.out)⟩
          (try clear BK145)
          (try clear BK150)
          (try clear BK155)
          (try clear HB)
          generalize ((w69.setCell ⟨gb155, 0, none⟩ (.int .i64 t153)).setCell ⟨gb155, 1, none⟩ (.int .i64 t154)) = w73 at n0_ n1_ n2_ n3_ ⊢
          have BK145 := n0_
          have BK150 := n1_
          have BK155 := n2_
          have HB := n3_
          clear n0_ n1_ n2_ n3_
          have n0_ := Aside0.mk (blk_drew BK145.out)
          have n1_ := Aside0.mk (blk_drew BK150.out)
          have n2_ := Aside0.mk (blk_drew BK155.out)
          have n3_ := Aside0.mk (below_drew1 HB.out)
          clear BK145
          clear BK150
          clear BK155
          clear HB
          have BK145 := n0_
          have BK150 := n1_
          have BK155 := n2_
          have HB := n3_
          clear n0_ n1_ n2_ n3_
          refine start_ (n := 29) (S := fun w' => w'.cell? ⟨gb150, 0, none⟩ = some (.int .i64 t148) ∧ w'.cell? ⟨gb150, 1, none⟩ = some (.int .i64 t149) ∧ w'.cell? ⟨gb145, 0, none⟩ = some (.int .i64 (Int.tmod (wrap64 (a0)) (wrap64 ((wrap64 ((wrap64 (Int.tmod a1 16)) + 1)) + 1)))) ∧ w'.cell? ⟨gb145, 1, none⟩ = some (.int .i64 (wrap64 ((wrap64 (Int.tmod a1 16)) + 1))) ∧ w'.cell? ⟨gb155, 0, none⟩ = some (.int .i64 t153) ∧ w'.cell? ⟨gb155, 1, none⟩ = some (.int .i64 t154)) (ds := []) #[false, false, false, false, false, false, false, false, false, false, false, false, false, false, false, false, false, false, false, false, false, false, false, false, false, false, false, false, false] (by kernel_rfl) rfl rfl ⟨(blk_cell BK150.out 0).trans rfl, (blk_cell BK150.out 1).trans rfl, (blk_cell BK145.out 0).trans rfl, (blk_cell BK145.out 1).trans rfl, (blk_cell BK155.out 0).trans rfl, (blk_cell BK155.out 1).trans rfl⟩ (fun hHeld => ?_); refine with_tabW paternosterlaw08_LeafBack.tab8 paternosterlaw08_LeafBack.bits8 (fun HT_ HW_ => ?_)
          generalize w73.drew = w74 at BK145 BK150 BK155 HB hHeld ⊢
          refine take_ (i := 0) (N := some 30) (v := ?_) (a' := ?_) #[true, false, false, false, false, false, false, false, false, false, false, false, false, false, false, false, false, false, false, false, false, false, false, false, false, false, false, false, false] rfl rfl (take_ofW HT_.out HW_.out (by kernel_rfl)) (fun _ _ _ h => h) (Or.inl ⟨by rfl, ?_⟩) hHeld ?_ ?_
          rotate_left
          · rintro w' ⟨s0, s1, s2, s3, s4, s5⟩
            go_simp
            with_reducible rfl
          rotate_left
          · simp only [Act.put, List.setIfInBounds_toArray, List.set_cons_zero, List.set_cons_succ, i64_w, i32_w]
            rfl
          refine take_ (i := 1) (N := some 31) (v := ?_) (a' := ?_) #[true, true, false, false, false, false, false, false, false, false, false, false, false, false, false, false, false, false, false, false, false, false, false, false, false, false, false, false, false] rfl rfl (take_ofW HT_.out HW_.out (by kernel_rfl)) (fun _ _ _ h => h) (Or.inl ⟨by rfl, ?_⟩) hHeld ?_ ?_
          rotate_left
          · rintro w' ⟨s0, s1, s2, s3, s4, s5⟩
            go_simp
            with_reducible rfl
          rotate_left
          · simp only [Act.put, List.setIfInBounds_toArray, List.set_cons_zero, List.set_cons_succ, i64_w, i32_w]
            rfl
          refine pure_ (i := 2) (N := some 32) (v := ?_) (a' := ?_) #[true, true, true, false, false, false, false, false, false, false, false, false, false, false, false, false, false, false, false, false, false, false, false, false, false, false, false, false, false] rfl rfl (any_of HT_.out (by kernel_rfl)) (fun _ _ _ h => h) (Or.inl ⟨by rfl, ?_⟩) ?_ ?_
          rotate_left
          · intro w'
            go_simp
            with_reducible rfl
          rotate_left
          · simp only [Act.put, List.setIfInBounds_toArray, List.set_cons_zero, List.set_cons_succ, i64_w, i32_w]
            rfl
          refine take_ (i := 3) (N := some 33) (v := ?_) (a' := ?_) #[true, true, true, true, false, false, false, false, false, false, false, false, false, false, false, false, false, false, false, false, false, false, false, false, false, false, false, false, false] rfl rfl (take_ofW HT_.out HW_.out (by kernel_rfl)) (fun _ _ _ h => h) (Or.inl ⟨by rfl, ?_⟩) hHeld ?_ ?_
          rotate_left
          · rintro w' ⟨s0, s1, s2, s3, s4, s5⟩
            go_simp
            with_reducible rfl
          rotate_left
          · simp only [Act.put, List.setIfInBounds_toArray, List.set_cons_zero, List.set_cons_succ, i64_w, i32_w]
            rfl
          refine one_ (i := 4) (N := some 34) #[true, true, true, true, true, false, false, false, false, false, false, false, false, false, false, false, false, false, false, false, false, false, false, false, false, false, false, false, false] rfl rfl (one_of HT_.out (by kernel_rfl)) (by decide) (fun K hK => ?_)
          refine goes_ Try.func16 (by kernel_rfl) rfl #[.agg #[.int .i64 (Int.tmod (wrap64 (a0)) (wrap64 ((wrap64 ((wrap64 (Int.tmod a1 16)) + 1)) + 1))), .int .i64 (wrap64 ((wrap64 (Int.tmod a1 16)) + 1))]] (by rfl) rfl rfl (by (try simp only [List.map_toArray, List.map_cons, List.map_nil]); first | done | rfl | (simp only [List.length_drop, List.length_take]; rfl)) ?_
          with_reducible refine (leaf_Leaf_Wide.calls (Int.tmod (wrap64 (a0)) (wrap64 ((wrap64 ((wrap64 (Int.tmod a1 16)) + 1)) + 1))) (wrap64 ((wrap64 (Int.tmod a1 16)) + 1)) t156 _ A10.out).mono ?_
          rintro e w75 ⟨rfl, hb⟩
          refine ⟨_, rfl, ?_⟩
          have n0_ := Aside0.mk (blk_below (g := gb145) (o := .cells #[.int .i64 (Int.tmod (wrap64 (a0)) (wrap64 ((wrap64 ((wrap64 (Int.tmod a1 16)) + 1)) + 1))), .int .i64 (wrap64 ((wrap64 (Int.tmod a1 16)) + 1))] 24 (0, 0)) (by (with_reducible repeat (first | refine blk_drewN ?_ _ | refine blk_drew ?_ | refine blk_alloc ?_ _)); exact BK145.out) hb)
          have n1_ := Aside0.mk (blk_below (g := gb150) (o := .cells #[.int .i64 t148, .int .i64 t149] 24 (0, 0)) (by (with_reducible repeat (first | refine blk_drewN ?_ _ | refine blk_drew ?_ | refine blk_alloc ?_ _)); exact BK150.out) hb)
          have n2_ := Aside0.mk (blk_below (g := gb155) (o := .cells #[.int .i64 t153, .int .i64 t154] 24 (0, 0)) (by (with_reducible repeat (first | refine blk_drewN ?_ _ | refine blk_drew ?_ | refine blk_alloc ?_ _)); exact BK155.out) hb)
          have n3_ := Aside0.mk (below_step (by repeat (first | (with_reducible first | exact HB.out | apply below_alloc | apply pw_below_drewN | apply below_drew1 | refine below_set ?_ GE145.out | refine below_set ?_ GE150.out | refine below_set ?_ GE155.out) | exact HB.out)) hb)
          clear BK145
          clear BK150
          clear BK155
          clear HB
          have BK145 := n0_
          have BK150 := n1_
          have BK155 := n2_
          have HB := n3_
          clear n0_ n1_ n2_ n3_
          (try clear hb)
          (try clear hb2)
          (try clear hk)
          (try clear hi)
          refine hK.out _ _ ⟨(blk_cell BK150.out 0).trans rfl, (blk_cell BK150.out 1).trans rfl, (blk_cell BK145.out 0).trans rfl, (blk_cell BK145.out 1).trans rfl, (blk_cell BK155.out 0).trans rfl, (blk_cell BK155.out 1).trans rfl⟩ (fun hHeld => ?_)
          clear hK K
          refine norm_ (a' := ?_) ?_ ?_
          rotate_left
          · show Act.put _ (some 34) _ = _
            simp only [Act.put, List.setIfInBounds_toArray, List.set_cons_zero, List.set_cons_succ, i64_w, i32_w]
            rfl
          refine pure_ (i := 5) (N := some 35) (v := ?_) (a' := ?_) #[true, true, true, true, true, true, false, false, false, false, false, false, false, false, false, false, false, false, false, false, false, false, false, false, false, false, false, false, false] rfl rfl (any_of HT_.out (by kernel_rfl)) (fun _ _ _ h => h) (Or.inl ⟨by rfl, ?_⟩) ?_ ?_
          rotate_left
          · intro w'
            go_simp
            with_reducible rfl
          rotate_left
          · simp only [Act.put, List.setIfInBounds_toArray, List.set_cons_zero, List.set_cons_succ, i64_w, i32_w]
            rfl
          refine pure_ (i := 6) (N := some 36) (v := ?_) (a' := ?_) #[true, true, true, true, true, true, true, false, false, false, false, false, false, false, false, false, false, false, false, false, false, false, false, false, false, false, false, false, false] rfl rfl (any_of HT_.out (by kernel_rfl)) (fun _ _ _ h => h) (Or.inl ⟨by rfl, ?_⟩) ?_ ?_
          rotate_left
          · intro w'
            go_simp
            with_reducible rfl
          rotate_left
          · simp only [Act.put, List.setIfInBounds_toArray, List.set_cons_zero, List.set_cons_succ, i64_w, i32_w]
            rfl
          refine pure_ (i := 7) (N := some 37) (v := ?_) (a' := ?_) #[true, true, true, true, true, true, true, true, false, false, false, false, false, false, false, false, false, false, false, false, false, false, false, false, false, false, false, false, false] rfl rfl (any_of HT_.out (by kernel_rfl)) (fun _ _ _ h => h) (Or.inl ⟨by rfl, ?_⟩) ?_ ?_
          rotate_left
          · intro w'
            go_simp
            with_reducible rfl
          rotate_left
          · simp only [Act.put, List.setIfInBounds_toArray, List.set_cons_zero, List.set_cons_succ, i64_w, i32_w]
            rfl
          refine take_ (i := 8) (N := some 38) (v := ?_) (a' := ?_) #[true, true, true, true, true, true, true, true, true, false, false, false, false, false, false, false, false, false, false, false, false, false, false, false, false, false, false, false, false] rfl rfl (take_ofW HT_.out HW_.out (by kernel_rfl)) (fun _ _ _ h => h) (Or.inl ⟨by rfl, ?_⟩) hHeld ?_ ?_
          rotate_left
          · rintro w' ⟨s0, s1, s2, s3, s4, s5⟩
            go_simp
            with_reducible rfl
          rotate_left
          · simp only [Act.put, List.setIfInBounds_toArray, List.set_cons_zero, List.set_cons_succ, i64_w, i32_w]
            rfl
          refine take_ (i := 9) (N := some 39) (v := ?_) (a' := ?_) #[true, true, true, true, true, true, true, true, true, true, false, false, false, false, false, false, false, false, false, false, false, false, false, false, false, false, false, false, false] rfl rfl (take_ofW HT_.out HW_.out (by kernel_rfl)) (fun _ _ _ h => h) (Or.inl ⟨by rfl, ?_⟩) hHeld ?_ ?_
          rotate_left
          · rintro w' ⟨s0, s1, s2, s3, s4, s5⟩
            go_simp
            with_reducible rfl
          rotate_left
          · simp only [Act.put, List.setIfInBounds_toArray, List.set_cons_zero, List.set_cons_succ, i64_w, i32_w]
            rfl
          refine pure_ (i := 10) (N := some 40) (v := ?_) (a' := ?_) #[true, true, true, true, true, true, true, true, true, true, true, false, false, false, false, false, false, false, false, false, false, false, false, false, false, false, false, false, false] rfl rfl (any_of HT_.out (by kernel_rfl)) (fun _ _ _ h => h) (Or.inl ⟨by rfl, ?_⟩) ?_ ?_
          rotate_left
          · intro w'
            go_simp
            with_reducible rfl
          rotate_left
          · simp only [Act.put, List.setIfInBounds_toArray, List.set_cons_zero, List.set_cons_succ, i64_w, i32_w]
            rfl
          refine take_ (i := 11) (N := some 41) (v := ?_) (a' := ?_) #[true, true, true, true, true, true, true, true, true, true, true, true, false, false, false, false, false, false, false, false, false, false, false, false, false, false, false, false, false] rfl rfl (take_ofW HT_.out HW_.out (by kernel_rfl)) (fun _ _ _ h => h) (Or.inl ⟨by rfl, ?_⟩) hHeld ?_ ?_
          rotate_left
          · rintro w' ⟨s0, s1, s2, s3, s4, s5⟩
            go_simp
            with_reducible rfl
          rotate_left
          · simp only [Act.put, List.setIfInBounds_toArray, List.set_cons_zero, List.set_cons_succ, i64_w, i32_w]
            rfl
          refine one_ (i := 12) (N := some 42) #[true, true, true, true, true, true, true, true, true, true, true, true, true, false, false, false, false, false, false, false, false, false, false, false, false, false, false, false, false] rfl rfl (one_of HT_.out (by kernel_rfl)) (by decide) (fun K hK => ?_)
          refine goes_ Try.func15 (by kernel_rfl) rfl #[.agg #[.int .i64 (Int.tmod (wrap64 (a0)) (wrap64 ((wrap64 ((wrap64 (Int.tmod a1 16)) + 1)) + 1))), .int .i64 (wrap64 ((wrap64 (Int.tmod a1 16)) + 1))]] (by rfl) rfl rfl (by (try simp only [List.map_toArray, List.map_cons, List.map_nil]); first | done | rfl | (simp only [List.length_drop, List.length_take]; rfl)) ?_
          with_reducible refine (leaf_Leaf_Shut.calls (Int.tmod (wrap64 (a0)) (wrap64 ((wrap64 ((wrap64 (Int.tmod a1 16)) + 1)) + 1))) (wrap64 ((wrap64 (Int.tmod a1 16)) + 1)) t157 _ A12.out).mono ?_
          rintro e w76 ⟨rfl, hb⟩
          refine ⟨_, rfl, ?_⟩
          have n0_ := Aside0.mk (blk_below (g := gb145) (o := .cells #[.int .i64 (Int.tmod (wrap64 (a0)) (wrap64 ((wrap64 ((wrap64 (Int.tmod a1 16)) + 1)) + 1))), .int .i64 (wrap64 ((wrap64 (Int.tmod a1 16)) + 1))] 24 (0, 0)) (by (with_reducible repeat (first | refine blk_drewN ?_ _ | refine blk_drew ?_ | refine blk_alloc ?_ _)); exact BK145.out) hb)
          have n1_ := Aside0.mk (blk_below (g := gb150) (o := .cells #[.int .i64 t148, .int .i64 t149] 24 (0, 0)) (by (with_reducible repeat (first | refine blk_drewN ?_ _ | refine blk_drew ?_ | refine blk_alloc ?_ _)); exact BK150.out) hb)
          have n2_ := Aside0.mk (blk_below (g := gb155) (o := .cells #[.int .i64 t153, .int .i64 t154] 24 (0, 0)) (by (with_reducible repeat (first | refine blk_drewN ?_ _ | refine blk_drew ?_ | refine blk_alloc ?_ _)); exact BK155.out) hb)
          have n3_ := Aside0.mk (below_step (by repeat (first | (with_reducible first | exact HB.out | apply below_alloc | apply pw_below_drewN | apply below_drew1 | refine below_set ?_ GE145.out | refine below_set ?_ GE150.out | refine below_set ?_ GE155.out) | exact HB.out)) hb)
          clear BK145
          clear BK150
          clear BK155
          clear HB
          have BK145 := n0_
          have BK150 := n1_
          have BK155 := n2_
          have HB := n3_
          clear n0_ n1_ n2_ n3_
          (try clear hb)
          (try clear hb2)
          (try clear hk)
          (try clear hi)
          refine hK.out _ _ ⟨(blk_cell BK150.out 0).trans rfl, (blk_cell BK150.out 1).trans rfl, (blk_cell BK145.out 0).trans rfl, (blk_cell BK145.out 1).trans rfl, (blk_cell BK155.out 0).trans rfl, (blk_cell BK155.out 1).trans rfl⟩ (fun hHeld => ?_)
          clear hK K
          refine norm_ (a' := ?_) ?_ ?_
          rotate_left
          · show Act.put _ (some 42) _ = _
            simp only [Act.put, List.setIfInBounds_toArray, List.set_cons_zero, List.set_cons_succ, i64_w, i32_w]
            rfl
          refine pure_ (i := 13) (N := some 43) (v := ?_) (a' := ?_) #[true, true, true, true, true, true, true, true, true, true, true, true, true, true, false, false, false, false, false, false, false, false, false, false, false, false, false, false, false] rfl rfl (any_of HT_.out (by kernel_rfl)) (fun _ _ _ h => h) (Or.inl ⟨by rfl, ?_⟩) ?_ ?_
          rotate_left
          · intro w'
            go_simp
            with_reducible rfl
          rotate_left
          · simp only [Act.put, List.setIfInBounds_toArray, List.set_cons_zero, List.set_cons_succ, i64_w, i32_w]
            rfl
          refine pure_ (i := 14) (N := some 44) (v := ?_) (a' := ?_) #[true, true, true, true, true, true, true, true, true, true, true, true, true, true, true, false, false, false, false, false, false, false, false, false, false, false, false, false, false] rfl rfl (any_of HT_.out (by kernel_rfl)) (fun _ _ _ h => h) (Or.inl ⟨by rfl, ?_⟩) ?_ ?_
          rotate_left
          · intro w'
            go_simp
            with_reducible rfl
          rotate_left
          · simp only [Act.put, List.setIfInBounds_toArray, List.set_cons_zero, List.set_cons_succ, i64_w, i32_w]
            rfl
          refine pure_ (i := 15) (N := some 45) (v := ?_) (a' := ?_) #[true, true, true, true, true, true, true, true, true, true, true, true, true, true, true, true, false, false, false, false, false, false, false, false, false, false, false, false, false] rfl rfl (any_of HT_.out (by kernel_rfl)) (fun _ _ _ h => h) (Or.inl ⟨by rfl, ?_⟩) ?_ ?_
          rotate_left
          · intro w'
            go_simp
            with_reducible rfl
          rotate_left
          · simp only [Act.put, List.setIfInBounds_toArray, List.set_cons_zero, List.set_cons_succ, i64_w, i32_w]
            rfl
          refine pure_ (i := 16) (N := some 46) (v := ?_) (a' := ?_) #[true, true, true, true, true, true, true, true, true, true, true, true, true, true, true, true, true, false, false, false, false, false, false, false, false, false, false, false, false] rfl rfl (any_of HT_.out (by kernel_rfl)) (fun _ _ _ h => h) (Or.inl ⟨by rfl, ?_⟩) ?_ ?_
          rotate_left
          · intro w'
            go_simp
            with_reducible rfl
          rotate_left
          · simp only [Act.put, List.setIfInBounds_toArray, List.set_cons_zero, List.set_cons_succ, i64_w, i32_w]
            rfl
          refine pure_ (i := 17) (N := some 47) (v := undef) (a' := ?_) #[true, true, true, true, true, true, true, true, true, true, true, true, true, true, true, true, true, true, false, false, false, false, false, false, false, false, false, false, false] rfl rfl (any_of HT_.out (by kernel_rfl)) (fun _ _ _ h => h) (Or.inr ⟨by rfl, rfl⟩) ?_ ?_
          rotate_left
          · simp only [Act.put, List.setIfInBounds_toArray, List.set_cons_zero, List.set_cons_succ, i64_w, i32_w]
            rfl
          refine pure_ (i := 18) (N := some 48) (v := undef) (a' := ?_) #[true, true, true, true, true, true, true, true, true, true, true, true, true, true, true, true, true, true, true, false, false, false, false, false, false, false, false, false, false] rfl rfl (any_of HT_.out (by kernel_rfl)) (fun _ _ _ h => h) (Or.inr ⟨by rfl, rfl⟩) ?_ ?_
          rotate_left
          · simp only [Act.put, List.setIfInBounds_toArray, List.set_cons_zero, List.set_cons_succ, i64_w, i32_w]
            rfl
          refine pure_ (i := 19) (N := some 49) (v := undef) (a' := ?_) #[true, true, true, true, true, true, true, true, true, true, true, true, true, true, true, true, true, true, true, true, false, false, false, false, false, false, false, false, false] rfl rfl (any_of HT_.out (by kernel_rfl)) (fun _ _ _ h => h) (Or.inr ⟨by rfl, rfl⟩) ?_ ?_
          rotate_left
          · simp only [Act.put, List.setIfInBounds_toArray, List.set_cons_zero, List.set_cons_succ, i64_w, i32_w]
            rfl
          refine pure_ (i := 20) (N := some 50) (v := undef) (a' := ?_) #[true, true, true, true, true, true, true, true, true, true, true, true, true, true, true, true, true, true, true, true, true, false, false, false, false, false, false, false, false] rfl rfl (any_of HT_.out (by kernel_rfl)) (fun _ _ _ h => h) (Or.inr ⟨by rfl, rfl⟩) ?_ ?_
          rotate_left
          · simp only [Act.put, List.setIfInBounds_toArray, List.set_cons_zero, List.set_cons_succ, i64_w, i32_w]
            rfl
          refine pure_ (i := 21) (N := some 51) (v := ?_) (a' := ?_) #[true, true, true, true, true, true, true, true, true, true, true, true, true, true, true, true, true, true, true, true, true, true, false, false, false, false, false, false, false] rfl rfl (any_of HT_.out (by kernel_rfl)) (fun _ _ _ h => h) (Or.inl ⟨by rfl, ?_⟩) ?_ ?_
          rotate_left
          · intro w'
            go_simp
            with_reducible rfl
          rotate_left
          · simp only [Act.put, List.setIfInBounds_toArray, List.set_cons_zero, List.set_cons_succ, i64_w, i32_w]
            rfl
          refine pure_ (i := 22) (N := some 52) (v := ?_) (a' := ?_) #[true, true, true, true, true, true, true, true, true, true, true, true, true, true, true, true, true, true, true, true, true, true, true, false, false, false, false, false, false] rfl rfl (any_of HT_.out (by kernel_rfl)) (fun _ _ _ h => h) (Or.inl ⟨by rfl, ?_⟩) ?_ ?_
          rotate_left
          · intro w'
            go_simp
            with_reducible rfl
          rotate_left
          · simp only [Act.put, List.setIfInBounds_toArray, List.set_cons_zero, List.set_cons_succ, i64_w, i32_w]
            rfl
          refine pure_ (i := 23) (N := some 53) (v := undef) (a' := ?_) #[true, true, true, true, true, true, true, true, true, true, true, true, true, true, true, true, true, true, true, true, true, true, true, true, false, false, false, false, false] rfl rfl (any_of HT_.out (by kernel_rfl)) (fun _ _ _ h => h) (Or.inr ⟨by rfl, rfl⟩) ?_ ?_
          rotate_left
          · simp only [Act.put, List.setIfInBounds_toArray, List.set_cons_zero, List.set_cons_succ, i64_w, i32_w]
            rfl
          refine pure_ (i := 24) (N := some 54) (v := undef) (a' := ?_) #[true, true, true, true, true, true, true, true, true, true, true, true, true, true, true, true, true, true, true, true, true, true, true, true, true, false, false, false, false] rfl rfl (any_of HT_.out (by kernel_rfl)) (fun _ _ _ h => h) (Or.inr ⟨by rfl, rfl⟩) ?_ ?_
          rotate_left
          · simp only [Act.put, List.setIfInBounds_toArray, List.set_cons_zero, List.set_cons_succ, i64_w, i32_w]
            rfl
          refine pure_ (i := 25) (N := some 55) (v := undef) (a' := ?_) #[true, true, true, true, true, true, true, true, true, true, true, true, true, true, true, true, true, true, true, true, true, true, true, true, true, true, false, false, false] rfl rfl (any_of HT_.out (by kernel_rfl)) (fun _ _ _ h => h) (Or.inr ⟨by rfl, rfl⟩) ?_ ?_
          rotate_left
          · simp only [Act.put, List.setIfInBounds_toArray, List.set_cons_zero, List.set_cons_succ, i64_w, i32_w]
            rfl
          refine pure_ (i := 26) (N := some 56) (v := undef) (a' := ?_) #[true, true, true, true, true, true, true, true, true, true, true, true, true, true, true, true, true, true, true, true, true, true, true, true, true, true, true, false, false] rfl rfl (any_of HT_.out (by kernel_rfl)) (fun _ _ _ h => h) (Or.inr ⟨by rfl, rfl⟩) ?_ ?_
          rotate_left
          · simp only [Act.put, List.setIfInBounds_toArray, List.set_cons_zero, List.set_cons_succ, i64_w, i32_w]
            rfl
          refine pure_ (i := 27) (N := some 57) (v := ?_) (a' := ?_) #[true, true, true, true, true, true, true, true, true, true, true, true, true, true, true, true, true, true, true, true, true, true, true, true, true, true, true, true, false] rfl rfl (any_of HT_.out (by kernel_rfl)) (fun _ _ _ h => h) (Or.inl ⟨by rfl, ?_⟩) ?_ ?_
          rotate_left
          · intro w'
            go_simp
            with_reducible rfl
          rotate_left
          · simp only [Act.put, List.setIfInBounds_toArray, List.set_cons_zero, List.set_cons_succ, i64_w, i32_w]
            rfl
          refine pure_ (i := 28) (N := some 4) (v := ?_) (a' := ?_) #[true, true, true, true, true, true, true, true, true, true, true, true, true, true, true, true, true, true, true, true, true, true, true, true, true, true, true, true, true] rfl rfl (any_of HT_.out (by kernel_rfl)) (fun _ _ _ h => h) (Or.inl ⟨by rfl, ?_⟩) ?_ ?_
          rotate_left
          · intro w'
            go_simp
            with_reducible rfl
          rotate_left
          · simp only [Act.put, List.setIfInBounds_toArray, List.set_cons_zero, List.set_cons_succ, i64_w, i32_w]
            rfl
          refine done_ (done_of HT_.out (by kernel_rfl)) ?_
          try go_wp2
          go_ret
          exact ⟨by first | rfl | (simp [errW_none, errW_some] <;> rfl) | (simp [*, errW_none, errW_some] <;> rfl), by repeat (first | (with_reducible first | exact HB.out | apply below_alloc | apply pw_below_drewN | apply below_drew1 | refine below_set ?_ GE145.out | refine below_set ?_ GE150.out | refine below_set ?_ GE155.out) | exact HB.out)⟩
      · rw [if_neg c11] at H
        have c11b0 : ((t148 == (Int.tmod (wrap64 (a0)) (wrap64 ((wrap64 ((wrap64 (Int.tmod a1 16)) + 1)) + 1))) && (t149 == (wrap64 ((wrap64 (Int.tmod a1 16)) + 1)))) == (!t156)) = false := by simpa using c11
        (try (have c11b1 : decide ((t148 == (Int.tmod (wrap64 (a0)) (wrap64 ((wrap64 ((wrap64 (Int.tmod a1 16)) + 1)) + 1))) && (t149 == (wrap64 ((wrap64 (Int.tmod a1 16)) + 1)))) = (!t156)) = false := by simpa using c11))
        (try (have c11b2 : ((t148 == (Int.tmod (wrap64 (a0)) (wrap64 ((wrap64 ((wrap64 (Int.tmod a1 16)) + 1)) + 1))) && (t149 == (wrap64 ((wrap64 (Int.tmod a1 16)) + 1)))) == (!t156)) = false := by simpa using c11))
        (try (have c11b3 : ¬ ((t148 == (Int.tmod (wrap64 (a0)) (wrap64 ((wrap64 ((wrap64 (Int.tmod a1 16)) + 1)) + 1))) && (t149 == (wrap64 ((wrap64 (Int.tmod a1 16)) + 1)))) = (!t156)) := by simpa using c11))
        clear c11
        obtain rfl := Option.some.inj H
        go_enter Try.func6, Try.ntmps6
        try go_wp2_with (first | ((with_reducible refine gate_callee (f := 12) rfl ?_); refine goesL_ (some 10) rfl rfl Try.func12 (by kernel_rfl) rfl #[] rfl (by (try simp only [List.map_toArray, List.map_cons, List.map_nil]); first | done | rfl | (simp only [List.length_drop, List.length_take]; rfl)) ?_; (with_reducible refine (paternosterlaw08_awake.calls  true _ A3.out).mono ?_); rintro e w77 ⟨rfl, hb⟩; refine ⟨_, rfl, ?_⟩; have n0_ := Aside0.mk (below_step (by repeat (first | (with_reducible first | exact HB.out | apply below_alloc | apply pw_below_drewN | apply below_drew1) | exact HB.out)) hb); clear HB; have HB := n0_; clear n0_; (try clear hb); (try clear hb2); (try clear hk); (try clear hi)) | ((with_reducible refine gate_dst (N := 7) rfl ?_); refine box_event ?hg (N := 7) ?hd (cs := #[.int .i64 0, .int .i64 0]) (t := 24) ?hr ?_; (case hd => rfl); (case hg => rfl); (case hr => first | (go_simp; done) | (go_simp; rfl)); intro gb145 hg w78 hbox hb; have n0_ := Aside0.mk (below_step (by repeat (first | (with_reducible first | exact HB.out | apply below_alloc | apply pw_below_drewN | apply below_drew1) | exact HB.out)) hb); have n1_ := Aside0.mk (hbox); have n2_ := Aside0.mk ((by rw [hg]; exact (below_size (by repeat (first | (with_reducible first | exact HB.out | apply below_alloc | apply pw_below_drewN | apply below_drew1) | exact HB.out))) : w.heap.size ≤ gb145)); have n3_ := Aside0.mk ((by rw [hg]; exact (below_size (by repeat (first | (with_reducible first | exact HB.out | apply below_alloc | apply pw_below_drewN | apply below_drew1) | exact HB.out))) : w.heap.size ≤ gb145)); clear HB; have HB := n0_; have BK145 := n1_; have GW145 := n2_; have GE145 := n3_; clear n0_ n1_ n2_ n3_; clear hb hbox hg; have hcz79_0 : w78.cell? ⟨gb145, 0, none⟩ = some (.int .i64 0) := (blk_cell BK145.out 0).trans rfl; have hcz79_1 : w78.cell? ⟨gb145, 1, none⟩ = some (.int .i64 0) := (blk_cell BK145.out 1).trans rfl; have hfz79_0 := blk_frozen BK145.out 0; have hfz79_1 := blk_frozen BK145.out 1) | ((with_reducible refine gate_callee (f := 13) rfl ?_); refine goesL_ (some 25) rfl rfl Try.func13 (by kernel_rfl) rfl #[.agg #[.int .i64 (Int.tmod (wrap64 (a0)) (wrap64 ((wrap64 ((wrap64 (Int.tmod a1 16)) + 1)) + 1))), .int .i64 (wrap64 ((wrap64 (Int.tmod a1 16)) + 1))], .int .i64 1, .bool false] rfl (by (try simp only [List.map_toArray, List.map_cons, List.map_nil]); first | done | rfl | (simp only [List.length_drop, List.length_take]; rfl)) ?_; (with_reducible refine (leaf_Leaf_Step.calls (Int.tmod (wrap64 (a0)) (wrap64 ((wrap64 ((wrap64 (Int.tmod a1 16)) + 1)) + 1))) (wrap64 ((wrap64 (Int.tmod a1 16)) + 1)) 1 false t146 t147 _ A6.out).mono ?_); rintro e w80 ⟨rfl, hb⟩; refine ⟨_, rfl, ?_⟩; have n0_ := Aside0.mk (blk_below (g := gb145) (o := .cells #[.int .i64 (Int.tmod (wrap64 (a0)) (wrap64 ((wrap64 ((wrap64 (Int.tmod a1 16)) + 1)) + 1))), .int .i64 (wrap64 ((wrap64 (Int.tmod a1 16)) + 1))] 24 (0, 0)) (by (with_reducible repeat (first | refine blk_drewN ?_ _ | refine blk_drew ?_ | refine blk_alloc ?_ _)); refine blk_put (cs := #[.int .i64 (Int.tmod (wrap64 (a0)) (wrap64 ((wrap64 ((wrap64 (Int.tmod a1 16)) + 1)) + 1))), .int .i64 0]) ?_ 1 _ rfl; (with_reducible repeat (first | refine blk_drewN ?_ _ | refine blk_drew ?_ | refine blk_alloc ?_ _)); refine blk_put (cs := #[.int .i64 0, .int .i64 0]) ?_ 0 _ rfl; (with_reducible repeat (first | refine blk_drewN ?_ _ | refine blk_drew ?_ | refine blk_alloc ?_ _)); exact BK145.out) hb); have n1_ := Aside0.mk (below_step (by repeat (first | (with_reducible first | exact HB.out | apply below_alloc | apply pw_below_drewN | apply below_drew1 | refine below_set ?_ GE145.out) | exact HB.out)) hb); clear BK145; clear HB; have BK145 := n0_; have HB := n1_; clear n0_ n1_; (try clear hb); (try clear hb2); (try clear hk); (try clear hi)) | ((with_reducible refine gate_callee (f := 13) rfl ?_); refine goesL_ (some 26) rfl rfl Try.func13 (by kernel_rfl) rfl #[.agg #[.int .i64 t146, .int .i64 t147], .int .i64 2, .bool false] rfl (by (try simp only [List.map_toArray, List.map_cons, List.map_nil]); first | done | rfl | (simp only [List.length_drop, List.length_take]; rfl)) ?_; (with_reducible refine (leaf_Leaf_Step.calls t146 t147 2 false t148 t149 _ A7.out).mono ?_); rintro e w81 ⟨rfl, hb⟩; refine ⟨_, rfl, ?_⟩; have n0_ := Aside0.mk (blk_below (g := gb145) (o := .cells #[.int .i64 (Int.tmod (wrap64 (a0)) (wrap64 ((wrap64 ((wrap64 (Int.tmod a1 16)) + 1)) + 1))), .int .i64 (wrap64 ((wrap64 (Int.tmod a1 16)) + 1))] 24 (0, 0)) (by (with_reducible repeat (first | refine blk_drewN ?_ _ | refine blk_drew ?_ | refine blk_alloc ?_ _)); exact BK145.out) hb); have n1_ := Aside0.mk (below_step (by repeat (first | (with_reducible first | exact HB.out | apply below_alloc | apply pw_below_drewN | apply below_drew1 | refine below_set ?_ GE145.out) | exact HB.out)) hb); clear BK145; clear HB; have BK145 := n0_; have HB := n1_; clear n0_ n1_; (try clear hb); (try clear hb2); (try clear hk); (try clear hi)) | ((with_reducible refine gate_dst (N := 8) rfl ?_); refine box_event ?hg (N := 8) ?hd (cs := #[.int .i64 0, .int .i64 0]) (t := 24) ?hr ?_; (case hd => rfl); (case hg => rfl); (case hr => first | (go_simp; done) | (go_simp; rfl)); intro gb150 hg w82 hbox hb; have n0_ := Aside0.mk (blk_below (g := gb145) (o := .cells #[.int .i64 (Int.tmod (wrap64 (a0)) (wrap64 ((wrap64 ((wrap64 (Int.tmod a1 16)) + 1)) + 1))), .int .i64 (wrap64 ((wrap64 (Int.tmod a1 16)) + 1))] 24 (0, 0)) (by (with_reducible repeat (first | refine blk_drewN ?_ _ | refine blk_drew ?_ | refine blk_alloc ?_ _)); exact BK145.out) hb); have n1_ := Aside0.mk (below_step (by repeat (first | (with_reducible first | exact HB.out | apply below_alloc | apply pw_below_drewN | apply below_drew1 | refine below_set ?_ GE145.out) | exact HB.out)) hb); have n2_ := Aside0.mk (hbox); have n3_ := Aside0.mk ((by rw [hg]; exact (below_size (by repeat (first | (with_reducible first | exact HB.out | apply below_alloc | apply pw_below_drewN | apply below_drew1 | refine below_set ?_ GE145.out) | exact HB.out))) : w.heap.size ≤ gb150)); have n4_ := Aside0.mk ((by rw [hg]; exact (below_size (by repeat (first | (with_reducible first | exact HB.out | apply below_alloc | apply pw_below_drewN | apply below_drew1 | refine below_set ?_ GE145.out) | exact HB.out))) : w.heap.size ≤ gb150)); have n5_ := Aside0.mk ((by rw [hg]; exact Nat.ne_of_lt (blk_lt (g := gb145) (o := .cells #[.int .i64 (Int.tmod (wrap64 (a0)) (wrap64 ((wrap64 ((wrap64 (Int.tmod a1 16)) + 1)) + 1))), .int .i64 (wrap64 ((wrap64 (Int.tmod a1 16)) + 1))] 24 (0, 0)) (by (with_reducible repeat (first | refine blk_drewN ?_ _ | refine blk_drew ?_ | refine blk_alloc ?_ _)); exact BK145.out)) : gb145 ≠ gb150)); have n6_ := Aside0.mk ((by rw [hg]; exact Nat.ne_of_gt (blk_lt (g := gb145) (o := .cells #[.int .i64 (Int.tmod (wrap64 (a0)) (wrap64 ((wrap64 ((wrap64 (Int.tmod a1 16)) + 1)) + 1))), .int .i64 (wrap64 ((wrap64 (Int.tmod a1 16)) + 1))] 24 (0, 0)) (by (with_reducible repeat (first | refine blk_drewN ?_ _ | refine blk_drew ?_ | refine blk_alloc ?_ _)); exact BK145.out)) : gb150 ≠ gb145)); clear BK145; clear HB; have BK145 := n0_; have HB := n1_; have BK150 := n2_; have GW150 := n3_; have GE150 := n4_; have NB145_150 := n5_; have NB150_145 := n6_; clear n0_ n1_ n2_ n3_ n4_ n5_ n6_; clear hb hbox hg; have hnb83 := NB150_145.out; have hnc83 := NB145_150.out; have hcz84_0 : w82.cell? ⟨gb150, 0, none⟩ = some (.int .i64 0) := (blk_cell BK150.out 0).trans rfl; have hcz84_1 : w82.cell? ⟨gb150, 1, none⟩ = some (.int .i64 0) := (blk_cell BK150.out 1).trans rfl; have hfz84_0 := blk_frozen BK150.out 0; have hfz84_1 := blk_frozen BK150.out 1; have hcz85_0 : w82.cell? ⟨gb145, 0, none⟩ = some (.int .i64 (Int.tmod (wrap64 (a0)) (wrap64 ((wrap64 ((wrap64 (Int.tmod a1 16)) + 1)) + 1)))) := (blk_cell BK145.out 0).trans rfl; have hcz85_1 : w82.cell? ⟨gb145, 1, none⟩ = some (.int .i64 (wrap64 ((wrap64 (Int.tmod a1 16)) + 1))) := (blk_cell BK145.out 1).trans rfl; have hfz85_0 := blk_frozen BK145.out 0; have hfz85_1 := blk_frozen BK145.out 1) | ((with_reducible refine gate_callee (f := 13) rfl ?_); refine goesL_ (some 28) rfl rfl Try.func13 (by kernel_rfl) rfl #[.agg #[.int .i64 (Int.tmod (wrap64 (a0)) (wrap64 ((wrap64 ((wrap64 (Int.tmod a1 16)) + 1)) + 1))), .int .i64 (wrap64 ((wrap64 (Int.tmod a1 16)) + 1))], .int .i64 2, .bool false] rfl (by (try simp only [List.map_toArray, List.map_cons, List.map_nil]); first | done | rfl | (simp only [List.length_drop, List.length_take]; rfl)) ?_; (with_reducible refine (leaf_Leaf_Step.calls (Int.tmod (wrap64 (a0)) (wrap64 ((wrap64 ((wrap64 (Int.tmod a1 16)) + 1)) + 1))) (wrap64 ((wrap64 (Int.tmod a1 16)) + 1)) 2 false t151 t152 _ A8.out).mono ?_); rintro e w86 ⟨rfl, hb⟩; refine ⟨_, rfl, ?_⟩; have n0_ := Aside0.mk (blk_below (g := gb145) (o := .cells #[.int .i64 (Int.tmod (wrap64 (a0)) (wrap64 ((wrap64 ((wrap64 (Int.tmod a1 16)) + 1)) + 1))), .int .i64 (wrap64 ((wrap64 (Int.tmod a1 16)) + 1))] 24 (0, 0)) (by (with_reducible repeat (first | refine blk_drewN ?_ _ | refine blk_drew ?_ | refine blk_alloc ?_ _)); refine blk_far ?_ NB145_150.out _; (with_reducible repeat (first | refine blk_drewN ?_ _ | refine blk_drew ?_ | refine blk_alloc ?_ _)); refine blk_far ?_ NB145_150.out _; (with_reducible repeat (first | refine blk_drewN ?_ _ | refine blk_drew ?_ | refine blk_alloc ?_ _)); exact BK145.out) hb); have n1_ := Aside0.mk (blk_below (g := gb150) (o := .cells #[.int .i64 t148, .int .i64 t149] 24 (0, 0)) (by (with_reducible repeat (first | refine blk_drewN ?_ _ | refine blk_drew ?_ | refine blk_alloc ?_ _)); refine blk_put (cs := #[.int .i64 t148, .int .i64 0]) ?_ 1 _ rfl; (with_reducible repeat (first | refine blk_drewN ?_ _ | refine blk_drew ?_ | refine blk_alloc ?_ _)); refine blk_put (cs := #[.int .i64 0, .int .i64 0]) ?_ 0 _ rfl; (with_reducible repeat (first | refine blk_drewN ?_ _ | refine blk_drew ?_ | refine blk_alloc ?_ _)); exact BK150.out) hb); have n2_ := Aside0.mk (below_step (by repeat (first | (with_reducible first | exact HB.out | apply below_alloc | apply pw_below_drewN | apply below_drew1 | refine below_set ?_ GE145.out | refine below_set ?_ GE150.out) | exact HB.out)) hb); clear BK145; clear BK150; clear HB; have BK145 := n0_; have BK150 := n1_; have HB := n2_; clear n0_ n1_ n2_; (try clear hb); (try clear hb2); (try clear hk); (try clear hi)) | ((with_reducible refine gate_callee (f := 13) rfl ?_); refine goesL_ (some 29) rfl rfl Try.func13 (by kernel_rfl) rfl #[.agg #[.int .i64 t151, .int .i64 t152], .int .i64 1, .bool false] rfl (by (try simp only [List.map_toArray, List.map_cons, List.map_nil]); first | done | rfl | (simp only [List.length_drop, List.length_take]; rfl)) ?_; (with_reducible refine (leaf_Leaf_Step.calls t151 t152 1 false t153 t154 _ A9.out).mono ?_); rintro e w87 ⟨rfl, hb⟩; refine ⟨_, rfl, ?_⟩; have n0_ := Aside0.mk (blk_below (g := gb145) (o := .cells #[.int .i64 (Int.tmod (wrap64 (a0)) (wrap64 ((wrap64 ((wrap64 (Int.tmod a1 16)) + 1)) + 1))), .int .i64 (wrap64 ((wrap64 (Int.tmod a1 16)) + 1))] 24 (0, 0)) (by (with_reducible repeat (first | refine blk_drewN ?_ _ | refine blk_drew ?_ | refine blk_alloc ?_ _)); exact BK145.out) hb); have n1_ := Aside0.mk (blk_below (g := gb150) (o := .cells #[.int .i64 t148, .int .i64 t149] 24 (0, 0)) (by (with_reducible repeat (first | refine blk_drewN ?_ _ | refine blk_drew ?_ | refine blk_alloc ?_ _)); exact BK150.out) hb); have n2_ := Aside0.mk (below_step (by repeat (first | (with_reducible first | exact HB.out | apply below_alloc | apply pw_below_drewN | apply below_drew1 | refine below_set ?_ GE145.out | refine below_set ?_ GE150.out) | exact HB.out)) hb); clear BK145; clear BK150; clear HB; have BK145 := n0_; have BK150 := n1_; have HB := n2_; clear n0_ n1_ n2_; (try clear hb); (try clear hb2); (try clear hk); (try clear hi)) | ((with_reducible refine gate_dst (N := 9) rfl ?_); refine box_event ?hg (N := 9) ?hd (cs := #[.int .i64 0, .int .i64 0]) (t := 24) ?hr ?_; (case hd => rfl); (case hg => rfl); (case hr => first | (go_simp; done) | (go_simp; rfl)); intro gb155 hg w88 hbox hb; have n0_ := Aside0.mk (blk_below (g := gb145) (o := .cells #[.int .i64 (Int.tmod (wrap64 (a0)) (wrap64 ((wrap64 ((wrap64 (Int.tmod a1 16)) + 1)) + 1))), .int .i64 (wrap64 ((wrap64 (Int.tmod a1 16)) + 1))] 24 (0, 0)) (by (with_reducible repeat (first | refine blk_drewN ?_ _ | refine blk_drew ?_ | refine blk_alloc ?_ _)); exact BK145.out) hb); have n1_ := Aside0.mk (blk_below (g := gb150) (o := .cells #[.int .i64 t148, .int .i64 t149] 24 (0, 0)) (by (with_reducible repeat (first | refine blk_drewN ?_ _ | refine blk_drew ?_ | refine blk_alloc ?_ _)); exact BK150.out) hb); have n2_ := Aside0.mk (below_step (by repeat (first | (with_reducible first | exact HB.out | apply below_alloc | apply pw_below_drewN | apply below_drew1 | refine below_set ?_ GE145.out | refine below_set ?_ GE150.out) | exact HB.out)) hb); have n3_ := Aside0.mk (hbox); have n4_ := Aside0.mk ((by rw [hg]; exact (below_size (by repeat (first | (with_reducible first | exact HB.out | apply below_alloc | apply pw_below_drewN | apply below_drew1 | refine below_set ?_ GE145.out | refine below_set ?_ GE150.out) | exact HB.out))) : w.heap.size ≤ gb155)); have n5_ := Aside0.mk ((by rw [hg]; exact (below_size (by repeat (first | (with_reducible first | exact HB.out | apply below_alloc | apply pw_below_drewN | apply below_drew1 | refine below_set ?_ GE145.out | refine below_set ?_ GE150.out) | exact HB.out))) : w.heap.size ≤ gb155)); have n6_ := Aside0.mk ((by rw [hg]; exact Nat.ne_of_lt (blk_lt (g := gb145) (o := .cells #[.int .i64 (Int.tmod (wrap64 (a0)) (wrap64 ((wrap64 ((wrap64 (Int.tmod a1 16)) + 1)) + 1))), .int .i64 (wrap64 ((wrap64 (Int.tmod a1 16)) + 1))] 24 (0, 0)) (by (with_reducible repeat (first | refine blk_drewN ?_ _ | refine blk_drew ?_ | refine blk_alloc ?_ _)); exact BK145.out)) : gb145 ≠ gb155)); have n7_ := Aside0.mk ((by rw [hg]; exact Nat.ne_of_gt (blk_lt (g := gb145) (o := .cells #[.int .i64 (Int.tmod (wrap64 (a0)) (wrap64 ((wrap64 ((wrap64 (Int.tmod a1 16)) + 1)) + 1))), .int .i64 (wrap64 ((wrap64 (Int.tmod a1 16)) + 1))] 24 (0, 0)) (by (with_reducible repeat (first | refine blk_drewN ?_ _ | refine blk_drew ?_ | refine blk_alloc ?_ _)); exact BK145.out)) : gb155 ≠ gb145)); have n8_ := Aside0.mk ((by rw [hg]; exact Nat.ne_of_lt (blk_lt (g := gb150) (o := .cells #[.int .i64 t148, .int .i64 t149] 24 (0, 0)) (by (with_reducible repeat (first | refine blk_drewN ?_ _ | refine blk_drew ?_ | refine blk_alloc ?_ _)); exact BK150.out)) : gb150 ≠ gb155)); have n9_ := Aside0.mk ((by rw [hg]; exact Nat.ne_of_gt (blk_lt (g := gb150) (o := .cells #[.int .i64 t148, .int .i64 t149] 24 (0, 0)) (by (with_reducible repeat (first | refine blk_drewN ?_ _ | refine blk_drew ?_ | refine blk_alloc ?_ _)); exact BK150.out)) : gb155 ≠ gb150)); clear BK145; clear BK150; clear HB; have BK145 := n0_; have BK150 := n1_; have HB := n2_; have BK155 := n3_; have GW155 := n4_; have GE155 := n5_; have NB145_155 := n6_; have NB155_145 := n7_; have NB150_155 := n8_; have NB155_150 := n9_; clear n0_ n1_ n2_ n3_ n4_ n5_ n6_ n7_ n8_ n9_; clear hb hbox hg; have hnb89 := NB155_145.out; have hnc89 := NB145_155.out; have hnb90 := NB155_150.out; have hnc90 := NB150_155.out; have hcz91_0 : w88.cell? ⟨gb155, 0, none⟩ = some (.int .i64 0) := (blk_cell BK155.out 0).trans rfl; have hcz91_1 : w88.cell? ⟨gb155, 1, none⟩ = some (.int .i64 0) := (blk_cell BK155.out 1).trans rfl; have hfz91_0 := blk_frozen BK155.out 0; have hfz91_1 := blk_frozen BK155.out 1))
        have n0_ : Aside0 (((w88.setCell ⟨gb155, 0, none⟩ (.int .i64 t153)).setCell ⟨gb155, 1, none⟩ (.int .i64 t154)).heap[gb145]? = some (.cells #[.int .i64 (Int.tmod (wrap64 (a0)) (wrap64 ((wrap64 ((wrap64 (Int.tmod a1 16)) + 1)) + 1))), .int .i64 (wrap64 ((wrap64 (Int.tmod a1 16)) + 1))] 24 (0, 0))) := ⟨by (with_reducible repeat (first | refine blk_drewN ?_ _ | refine blk_drew ?_ | refine blk_alloc ?_ _)); refine blk_far ?_ NB145_155.out _; (with_reducible repeat (first | refine blk_drewN ?_ _ | refine blk_drew ?_ | refine blk_alloc ?_ _)); refine blk_far ?_ NB145_155.out _; (with_reducible repeat (first | refine blk_drewN ?_ _ | refine blk_drew ?_ | refine blk_alloc ?_ _)); exact BK145.out⟩
        have n1_ : Aside0 (((w88.setCell ⟨gb155, 0, none⟩ (.int .i64 t153)).setCell ⟨gb155, 1, none⟩ (.int .i64 t154)).heap[gb150]? = some (.cells #[.int .i64 t148, .int .i64 t149] 24 (0, 0))) := ⟨by (with_reducible repeat (first | refine blk_drewN ?_ _ | refine blk_drew ?_ | refine blk_alloc ?_ _)); refine blk_far ?_ NB150_155.out _; (with_reducible repeat (first | refine blk_drewN ?_ _ | refine blk_drew ?_ | refine blk_alloc ?_ _)); refine blk_far ?_ NB150_155.out _; (with_reducible repeat (first | refine blk_drewN ?_ _ | refine blk_drew ?_ | refine blk_alloc ?_ _)); exact BK150.out⟩
        have n2_ : Aside0 (((w88.setCell ⟨gb155, 0, none⟩ (.int .i64 t153)).setCell ⟨gb155, 1, none⟩ (.int .i64 t154)).heap[gb155]? = some (.cells #[.int .i64 t153, .int .i64 t154] 24 (0, 0))) := ⟨by (with_reducible repeat (first | refine blk_drewN ?_ _ | refine blk_drew ?_ | refine blk_alloc ?_ _)); refine blk_put (cs := #[.int .i64 t153, .int .i64 0]) ?_ 1 _ rfl; (with_reducible repeat (first | refine blk_drewN ?_ _ | refine blk_drew ?_ | refine blk_alloc ?_ _)); refine blk_put (cs := #[.int .i64 0, .int .i64 0]) ?_ 0 _ rfl; (with_reducible repeat (first | refine blk_drewN ?_ _ | refine blk_drew ?_ | refine blk_alloc ?_ _)); exact BK155.out⟩
        have n3_ : Aside0 (Below w.heap.size w ((w88.setCell ⟨gb155, 0, none⟩ (.int .i64 t153)).setCell ⟨gb155, 1, none⟩ (.int .i64 t154))) := ⟨by repeat (first | (with_reducible first | exact HB.out | apply below_alloc | apply pw_below_drewN | apply below_drew1 | refine below_set ?_ GE145.out | refine below_set ?_ GE150.out | refine below_set ?_ GE155.out) | exact HB.out)⟩
        (try clear BK145)
        (try clear BK150)
        (try clear BK155)
        (try clear HB)
        generalize ((w88.setCell ⟨gb155, 0, none⟩ (.int .i64 t153)).setCell ⟨gb155, 1, none⟩ (.int .i64 t154)) = w92 at n0_ n1_ n2_ n3_ ⊢
        have BK145 := n0_
        have BK150 := n1_
        have BK155 := n2_
        have HB := n3_
        clear n0_ n1_ n2_ n3_
        have n0_ := Aside0.mk (blk_drew BK145.out)
        have n1_ := Aside0.mk (blk_drew BK150.out)
        have n2_ := Aside0.mk (blk_drew BK155.out)
        have n3_ := Aside0.mk (below_drew1 HB.out)
        clear BK145
        clear BK150
        clear BK155
        clear HB
        have BK145 := n0_
        have BK150 := n1_
        have BK155 := n2_
        have HB := n3_
        clear n0_ n1_ n2_ n3_
        refine start_ (n := 29) (S := fun w' => w'.cell? ⟨gb150, 0, none⟩ = some (.int .i64 t148) ∧ w'.cell? ⟨gb150, 1, none⟩ = some (.int .i64 t149) ∧ w'.cell? ⟨gb145, 0, none⟩ = some (.int .i64 (Int.tmod (wrap64 (a0)) (wrap64 ((wrap64 ((wrap64 (Int.tmod a1 16)) + 1)) + 1)))) ∧ w'.cell? ⟨gb145, 1, none⟩ = some (.int .i64 (wrap64 ((wrap64 (Int.tmod a1 16)) + 1)))) (ds := []) #[false, false, false, false, false, false, false, false, false, false, false, false, false, false, false, false, false, false, false, false, false, false, false, false, false, false, false, false, false] (by kernel_rfl) rfl rfl ⟨(blk_cell BK150.out 0).trans rfl, (blk_cell BK150.out 1).trans rfl, (blk_cell BK145.out 0).trans rfl, (blk_cell BK145.out 1).trans rfl⟩ (fun hHeld => ?_); refine with_tabW paternosterlaw08_LeafBack.tab8 paternosterlaw08_LeafBack.bits8 (fun HT_ HW_ => ?_)
        generalize w92.drew = w93 at BK145 BK150 BK155 HB hHeld ⊢
        refine take_ (i := 0) (N := some 30) (v := ?_) (a' := ?_) #[true, false, false, false, false, false, false, false, false, false, false, false, false, false, false, false, false, false, false, false, false, false, false, false, false, false, false, false, false] rfl rfl (take_ofW HT_.out HW_.out (by kernel_rfl)) (fun _ _ _ h => h) (Or.inl ⟨by rfl, ?_⟩) hHeld ?_ ?_
        rotate_left
        · rintro w' ⟨s0, s1, s2, s3⟩
          go_simp
          with_reducible rfl
        rotate_left
        · simp only [Act.put, List.setIfInBounds_toArray, List.set_cons_zero, List.set_cons_succ, i64_w, i32_w]
          rfl
        refine take_ (i := 1) (N := some 31) (v := ?_) (a' := ?_) #[true, true, false, false, false, false, false, false, false, false, false, false, false, false, false, false, false, false, false, false, false, false, false, false, false, false, false, false, false] rfl rfl (take_ofW HT_.out HW_.out (by kernel_rfl)) (fun _ _ _ h => h) (Or.inl ⟨by rfl, ?_⟩) hHeld ?_ ?_
        rotate_left
        · rintro w' ⟨s0, s1, s2, s3⟩
          go_simp
          with_reducible rfl
        rotate_left
        · simp only [Act.put, List.setIfInBounds_toArray, List.set_cons_zero, List.set_cons_succ, i64_w, i32_w]
          rfl
        refine pure_ (i := 2) (N := some 32) (v := ?_) (a' := ?_) #[true, true, true, false, false, false, false, false, false, false, false, false, false, false, false, false, false, false, false, false, false, false, false, false, false, false, false, false, false] rfl rfl (any_of HT_.out (by kernel_rfl)) (fun _ _ _ h => h) (Or.inl ⟨by rfl, ?_⟩) ?_ ?_
        rotate_left
        · intro w'
          go_simp
          with_reducible rfl
        rotate_left
        · simp only [Act.put, List.setIfInBounds_toArray, List.set_cons_zero, List.set_cons_succ, i64_w, i32_w]
          rfl
        refine take_ (i := 3) (N := some 33) (v := ?_) (a' := ?_) #[true, true, true, true, false, false, false, false, false, false, false, false, false, false, false, false, false, false, false, false, false, false, false, false, false, false, false, false, false] rfl rfl (take_ofW HT_.out HW_.out (by kernel_rfl)) (fun _ _ _ h => h) (Or.inl ⟨by rfl, ?_⟩) hHeld ?_ ?_
        rotate_left
        · rintro w' ⟨s0, s1, s2, s3⟩
          go_simp
          with_reducible rfl
        rotate_left
        · simp only [Act.put, List.setIfInBounds_toArray, List.set_cons_zero, List.set_cons_succ, i64_w, i32_w]
          rfl
        refine one_ (i := 4) (N := some 34) #[true, true, true, true, true, false, false, false, false, false, false, false, false, false, false, false, false, false, false, false, false, false, false, false, false, false, false, false, false] rfl rfl (one_of HT_.out (by kernel_rfl)) (by decide) (fun K hK => ?_)
        refine goes_ Try.func16 (by kernel_rfl) rfl #[.agg #[.int .i64 (Int.tmod (wrap64 (a0)) (wrap64 ((wrap64 ((wrap64 (Int.tmod a1 16)) + 1)) + 1))), .int .i64 (wrap64 ((wrap64 (Int.tmod a1 16)) + 1))]] (by rfl) rfl rfl (by (try simp only [List.map_toArray, List.map_cons, List.map_nil]); first | done | rfl | (simp only [List.length_drop, List.length_take]; rfl)) ?_
        with_reducible refine (leaf_Leaf_Wide.calls (Int.tmod (wrap64 (a0)) (wrap64 ((wrap64 ((wrap64 (Int.tmod a1 16)) + 1)) + 1))) (wrap64 ((wrap64 (Int.tmod a1 16)) + 1)) t156 _ A10.out).mono ?_
        rintro e w94 ⟨rfl, hb⟩
        refine ⟨_, rfl, ?_⟩
        have n0_ := Aside0.mk (blk_below (g := gb145) (o := .cells #[.int .i64 (Int.tmod (wrap64 (a0)) (wrap64 ((wrap64 ((wrap64 (Int.tmod a1 16)) + 1)) + 1))), .int .i64 (wrap64 ((wrap64 (Int.tmod a1 16)) + 1))] 24 (0, 0)) (by (with_reducible repeat (first | refine blk_drewN ?_ _ | refine blk_drew ?_ | refine blk_alloc ?_ _)); exact BK145.out) hb)
        have n1_ := Aside0.mk (blk_below (g := gb150) (o := .cells #[.int .i64 t148, .int .i64 t149] 24 (0, 0)) (by (with_reducible repeat (first | refine blk_drewN ?_ _ | refine blk_drew ?_ | refine blk_alloc ?_ _)); exact BK150.out) hb)
        have n2_ := Aside0.mk (blk_below (g := gb155) (o := .cells #[.int .i64 t153, .int .i64 t154] 24 (0, 0)) (by (with_reducible repeat (first | refine blk_drewN ?_ _ | refine blk_drew ?_ | refine blk_alloc ?_ _)); exact BK155.out) hb)
        have n3_ := Aside0.mk (below_step (by repeat (first | (with_reducible first | exact HB.out | apply below_alloc | apply pw_below_drewN | apply below_drew1 | refine below_set ?_ GE145.out | refine below_set ?_ GE150.out | refine below_set ?_ GE155.out) | exact HB.out)) hb)
        clear BK145
        clear BK150
        clear BK155
        clear HB
        have BK145 := n0_
        have BK150 := n1_
        have BK155 := n2_
        have HB := n3_
        clear n0_ n1_ n2_ n3_
        (try clear hb)
        (try clear hb2)
        (try clear hk)
        (try clear hi)
        refine hK.out _ _ ⟨(blk_cell BK150.out 0).trans rfl, (blk_cell BK150.out 1).trans rfl, (blk_cell BK145.out 0).trans rfl, (blk_cell BK145.out 1).trans rfl⟩ (fun hHeld => ?_)
        clear hK K
        refine norm_ (a' := ?_) ?_ ?_
        rotate_left
        · show Act.put _ (some 34) _ = _
          simp only [Act.put, List.setIfInBounds_toArray, List.set_cons_zero, List.set_cons_succ, i64_w, i32_w]
          rfl
        refine pure_ (i := 5) (N := some 35) (v := ?_) (a' := ?_) #[true, true, true, true, true, true, false, false, false, false, false, false, false, false, false, false, false, false, false, false, false, false, false, false, false, false, false, false, false] rfl rfl (any_of HT_.out (by kernel_rfl)) (fun _ _ _ h => h) (Or.inl ⟨by rfl, ?_⟩) ?_ ?_
        rotate_left
        · intro w'
          go_simp
          with_reducible rfl
        rotate_left
        · simp only [Act.put, List.setIfInBounds_toArray, List.set_cons_zero, List.set_cons_succ, i64_w, i32_w]
          rfl
        refine pure_ (i := 6) (N := some 36) (v := ?_) (a' := ?_) #[true, true, true, true, true, true, true, false, false, false, false, false, false, false, false, false, false, false, false, false, false, false, false, false, false, false, false, false, false] rfl rfl (any_of HT_.out (by kernel_rfl)) (fun _ _ _ h => h) (Or.inl ⟨by rfl, ?_⟩) ?_ ?_
        rotate_left
        · intro w'
          go_simp
          with_reducible rfl
        rotate_left
        · simp only [Act.put, List.setIfInBounds_toArray, List.set_cons_zero, List.set_cons_succ, i64_w, i32_w]
          rfl
        refine pure_ (i := 7) (N := some 37) (v := ?_) (a' := ?_) #[true, true, true, true, true, true, true, true, false, false, false, false, false, false, false, false, false, false, false, false, false, false, false, false, false, false, false, false, false] rfl rfl (any_of HT_.out (by kernel_rfl)) (fun _ _ _ h => h) (Or.inl ⟨by rfl, ?_⟩) ?_ ?_
        rotate_left
        · intro w'
          go_simp
          with_reducible rfl
        rotate_left
        · simp only [Act.put, List.setIfInBounds_toArray, List.set_cons_zero, List.set_cons_succ, i64_w, i32_w]
          rfl
        refine pure_ (i := 8) (N := some 38) (v := undef) (a' := ?_) #[true, true, true, true, true, true, true, true, true, false, false, false, false, false, false, false, false, false, false, false, false, false, false, false, false, false, false, false, false] rfl rfl (any_of HT_.out (by kernel_rfl)) (fun _ _ _ h => h) (Or.inr ⟨by rfl, rfl⟩) ?_ ?_
        rotate_left
        · simp only [Act.put, List.setIfInBounds_toArray, List.set_cons_zero, List.set_cons_succ, i64_w, i32_w]
          rfl
        refine pure_ (i := 9) (N := some 39) (v := undef) (a' := ?_) #[true, true, true, true, true, true, true, true, true, true, false, false, false, false, false, false, false, false, false, false, false, false, false, false, false, false, false, false, false] rfl rfl (any_of HT_.out (by kernel_rfl)) (fun _ _ _ h => h) (Or.inr ⟨by rfl, rfl⟩) ?_ ?_
        rotate_left
        · simp only [Act.put, List.setIfInBounds_toArray, List.set_cons_zero, List.set_cons_succ, i64_w, i32_w]
          rfl
        refine pure_ (i := 10) (N := some 40) (v := undef) (a' := ?_) #[true, true, true, true, true, true, true, true, true, true, true, false, false, false, false, false, false, false, false, false, false, false, false, false, false, false, false, false, false] rfl rfl (any_of HT_.out (by kernel_rfl)) (fun _ _ _ h => h) (Or.inr ⟨by rfl, rfl⟩) ?_ ?_
        rotate_left
        · simp only [Act.put, List.setIfInBounds_toArray, List.set_cons_zero, List.set_cons_succ, i64_w, i32_w]
          rfl
        refine pure_ (i := 11) (N := some 41) (v := undef) (a' := ?_) #[true, true, true, true, true, true, true, true, true, true, true, true, false, false, false, false, false, false, false, false, false, false, false, false, false, false, false, false, false] rfl rfl (any_of HT_.out (by kernel_rfl)) (fun _ _ _ h => h) (Or.inr ⟨by rfl, rfl⟩) ?_ ?_
        rotate_left
        · simp only [Act.put, List.setIfInBounds_toArray, List.set_cons_zero, List.set_cons_succ, i64_w, i32_w]
          rfl
        refine pure_ (i := 12) (N := some 42) (v := undef) (a' := ?_) #[true, true, true, true, true, true, true, true, true, true, true, true, true, false, false, false, false, false, false, false, false, false, false, false, false, false, false, false, false] rfl rfl (any_of HT_.out (by kernel_rfl)) (fun _ _ _ h => h) (Or.inr ⟨by rfl, rfl⟩) ?_ ?_
        rotate_left
        · simp only [Act.put, List.setIfInBounds_toArray, List.set_cons_zero, List.set_cons_succ, i64_w, i32_w]
          rfl
        refine pure_ (i := 13) (N := some 43) (v := undef) (a' := ?_) #[true, true, true, true, true, true, true, true, true, true, true, true, true, true, false, false, false, false, false, false, false, false, false, false, false, false, false, false, false] rfl rfl (any_of HT_.out (by kernel_rfl)) (fun _ _ _ h => h) (Or.inr ⟨by rfl, rfl⟩) ?_ ?_
        rotate_left
        · simp only [Act.put, List.setIfInBounds_toArray, List.set_cons_zero, List.set_cons_succ, i64_w, i32_w]
          rfl
        refine pure_ (i := 14) (N := some 44) (v := undef) (a' := ?_) #[true, true, true, true, true, true, true, true, true, true, true, true, true, true, true, false, false, false, false, false, false, false, false, false, false, false, false, false, false] rfl rfl (any_of HT_.out (by kernel_rfl)) (fun _ _ _ h => h) (Or.inr ⟨by rfl, rfl⟩) ?_ ?_
        rotate_left
        · simp only [Act.put, List.setIfInBounds_toArray, List.set_cons_zero, List.set_cons_succ, i64_w, i32_w]
          rfl
        refine pure_ (i := 15) (N := some 45) (v := ?_) (a' := ?_) #[true, true, true, true, true, true, true, true, true, true, true, true, true, true, true, true, false, false, false, false, false, false, false, false, false, false, false, false, false] rfl rfl (any_of HT_.out (by kernel_rfl)) (fun _ _ _ h => h) (Or.inl ⟨by rfl, ?_⟩) ?_ ?_
        rotate_left
        · intro w'
          go_simp
          with_reducible rfl
        rotate_left
        · simp only [Act.put, List.setIfInBounds_toArray, List.set_cons_zero, List.set_cons_succ, i64_w, i32_w]
          rfl
        refine pure_ (i := 16) (N := some 46) (v := ?_) (a' := ?_) #[true, true, true, true, true, true, true, true, true, true, true, true, true, true, true, true, true, false, false, false, false, false, false, false, false, false, false, false, false] rfl rfl (any_of HT_.out (by kernel_rfl)) (fun _ _ _ h => h) (Or.inl ⟨by rfl, ?_⟩) ?_ ?_
        rotate_left
        · intro w'
          go_simp
          with_reducible rfl
        rotate_left
        · simp only [Act.put, List.setIfInBounds_toArray, List.set_cons_zero, List.set_cons_succ, i64_w, i32_w]
          rfl
        refine pure_ (i := 17) (N := some 47) (v := undef) (a' := ?_) #[true, true, true, true, true, true, true, true, true, true, true, true, true, true, true, true, true, true, false, false, false, false, false, false, false, false, false, false, false] rfl rfl (any_of HT_.out (by kernel_rfl)) (fun _ _ _ h => h) (Or.inr ⟨by rfl, rfl⟩) ?_ ?_
        rotate_left
        · simp only [Act.put, List.setIfInBounds_toArray, List.set_cons_zero, List.set_cons_succ, i64_w, i32_w]
          rfl
        refine pure_ (i := 18) (N := some 48) (v := undef) (a' := ?_) #[true, true, true, true, true, true, true, true, true, true, true, true, true, true, true, true, true, true, true, false, false, false, false, false, false, false, false, false, false] rfl rfl (any_of HT_.out (by kernel_rfl)) (fun _ _ _ h => h) (Or.inr ⟨by rfl, rfl⟩) ?_ ?_
        rotate_left
        · simp only [Act.put, List.setIfInBounds_toArray, List.set_cons_zero, List.set_cons_succ, i64_w, i32_w]
          rfl
        refine pure_ (i := 19) (N := some 49) (v := undef) (a' := ?_) #[true, true, true, true, true, true, true, true, true, true, true, true, true, true, true, true, true, true, true, true, false, false, false, false, false, false, false, false, false] rfl rfl (any_of HT_.out (by kernel_rfl)) (fun _ _ _ h => h) (Or.inr ⟨by rfl, rfl⟩) ?_ ?_
        rotate_left
        · simp only [Act.put, List.setIfInBounds_toArray, List.set_cons_zero, List.set_cons_succ, i64_w, i32_w]
          rfl
        refine pure_ (i := 20) (N := some 50) (v := undef) (a' := ?_) #[true, true, true, true, true, true, true, true, true, true, true, true, true, true, true, true, true, true, true, true, true, false, false, false, false, false, false, false, false] rfl rfl (any_of HT_.out (by kernel_rfl)) (fun _ _ _ h => h) (Or.inr ⟨by rfl, rfl⟩) ?_ ?_
        rotate_left
        · simp only [Act.put, List.setIfInBounds_toArray, List.set_cons_zero, List.set_cons_succ, i64_w, i32_w]
          rfl
        refine pure_ (i := 21) (N := some 51) (v := ?_) (a' := ?_) #[true, true, true, true, true, true, true, true, true, true, true, true, true, true, true, true, true, true, true, true, true, true, false, false, false, false, false, false, false] rfl rfl (any_of HT_.out (by kernel_rfl)) (fun _ _ _ h => h) (Or.inl ⟨by rfl, ?_⟩) ?_ ?_
        rotate_left
        · intro w'
          go_simp
          with_reducible rfl
        rotate_left
        · simp only [Act.put, List.setIfInBounds_toArray, List.set_cons_zero, List.set_cons_succ, i64_w, i32_w]
          rfl
        refine pure_ (i := 22) (N := some 52) (v := ?_) (a' := ?_) #[true, true, true, true, true, true, true, true, true, true, true, true, true, true, true, true, true, true, true, true, true, true, true, false, false, false, false, false, false] rfl rfl (any_of HT_.out (by kernel_rfl)) (fun _ _ _ h => h) (Or.inl ⟨by rfl, ?_⟩) ?_ ?_
        rotate_left
        · intro w'
          go_simp
          with_reducible rfl
        rotate_left
        · simp only [Act.put, List.setIfInBounds_toArray, List.set_cons_zero, List.set_cons_succ, i64_w, i32_w]
          rfl
        refine pure_ (i := 23) (N := some 53) (v := undef) (a' := ?_) #[true, true, true, true, true, true, true, true, true, true, true, true, true, true, true, true, true, true, true, true, true, true, true, true, false, false, false, false, false] rfl rfl (any_of HT_.out (by kernel_rfl)) (fun _ _ _ h => h) (Or.inr ⟨by rfl, rfl⟩) ?_ ?_
        rotate_left
        · simp only [Act.put, List.setIfInBounds_toArray, List.set_cons_zero, List.set_cons_succ, i64_w, i32_w]
          rfl
        refine pure_ (i := 24) (N := some 54) (v := undef) (a' := ?_) #[true, true, true, true, true, true, true, true, true, true, true, true, true, true, true, true, true, true, true, true, true, true, true, true, true, false, false, false, false] rfl rfl (any_of HT_.out (by kernel_rfl)) (fun _ _ _ h => h) (Or.inr ⟨by rfl, rfl⟩) ?_ ?_
        rotate_left
        · simp only [Act.put, List.setIfInBounds_toArray, List.set_cons_zero, List.set_cons_succ, i64_w, i32_w]
          rfl
        refine pure_ (i := 25) (N := some 55) (v := undef) (a' := ?_) #[true, true, true, true, true, true, true, true, true, true, true, true, true, true, true, true, true, true, true, true, true, true, true, true, true, true, false, false, false] rfl rfl (any_of HT_.out (by kernel_rfl)) (fun _ _ _ h => h) (Or.inr ⟨by rfl, rfl⟩) ?_ ?_
        rotate_left
        · simp only [Act.put, List.setIfInBounds_toArray, List.set_cons_zero, List.set_cons_succ, i64_w, i32_w]
          rfl
        refine pure_ (i := 26) (N := some 56) (v := undef) (a' := ?_) #[true, true, true, true, true, true, true, true, true, true, true, true, true, true, true, true, true, true, true, true, true, true, true, true, true, true, true, false, false] rfl rfl (any_of HT_.out (by kernel_rfl)) (fun _ _ _ h => h) (Or.inr ⟨by rfl, rfl⟩) ?_ ?_
        rotate_left
        · simp only [Act.put, List.setIfInBounds_toArray, List.set_cons_zero, List.set_cons_succ, i64_w, i32_w]
          rfl
        refine pure_ (i := 27) (N := some 57) (v := ?_) (a' := ?_) #[true, true, true, true, true, true, true, true, true, true, true, true, true, true, true, true, true, true, true, true, true, true, true, true, true, true, true, true, false] rfl rfl (any_of HT_.out (by kernel_rfl)) (fun _ _ _ h => h) (Or.inl ⟨by rfl, ?_⟩) ?_ ?_
        rotate_left
        · intro w'
          go_simp
          with_reducible rfl
        rotate_left
        · simp only [Act.put, List.setIfInBounds_toArray, List.set_cons_zero, List.set_cons_succ, i64_w, i32_w]
          rfl
        refine pure_ (i := 28) (N := some 4) (v := ?_) (a' := ?_) #[true, true, true, true, true, true, true, true, true, true, true, true, true, true, true, true, true, true, true, true, true, true, true, true, true, true, true, true, true] rfl rfl (any_of HT_.out (by kernel_rfl)) (fun _ _ _ h => h) (Or.inl ⟨by rfl, ?_⟩) ?_ ?_
        rotate_left
        · intro w'
          go_simp
          with_reducible rfl
        rotate_left
        · simp only [Act.put, List.setIfInBounds_toArray, List.set_cons_zero, List.set_cons_succ, i64_w, i32_w]
          rfl
        refine done_ (done_of HT_.out (by kernel_rfl)) ?_
        try go_wp2
        go_ret
        exact ⟨by first | rfl | (simp [errW_none, errW_some] <;> rfl) | (simp [*, errW_none, errW_some] <;> rfl), by repeat (first | (with_reducible first | exact HB.out | apply below_alloc | apply pw_below_drewN | apply below_drew1 | refine below_set ?_ GE145.out | refine below_set ?_ GE150.out | refine below_set ?_ GE155.out) | exact HB.out)⟩
  · replace c4 := Bool.eq_false_iff.mpr c4
    subst c4
    have H1 : (some false) = some r := by rw [if_neg (show ¬ (false = true) by decide)] at H; exact H
    clear H
    have H := H1
    clear H1
    obtain rfl := Option.some.inj H
    go_enter Try.func6, Try.ntmps6
    go_wp2_with (first | ((with_reducible refine gate_callee (f := 12) rfl ?_); refine goesL_ (some 10) rfl rfl Try.func12 (by kernel_rfl) rfl #[] rfl (by (try simp only [List.map_toArray, List.map_cons, List.map_nil]); first | done | rfl | (simp only [List.length_drop, List.length_take]; rfl)) ?_; (with_reducible refine (paternosterlaw08_awake.calls  false _ A3.out).mono ?_); rintro e w95 ⟨rfl, hb⟩; refine ⟨_, rfl, ?_⟩; have n0_ := Aside0.mk (below_step (by repeat (first | (with_reducible first | exact HB.out | apply below_alloc | apply pw_below_drewN | apply below_drew1) | exact HB.out)) hb); clear HB; have HB := n0_; clear n0_; (try clear hb); (try clear hb2); (try clear hk); (try clear hi)))
    go_ret
    exact ⟨by first | rfl | (simp [errW_none, errW_some] <;> rfl) | (simp [*, errW_none, errW_some] <;> rfl), by repeat (first | (with_reducible first | exact HB.out | apply below_alloc | apply pw_below_drewN | apply below_drew1) | exact HB.out)⟩

/-- THE ONE PURE STATEMENT of paternosterlaw08_LeafBack: yours. -/
def paternosterlaw08_LeafBack.Pure : Prop := ∀ (a0 : Int) (a1 : Int), (Lit.int .u8 a0).wf = true → (Lit.int .u8 a1).wf = true → paternosterlaw08_LeafBack.f a0 a1 = some true
theorem paternosterlaw08_LeafBack.walk (P : paternosterlaw08_LeafBack.Pure) (a0 : Int) (a1 : Int) (w : World) (w0 : (Lit.int .u8 a0).wf = true) (w1 : (Lit.int .u8 a1).wf = true) :
    Calls Try.prog 6 #[.int .u8 a0, .int .u8 a1] w fun e w' => e = .returned (.bool true) ∧ Below w.heap.size w w' := by
  have h := P a0 a1 w0 w1
  refine (paternosterlaw08_LeafBack.calls a0 a1 true w h).mono ?_
  rintro e w' ⟨rfl, hd⟩
  exact ⟨rfl, hd⟩

end Go.Proofs.Ytgoagpjmnobjhaa.Q
