/- LeafSteps: doors a tick on, and all that is told of them, are the document's. No conditions. -/
import Derived.Test.YtgoagpjmnobjhaaQx3
namespace Go.Proofs.Ytgoagpjmnobjhaa.Pure
open Go.RowKit Go.Proofs.Ytgoagpjmnobjhaa.Q Go.Proofs.YtgoagpjmnobjhaaW.PrintWords Go.Proofs.YtgoagpjmnobjhaaW.PrintLast

theorem wr {x : Int} (h : -9223372036854775808 ≤ x) (h' : x ≤ 9223372036854775807) : wrap64 x = x := by unfold wrap64; omega
theorem u8 {x : Int} (h : (Lit.int .u8 x).wf = true) : 0 ≤ x ∧ x ≤ 255 := by
  have hmin : IntKind.u8.min = 0 := rfl
  have hmax : IntKind.u8.max = 255 := rfl
  simp only [Lit.wf, Bool.and_eq_true, decide_eq_true_eq] at h
  omega
theorem tm {x : Int} (h : 0 ≤ x) (m : Int) : Int.tmod x m = x % m := Int.tmod_eq_emod_of_nonneg h

theorem LeafSteps : paternosterlaw08_LeafSteps.Pure := by
  intro a0 a1 a2 a3 h0 h1 h2
  have b0 := u8 h0
  have b1 := u8 h1
  refine ⟨1, ?_⟩
  have aw : paternosterlaw08_awake.f = some true := by decide +kernel
  have hm := Int.emod_nonneg a1 (show (16 : Int) ≠ 0 by decide)
  have hm' := Int.emod_lt_of_pos a1 (show (0 : Int) < 16 by decide)
  obtain ⟨v, hv⟩ : ∃ v, a1 % 16 = v := ⟨_, rfl⟩
  rw [hv] at hm hm'
  have hw1 : wrap64 ((wrap64 (Int.tmod a1 16)) + 1) = v + 1 := by rw [tm b1.1, hv, wr (x := v) (by omega) (by omega), wr (by omega) (by omega)]
  have hw2 : wrap64 (v + 1 + 1) = v + 1 + 1 := wr (by omega) (by omega)
  have ho := Int.emod_nonneg a0 (show v + 1 + 1 ≠ 0 by omega)
  have ho' := Int.emod_lt_of_pos a0 (show (0 : Int) < v + 1 + 1 by omega)
  obtain ⟨o, hoo⟩ : ∃ o, a0 % (v + 1 + 1) = o := ⟨_, rfl⟩
  rw [hoo] at ho ho'
  have hw3 : Int.tmod (wrap64 a0) (v + 1 + 1) = o := by rw [wr (by omega) (by omega), tm b0.1, hoo]
  have hr : paternosterref08_Step.f 1 o (v + 1) a2 a3 = some (leafTo o (v + 1) a2 a3) := by
    unfold paternosterref08_Step.f
    simp only [paternosterref08_Step.j0]
    unfold leafTo leafBy wrap64
    cases a3 <;> (repeat' split) <;> simp_all <;> omega
  unfold paternosterlaw08_LeafSteps.f
  rw [aw, hw1, hw2, hw3, hr]
  simp only [Option.bind_some, if_true, leaf_Leaf_Step.f, leaf_Leaf_Shut.f, leaf_Leaf_Wide.f, leaf_Leaf_Left.f]
  rw [if_neg (by omega)]
  simp

end Go.Proofs.Ytgoagpjmnobjhaa.Pure
