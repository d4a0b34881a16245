/- GateHolds: without power nothing is done with doors; with power they open only where the car is level, and nothing is done with those that are as they should. No conditions. -/
import Derived.Test.YtcegefhjgkoknaaQx9
import Derived.Test.YtcegefhjgkoknaaAidLeaf
namespace Go.Proofs.Ytcegefhjgkoknaa.Pure
open Go.RowKit Go.Proofs.Ytcegefhjgkoknaa.Q Go.Proofs.Ytcegefhjgkoknaa.Aid Go.Proofs.YtcegefhjgkoknaaW.PrintWords Go.Proofs.YtcegefhjgkoknaaW.PrintLast
theorem may_cases {p v l o w : Int} {P : Option Bool → Prop} (hf : P (some false)) (ht : 0 ≤ p → p ≤ 1000000 → -8 ≤ v → v ≤ 8 → 1 ≤ w → w ≤ 16 → 0 ≤ o → o ≤ w → P (some true)) : P (paternosterlaw14_may.f p v l o w) := by
  unfold paternosterlaw14_may.f
  by_cases h1 : p ≥ 0
  · rw [if_pos h1]
    by_cases h2 : p ≤ 1000000
    · rw [if_pos h2]
      by_cases h3 : v ≥ -8
      · rw [if_pos h3]
        by_cases h4 : v ≤ 8
        · rw [if_pos h4]
          by_cases h5 : w ≥ 1
          · rw [if_pos h5]
            by_cases h6 : w ≤ 16
            · rw [if_pos h6]
              by_cases h7 : o ≥ 0
              · rw [if_pos h7]
                by_cases h8 : o ≤ w
                · rw [decide_eq_true h8]; exact ht h1 h2 h3 h4 h5 h6 h7 h8
                · rw [decide_eq_false h8]; exact hf
              · rw [if_neg h7]; exact hf
            · rw [if_neg h6]; exact hf
          · rw [if_neg h5]; exact hf
        · rw [if_neg h4]; exact hf
      · rw [if_neg h3]; exact hf
    · rw [if_neg h2]; exact hf
  · rw [if_neg h1]; exact hf
theorem GateHolds : paternosterlaw14_GateHolds.Pure := by
  intro p v l o w op _ _ _ _ _
  have aw : paternosterlaw14_awake.f = some true := by decide +kernel
  refine ⟨1, ?_⟩
  unfold paternosterlaw14_GateHolds.f
  rw [aw]
  simp only [Option.bind_some, if_true]
  refine may_cases (P := fun z => z.bind _ = some true) ?_ ?_
  · simp
  · intro h1 h2 h3 h4 h5 h6 h7 h8
    have e1 := take_leaf (o := o) (w := w) 1 false h7 h8 h6
    have e2 := take_leaf (o := o) (w := w) 2 false h7 h8 h6
    have e0 := take_leaf (o := o) (w := w) 0 false h7 h8 h6
    simp only [Option.bind_some, if_true, gate_What.f, leaf_Leaf_Step.f, car_Car_Level.f, leaf_Leaf_Wide.f, leaf_Leaf_Shut.f, paternosterlaw14_GateHolds.j0]
    rw [wr (x := o + 1) (by omega) (by omega), wr (x := o - 1) (by omega) (by omega)]
    cases op
    · by_cases ho : o = 0
      · subst ho
        simp [gateWhat, gateDo, e0, mx]
      · simp [gateWhat, gateDo, ho, e2, mx]
        (repeat' split) <;> omega
    · cases hl : levelB p v
      · simp [gateWhat, gateDo, hl, e0]
      · by_cases ho : o = w
        · subst ho
          simp [gateWhat, gateDo, hl, e0, mn]
          omega
        · simp [gateWhat, gateDo, hl, ho, e1, mn]
          (repeat' split) <;> omega
end Go.Proofs.Ytcegefhjgkoknaa.Pure
