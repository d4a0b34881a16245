/- One tick of a car and its doors under the lock: what is safe stays safe. Conditions: the car and the doors are within bounds, and safe. -/
import Derived.Test.YtcegefhjgkoknaaAidLeaf
import Derived.Test.YtcegefhjgkoknaaAidCar
import Derived.Test.YtcegefhjgkoknaaQx2
namespace Go.Proofs.Ytcegefhjgkoknaa.Aid
open Go.RowKit Go.Proofs.Ytcegefhjgkoknaa.Q
set_option linter.unusedVariables false
/-- One tick: a car that is safe, with doors within bounds, stays so. -/
theorem lock_tick {p v o w vel what : Int} (fl : Int) (br : Bool) (bl : Bool) (h0 : 0 ≤ p) (h1 : p ≤ 1000000) (hv : -8 ≤ v) (hv' : v ≤ 8) (hw : 1 ≤ w) (hw' : w ≤ 16) (ho : 0 ≤ o) (ho' : o ≤ w) (hs : o = 0 ∨ levelB p v = true) (l : Int) :
    ∃ (vel' : Int) (br' : Bool) (d : Int), lock_Does.f p v l o w vel br what = some (vel', br', d) ∧ 0 ≤ carPos p v vel' fl br' ∧ carPos p v vel' fl br' ≤ 1000000 ∧ -8 ≤ carVel p v vel' fl br' ∧ carVel p v vel' fl br' ≤ 8 ∧
      0 ≤ leafTo o w d bl ∧ leafTo o w d bl ≤ w ∧ (leafTo o w d bl ≠ 0 → carPos p v vel' fl br' = p ∧ carVel p v vel' fl br' = 0 ∧ levelB p 0 = true) ∧ (o ≠ 0 → carPos p v vel' fl br' = p ∧ carVel p v vel' fl br' = 0) ∧ (o = 0 → leafTo o w d bl ≠ 0 → levelB p v = true) := by
  obtain ⟨t1, t2⟩ := top_bd fl
  unfold lock_Does.f
  by_cases hz : o = 0
  · subst hz
    rw [if_pos rfl]
    refine ⟨vel, br, lockDo what br p v, rfl, ?_⟩
    have hb := leaf_bd (o := 0) (w := w) (lockDo what br p v) bl ho ho' hw'
    have he := take_leaf (o := 0) (w := w) (lockDo what br p v) bl ho ho' hw'
    have hc : 0 ≤ carPos p v vel fl br ∧ carPos p v vel fl br ≤ 1000000 ∧ -8 ≤ carVel p v vel fl br ∧ carVel p v vel fl br ≤ 8 := by
      cases br
      · have h2 := pos_mm vel fl h0 h1 hv hv'
        have h3 := vel_mm vel fl h0 h1 hv hv'
        have h4 := may_bd vel hv hv'
        have h5 : carPos p v vel fl false = stepPos p v vel fl := by unfold carPos; rw [if_neg (by decide)]
        rw [h5, h3]
        split <;> omega
      · simp only [carPos, carVel, if_true]; omega
    refine ⟨hc.1, hc.2.1, hc.2.2.1, hc.2.2.2, hb.1, hb.2, ?_, fun h => absurd rfl h, ?_⟩
    · intro hne
      have hd : lockDo what br p v = 1 := by
        by_cases h1d : lockDo what br p v = 1
        · exact h1d
        · exfalso
          apply hne
          rw [he]
          by_cases h2d : lockDo what br p v = 2
          · rw [if_pos h2d]; split <;> simp
          · rw [if_neg h2d, if_neg h1d]
      have hq : levelB p v = true ∧ br = true := by
        unfold lockDo at hd
        by_cases hx : what = 2 ∨ (what = 1 ∧ levelB p v = true ∧ br = true)
        · rw [if_pos hx] at hd
          rcases hx with hx | hx
          · omega
          · exact hx.2
        · rw [if_neg hx] at hd; omega
      obtain ⟨q1, rfl⟩ := hq
      have hl : levelB p 0 = true := by
        unfold levelB at q1 ⊢
        simp only [Bool.and_eq_true, beq_iff_eq] at q1
        simp [q1.2]
      exact ⟨by simp [carPos], by simp [carVel], hl⟩
    · intro _ hne
      by_cases hx : what = 2 ∨ (what = 1 ∧ levelB p v = true ∧ br = true)
      · rcases hx with hx | hx
        · exfalso
          apply hne
          rw [he]
          have : lockDo what br p v = 2 := by unfold lockDo; rw [if_pos (.inl hx)]; exact hx
          rw [this, if_pos rfl]; split <;> simp
        · exact hx.2.1
      · exfalso
        apply hne
        rw [he]
        have : lockDo what br p v = 0 := by unfold lockDo; rw [if_neg hx]
        rw [this, if_neg (by decide), if_neg (by decide)]
  · rw [if_neg hz]
    have hl : levelB p v = true := by rcases hs with h | h; exact absurd h hz; exact h
    have hl0 : levelB p 0 = true := by
      unfold levelB at hl ⊢
      simp only [Bool.and_eq_true, beq_iff_eq] at hl
      simp [hl.2]
    have hb := leaf_bd (o := o) (w := w) (lockDo what true p v) bl ho ho' hw'
    exact ⟨0, true, lockDo what true p v, rfl, by simp only [carPos, if_true]; exact h0, by simp only [carPos, if_true]; exact h1, by simp [carVel], by simp [carVel], hb.1, hb.2, fun _ => ⟨by simp [carPos], by simp [carVel], hl0⟩, fun _ => ⟨by simp [carPos], by simp [carVel]⟩, fun h => absurd h hz⟩

end Go.Proofs.Ytcegefhjgkoknaa.Aid
