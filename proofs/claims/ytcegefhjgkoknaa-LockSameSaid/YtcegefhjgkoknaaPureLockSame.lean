/- LockSame: of doors that are shut all is done that is asked for, but for opening them while the car goes; nothing else is ever done. No conditions. -/
import Derived.Test.YtcegefhjgkoknaaQx4
import Derived.Test.YtcegefhjgkoknaaAid
namespace Go.Proofs.Ytcegefhjgkoknaa.Pure
open Go.RowKit Go.Proofs.Ytcegefhjgkoknaa.Q Go.Proofs.Ytcegefhjgkoknaa.Aid Go.Proofs.YtcegefhjgkoknaaW.PrintWords Go.Proofs.YtcegefhjgkoknaaW.PrintLast
theorem do_again (what p v : Int) (b : Bool) : lockDo (lockDo what b p v) b p v = lockDo what b p v := by
  unfold lockDo
  by_cases h : what = 2 ∨ (what = 1 ∧ levelB p v = true ∧ b = true)
  · rw [if_pos h, if_pos h]
  · rw [if_neg h, if_neg (by omega)]
theorem do_some (what p v : Int) (b : Bool) : (lockDo what b p v = what ∨ lockDo what b p v = 0) ∧ (what = 2 → lockDo what b p v = 2) := by
  unfold lockDo
  by_cases h : what = 2 ∨ (what = 1 ∧ levelB p v = true ∧ b = true)
  · rw [if_pos h]; exact ⟨.inl rfl, fun h => h⟩
  · rw [if_neg h]; exact ⟨.inr rfl, fun h2 => absurd (.inl h2) h⟩
theorem LockSame : paternosterlaw12_LockSame.Pure := by
  intro p v l w vel b what bl _ _ _ _ _ _
  have aw : paternosterlaw12_awake.f = some true := by decide +kernel
  unfold paternosterlaw12_LockSame.f
  rw [aw]
  simp only [Option.bind_some, if_true]
  obtain ⟨m, hm⟩ : ∃ m, paternosterlaw12_may.f p v l 0 (wrap64 ((wrap64 (Int.tmod w 16)) + 1)) = some m := by unfold paternosterlaw12_may.f; (repeat' split) <;> exact ⟨_, rfl⟩
  rw [hm]
  cases m
  · simp
  · obtain ⟨h1, h2⟩ := do_some what p v b
    have h3 := do_again what p v b
    obtain ⟨q, hq⟩ : ∃ q, lockDo what b p v = q := ⟨_, rfl⟩
    simp only [Option.bind_some, if_true, lock_Does.f]
    rw [hq] at h1 h2 h3 ⊢
    rw [h3]
    simp only [beq_self_eq_true, if_true]
    by_cases e : q = what
    · rw [if_pos e]
      by_cases e2 : what = 2
      · rw [if_pos e2, h2 e2]; rfl
      · rw [if_neg e2]
    · rw [if_neg e, if_pos (by omega)]
      by_cases e2 : what = 2
      · rw [if_pos e2, h2 e2]; rfl
      · rw [if_neg e2]
end Go.Proofs.Ytcegefhjgkoknaa.Pure
