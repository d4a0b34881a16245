/- LockOpens: as long as doors aren't shut nothing moves, whatever is asked for, and shut doors open only where a car stands. No conditions. -/
import Derived.Test.YtcegefhjgkoknaaQx12
import Derived.Test.YtcegefhjgkoknaaAidLock
set_option linter.unusedSimpArgs false
set_option linter.unusedVariables false
namespace Go.Proofs.Ytcegefhjgkoknaa.Pure
open Go.RowKit Go.Proofs.Ytcegefhjgkoknaa.Q Go.Proofs.Ytcegefhjgkoknaa.Aid Go.Proofs.YtcegefhjgkoknaaW.PrintWords Go.Proofs.YtcegefhjgkoknaaW.PrintLast
theorem opens_loop (fl : Int) (qs : List S27) (hl : qs.length ≤ 100) (w : Int) (hw : 1 ≤ w) (hw' : w ≤ 16) (d : Nat) : ∀ (k : Nat) (i p v l o : Int), (qs.length : Int) - i = d → 2 * d < k → 0 ≤ i → 0 ≤ p → p ≤ 1000000 → -8 ≤ v → v ≤ 8 → 0 ≤ o → o ≤ w → (o = 0 ∨ levelB p v = true) →
    paternosterlaw12_LockOpens.l0 k qs fl i p v l o w = some true := by
  induction d with
  | zero =>
    intro k i p v l o hd hk hi h0 h1 hv hv' ho ho' hs
    obtain ⟨k, rfl⟩ : ∃ m, k = m + 1 := ⟨k - 1, by omega⟩
    simp only [paternosterlaw12_LockOpens.l0]
    rw [if_neg (by omega)]
  | succ d ih =>
    intro k i p v l o hd hk hi h0 h1 hv hv' ho ho' hs
    obtain ⟨k, rfl⟩ : ∃ m, k = m + 2 := ⟨k - 2, by omega⟩
    simp only [paternosterlaw12_LockOpens.l0]
    rw [if_pos (by omega), if_pos hi]
    obtain ⟨vel', br', dd, hdo, g1, g2, g3, g4, g5, g6, g7, g8, g9⟩ := lock_tick (vel := (rd_T27 qs i).f0) (what := (rd_T27 qs i).f2) fl (rd_T27 qs i).f1 (rd_T27 qs i).f3 h0 h1 hv hv' hw hw' ho ho' hs l
    rw [hdo]
    simp only [Option.bind_some, leaf_Leaf_Step.f, car_Car_Step.f, car_Car_Level.f, leaf_Leaf_Shut.f]
    obtain ⟨q, hq⟩ : ∃ q, leafTo o w dd (rd_T27 qs i).f3 = q := ⟨_, rfl⟩
    obtain ⟨p', hp'⟩ : ∃ q, carPos p v vel' fl br' = q := ⟨_, rfl⟩
    obtain ⟨v', hv''⟩ : ∃ q, carVel p v vel' fl br' = q := ⟨_, rfl⟩
    rw [hq] at g5 g6 g7 g9 ⊢
    rw [hp'] at g1 g2 g7 g8 ⊢
    rw [hv''] at g3 g4 g7 g8 ⊢
    have hnext := ih k (i + 1) p' v' l q (by omega) (by omega) (by omega) g1 g2 g3 g4 g5 g6 (by
      by_cases h : q = 0
      · exact .inl h
      · obtain ⟨a, b, c⟩ := g7 h
        rw [a, b]; exact .inr c)
    have hj : paternosterlaw12_LockOpens.j2 (k + 1) qs fl i false q w p' v' l = some true := by
      simp only [paternosterlaw12_LockOpens.j2]
      rw [if_neg (by decide), if_neg (by omega), wr (x := i + 1) (by omega) (by omega), hnext]
    by_cases hz : o = 0
    · rw [show (o == 0) = true by simpa using hz]
      simp only [if_true, Option.bind_some]
      by_cases hqz : q = 0
      · rw [show (q == 0) = true by simpa using hqz, if_pos rfl, hj]
      · rw [show (q == 0) = false by simpa using hqz, if_neg (by decide), g9 hz hqz]
        exact hj
    · obtain ⟨a, b⟩ := g8 hz
      rw [show (o == 0) = false by simpa using hz]
      simp only [if_neg (show ¬ (false = true) by decide), Option.bind_some]
      rw [if_pos a, if_pos b, hj]
theorem LockOpens : paternosterlaw12_LockOpens.Pure := by
  intro p v l o w qs fl _ _ _ _ _ _ _ _
  have aw : paternosterlaw12_awake.f = some true := by decide +kernel
  obtain ⟨K, hK⟩ : ∃ K : Nat, K = 2 * qs.length + 1 := ⟨_, rfl⟩
  refine ⟨K + 1, ?_⟩
  unfold paternosterlaw12_LockOpens.f
  rw [aw]
  simp only [Option.bind_some, if_true, paternosterlaw12_LockOpens.j0]
  obtain ⟨m, hm, hmt⟩ : ∃ m, paternosterlaw12_may.f p v l o w = some m ∧ (m = true → 0 ≤ p ∧ p ≤ 1000000 ∧ -8 ≤ v ∧ v ≤ 8 ∧ 1 ≤ w ∧ w ≤ 16 ∧ 0 ≤ o ∧ o ≤ w) := by
    unfold paternosterlaw12_may.f
    (repeat' split) <;> first | exact ⟨false, rfl, fun h => by cases h⟩ | exact ⟨_, rfl, fun h => by simp at h; omega⟩
  rw [hm]
  cases m
  · simp
  · obtain ⟨h0, h1, hv, hv', hw, hw', ho, ho'⟩ := hmt rfl
    simp only [Option.bind_some, if_true]
    by_cases hl : (qs.length : Int) > 100
    · rw [if_pos hl]
    · rw [if_neg hl]
      simp only [lock_Safe.f, lock_Moves.f, lock_Opens.f, Option.bind_some]
      have go : (o = 0 ∨ levelB p v = true) → paternosterlaw12_LockOpens.l0 K qs fl 0 p v l o w = some true := fun hs =>
        opens_loop fl qs (by omega) w hw hw' qs.length K 0 p v l o (by omega) (by omega) (by omega) h0 h1 hv hv' ho ho' hs
      by_cases hz : o = 0
      · rw [show (o == 0) = true by simpa using hz, if_pos rfl]
        simp [go (.inl hz)]
      · rw [show (o == 0) = false by simpa using hz, if_neg (by decide)]
        cases hlv : levelB p v
        · simp
        · simp [go (.inr hlv)]
end Go.Proofs.Ytcegefhjgkoknaa.Pure
