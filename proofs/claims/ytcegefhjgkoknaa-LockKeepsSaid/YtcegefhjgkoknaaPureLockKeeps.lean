/- LockKeeps: whatever is asked for, from a car that is safe on, it is safe all the way, if what may be done of it is done. No conditions. -/
import Derived.Test.YtcegefhjgkoknaaQx11
import Derived.Test.YtcegefhjgkoknaaAidLock
set_option linter.unusedSimpArgs false
set_option linter.unusedVariables false
namespace Go.Proofs.Ytcegefhjgkoknaa.Pure
open Go.RowKit Go.Proofs.Ytcegefhjgkoknaa.Q Go.Proofs.Ytcegefhjgkoknaa.Aid Go.Proofs.YtcegefhjgkoknaaW.PrintWords Go.Proofs.YtcegefhjgkoknaaW.PrintLast
theorem keeps_loop (fl : Int) (qs : List S27) (hl : qs.length ≤ 300) (w : Int) (hw : 1 ≤ w) (hw' : w ≤ 16) (d : Nat) : ∀ (k : Nat) (i p v l o : Int), (qs.length : Int) - i = d → d < k → 0 ≤ i → 0 ≤ p → p ≤ 1000000 → -8 ≤ v → v ≤ 8 → 0 ≤ o → o ≤ w → (o = 0 ∨ levelB p v = true) →
    paternosterlaw12_LockKeeps.l0 k fl qs i p v l o w = some true := by
  induction d with
  | zero =>
    intro k i p v l o hd hk hi h0 h1 hv hv' ho ho' hs
    obtain ⟨k, rfl⟩ : ∃ m, k = m + 1 := ⟨k - 1, by omega⟩
    simp only [paternosterlaw12_LockKeeps.l0]
    rw [if_neg (by omega)]
  | succ d ih =>
    intro k i p v l o hd hk hi h0 h1 hv hv' ho ho' hs
    obtain ⟨k, rfl⟩ : ∃ m, k = m + 1 := ⟨k - 1, by omega⟩
    simp only [paternosterlaw12_LockKeeps.l0]
    rw [if_pos (by omega), if_pos hi, wr (x := i + 1) (by omega) (by omega)]
    obtain ⟨vel', br', dd, hdo, g1, g2, g3, g4, g5, g6, g7, g8, g9⟩ := lock_tick (vel := (rd_T27 qs i).f0) (what := (rd_T27 qs i).f2) fl (rd_T27 qs i).f1 (rd_T27 qs i).f3 h0 h1 hv hv' hw hw' ho ho' hs l
    rw [hdo]
    simp only [Option.bind_some, leaf_Leaf_Step.f, car_Car_Step.f, lock_Safe.f, lock_Moves.f, lock_Opens.f, leaf_Leaf_Shut.f]
    obtain ⟨q, hq⟩ : ∃ q, leafTo o w dd (rd_T27 qs i).f3 = q := ⟨_, rfl⟩
    obtain ⟨p', hp'⟩ : ∃ q, carPos p v vel' fl br' = q := ⟨_, rfl⟩
    obtain ⟨v', hv''⟩ : ∃ q, carVel p v vel' fl br' = q := ⟨_, rfl⟩
    rw [hq] at g5 g6 g7 g9 ⊢
    rw [hp'] at g1 g2 g7 g8 ⊢
    rw [hv''] at g3 g4 g7 g8 ⊢
    have hnext := ih k (i + 1) p' v' l q (by omega) (by omega) (by omega) g1 g2 g3 g4 g5 g6 (by
      by_cases h : q = 0
      · exact .inl h
      · obtain ⟨a, b, c⟩ := g7 h
        rw [a, b]; exact .inr c)
    by_cases h : q = 0
    · rw [show (q == 0) = true by simpa using h]
      simp only [if_true, Option.bind_some, hnext]
      split <;> rfl
    · obtain ⟨a, b, c⟩ := g7 h
      have hlv : levelB p' v' = true := by rw [a, b]; exact c
      rw [show (q == 0) = false by simpa using h]
      simp only [if_neg (show ¬ (false = true) by decide), Option.bind_some, hlv, if_true]
      rw [if_pos a, if_pos b, hnext]
theorem LockKeeps : paternosterlaw12_LockKeeps.Pure := by
  intro a0 a1 a2 fl qs h0 h1 h2 _ _ _
  have b0 := u8 h0
  have b1 := u8 h1
  have b2 := u8 h2
  have aw : paternosterlaw12_awake.f = some true := by decide +kernel
  obtain ⟨hm, hm'⟩ := md b2.1 (show (0 : Int) < 16 by decide)
  obtain ⟨v, hv⟩ : ∃ v, Int.tmod a2 16 = v := ⟨_, rfl⟩
  rw [hv] at hm hm'
  have hw1 : wrap64 ((wrap64 (Int.tmod a2 16)) + 1) = v + 1 := by rw [hv, wr (x := v) (by omega) (by omega), wr (by omega) (by omega)]
  have hw2 : wrap64 (v + 1 + 1) = v + 1 + 1 := wr (by omega) (by omega)
  obtain ⟨ho, ho'⟩ := md b1.1 (show (0 : Int) < v + 1 + 1 by omega)
  obtain ⟨o, hoo⟩ : ∃ o, Int.tmod a1 (v + 1 + 1) = o := ⟨_, rfl⟩
  rw [hoo] at ho ho'
  have hw3 : Int.tmod (wrap64 a1) (v + 1 + 1) = o := by rw [wr (x := a1) (by omega) (by omega), hoo]
  obtain ⟨hp, hp'⟩ := md b0.1 (show (0 : Int) < 9 by decide)
  obtain ⟨p, hpp⟩ : ∃ o, Int.tmod a0 9 = o := ⟨_, rfl⟩
  rw [hpp] at hp hp'
  have hw4 : wrap64 (Int.tmod a0 9) = p := by rw [hpp, wr (by omega) (by omega)]
  refine ⟨qs.length + 2, ?_⟩
  unfold paternosterlaw12_LockKeeps.f
  rw [aw, hw1, hw2, hw3, hw4]
  simp only [Option.bind_some, if_true, car_Car_Level.f, paternosterlaw12_LockKeeps.j0]
  by_cases hl : (qs.length : Int) > 300
  · rw [if_pos hl]
  · rw [if_neg hl]
    cases hlv : levelB p 0
    · rw [if_neg (by decide)]
      exact keeps_loop fl qs (by omega) (v + 1) (by omega) (by omega) qs.length _ 0 p 0 0 0 (by omega) (by omega) (by omega) hp (by omega) (by omega) (by omega) (by omega) (by omega) (.inl rfl)
    · rw [if_pos rfl, if_neg (by omega)]
      exact keeps_loop fl qs (by omega) (v + 1) (by omega) (by omega) qs.length _ 0 p 0 0 o (by omega) (by omega) (by omega) hp (by omega) (by omega) (by omega) ho (by omega) (.inr hlv)
end Go.Proofs.Ytcegefhjgkoknaa.Pure
