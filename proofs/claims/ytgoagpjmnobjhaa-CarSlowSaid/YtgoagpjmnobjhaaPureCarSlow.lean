/- CarSlow: a car of which a rest is asked comes to one, one slower each tick, wherever it is. No conditions. -/
import Derived.Test.YtgoagpjmnobjhaaQx13
import Derived.Test.YtgoagpjmnobjhaaQx11
import Derived.Test.YtgoagpjmnobjhaaAidCar
namespace Go.Proofs.Ytgoagpjmnobjhaa.Pure
open Go.RowKit Go.Proofs.Ytgoagpjmnobjhaa.Q Go.Proofs.Ytgoagpjmnobjhaa.Aid Go.Proofs.YtgoagpjmnobjhaaW.PrintWords Go.Proofs.YtgoagpjmnobjhaaW.PrintLast
theorem slow_loop (fl l : Int) (d : Nat) : ∀ (k : Nat) (i v p s : Int), (9 - i) = d → d < k → 0 ≤ i → 0 ≤ p → p ≤ 1000000 → (i = 0 ∨ p ≤ topTo fl) → (s = v ∨ s = 0) → (v = 0 ∨ (-(8 - i) ≤ v ∧ v ≤ 8 - i)) → -8 ≤ v → v ≤ 8 →
    paternosterlaw07_CarSlow.l0 k fl v i p s l = some true := by
  induction d with
  | zero =>
    intro k i v p s hd hk hi hp0 hp1 ht hs hv hv1 hv2
    obtain ⟨k, rfl⟩ : ∃ m, k = m + 1 := ⟨k - 1, by omega⟩
    obtain ⟨t1, t2⟩ := top_bd fl
    obtain rfl : v = 0 := by omega
    obtain rfl : s = 0 := by omega
    simp only [paternosterlaw07_CarSlow.l0]
    rw [if_neg (by omega), if_pos trivial]
    have hm : mayTo 0 0 = 0 := by decide +kernel
    have hp : stepPos p 0 0 fl = p := by rw [pos_mm _ _ hp0 hp1 (by omega) (by omega), hm]; omega
    have hvv : carVel p 0 0 fl false = 0 := by rw [vel_mm _ _ hp0 hp1 (by omega) (by omega), hm]; split <;> rfl
    simp [car_Car_Step.f, carPos, hp, hvv]
  | succ d ih =>
    intro k i v p s hd hk hi hp0 hp1 ht hs hv hv1 hv2
    obtain ⟨k, rfl⟩ : ∃ m, k = m + 1 := ⟨k - 1, by omega⟩
    obtain ⟨t1, t2⟩ := top_bd fl
    have hs1 : -8 ≤ s := by omega
    have hs2 : s ≤ 8 := by omega
    have hmm := may_mm 0 hs1 hs2
    have hpm := pos_mm 0 fl hp0 hp1 hs1 hs2
    have hvm := vel_mm 0 fl hp0 hp1 hs1 hs2
    obtain ⟨m, hm⟩ : ∃ m, mayTo s 0 = m := ⟨_, rfl⟩
    obtain ⟨q, hq⟩ : ∃ q, stepPos p s 0 fl = q := ⟨_, rfl⟩
    obtain ⟨u, hu⟩ : ∃ u, carVel p s 0 fl false = u := ⟨_, rfl⟩
    rw [hm] at hmm hpm hvm
    rw [hq] at hpm hvm
    rw [hu] at hvm
    have hu' : u = m ∨ u = 0 := by rw [hvm]; split <;> omega
    simp only [paternosterlaw07_CarSlow.l0]
    rw [if_pos (by omega)]
    simp only [car_Car_Step.f, carPos, Option.bind_some, hu, if_neg (show ¬ (false = true) by decide), hq]
    rw [wr (x := i + 1) (by omega) (by omega), wr (x := v - 1) (by omega) (by omega), wr (x := v + 1) (by omega) (by omega)]
    by_cases h1 : v > 0
    · rw [if_pos h1]
      have := ih k (i + 1) (v - 1) q u (by omega) (by omega) (by omega) (by omega) (by omega) (by omega) (by omega) (by omega) (by omega) (by omega)
      rw [this]
      split
      · rfl
      · rw [if_pos (by omega)]
    · rw [if_neg h1]
      by_cases h2 : v < 0
      · rw [if_pos h2]
        have := ih k (i + 1) (v + 1) q u (by omega) (by omega) (by omega) (by omega) (by omega) (by omega) (by omega) (by omega) (by omega) (by omega)
        rw [this]
        split
        · rfl
        · rw [if_pos (by omega)]
      · rw [if_neg h2]
        have := ih k (i + 1) v q u (by omega) (by omega) (by omega) (by omega) (by omega) (by omega) (by omega) (by omega) (by omega) (by omega)
        rw [this]
        split
        · rfl
        · rw [if_pos (by omega)]
theorem CarSlow : paternosterlaw07_CarSlow.Pure := by
  intro p v l fl _ _ _ _
  refine ⟨10, ?_⟩
  have aw : paternosterlaw07_awake.f 10 = some true := by decide +kernel
  unfold paternosterlaw07_CarSlow.f
  rw [aw]
  simp only [Option.bind_some, if_true]
  unfold paternosterlaw07_may.f
  by_cases h1 : p ≥ 0
  · by_cases h2 : p ≤ 1000000
    · by_cases h3 : v ≥ -8
      · by_cases h4 : v ≤ 8
        · rw [if_pos h1, if_pos h2, if_pos h3, decide_eq_true h4]
          simp only [Option.bind_some, if_true]
          exact slow_loop fl l 9 10 0 v p v (by omega) (by omega) (by omega) h1 h2 (by omega) (by omega) (by omega) (by omega) h4
        · rw [if_pos h1, if_pos h2, if_pos h3, decide_eq_false h4]; simp
      · rw [if_pos h1, if_pos h2, if_neg h3]; simp
    · rw [if_pos h1, if_neg h2]; simp
  · rw [if_neg h1]; simp
end Go.Proofs.Ytgoagpjmnobjhaa.Pure
