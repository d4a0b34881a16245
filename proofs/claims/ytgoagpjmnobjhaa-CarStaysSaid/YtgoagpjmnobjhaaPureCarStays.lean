/- CarStays: whatever is asked for, a car stays within the shaft, with what it bears, and no faster than may be; braked it stands. No conditions. -/
import Derived.Test.YtgoagpjmnobjhaaQx10
import Derived.Test.YtgoagpjmnobjhaaAidCar
namespace Go.Proofs.Ytgoagpjmnobjhaa.Pure
open Go.RowKit Go.Proofs.Ytgoagpjmnobjhaa.Q Go.Proofs.Ytgoagpjmnobjhaa.Aid Go.Proofs.YtgoagpjmnobjhaaW.PrintWords Go.Proofs.YtgoagpjmnobjhaaW.PrintLast
theorem stays_loop (load fl : Int) (vs : List Int) (bs : List Bool) (hl : vs.length ≤ 300) (hb : vs.length ≤ bs.length) (d : Nat) : ∀ (k : Nat) (i p v : Int), (vs.length : Int) - i = d → d < k → 0 ≤ i → 0 ≤ p → p ≤ topTo fl → -8 ≤ v → v ≤ 8 →
    paternosterlaw07_CarStays.l0 k load fl vs bs i p v load = some true := by
  induction d with
  | zero =>
    intro k i p v hd hk hi hp0 hp1 hv1 hv2
    obtain ⟨k, rfl⟩ : ∃ m, k = m + 1 := ⟨k - 1, by omega⟩
    simp only [paternosterlaw07_CarStays.l0]
    rw [if_neg (by omega)]
  | succ d ih =>
    intro k i p v hd hk hi hp0 hp1 hv1 hv2
    obtain ⟨k, rfl⟩ : ∃ m, k = m + 1 := ⟨k - 1, by omega⟩
    obtain ⟨t1, t2⟩ := top_bd fl
    have hw : wrap64 (i + 1) = i + 1 := wr (by omega) (by omega)
    obtain ⟨x, hx⟩ : ∃ x, rd vs i = x := ⟨_, rfl⟩
    have hmb := may_bd x hv1 hv2
    have hpm := pos_mm x fl hp0 (by omega) hv1 hv2
    have hvm := vel_mm x fl hp0 (by omega) hv1 hv2
    obtain ⟨m, hm⟩ : ∃ m, mayTo v x = m := ⟨_, rfl⟩
    obtain ⟨q, hq⟩ : ∃ q, stepPos p v x fl = q := ⟨_, rfl⟩
    obtain ⟨u, hu⟩ : ∃ u, carVel p v x fl false = u := ⟨_, rfl⟩
    rw [hm] at hmb hpm hvm
    rw [hq] at hpm hvm
    rw [hu] at hvm
    have hu' : (u = m ∧ q = p + m) ∨ u = 0 := by
      rw [hvm]; split <;> omega
    simp only [paternosterlaw07_CarStays.l0]
    rw [if_pos (by omega), if_pos (by omega), if_pos (by omega), hx, hw]
    cases hbb : rdOf false bs i
    · simp only [car_Car_Step.f, car_Top.f, carPos, Option.bind_some, hu, if_neg (show ¬ (false = true) by decide), hq]
      rw [if_neg (by omega), if_neg (by omega), if_neg (by omega), if_neg (by omega), if_pos trivial]
      have := ih k (i + 1) q u (by omega) (by omega) (by omega) (by omega) (by omega) (by omega) (by omega)
      rw [this]
      rw [wr (x := q - p) (by omega) (by omega)]
      split
      · rfl
      · rw [if_pos (by omega)]
    · simp only [car_Car_Step.f, car_Top.f, carPos, carVel, Option.bind_some, if_true]
      rw [if_neg (by omega), if_neg (by omega), if_neg (by omega), if_neg (by omega)]
      exact ih k (i + 1) p 0 (by omega) (by omega) (by omega) (by omega) (by omega) (by omega) (by omega)
theorem CarStays : paternosterlaw07_CarStays.Pure := by
  intro load fl vs bs _ _ _ _ _ _
  have aw : ∀ j, paternosterlaw07_awake.f (j + 5) = some true := fun j => at_rounds (g := paternosterlaw07_awake.f) (fun k => paternosterlaw07_awake.mono k) (k := 5) (by omega) (by decide +kernel)
  refine ⟨(vs.length + 2) + 5, ?_⟩
  unfold paternosterlaw07_CarStays.f
  rw [aw]
  simp only [Option.bind_some, if_true, paternosterlaw07_CarStays.j0]
  by_cases h1 : (vs.length : Int) > 300
  · rw [if_pos h1]
  · rw [if_neg h1]
    by_cases h2 : (bs.length : Int) < (vs.length : Int)
    · rw [decide_eq_true h2, if_pos rfl]
    · rw [decide_eq_false h2, if_neg (by decide)]
      obtain ⟨t1, t2⟩ := top_bd fl
      exact stays_loop load fl vs bs (by omega) (by omega) vs.length _ 0 0 0 (by omega) (by omega) (by omega) (by omega) (by omega) (by omega) (by omega)
end Go.Proofs.Ytgoagpjmnobjhaa.Pure
