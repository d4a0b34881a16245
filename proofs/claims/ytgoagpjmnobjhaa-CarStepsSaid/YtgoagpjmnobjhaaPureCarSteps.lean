/- CarSteps: a car a tick on, and all that is told of it, are the document's. No conditions. -/
import Derived.Test.YtgoagpjmnobjhaaQx17
import Derived.Test.YtgoagpjmnobjhaaQx11
import Derived.Test.YtgoagpjmnobjhaaAidCar
namespace Go.Proofs.Ytgoagpjmnobjhaa.Pure
open Go.RowKit Go.Proofs.Ytgoagpjmnobjhaa.Q Go.Proofs.Ytgoagpjmnobjhaa.Aid Go.Proofs.YtgoagpjmnobjhaaW.PrintWords Go.Proofs.YtgoagpjmnobjhaaW.PrintLast
theorem ref_top (f : Int) : refTop f = topTo f := by rw [top_mm]; unfold refTop; (repeat' split) <;> omega
/-- The document's step, from the way that is asked for on. -/
theorem ref_step {p v x fl : Int} (l : Int) (b : Bool) (h0 : 0 ≤ p) (h1 : p ≤ 1000000) (hv : -8 ≤ v) (hv' : v ≤ 8) (k : Nat) :
    paternosterref07_Step.f (k + 5) p v l x b fl = some (carPos p v x fl b, carVel p v x fl b, l) := by
  unfold paternosterref07_Step.f
  cases b
  · rw [if_neg (by decide)]
    have hm := may_mm x hv hv'
    have hp := pos_mm x fl h0 h1 hv hv'
    have hvv := vel_mm x fl h0 h1 hv hv'
    obtain ⟨t1, t2⟩ := top_bd fl
    have hc : carPos p v x fl false = stepPos p v x fl := by unfold carPos; rw [if_neg (by decide)]
    rw [hc, hvv]
    obtain ⟨m, hmm⟩ : ∃ m, mayTo v x = m := ⟨_, rfl⟩
    obtain ⟨q, hq⟩ : ∃ q, stepPos p v x fl = q := ⟨_, rfl⟩
    obtain ⟨t, ht⟩ : ∃ t, topTo fl = t := ⟨_, rfl⟩
    rw [hmm] at hm hp ⊢
    rw [hq] at hp ⊢
    rw [ht] at hp t1 t2
    rw [wr (x := v + 1) (by omega) (by omega), wr (x := v - 1) (by omega) (by omega)]
    -- the way, within bounds, one bound after the other
    obtain ⟨y0, hy0, e0⟩ : ∃ y, y = min x (v + 1) ∧ (if x > v + 1 then paternosterref07_Step.j0 (k + 5) (v + 1) fl (v - 1) p v l else paternosterref07_Step.j0 (k + 5) x fl (v - 1) p v l) = paternosterref07_Step.j0 (k + 5) y fl (v - 1) p v l := by
      split
      · exact ⟨_, by omega, rfl⟩
      · exact ⟨_, by omega, rfl⟩
    rw [e0]
    simp only [paternosterref07_Step.j0]
    obtain ⟨y1, hy1, e1⟩ : ∃ y, y = max y0 (v - 1) ∧ (if y0 < v - 1 then paternosterref07_Step.j1 (k + 4) (v - 1) fl p v l else paternosterref07_Step.j1 (k + 4) y0 fl p v l) = paternosterref07_Step.j1 (k + 4) y fl p v l := by
      split
      · exact ⟨_, by omega, rfl⟩
      · exact ⟨_, by omega, rfl⟩
    rw [e1]
    simp only [paternosterref07_Step.j1]
    obtain ⟨y2, hy2, e2⟩ : ∃ y, y = min y1 8 ∧ (if y1 > 8 then paternosterref07_Step.j2 (k + 3) 8 fl p v l else paternosterref07_Step.j2 (k + 3) y1 fl p v l) = paternosterref07_Step.j2 (k + 3) y fl p v l := by
      split
      · exact ⟨_, by omega, rfl⟩
      · exact ⟨_, by omega, rfl⟩
    rw [e2]
    simp only [paternosterref07_Step.j2]
    obtain ⟨y3, hy3, e3⟩ : ∃ y, y = max y2 (-8) ∧ (if y2 < -8 then paternosterref07_Step.j3 (k + 2) (-8) fl p v l else paternosterref07_Step.j3 (k + 2) y2 fl p v l) = paternosterref07_Step.j3 (k + 2) y fl p v l := by
      split
      · exact ⟨_, by omega, rfl⟩
      · exact ⟨_, by omega, rfl⟩
    rw [e3]
    have hym : y3 = m := by omega
    rw [hym]
    simp only [paternosterref07_Step.j3]
    rw [wr (x := p + m) (by omega) (by omega)]
    by_cases hn : p + m < 0
    · rw [if_pos hn]
      simp only [paternosterref07_Step.j4, paternosterref07_Top.f, ref_top, ht, Option.bind_some]
      rw [if_neg (by omega), if_neg (by omega), show q = 0 by omega]
    · rw [if_neg hn]
      simp only [paternosterref07_Step.j4, paternosterref07_Top.f, ref_top, ht, Option.bind_some]
      by_cases hg : p + m > t
      · rw [if_pos hg, if_neg (by omega), show q = t by omega]
      · rw [if_neg hg, if_pos (by omega), show q = p + m by omega]
  · simp [carPos, carVel]
/-- The next floor, one place after the other: upwards. -/
theorem near_up {p : Int} (v l dir : Int) (h0 : 0 ≤ p) (h1 : p ≤ 1000000) (hd : dir > 0) (d : Nat) : ∀ (k : Nat) (n : Int), 0 ≤ n → n + d ≤ 8 → (-(p + n)) % 8 = d → 2 * d + 2 ≤ k → paternosterref07_Near.l0 k dir n p v l = some (n + d) := by
  induction d with
  | zero =>
    intro k n hn hn8 hm hk
    obtain ⟨k, rfl⟩ : ∃ m, k = m + 2 := ⟨k - 2, by omega⟩
    simp only [paternosterref07_Near.l0]
    rw [if_neg (by omega), wr (x := p + n) (by omega) (by omega), tm (by omega), show (p + n) % 8 = 0 by omega]
    simp only [paternosterref07_Near.j1]
    rw [if_neg (by decide), if_neg (by omega)]
    simp
  | succ d ih =>
    intro k n hn hn8 hm hk
    obtain ⟨k, rfl⟩ : ∃ m, k = m + 2 := ⟨k - 2, by omega⟩
    simp only [paternosterref07_Near.l0]
    have hne : ((p + n) % 8 != 0) = true := by rw [bne_iff_ne]; omega
    rw [if_neg (by omega), wr (x := p + n) (by omega) (by omega), tm (by omega), hne]
    simp only [paternosterref07_Near.j1]
    rw [if_pos trivial, if_pos hd, wr (x := n + 1) (by omega) (by omega), ih k (n + 1) (by omega) (by omega) (by omega) (by omega)]
    congr 1
    omega
/-- Downwards. -/
theorem near_down {p : Int} (v l dir : Int) (h0 : 0 ≤ p) (h1 : p ≤ 1000000) (hd : dir < 0) (d : Nat) : ∀ (k : Nat) (n : Int), n ≤ 0 → 0 ≤ p + n → -8 ≤ n - d → (p + n) % 8 = d → 2 * d + 2 ≤ k → paternosterref07_Near.l0 k dir n p v l = some (d - n) := by
  induction d with
  | zero =>
    intro k n hn hpn hn8 hm hk
    obtain ⟨k, rfl⟩ : ∃ m, k = m + 2 := ⟨k - 2, by omega⟩
    simp only [paternosterref07_Near.l0]
    rw [if_neg (by omega), wr (x := p + n) (by omega) (by omega), tm (by omega), show (p + n) % 8 = 0 by omega]
    simp only [paternosterref07_Near.j1]
    rw [if_neg (by decide)]
    split
    · rw [wr (by omega) (by omega)]; congr 1; omega
    · congr 1; omega
  | succ d ih =>
    intro k n hn hpn hn8 hm hk
    obtain ⟨k, rfl⟩ : ∃ m, k = m + 2 := ⟨k - 2, by omega⟩
    simp only [paternosterref07_Near.l0]
    have hne : ((p + n) % 8 != 0) = true := by rw [bne_iff_ne]; omega
    rw [if_neg (by omega), wr (x := p + n) (by omega) (by omega), tm (by omega), hne]
    simp only [paternosterref07_Near.j1]
    rw [if_pos trivial, if_neg (by omega), wr (x := n - 1) (by omega) (by omega), ih k (n - 1) (by omega) (by omega) (by omega) (by omega) (by omega)]
    congr 1
    omega
theorem near_eq {p : Int} (v l dir : Int) (h0 : 0 ≤ p) (h1 : p ≤ 1000000) (k : Nat) : ∃ r, car_Car_Near.f (k + 20) p v l dir = some r ∧ paternosterref07_Near.f (k + 20) p v l dir = some r := by
  unfold car_Car_Near.f paternosterref07_Near.f
  have hb := Int.emod_nonneg p (show (8 : Int) ≠ 0 by decide)
  have hb' := Int.emod_lt_of_pos p (show (0 : Int) < 8 by decide)
  rw [tm h0]
  by_cases hz : dir = 0
  · subst hz
    refine ⟨0, by simp [car_Car_Near.j0], ?_⟩
    simp only [paternosterref07_Near.l0, paternosterref07_Near.j1]
    simp
  · rw [if_neg hz]
    obtain ⟨m, hm⟩ : ∃ m, p % 8 = m := ⟨_, rfl⟩
    rw [hm] at hb hb' ⊢
    by_cases hpos : dir > 0
    · obtain ⟨d, hd⟩ := Int.eq_ofNat_of_zero_le (show 0 ≤ (-(p + 0)) % 8 from Int.emod_nonneg _ (by decide))
      refine ⟨(d : Int), ?_, ?_⟩
      · simp only [car_Car_Near.j0]
        by_cases h : m = 0
        · rw [show (m == 0) = true by simpa using h, if_pos rfl]; congr 1; omega
        · rw [show (m == 0) = false by simpa using h, if_neg (by decide), if_neg (by omega), wr (by omega) (by omega)]; congr 1; omega
      · rw [near_up v l dir h0 h1 hpos d (k + 20) 0 (by omega) (by omega) hd (by omega)]; congr 1; omega
    · obtain ⟨d, hd⟩ := Int.eq_ofNat_of_zero_le hb
      refine ⟨(d : Int), ?_, ?_⟩
      · simp only [car_Car_Near.j0]
        by_cases h : m = 0
        · rw [show (m == 0) = true by simpa using h, if_pos rfl]; congr 1; omega
        · rw [show (m == 0) = false by simpa using h, if_neg (by decide), if_pos (by omega)]; exact congrArg some hd
      · rw [near_down v l dir h0 h1 (by omega) d (k + 20) 0 (by omega) (by omega) (by omega) (by omega) (by omega)]; simp
theorem steps_j {p v x fl wt dir l li : Int} (b : Bool) (h0 : 0 ≤ p) (h1 : p ≤ 1000000) (hv : -8 ≤ v) (hv' : v ≤ 8) (hli : car_Car_Light.f p v l wt = some li) :
    paternosterlaw07_CarSteps.j0 21 x b fl wt dir li p v l (carPos p v x fl b) (carVel p v x fl b) l = some true := by
  obtain ⟨r, hr1, hr2⟩ := near_eq v l dir h0 h1 0
  simp only [paternosterlaw07_CarSteps.j0, paternosterlaw07_of.f, Option.bind_some]
  rw [show (20 : Nat) = 15 + 5 from rfl, ref_step l b h0 h1 hv hv' 15]
  rw [show (15 + 5 : Nat) = 0 + 20 from rfl, hr1, hr2]
  simp only [Option.bind_some, car_Top.f, paternosterref07_Top.f, ref_top, hli, car_Car_Floor.f, car_Car_Level.f]
  by_cases hz : v = 0
  · subst hz; simp
  · simp [hz]
theorem CarSteps : paternosterlaw07_CarSteps.Pure := by
  intro p v l x b fl wt dir _ _ _ _ _ _ _
  refine ⟨21, ?_⟩
  have aw : paternosterlaw07_awake.f 21 = some true := by decide +kernel
  unfold paternosterlaw07_CarSteps.f
  rw [aw]
  simp only [Option.bind_some, if_true]
  unfold paternosterlaw07_may.f
  by_cases h1 : p ≥ 0
  · by_cases h2 : p ≤ 1000000
    · by_cases h3 : v ≥ -8
      · by_cases h4 : v ≤ 8
        · rw [if_pos h1, if_pos h2, if_pos h3, decide_eq_true h4]
          simp only [Option.bind_some, if_true, car_Car_Step.f]
          by_cases hl : l ≥ wt
          · rw [if_pos hl]
            exact steps_j b h1 h2 h3 h4 (by unfold car_Car_Light.f; rw [if_pos hl])
          · rw [if_neg hl]
            exact steps_j b h1 h2 h3 h4 (by unfold car_Car_Light.f; rw [if_neg hl])
        · rw [if_pos h1, if_pos h2, if_pos h3, decide_eq_false h4]; simp
      · rw [if_pos h1, if_pos h2, if_neg h3]; simp
    · rw [if_pos h1, if_neg h2]; simp
  · rw [if_neg h1]; simp
end Go.Proofs.Ytgoagpjmnobjhaa.Pure
