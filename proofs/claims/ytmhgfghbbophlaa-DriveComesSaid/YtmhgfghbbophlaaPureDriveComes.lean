/- DriveComes: from rest a car comes to rest at any floor, one way only, in as many ticks as the plan tells or one more. No conditions. -/
import Derived.Test.YtmhgfghbbophlaaQx14
import Derived.Test.YtmhgfghbbophlaaAidDrive
namespace Go.Proofs.Ytmhgfghbbophlaa.Pure
open Go.RowKit Go.Proofs.Ytmhgfghbbophlaa.Q Go.Proofs.YtmhgfghbbophlaaW.PrintWords Go.Proofs.YtmhgfghbbophlaaW.PrintLast Aid
theorem qinn_id {x lo hi : Int} (h : lo ≤ x) (h' : x ≤ hi) : inn x lo hi = x := by unfold inn; (repeat' split) <;> omega
theorem qinn_le {x lo hi w : Int} (h : lo ≤ w) (h' : x ≤ w) : inn x lo hi ≤ w := by unfold inn; (repeat' split) <;> omega
theorem qinn_ge {x lo hi w : Int} (h : w ≤ hi) (h' : w ≤ x) : w ≤ inn x lo hi := by unfold inn; (repeat' split) <;> omega
theorem step_go (p v w : Int) (n : Nat) (hn : 2 ≤ n) (hn' : n ≤ 32) (h1 : -8 ≤ v) (h2 : v ≤ 8) (h3 : -8 ≤ w) (h4 : w ≤ 8) (h5 : v - 1 ≤ w) (h6 : w ≤ v + 1) (h7 : 0 ≤ p + w) (h8 : p + w ≤ 8 * (n : Int) - 8) :
    car_Car_Step.f p v 0 w false n = some (p + w, w, 0) := by
  have hm : mayTo v w = w := by
    unfold mayTo
    rw [wrap64_id (x := v - 1) (by omega) (by omega), wrap64_id (x := v + 1) (by omega) (by omega), qinn_id (x := w) h3 h4]
    exact qinn_id (qinn_le h3 h5) (qinn_ge h4 h6)
  have ht : topTo n = 8 * (n : Int) - 8 := by
    unfold topTo; rw [qinn_id (by omega) (by omega)]; omega
  have hs : stepPos p v w n = p + w := by
    unfold stepPos; rw [hm, ht, wrap64_id (by omega) (by omega), qinn_id h7 h8]
  have hv : carVel p v w n false = w := by
    unfold carVel; rw [hs, hm, wrap64_id (by omega) (by omega), if_neg (by decide), if_pos rfl]
  have hp : carPos p v w n false = p + w := by
    unfold carPos; rw [hs, if_neg (by decide)]
  unfold car_Car_Step.f
  rw [hp, hv]
/-- It stands at its floor. -/
theorem comes_end (F n f m far ticks t : Nat) (d p : Int) (hF : 1001 ≤ F) (hf : f ≤ 31) (hp : 0 ≤ p) (hp' : p ≤ 248) (hm : m ≤ 8) (hm1 : 1 ≤ m) (hfar : far ≤ 248) (hD : 8 * (f : Int) - p = 0)
    (ht : tk far 0 far m = t) (h1 : t ≤ ticks) (h2 : ticks ≤ t + 1) (h3 : far = 0 → ticks = 0) :
    paternosterlaw13_DriveComes.l0 (F + 2) n f m d far ticks p 0 0 = some true := by
  have th := There_f p 0 0 f hp hp' (by omega) (by omega)
  rw [hD] at th
  have th' : drive_There.f p 0 0 f = some true := th
  have tt := ticks_f F far m hF (by omega) hm hm1
  have htle := tk_le far 0 far m hm hm1 (ok0 far m)
  rw [ht] at tt htle
  have j : paternosterlaw13_DriveComes.j2 (F + 1) n f m d far ticks false p 0 0 = some true := by
    rw [paternosterlaw13_DriveComes.j2, if_neg (by decide), tt, Option.bind_some, th', Option.bind_some, if_pos rfl, wrap64_id (by omega) (by omega), if_pos (by omega), if_pos (by omega)]
    by_cases c : far = 0
    · have e := h3 c
      rw [if_neg (by omega)]
      exact congrArg some (beq_iff_eq.2 (by omega))
    · rw [if_pos (by omega)]
  rw [show F + 2 = (F + 1) + 1 from rfl, paternosterlaw13_DriveComes.l0, th', Option.bind_some]
  split
  · exact j
  · exact j
theorem comes (d : Int) (hd : d = 1 ∨ d = -1) (n f m far : Nat) (hn : 2 ≤ n) (hn' : n ≤ 32) (hf : f < n) (hm : m ≤ 8) (hm1 : 1 ≤ m) (hfar : far ≤ 248) (hfar1 : 1 ≤ far) :
    ∀ (k q r ticks : Nat) (p v : Int), ok q r m → 8 * (f : Int) - p = d * (r : Int) → v = d * (q : Int) → 0 ≤ p → p ≤ 8 * (n : Int) - 8 → r ≤ k → ticks + r ≤ far → ticks + tk k q r m = tk far 0 far m →
      paternosterlaw13_DriveComes.l0 (3 * k + 1203 + 2) n f m d far ticks p v 0 = some true
  | k, q, 0, ticks, p, v, h, hD, hv, hp, hp', hk, hs, ht => by
    have e0 : tk k q 0 m = 0 := by cases k <;> rfl
    rw [e0] at ht
    have hq : q ≤ 1 := by
      have : ∀ x : Nat, x < 9 → stN x ≤ 0 → x ≤ 1 := by decide
      exact this q (by have := h.1; omega) h.2
    have hD0 : 8 * (f : Int) - p = 0 := by rw [hD]; simp
    by_cases c : q = 0
    · have v0 : v = 0 := by rw [hv, c]; simp
      subst v0
      exact comes_end (3 * k + 1203) n f m far ticks _ d p (by omega) (by omega) hp (by omega) hm hm1 hfar hD0 ht.symm (by omega) (by omega) (by omega)
    · have q1 : q = 1 := by omega
      subst q1
      have v1 : v = 1 ∨ v = -1 := by rcases hd with rfl | rfl <;> omega
      have th : drive_There.f p v 0 f = some false := by
        rw [There_f p v 0 f hp (by omega) (by omega) (by omega), beq_eq_false_iff_ne.2 (show v ≠ 0 by omega), Bool.and_false]
      have ve := Vel_f (3 * k + 1202) p v 0 f m true hp (by omega) (by omega) (by omega) (by omega) (by omega) hm1 hm
      have e1 : velTo (8 * (f : Int) - p) v m true = (0, true) := by unfold velTo; rw [if_pos (.inr hD0)]
      rw [e1] at ve
      have r4 : car_Car_Step.f p v 0 0 true n = some (p, 0, 0) := rfl
      have z1 : wrap64 (0 * d) = 0 := by rw [Int.zero_mul]; exact wrap64_id (by omega) (by omega)
      have z2 : wrap64 (wrap64 (p - p) * d) = 0 := by rw [Int.sub_self, wrap64_id (x := 0) (by omega) (by omega), Int.zero_mul]; exact wrap64_id (by omega) (by omega)
      rw [show 3 * k + 1203 + 2 = (3 * k + 1202 + 1) + 1 + 1 from rfl, paternosterlaw13_DriveComes.l0, wrap64_id (x := (far : Int) + 1) (by omega) (by omega), if_pos (by omega), th, Option.bind_some, paternosterlaw13_DriveComes.j2, if_pos (show (!false) = true from rfl), ve, Option.bind_some]
      dsimp only
      rw [z1, if_neg (by omega), paternosterlaw13_DriveComes.j3, decide_eq_false (show ¬ (0 : Int) > (m : Int) by omega), if_neg (by decide), r4, Option.bind_some, if_pos rfl]
      dsimp only
      rw [z2, if_neg (by omega), wrap64_id (x := (ticks : Int) + 1) (by omega) (by omega), show (ticks : Int) + 1 = ((ticks + 1 : Nat) : Int) by omega]
      exact comes_end (3 * k + 1200) n f m far (ticks + 1) _ d p (by omega) (by omega) hp (by omega) hm hm1 hfar hD0 ht.symm (by omega) (by omega) (by omega)
  | 0, q, r + 1, ticks, p, v, h, hD, hv, hp, hp', hk, hs, ht => absurd hk (by omega)
  | k + 1, q, r + 1, ticks, p, v, h, hD, hv, hp, hp', hk, hs, ht => by
    have a := Aid.step q (r + 1) m hm hm1 h
    have b := step_ok q (r + 1) m hm hm1 h
    have hq8 : q ≤ 8 := by have := h.1; omega
    rw [tk, if_neg (by omega)] at ht
    generalize hx : nx q (r + 1) m = x at a b ht
    have D0 : 8 * (f : Int) - p ≠ 0 := by rcases hd with rfl | rfl <;> omega
    have vb : -8 ≤ v ∧ v ≤ 8 := by rcases hd with rfl | rfl <;> omega
    have th : drive_There.f p v 0 f = some false := by
      rw [There_f p v 0 f hp (by omega) (by omega) (by omega), beq_eq_false_iff_ne.2 D0, Bool.false_and]
    have ve := Vel_f (3 * k + 1205) p v 0 f m true hp (by omega) (by omega) (by omega) (by omega) (by omega) hm1 hm
    have sD : sg (8 * (f : Int) - p) = d := by
      have := sg_bd (8 * (f : Int) - p)
      rcases hd with rfl | rfl <;> omega
    have sv : sg v ≠ -d := by
      have := sg_bd v
      rcases hd with rfl | rfl <;> omega
    have nD : (8 * (f : Int) - p).natAbs = r + 1 := by rcases hd with rfl | rfl <;> omega
    have nv : v.natAbs = q := by rcases hd with rfl | rfl <;> omega
    have e1 : velTo (8 * (f : Int) - p) v m true = (d * (x : Int), false) := by
      unfold velTo
      rw [if_neg (show ¬(true = false ∨ 8 * (f : Int) - p = 0) by simp [D0]), sD, if_neg sv, nD, nv, hx, beq_eq_false_iff_ne.2 (show (x : Int) ≠ 0 by omega)]
    rw [e1] at ve
    obtain ⟨w, hw⟩ : ∃ w : Int, w = d * (x : Int) := ⟨_, rfl⟩
    rw [← hw] at ve
    have r4 : car_Car_Step.f p v 0 w false n = some (p + w, w, 0) := by
      refine step_go p v w n hn hn' vb.1 vb.2 ?_ ?_ ?_ ?_ ?_ ?_ <;> (rcases hd with rfl | rfl <;> omega)
    have z1 : wrap64 (w * d) = (x : Int) := by
      have : w * d = (x : Int) := by rcases hd with rfl | rfl <;> omega
      rw [this]; exact wrap64_id (by omega) (by omega)
    have wb : -8 ≤ w ∧ w ≤ 8 := by rcases hd with rfl | rfl <;> omega
    have z2 : wrap64 (wrap64 (p + w - p) * d) = (x : Int) := by
      rw [show p + w - p = w by omega, wrap64_id (x := w) (by omega) (by omega)]; exact z1
    rw [show 3 * (k + 1) + 1203 + 2 = (3 * k + 1203 + 2) + 1 + 1 + 1 by omega, paternosterlaw13_DriveComes.l0, wrap64_id (x := (far : Int) + 1) (by omega) (by omega), if_pos (by omega), th, Option.bind_some, paternosterlaw13_DriveComes.j2, if_pos (show (!false) = true from rfl), ve, Option.bind_some]
    dsimp only
    rw [z1, if_neg (by omega), paternosterlaw13_DriveComes.j3, decide_eq_false (show ¬ (x : Int) > (m : Int) by omega), if_neg (by decide), r4, Option.bind_some, if_neg (by decide), if_pos rfl]
    dsimp only
    rw [z2, if_neg (by omega), wrap64_id (x := (ticks : Int) + 1) (by omega) (by omega), show (ticks : Int) + 1 = ((ticks + 1 : Nat) : Int) by omega]
    refine comes d hd n f m far hn hn' hf hm hm1 hfar hfar1 k x (r + 1 - x) (ticks + 1) (p + w) w b ?_ hw ?_ ?_ (by omega) (by omega) (by omega)
    all_goals (rcases hd with rfl | rfl <;> omega)
theorem DriveComes : paternosterlaw13_DriveComes.Pure := by
  intro a0 a1 a2 a3 h0 h1 h2 h3
  have b0 := u8 h0
  have b1 := u8 h1
  obtain ⟨n, hn2, hn, en⟩ : ∃ n : Nat, 2 ≤ n ∧ n ≤ 32 ∧ wrap64 (wrap64 (Int.tmod a2 31) + 2) = (n : Nat) := by
    obtain ⟨j, hj, e⟩ := rest a2 31 (u8 h2).1 (by decide) (by decide)
    exact ⟨j + 2, by omega, by omega, by rw [show ((31 : Nat) : Int) = 31 from rfl] at e; rw [e, wrap64_id (by omega) (by omega)]; omega⟩
  obtain ⟨m, hm1, hm, em⟩ := rest1 a3 8 (u8 h3).1 (by decide) (by decide)
  have e8 : wrap64 (wrap64 (8 * (n : Int)) - 7) = ((8 * n - 7 : Nat) : Int) := by
    rw [wrap64_id (x := 8 * (n : Int)) (by omega) (by omega), wrap64_id (by omega) (by omega)]; omega
  obtain ⟨p, hp, ep⟩ : ∃ p : Nat, p < 8 * n - 7 ∧ Int.tmod (wrap64 a0) ((8 * n - 7 : Nat) : Int) = (p : Nat) := by
    obtain ⟨p, hp, e⟩ := rest a0 (8 * n - 7) b0.1 (by omega) (by omega)
    refine ⟨p, hp, ?_⟩
    rw [wrap64_id (x := a0) (by omega) (by omega)]
    rw [Int.tmod_eq_emod_of_nonneg b0.1] at e ⊢
    have i1 := Int.emod_nonneg a0 (b := ((8 * n - 7 : Nat) : Int)) (by omega)
    have i2 := Int.emod_lt_of_pos a0 (b := ((8 * n - 7 : Nat) : Int)) (by omega)
    rwa [wrap64_id (by omega) (by omega)] at e
  obtain ⟨f, hf, ef⟩ : ∃ f : Nat, f < n ∧ Int.tmod (wrap64 a1) (n : Int) = (f : Nat) := by
    obtain ⟨f, hf, e⟩ := rest a1 n b1.1 (by omega) (by omega)
    refine ⟨f, hf, ?_⟩
    rw [wrap64_id (x := a1) (by omega) (by omega)]
    rw [Int.tmod_eq_emod_of_nonneg b1.1] at e ⊢
    have i1 := Int.emod_nonneg a1 (b := (n : Int)) (by omega)
    have i2 := Int.emod_lt_of_pos a1 (b := (n : Int)) (by omega)
    rwa [wrap64_id (by omega) (by omega)] at e
  obtain ⟨far, hfar⟩ : ∃ far : Nat, far = (8 * (f : Int) - p).natAbs := ⟨_, rfl⟩
  refine ⟨3 * far + 1203 + 2 + 1, ?_⟩
  unfold paternosterlaw13_DriveComes.f
  rw [show ((8 : Nat) : Int) = 8 from rfl] at em
  rw [aw13 _ (by omega), Option.bind_some, if_pos rfl, en, em, e8, ep, ef, if_neg (by omega), if_neg (by omega), Way_f p 0 0 f (by omega) (by omega) (by omega) (by omega), Option.bind_some]
  rw [wrap64_id (x := 8 * (f : Int)) (by omega) (by omega), wrap64_id (x := 8 * (f : Int) - (p : Int)) (by omega) (by omega)]
  have hs := sg_bd (8 * (f : Int) - p)
  have main : paternosterlaw13_DriveComes.j0 (3 * far + 1203 + 2 + 1) n f m (sg (8 * (f : Int) - p)) far p 0 0 = some true := by
    rw [paternosterlaw13_DriveComes.j0]
    by_cases z : far = 0
    · exact comes_end (3 * far + 1203) n f m far 0 0 _ p (by omega) (by omega) (by omega) (by omega) hm hm1 (by omega) (by omega) (by subst z; rfl) (by omega) (by omega) (fun _ => rfl)
    · refine comes (sg (8 * (f : Int) - p)) (by omega) n f m far hn2 hn hf hm hm1 (by omega) (by omega) far 0 far 0 p 0 (ok0 far m) ?_ (by simp) (by omega) (by omega) (Nat.le_refl _) (by omega) (by omega)
      rcases hs with ⟨s, _⟩ | ⟨s, _⟩ | ⟨s, _⟩ <;> rw [s] <;> omega
  by_cases c : 8 * (f : Int) - p < 0
  · rw [if_pos c, wrap64_id (by omega) (by omega), show -(8 * (f : Int) - (p : Int)) = (far : Int) by omega]
    exact main
  · rw [if_neg c]
    have hq : 8 * (f : Int) - (p : Int) = (far : Int) := by omega
    rw [hq] at main ⊢
    exact main
end Go.Proofs.Ytmhgfghbbophlaa.Pure
