/- CarLights: where a car stands between floors there is one both ways, as far from each other as floors are; at a floor there is nothing to go. No conditions. -/
import Derived.Test.YtgoagpjmnobjhaaQx18
import Derived.Test.YtgoagpjmnobjhaaAidCar
namespace Go.Proofs.Ytgoagpjmnobjhaa.Pure
open Go.RowKit Go.Proofs.Ytgoagpjmnobjhaa.Q Go.Proofs.Ytgoagpjmnobjhaa.Aid Go.Proofs.YtgoagpjmnobjhaaW.PrintWords Go.Proofs.YtgoagpjmnobjhaaW.PrintLast
/-- What the law tells of a place p and the way l that is lighter: no load in it. -/
def lightsAt (p l : Int) : Bool :=
  let a := car_Car_Near.f 2 p 0 0 1
  let b := car_Car_Near.f 2 p 0 0 (-1)
  let n := car_Car_Near.f 2 p 0 0 l
  match a, b, n with
  | some a, some b, some n =>
    if Int.tmod p 8 == 0 then a == 0 && b == 0
    else decide (a > 0) && decide (b > 0) && (wrap64 (a + b) == 8) && (Int.tmod (wrap64 (p + wrap64 (l * n))) 8 == 0) && ((wrap64 (Int.tdiv (wrap64 (p + wrap64 (l * n))) 8) == wrap64 (Int.tdiv p 8)) || (wrap64 (Int.tdiv (wrap64 (p + wrap64 (l * n))) 8) == wrap64 (wrap64 (Int.tdiv p 8) + 1)))
  | _, _, _ => false
theorem lights_all : ∀ p : Nat, p < 249 → lightsAt p 1 = true ∧ lightsAt p (-1) = true := by decide +kernel
theorem near_load (k : Nat) (p v l d : Int) : car_Car_Near.f k p v l d = car_Car_Near.f k p v 0 d := rfl
theorem CarLights : paternosterlaw07_CarLights.Pure := by
  intro a0 l wt h0 _ _
  have b0 := u16 h0
  refine ⟨2, ?_⟩
  have aw : paternosterlaw07_awake.f 2 = some true := by decide +kernel
  obtain ⟨hm, hm'⟩ := md b0.1 (show (0 : Int) < 249 by decide)
  obtain ⟨n, hn⟩ := Int.eq_ofNat_of_zero_le hm
  rw [hn] at hm'
  have hp : wrap64 (Int.tmod a0 249) = (n : Int) := by rw [hn]; exact wr (by omega) (by omega)
  obtain ⟨g1, g2⟩ := lights_all n (by omega)
  have key : ∀ s : Int, (s = 1 ∨ s = -1) → lightsAt n s = true := fun s hs => by rcases hs with rfl | rfl <;> assumption
  obtain ⟨s, hs, hsv⟩ : ∃ s, car_Car_Light.f (n : Int) 0 l wt = some s ∧ (s = 1 ∨ s = -1) := by
    unfold car_Car_Light.f
    split
    · exact ⟨-1, rfl, .inr rfl⟩
    · exact ⟨1, rfl, .inl rfl⟩
  have K := key s hsv
  unfold paternosterlaw07_CarLights.f
  rw [aw, hp]
  simp only [Option.bind_some, if_true, hs]
  rw [near_load 2 n 0 l 1, near_load 2 n 0 l (-1), near_load 2 n 0 l s]
  unfold lightsAt at K
  revert K
  cases car_Car_Near.f 2 n 0 0 1 with
  | none => simp
  | some a =>
    cases car_Car_Near.f 2 n 0 0 (-1) with
    | none => simp
    | some b =>
      cases hn2 : car_Car_Near.f 2 n 0 0 s with
      | none => simp
      | some q =>
        simp only [Option.bind_some, car_Car_Level.f, car_Car_Floor.f, if_true]
        intro K
        by_cases hz : (Int.tmod n 8 == 0) = true
        · rw [if_pos hz] at K
          rw [if_pos hz]
          simp only [Bool.and_eq_true, beq_iff_eq] at K
          rw [if_pos K.1, K.2]; rfl
        · rw [if_neg hz] at K
          rw [if_neg hz]
          simp only [Bool.and_eq_true, Bool.or_eq_true, decide_eq_true_eq, beq_iff_eq] at K
          obtain ⟨⟨⟨⟨k1, k2⟩, k3⟩, k4⟩, k5⟩ := K
          have hfin : (if s = 1 then some true else some (s == -1)) = some true := by rcases hsv with rfl | rfl <;> rfl
          rw [if_pos k1, if_pos k2, if_pos k3, if_pos (by simpa using k4), hfin]
          split
          · rfl
          · rcases k5 with k5 | k5
            · exact absurd k5 ‹_›
            · rw [if_pos k5]
end Go.Proofs.Ytgoagpjmnobjhaa.Pure
