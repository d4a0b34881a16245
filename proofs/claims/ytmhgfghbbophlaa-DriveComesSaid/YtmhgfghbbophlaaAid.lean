/- The planner told in natural numbers: how far it goes in a tick, and how many ticks. No conditions. -/
import Derived.Test.YtmhgfghbbophlaaQx2
namespace Go.Proofs.Ytmhgfghbbophlaa.Aid
open Go.RowKit Go.Proofs.Ytmhgfghbbophlaa.Q Go.Proofs.YtmhgfghbbophlaaW.PrintWords Go.Proofs.YtmhgfghbbophlaaW.PrintLast Plan
def tri (x : Nat) : Nat := x * (x + 1) / 2
def stN (x : Nat) : Nat := x * (x - 1) / 2
/-- The speed of the next tick: of the three within reach the greatest that still can halt in time. -/
def nx (s l m : Nat) : Nat :=
  if s - 1 ≤ min m (s + 1) then
    (if tri (min m (s + 1)) ≤ l then min m (s + 1)
     else if s - 1 ≤ min m (s + 1) - 1 ∧ 1 ≤ min m (s + 1) ∧ tri (min m (s + 1) - 1) ≤ l then min m (s + 1) - 1
     else if s - 1 ≤ min m (s + 1) - 2 ∧ 2 ≤ min m (s + 1) ∧ tri (min m (s + 1) - 2) ≤ l then min m (s + 1) - 2 else 0)
  else 0
theorem clamp {x lo hi : Int} (h : lo ≤ hi) : lo ≤ inn x lo hi ∧ inn x lo hi ≤ hi := by unfold inn; (repeat' split) <;> omega
theorem inn_id {x lo hi : Int} (h : lo ≤ x) (h' : x ≤ hi) : inn x lo hi = x := by unfold inn; (repeat' split) <;> omega
theorem wrap64_id {x : Int} (h0 : -9223372036854775808 ≤ x) (h1 : x ≤ 9223372036854775807) : wrap64 x = x := by unfold wrap64; omega
theorem nextTo_small : ∀ s : Nat, s < 9 → ∀ l : Nat, l < 37 → ∀ m : Nat, m < 9 → 1 ≤ m → nextTo s l m = (nx s l m : Nat) := by decide +kernel
theorem stopTo_nat : ∀ s : Nat, s < 9 → stopTo s = (stN s : Nat) := by decide +kernel
theorem tri_le : ∀ x : Nat, x < 9 → tri x ≤ 36 := by decide
theorem walk_nat : ∀ x : Nat, x < 10 → wrap64 ((x : Int) + stopTo x) ≤ 36 ∨ x = 9 := by decide +kernel
theorem nx_min (s l m : Nat) (hm : m ≤ 8) : nx s l m = nx s (min l 36) m := by
  have h0 := tri_le (min m (s + 1)) (by omega)
  have h1 := tri_le (min m (s + 1) - 1) (by omega)
  have h2 := tri_le (min m (s + 1) - 2) (by omega)
  unfold nx
  have e0 : (tri (min m (s + 1)) ≤ l) = (tri (min m (s + 1)) ≤ min l 36) := propext (by omega)
  have e1 : (tri (min m (s + 1) - 1) ≤ l) = (tri (min m (s + 1) - 1) ≤ min l 36) := propext (by omega)
  have e2 : (tri (min m (s + 1) - 2) ≤ l) = (tri (min m (s + 1) - 2) ≤ min l 36) := propext (by omega)
  simp only [e0, e1, e2]
theorem nextTo_clamp (s l m : Int) : nextTo s l m = nextTo (inn s 0 8) (inn l 0 1000) (inn m 1 8) := by
  have hs := clamp (x := s) (lo := 0) (hi := 8) (by decide)
  have hl := clamp (x := l) (lo := 0) (hi := 1000) (by decide)
  have hm := clamp (x := m) (lo := 1) (hi := 8) (by decide)
  unfold nextTo
  rw [inn_id hs.1 hs.2, inn_id hl.1 hl.2, inn_id hm.1 hm.2]
theorem downL_mem {a y : Int} {c : Nat} (h : y ∈ downL a c) : y ≤ a ∧ a - c < y := by
  unfold downL at h
  obtain ⟨i, hi, rfl⟩ := List.mem_map.1 h
  have := List.mem_range.1 hi
  omega
theorem find_congr {p q : Int → Bool} : ∀ {xs : List Int}, (∀ x ∈ xs, p x = q x) → xs.find? p = xs.find? q
  | [], _ => rfl
  | x :: xs, h => by
    rw [List.find?_cons, List.find?_cons, h x (by simp), find_congr fun y hy => h y (by simp [hy])]
theorem nextTo_far (s l m : Nat) (hs : s < 9) (hl : l ≤ 1000) (hm : m < 9) (hm1 : 1 ≤ m) : nextTo s l m = nextTo s (min l 36 : Nat) m := by
  have es : inn (s : Int) 0 8 = s := inn_id (by omega) (by omega)
  have el : inn (l : Int) 0 1000 = l := inn_id (by omega) (by omega)
  have el' : inn ((min l 36 : Nat) : Int) 0 1000 = (min l 36 : Nat) := inn_id (by omega) (by omega)
  have em : inn (m : Int) 1 8 = m := inn_id (by omega) (by omega)
  unfold nextTo
  simp only [es, el, el', em]
  refine congrArg (fun o : Option Int => o.getD 0) (find_congr fun x hx => ?_)
  have hb := downL_mem hx
  obtain ⟨y, rfl⟩ : ∃ y : Nat, x = y := ⟨x.toNat, by omega⟩
  have h36 := walk_nat y (by omega)
  rcases h36 with h36 | h36
  · exact decide_eq_decide.2 (by omega)
  · exfalso; omega
/-- Next, of three numbers within bounds. -/
theorem next_nat (s l m : Nat) (hs : s ≤ 8) (hl : l ≤ 1000) (hm : m ≤ 8) (hm1 : 1 ≤ m) : nextTo s l m = (nx s l m : Nat) := by
  rw [nextTo_far s l m (by omega) hl (by omega) hm1, nextTo_small s (by omega) (min l 36) (by omega) m (by omega) hm1, ← nx_min s l m hm]
theorem next_any (s l m : Int) : nextTo s l m = (nx (inn s 0 8).toNat (inn l 0 1000).toNat (inn m 1 8).toNat : Nat) := by
  have hs := clamp (x := s) (lo := 0) (hi := 8) (by decide)
  have hl := clamp (x := l) (lo := 0) (hi := 1000) (by decide)
  have hm := clamp (x := m) (lo := 1) (hi := 8) (by decide)
  rw [nextTo_clamp, ← next_nat _ _ _ (by omega) (by omega) (by omega) (by omega), Int.toNat_of_nonneg hs.1, Int.toNat_of_nonneg hl.1, Int.toNat_of_nonneg (by omega)]
/-- A speed from which it can still halt. -/
def ok (s l m : Nat) : Prop := s ≤ m ∧ stN s ≤ l
set_option synthInstance.maxSize 2000 in
set_option synthInstance.maxHeartbeats 2000000 in
theorem step_small : ∀ s : Nat, s < 9 → ∀ l : Nat, l < 37 → ∀ m : Nat, m < 9 → 1 ≤ m ∧ s ≤ m ∧ stN s ≤ l →
    (nx s l m ≤ m ∧ nx s l m ≤ s + 1 ∧ s ≤ nx s l m + 1 ∧ nx s l m + stN (nx s l m) ≤ l ∧ (l = 0 ∨ 1 ≤ nx s l m)) := by decide +kernel
theorem step (s l m : Nat) (hm : m ≤ 8) (hm1 : 1 ≤ m) (h : ok s l m) :
    nx s l m ≤ m ∧ nx s l m ≤ s + 1 ∧ s ≤ nx s l m + 1 ∧ nx s l m + stN (nx s l m) ≤ l ∧ (l = 0 ∨ 1 ≤ nx s l m) := by
  have hst : ∀ x : Nat, x < 9 → stN x ≤ 36 := by decide
  have h8 := hst s (by have := h.1; omega)
  have := step_small s (by have := h.1; omega) (min l 36) (by omega) m (by omega) ⟨hm1, h.1, by have := h.2; omega⟩
  rw [nx_min s l m hm]
  omega
theorem step_ok (s l m : Nat) (hm : m ≤ 8) (hm1 : 1 ≤ m) (h : ok s l m) : ok (nx s l m) (l - nx s l m) m := by
  have := step s l m hm hm1 h
  exact ⟨this.1, by omega⟩
/-- Ticks, with fuel. -/
def tk : Nat → Nat → Nat → Nat → Nat
  | 0, _, _, _ => 0
  | k + 1, s, l, m => if l = 0 then 0 else 1 + tk k (nx s l m) (l - nx s l m) m
theorem tk_le : ∀ k s l m : Nat, m ≤ 8 → 1 ≤ m → ok s l m → tk k s l m ≤ l
  | 0, s, l, m, _, _, _ => Nat.zero_le _
  | k + 1, s, l, m, hm, hm1, h => by
    unfold tk
    split
    · omega
    · have a := step s l m hm hm1 h
      have b := tk_le k _ _ m hm hm1 (step_ok s l m hm hm1 h)
      omega
/-- Enough fuel is enough. -/
theorem tk_more : ∀ k s l m : Nat, m ≤ 8 → 1 ≤ m → ok s l m → l ≤ k → tk (k + 1) s l m = tk k s l m
  | 0, s, l, m, _, _, _, hl => by
    have : l = 0 := by omega
    subst this; rfl
  | k + 1, s, l, m, hm, hm1, h, hl => by
    show (if l = 0 then 0 else 1 + tk (k + 1) (nx s l m) (l - nx s l m) m) = (if l = 0 then 0 else 1 + tk k (nx s l m) (l - nx s l m) m)
    split
    · rfl
    · have a := step s l m hm hm1 h
      rw [tk_more k _ _ m hm hm1 (step_ok s l m hm hm1 h) (by omega)]
theorem tk_fuel (k s l m : Nat) (hm : m ≤ 8) (hm1 : 1 ≤ m) (h : ok s l m) (hl : l ≤ k) : tk k s l m = tk l s l m := by
  obtain ⟨d, rfl⟩ : ∃ d, k = l + d := ⟨k - l, by omega⟩
  induction d with
  | zero => rfl
  | succ d ih => rw [← Nat.add_assoc, tk_more (l + d) s l m hm hm1 h (by omega)]; exact ih (by omega)
theorem ticks_loop : ∀ (k s l m : Nat) (x1 x5 : Int), inn x1 1 8 = (m : Nat) → m ≤ 8 → 1 ≤ m → ok s l m → l ≤ 1000 → l ≤ k → 0 ≤ x5 → x5 + l ≤ 100000 →
    plan_Ticks.l0 (k + 1) l x1 x5 s = some (x5 + (tk k s l m : Nat))
  | k, s, 0, m, x1, x5, _, _, _, _, _, _, _, _ => by
    have : tk k s 0 m = 0 := by cases k <;> rfl
    rw [plan_Ticks.l0, if_neg (by simp), this]; simp
  | 0, s, l + 1, m, x1, x5, _, _, _, _, _, hk, _, _ => absurd hk (by omega)
  | k + 1, s, l + 1, m, x1, x5, hx, hm, hm1, h, hl, hk, h0, h1 => by
    have a := step s (l + 1) m hm hm1 h
    have b := step_ok s (l + 1) m hm hm1 h
    have hs8 : s ≤ 8 := by have := h.1; omega
    have e : plan_Next.f (s : Int) ((l + 1 : Nat) : Int) x1 = some ((nx s (l + 1) m : Nat) : Int) := by
      unfold plan_Next.f
      rw [next_any, hx, inn_id (by omega) (by omega), inn_id (by omega) (by omega)]; rfl
    rw [plan_Ticks.l0, if_pos (by omega), e]
    simp only [Option.bind_some]
    rw [wrap64_id (by omega) (by omega), wrap64_id (by omega) (by omega)]
    have e2 : (((l + 1 : Nat) : Int) - ((nx s (l + 1) m : Nat) : Int)) = ((l + 1 - nx s (l + 1) m : Nat) : Int) := by omega
    rw [e2, ticks_loop k (nx s (l + 1) m) (l + 1 - nx s (l + 1) m) m x1 (x5 + 1) hx hm hm1 b (by omega) (by omega) (by omega) (by omega)]
    rw [tk, if_neg (by omega)]
    congr 1; omega
theorem ok0 (l m : Nat) : ok 0 l m := ⟨Nat.zero_le _, by simp [stN]⟩
/-- Ticks, of any two numbers. -/
theorem ticks_any (k : Nat) (a0 a1 : Int) (hk : 1001 ≤ k) : plan_Ticks.f k a0 a1 = some ((tk (inn a0 0 1000).toNat 0 (inn a0 0 1000).toNat (inn a1 1 8).toNat : Nat) : Int) := by
  have hl := clamp (x := a0) (lo := 0) (hi := 1000) (by decide)
  have hm := clamp (x := a1) (lo := 1) (hi := 8) (by decide)
  obtain ⟨j, rfl⟩ : ∃ j, k = j + 1 := ⟨k - 1, by omega⟩
  unfold plan_Ticks.f plan_within.f
  simp only [Option.bind_some]
  obtain ⟨L, hL⟩ : ∃ L : Nat, inn a0 0 1000 = L := ⟨(inn a0 0 1000).toNat, by omega⟩
  obtain ⟨M, hM⟩ : ∃ M : Nat, inn a1 1 8 = M := ⟨(inn a1 1 8).toNat, by omega⟩
  rw [hL, hM]
  have := ticks_loop j 0 L M a1 0 hM (by omega) (by omega) (ok0 L M) (by omega) (by omega) (by omega) (by omega)
  simp only [Int.toNat_natCast]
  rw [← tk_fuel j 0 L M (by omega) (by omega) (ok0 L M) (by omega)]
  simpa using this
theorem next_f (s l m : Nat) (hs : s ≤ 8) (hl : l ≤ 1000) (hm : m ≤ 8) (hm1 : 1 ≤ m) : plan_Next.f s l m = some ((nx s l m : Nat) : Int) := by
  unfold plan_Next.f; rw [next_nat s l m hs hl hm hm1]
theorem ticks_f (k l m : Nat) (hk : 1001 ≤ k) (hl : l ≤ 1000) (hm : m ≤ 8) (hm1 : 1 ≤ m) : plan_Ticks.f k l m = some ((tk l 0 l m : Nat) : Int) := by
  rw [ticks_any k l m hk, inn_id (by omega) (by omega), inn_id (by omega) (by omega)]; rfl
theorem stop_f (s : Nat) (hs : s ≤ 8) : plan_Stop.f s = some ((stN s : Nat) : Int) := by
  unfold plan_Stop.f; rw [stopTo_nat s (by omega)]
theorem ticks_mono (k : Nat) (a b : Int) (n : Nat) (r : Int) (h : plan_Ticks.f k a b = some r) : plan_Ticks.f (k + n) a b = some r := by
  induction n with
  | zero => exact h
  | succ n ih => exact plan_Ticks.mono a b (k + n) r ih
theorem aw (k : Nat) (hk : 1001 ≤ k) : paternosterlaw06_awake.f k = some true := by
  have h : paternosterlaw06_awake.f 20 = some true := by decide +kernel
  obtain ⟨d, rfl⟩ : ∃ d, k = 20 + d := ⟨k - 20, by omega⟩
  clear hk
  induction d with
  | zero => exact h
  | succ d ih => exact paternosterlaw06_awake.mono (20 + d) true ih
end Go.Proofs.Ytmhgfghbbophlaa.Aid
