/- PlanFaster: who may go faster is there no later; a longer way takes no fewer ticks. No conditions. -/
import Derived.Test.YtmhgfghbbophlaaQx4
import Derived.Test.YtmhgfghbbophlaaAidMore
namespace Go.Proofs.Ytmhgfghbbophlaa.Pure
open Go.RowKit Go.Proofs.Ytmhgfghbbophlaa.Q Go.Proofs.YtmhgfghbbophlaaW.PrintWords Go.Proofs.YtmhgfghbbophlaaW.PrintLast Aid
theorem gain : ∀ s : Nat, s < 9 → ∀ m : Nat, m < 9 → s < m → nx s 36 m = s + 1 := by decide +kernel
theorem tri_next : ∀ s : Nat, s < 9 → tri (s + 1) = tri s + s + 1 := by decide
theorem tri_st : ∀ s : Nat, s < 9 → tri s = s + stN s := by decide
theorem tri_mono : ∀ m : Nat, m < 9 → ∀ s : Nat, s < 9 → s ≤ m → tri s ≤ tri m := by decide
/-- From a speed up to the full one. -/
theorem speeds : ∀ (d s l m k : Nat), m ≤ 8 → s + d = m → 36 + tri m ≤ l + tri s → tk (k + d) s l m = d + tk k m (l + tri s - tri m) m
  | 0, s, l, m, k, _, h, _ => by obtain rfl : s = m := by omega
                                 simp
  | d + 1, s, l, m, k, hm, h, hl => by
    have t := tri_next s (by omega)
    have tm := tri_mono m (by omega) (s + 1) (by omega) (by omega)
    have e : nx s l m = s + 1 := by
      rw [nx_min s l m hm, show min l 36 = 36 by omega]; exact gain s (by omega) m (by omega) (by omega)
    rw [show k + (d + 1) = (k + d) + 1 from rfl, tk, if_neg (by omega), e, speeds d (s + 1) (l - (s + 1)) m k hm (by omega) (by omega)]
    rw [show l - (s + 1) + tri (s + 1) - tri m = l + tri s - tri m by omega]; omega
/-- At full speed. -/
theorem cruises : ∀ (q r m k : Nat), m ≤ 8 → 1 ≤ m → tri m ≤ r + m → tk (k + q) m (r + q * m) m = q + tk k m r m
  | 0, r, m, k, _, _, _ => by simp
  | q + 1, r, m, k, hm, hm1, h => by
    have t := tri_st m (by omega)
    have t36 := tri_le m (by omega)
    have hl : r + (q + 1) * m = r + q * m + m := by rw [Nat.add_mul]; omega
    have e : nx m (r + (q + 1) * m) m = m := by
      rw [nx_min _ _ _ hm]; exact rest_full m (by omega) _ (by omega) ⟨hm1, by omega⟩
    rw [show k + (q + 1) = (k + q) + 1 from rfl, tk, if_neg (by omega), e, show r + (q + 1) * m - m = r + q * m by omega, cruises q r m k hm hm1 h]; omega
theorem tail : ∀ m : Nat, m < 9 → ∀ j : Nat, j < 8 → 1 ≤ m ∧ j < m → tk 40 m (stN m + j) m = m - 1 + (if j = 0 then 0 else 1) := by decide +kernel
def tV (l m : Nat) : Nat := if l < 72 then tk l 0 l m else 2 * m + (l - 2 * tri m) / m + (if (l - 2 * tri m) % m = 0 then 0 else 1)
theorem tk_val (l m : Nat) (hm : m ≤ 8) (hm1 : 1 ≤ m) : tk l 0 l m = tV l m := by
  unfold tV
  split
  · rfl
  · have t := tri_st m (by omega)
    have t36 := tri_le m (by omega)
    have t0 : tri 0 = 0 := rfl
    obtain ⟨x, hx⟩ : ∃ x, x = l - 2 * tri m := ⟨_, rfl⟩
    have hmod := Nat.mod_lt x (show 0 < m by omega)
    have hdm := Nat.div_add_mod x m
    rw [← hx]
    have hle : x / m ≤ x := Nat.div_le_self _ _
    have c : m * (x / m) = x / m * m := Nat.mul_comm _ _
    generalize x / m = q at *
    generalize x % m = r at *
    have hq : (q + 1) * m = q * m + m := by rw [Nat.add_mul]; omega
    have a := speeds m 0 l m (l + 40 + (q + 1)) hm (by omega) (by omega)
    have b := cruises (q + 1) (stN m + r) m (l + 40) hm hm1 (by omega)
    have d : l + tri 0 - tri m = stN m + r + (q + 1) * m := by omega
    have hok : ok m (stN m + r) m := ⟨Nat.le_refl _, by omega⟩
    have e := tail m (by omega) r (by omega) ⟨hm1, hmod⟩
    rw [← tk_fuel (l + 40 + (q + 1) + m) 0 l m hm hm1 (ok0 l m) (by omega), a, d, b, tk_fuel (l + 40) m (stN m + r) m hm hm1 hok (by omega), ← tk_fuel 40 m (stN m + r) m hm hm1 hok (by omega), e]
    split <;> omega
theorem fast_small : ∀ a : Nat, a < 32 → ∀ b : Nat, b < 32 → ∀ m : Nat, m < 8 → 1 ≤ m → tV (32 * a + b) (m + 1) ≤ tV (32 * a + b) m := by decide +kernel
theorem far_small : ∀ a : Nat, a < 32 → ∀ b : Nat, b < 32 → ∀ m : Nat, m < 9 → 1 ≤ m → tV (32 * a + b) m ≤ tV (32 * a + b + 1) m := by decide +kernel
theorem fast (l m : Nat) (hl : l < 1000) (hm : m < 8) (hm1 : 1 ≤ m) : tk l 0 l (m + 1) ≤ tk l 0 l m := by
  rw [tk_val l (m + 1) (by omega) (by omega), tk_val l m (by omega) hm1]
  have := fast_small (l / 32) (by omega) (l % 32) (by omega) m hm hm1
  rwa [show 32 * (l / 32) + l % 32 = l by omega] at this
theorem far (l m : Nat) (hl : l < 1000) (hm : m < 9) (hm1 : 1 ≤ m) : tk l 0 l m ≤ tk (l + 1) 0 (l + 1) m := by
  rw [tk_val l m (by omega) (by omega), tk_val (l + 1) m (by omega) hm1]
  have := far_small (l / 32) (by omega) (l % 32) (by omega) m hm hm1
  rwa [show 32 * (l / 32) + l % 32 = l by omega] at this
theorem next_far_small : ∀ s : Nat, s < 9 → ∀ l : Nat, l < 36 → ∀ m : Nat, m < 9 → nx s l m ≤ nx s (l + 1) m := by decide +kernel
theorem next_fast_small : ∀ s : Nat, s < 9 → ∀ l : Nat, l < 37 → ∀ m : Nat, m < 8 → nx s l m ≤ nx s l (m + 1) := by decide +kernel
theorem next_far (s l m : Nat) (hs : s < 9) (hm : m ≤ 8) : nx s l m ≤ nx s (l + 1) m := by
  by_cases h : l < 36
  · exact next_far_small s hs l h m (by omega)
  · rw [nx_min s l m hm, nx_min s (l + 1) m hm, show min l 36 = 36 by omega, show min (l + 1) 36 = 36 by omega]; exact Nat.le_refl _
theorem next_fast (s l m : Nat) (hs : s < 9) (hm : m < 8) : nx s l m ≤ nx s l (m + 1) := by
  rw [nx_min s l m (by omega), nx_min s l (m + 1) (by omega)]
  exact next_fast_small s hs _ (by omega) m hm
theorem PlanFaster : paternosterlaw06_PlanFaster.Pure := by
  intro a0 a1 a2 h0 h1 h2
  obtain ⟨K, hK⟩ : ∃ K : Nat, 1100 ≤ K := ⟨1100, Nat.le_refl _⟩
  refine ⟨K, ?_⟩
  obtain ⟨L, hL, eL⟩ := rest a0 1000 (u16 h0).1 (by decide) (by decide)
  obtain ⟨M, hM1, hM, eM⟩ := rest1 a1 7 (u8 h1).1 (by decide) (by decide)
  obtain ⟨S, hS, eS⟩ := rest a2 9 (u8 h2).1 (by decide) (by decide)
  unfold paternosterlaw06_PlanFaster.f
  rw [aw K (by omega)]
  simp only [Option.bind_some, if_true, show ((1000 : Nat) : Int) = 1000 from rfl, show ((7 : Nat) : Int) = 7 from rfl, show ((9 : Nat) : Int) = 9 from rfl] at eL eM eS ⊢
  rw [eL, eM, eS, wrap64_id (x := (M : Int) + 1) (by omega) (by omega), wrap64_id (x := (L : Int) + 1) (by omega) (by omega)]
  rw [show (M : Int) + 1 = ((M + 1 : Nat) : Int) by omega, show (L : Int) + 1 = ((L + 1 : Nat) : Int) by omega]
  rw [ticks_f K L (M + 1) (by omega) (by omega) (by omega) (by omega), ticks_f K L M (by omega) (by omega) (by omega) (by omega), ticks_f K (L + 1) M (by omega) (by omega) (by omega) (by omega)]
  rw [next_f S L M (by omega) (by omega) (by omega) (by omega), next_f S (L + 1) M (by omega) (by omega) (by omega) (by omega), next_f S L (M + 1) (by omega) (by omega) (by omega) (by omega)]
  simp only [Option.bind_some]
  have a := fast L M hL (by omega) hM1
  have b := far L M hL (by omega) hM1
  have c := next_far S L M hS (by omega)
  have d := next_fast S L M hS (by omega)
  rw [if_pos (by omega), if_pos (by omega), if_pos (by omega)]
  exact congrArg some (decide_eq_true (by omega))
end Go.Proofs.Ytmhgfghbbophlaa.Pure
