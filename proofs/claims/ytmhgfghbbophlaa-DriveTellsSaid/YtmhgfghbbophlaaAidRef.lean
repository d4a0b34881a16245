/- The reference's planner is the planner. No conditions. -/
import Derived.Test.YtmhgfghbbophlaaAid
namespace Go.Proofs.Ytmhgfghbbophlaa.Aid
open Go.RowKit Go.Proofs.Ytmhgfghbbophlaa.Q Go.Proofs.YtmhgfghbbophlaaW.PrintWords Go.Proofs.YtmhgfghbbophlaaW.PrintLast Plan
theorem ref_within (x lo hi : Int) (h : lo ≤ hi) : paternosterref06_within.f x lo hi = some (inn x lo hi) := by
  unfold paternosterref06_within.f inn
  (repeat' split) <;> first | rfl | (congr 1; omega) | (exfalso; omega)
theorem ref_stop_small : ∀ s : Nat, s < 9 → paternosterref06_Stop.l0 12 s 0 0 = some ((stN s : Nat) : Int) := by decide +kernel
theorem ref_stop_l (k : Nat) (hk : 12 ≤ k) (s : Nat) (hs : s < 9) : paternosterref06_Stop.l0 k s 0 0 = some ((stN s : Nat) : Int) := by
  obtain ⟨d, rfl⟩ : ∃ d, k = 12 + d := ⟨k - 12, by omega⟩
  clear hk
  induction d with
  | zero => exact ref_stop_small s hs
  | succ d ih => exact paternosterref06_Stop.mono_l (12 + d) _ _ _ _ ih
theorem ref_stop (k : Nat) (hk : 12 ≤ k) (a : Int) : paternosterref06_Stop.f k a = some ((stN (inn a 0 8).toNat : Nat) : Int) := by
  have hs := clamp (x := a) (lo := 0) (hi := 8) (by decide)
  unfold paternosterref06_Stop.f
  rw [ref_within _ _ _ (by decide)]
  obtain ⟨S, hS⟩ : ∃ S : Nat, inn a 0 8 = S := ⟨(inn a 0 8).toNat, by omega⟩
  simp only [Option.bind_some, hS, Int.toNat_natCast]
  exact ref_stop_l k hk S (by omega)
theorem stop_any (a : Int) : plan_Stop.f a = some ((stN (inn a 0 8).toNat : Nat) : Int) := by
  have hs := clamp (x := a) (lo := 0) (hi := 8) (by decide)
  obtain ⟨S, hS⟩ : ∃ S : Nat, inn a 0 8 = S := ⟨(inn a 0 8).toNat, by omega⟩
  have e : stopTo a = stopTo (S : Int) := by
    unfold stopTo; rw [inn_id (x := (S : Int)) (by omega) (by omega), hS]
  unfold plan_Stop.f
  rw [e, stopTo_nat S (by omega), hS]; rfl
theorem ref_next_small : ∀ s : Nat, s < 9 → ∀ l : Nat, l < 37 → ∀ m : Nat, m < 9 → 1 ≤ m → paternosterref06_Next.l0 30 s l m 0 0 = some ((nx s l m : Nat) : Int) := by decide +kernel
theorem stN_le : ∀ x : Nat, x < 9 → x + stN x ≤ 36 := by decide
theorem ref_next_far : ∀ (k : Nat) (x0 x1 x2 x7 x8 : Int), x2 ≤ 8 → 0 ≤ x8 → paternosterref06_Next.l0 k x0 x1 x2 x7 x8 = paternosterref06_Next.l0 k x0 (min x1 36) x2 x7 x8
  | 0, _, _, _, _, _, _, _ => rfl
  | k + 1, x0, x1, x2, x7, x8, h2, h8 => by
    have ih := fun x7 => ref_next_far k x0 x1 x2 x7 (wrap64 (x8 + 1)) h2
    rw [paternosterref06_Next.l0, paternosterref06_Next.l0]
    by_cases c : x8 ≤ x2
    · have hw : wrap64 (x8 + 1) = x8 + 1 := wrap64_id (by omega) (by omega)
      have ih := fun x7 => ih x7 (by rw [hw]; omega)
      simp only [if_pos c, ih]
      cases hst : paternosterref06_Stop.f k x8 with
      | none => rfl
      | some v =>
        have hv : v = ((stN x8.toNat : Nat) : Int) := by
          have h1 := ref_stop (12 + k) (by omega) x8
          have h2 : paternosterref06_Stop.f (12 + k) x8 = some v := by
            rw [Nat.add_comm]
            have : ∀ d, paternosterref06_Stop.f (k + d) x8 = some v := by
              intro d
              induction d with
              | zero => exact hst
              | succ d ih => exact paternosterref06_Stop.mono x8 (k + d) v ih
            exact this 12
          rw [inn_id (by omega) (by omega)] at h1
          rw [h1] at h2
          exact (Option.some.inj h2).symm
        have h36 := stN_le x8.toNat (by omega)
        have hw2 : wrap64 (x8 + v) = x8 + v := wrap64_id (by omega) (by omega)
        have e : (x8 + v ≤ x1) = (x8 + v ≤ min x1 36) := propext (by omega)
        simp only [Option.bind_some, hw2, e]
    · simp only [if_neg c]
theorem ref_next_l (k : Nat) (hk : 30 ≤ k) (s l m : Nat) (hs : s ≤ 8) (hm : m ≤ 8) (hm1 : 1 ≤ m) : paternosterref06_Next.l0 k s l m 0 0 = some ((nx s l m : Nat) : Int) := by
  obtain ⟨d, rfl⟩ : ∃ d, k = 30 + d := ⟨k - 30, by omega⟩
  clear hk
  have h0 : paternosterref06_Next.l0 30 s l m 0 0 = some ((nx s l m : Nat) : Int) := by
    rw [ref_next_far _ _ _ _ _ _ (by omega) (by omega)]
    have := ref_next_small s (by omega) (min l 36) (by omega) m (by omega) hm1
    rw [nx_min s l m hm, ← this]
    congr 1; omega
  induction d with
  | zero => exact h0
  | succ d ih => exact paternosterref06_Next.mono_l (30 + d) _ _ _ _ _ _ ih
theorem ref_next (k : Nat) (hk : 30 ≤ k) (a0 a1 a2 : Int) : paternosterref06_Next.f k a0 a1 a2 = some ((nx (inn a0 0 8).toNat (inn a1 0 1000).toNat (inn a2 1 8).toNat : Nat) : Int) := by
  have hs := clamp (x := a0) (lo := 0) (hi := 8) (by decide)
  have hl := clamp (x := a1) (lo := 0) (hi := 1000) (by decide)
  have hm := clamp (x := a2) (lo := 1) (hi := 8) (by decide)
  unfold paternosterref06_Next.f
  rw [ref_within _ _ _ (by decide), ref_within _ _ _ (by decide), ref_within _ _ _ (by decide)]
  simp only [Option.bind_some]
  obtain ⟨S, hS⟩ : ∃ S : Nat, inn a0 0 8 = S := ⟨(inn a0 0 8).toNat, by omega⟩
  obtain ⟨L, hL⟩ : ∃ L : Nat, inn a1 0 1000 = L := ⟨(inn a1 0 1000).toNat, by omega⟩
  obtain ⟨M, hM⟩ : ∃ M : Nat, inn a2 1 8 = M := ⟨(inn a2 1 8).toNat, by omega⟩
  simp only [hS, hL, hM, Int.toNat_natCast]
  exact ref_next_l k hk S L M (by omega) (by omega) (by omega)
theorem next_same (k : Nat) (hk : 30 ≤ k) (a0 a1 a2 : Int) : plan_Next.f a0 a1 a2 = paternosterref06_Next.f k a0 a1 a2 := by
  rw [ref_next k hk]; unfold plan_Next.f; rw [next_any]
theorem ref_ticks_loop : ∀ (k s l m : Nat) (x1 x5 : Int), inn x1 1 8 = (m : Nat) → m ≤ 8 → 1 ≤ m → ok s l m → l ≤ 1000 → l ≤ k → 0 ≤ x5 → x5 + l ≤ 1000 →
    paternosterref06_Ticks.l0 (k + 31) l x1 x5 s = some (x5 + (tk k s l m : Nat))
  | k, s, 0, m, x1, x5, _, _, _, _, _, _, _, _ => by
    have : tk k s 0 m = 0 := by cases k <;> rfl
    rw [show k + 31 = (k + 30) + 1 from rfl, paternosterref06_Ticks.l0, this]
    split <;> simp
  | 0, s, l + 1, m, x1, x5, _, _, _, _, _, hk, _, _ => absurd hk (by omega)
  | k + 1, s, l + 1, m, x1, x5, hx, hm, hm1, h, hl, hk, h0, h1 => by
    have a := step s (l + 1) m hm hm1 h
    have b := step_ok s (l + 1) m hm hm1 h
    have hs8 : s ≤ 8 := by have := h.1; omega
    have e : paternosterref06_Next.f (k + 31) (s : Int) ((l + 1 : Nat) : Int) x1 = some ((nx s (l + 1) m : Nat) : Int) := by
      rw [ref_next _ (by omega), hx, inn_id (by omega) (by omega), inn_id (by omega) (by omega)]; rfl
    rw [show k + 1 + 31 = (k + 31) + 1 from rfl, paternosterref06_Ticks.l0, if_pos (by omega), if_pos (by omega), e]
    simp only [Option.bind_some]
    rw [wrap64_id (by omega) (by omega), wrap64_id (by omega) (by omega)]
    have e2 : (((l + 1 : Nat) : Int) - ((nx s (l + 1) m : Nat) : Int)) = ((l + 1 - nx s (l + 1) m : Nat) : Int) := by omega
    rw [e2, ref_ticks_loop k (nx s (l + 1) m) (l + 1 - nx s (l + 1) m) m x1 (x5 + 1) hx hm hm1 b (by omega) (by omega) (by omega) (by omega)]
    rw [tk, if_neg (by omega)]
    congr 1; omega
theorem ref_ticks (k : Nat) (a0 a1 : Int) (hk : 1100 ≤ k) : paternosterref06_Ticks.f k a0 a1 = some ((tk (inn a0 0 1000).toNat 0 (inn a0 0 1000).toNat (inn a1 1 8).toNat : Nat) : Int) := by
  have hl := clamp (x := a0) (lo := 0) (hi := 1000) (by decide)
  have hm := clamp (x := a1) (lo := 1) (hi := 8) (by decide)
  obtain ⟨j, rfl⟩ : ∃ j, k = j + 31 := ⟨k - 31, by omega⟩
  unfold paternosterref06_Ticks.f
  rw [ref_within _ _ _ (by decide)]
  simp only [Option.bind_some]
  obtain ⟨L, hL⟩ : ∃ L : Nat, inn a0 0 1000 = L := ⟨(inn a0 0 1000).toNat, by omega⟩
  obtain ⟨M, hM⟩ : ∃ M : Nat, inn a1 1 8 = M := ⟨(inn a1 1 8).toNat, by omega⟩
  rw [hL, hM]
  have := ref_ticks_loop j 0 L M a1 0 hM (by omega) (by omega) (ok0 L M) (by omega) (by omega) (by omega) (by omega)
  simp only [Int.toNat_natCast]
  rw [← tk_fuel j 0 L M (by omega) (by omega) (ok0 L M) (by omega)]
  simpa using this
end Go.Proofs.Ytmhgfghbbophlaa.Aid
