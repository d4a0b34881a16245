/- Bounds of kinds, remainders, and what a plan's ticks come to. No conditions. -/
import Derived.Test.YtmhgfghbbophlaaAid
namespace Go.Proofs.Ytmhgfghbbophlaa.Aid
open Go.RowKit Go.Proofs.Ytmhgfghbbophlaa.Q Go.Proofs.YtmhgfghbbophlaaW.PrintWords Go.Proofs.YtmhgfghbbophlaaW.PrintLast Plan
theorem u8 {x : Int} (h : (Lit.int .u8 x).wf = true) : 0 ≤ x ∧ x ≤ 255 := by
  have hmin : IntKind.u8.min = 0 := rfl
  have hmax : IntKind.u8.max = 255 := rfl
  simp only [Lit.wf, Bool.and_eq_true, decide_eq_true_eq] at h
  omega
theorem u16 {x : Int} (h : (Lit.int .u16 x).wf = true) : 0 ≤ x ∧ x ≤ 65535 := by
  have hmin : IntKind.u16.min = 0 := rfl
  have hmax : IntKind.u16.max = 65535 := rfl
  simp only [Lit.wf, Bool.and_eq_true, decide_eq_true_eq] at h
  omega
theorem i64 {x : Int} (h : (Lit.int .i64 x).wf = true) : -9223372036854775808 ≤ x ∧ x ≤ 9223372036854775807 := by
  have hmin : IntKind.i64.min = -9223372036854775808 := rfl
  have hmax : IntKind.i64.max = 9223372036854775807 := rfl
  simp only [Lit.wf, Bool.and_eq_true, decide_eq_true_eq] at h
  omega
/-- A remainder is a small number. -/
theorem rest (x : Int) (m : Nat) (h : 0 ≤ x) (hm : 0 < m) (hm' : m ≤ 100000) : ∃ n : Nat, n < m ∧ wrap64 (Int.tmod x (m : Int)) = (n : Nat) := by
  rw [Int.tmod_eq_emod_of_nonneg h]
  have h1 := Int.emod_nonneg x (b := (m : Int)) (by omega)
  have h2 := Int.emod_lt_of_pos x (b := (m : Int)) (by omega)
  refine ⟨(x % (m : Int)).toNat, by omega, ?_⟩
  rw [wrap64_id (by omega) (by omega)]; omega
/-- A remainder of eight and one more. -/
theorem rest1 (x : Int) (m : Nat) (h : 0 ≤ x) (hm : 0 < m) (hm' : m ≤ 100000) : ∃ n : Nat, 1 ≤ n ∧ n ≤ m ∧ wrap64 (wrap64 (Int.tmod x (m : Int)) + 1) = (n : Nat) := by
  obtain ⟨n, hn, e⟩ := rest x m h hm hm'
  exact ⟨n + 1, by omega, by omega, by rw [e, wrap64_id (by omega) (by omega)]; omega⟩
theorem tk_ge : ∀ k s l m : Nat, m ≤ 8 → 1 ≤ m → ok s l m → l ≤ k → l ≤ tk k s l m * m
  | 0, s, l, m, _, _, _, hl => by omega
  | k + 1, s, l, m, hm, hm1, h, hl => by
    rw [tk]
    split
    · omega
    · have a := step s l m hm hm1 h
      have b := tk_ge k _ _ m hm hm1 (step_ok s l m hm hm1 h) (by omega)
      rw [Nat.add_mul]; omega
theorem rest_small : ∀ m : Nat, m < 9 → 1 ≤ m → nx 0 0 m = 0 ∧ nx 1 0 m = 0 ∧ m + stN m ≤ 36 := by decide
theorem rest_step : ∀ m : Nat, m < 9 → ∀ l : Nat, l < 37 → 1 ≤ m ∧ 1 ≤ l → nx 0 l m = 1 := by decide +kernel
theorem rest_full : ∀ m : Nat, m < 9 → ∀ l : Nat, l < 37 → 1 ≤ m ∧ m + stN m ≤ l → nx m l m = m := by decide +kernel
theorem rest_less : ∀ m : Nat, m < 9 → ∀ l : Nat, l < 37 → 1 ≤ m ∧ l < m + stN m → nx m l m < m := by decide +kernel
end Go.Proofs.Ytmhgfghbbophlaa.Aid
