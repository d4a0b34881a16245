/- GateTries: doors that are blocked each time open again no oftener than they may, until they were shut; then as often again. No conditions. -/
import Derived.Test.YtcegefhjgkoknaaQx7
import Derived.Test.YtcegefhjgkoknaaAid
namespace Go.Proofs.Ytcegefhjgkoknaa.Pure
open Go.RowKit Go.Proofs.Ytcegefhjgkoknaa.Q Go.Proofs.Ytcegefhjgkoknaa.Aid Go.Proofs.YtcegefhjgkoknaaW.PrintWords Go.Proofs.YtcegefhjgkoknaaW.PrintLast
theorem tries_in (m x1 r : Int) (hm : 0 ≤ m) (hm1 : m ≤ 255) (K : Nat) (hnext : ∀ k, K < k → ∀ w, paternosterlaw14_GateTries.j2 k m x1 r false 1 2 0 2 w m = some true) (c : Nat) : ∀ (k : Nat) (i n w t : Int), (m + 5) - i = c → K + c + 1 < k → 0 ≤ i → t = min i m → n = t →
    paternosterlaw14_GateTries.l1 k m x1 r n i 1 2 0 2 w t = some true := by
  induction c with
  | zero =>
    intro k i n w t hc hk hi ht hn
    obtain ⟨k, rfl⟩ : ∃ m, k = m + 1 := ⟨k - 1, by omega⟩
    simp only [paternosterlaw14_GateTries.l1]
    rw [wr (x := m) (by omega) (by omega), wr (x := m + 5) (by omega) (by omega), if_neg (by omega), if_pos (by omega)]
    obtain rfl : t = m := by omega
    rw [show (t != n) = false by rw [bne_eq_false_iff_eq]; omega]
    exact hnext k (by omega) w
  | succ c ih =>
    intro k i n w t hc hk hi ht hn
    obtain ⟨k, rfl⟩ : ∃ m, k = m + 1 := ⟨k - 1, by omega⟩
    simp only [paternosterlaw14_GateTries.l1]
    rw [wr (x := m) (by omega) (by omega), wr (x := m + 5) (by omega) (by omega), if_pos (by omega), wr (x := i + 1) (by omega) (by omega), wr (x := n + 1) (by omega) (by omega)]
    have hs : (gate_Gate_Again.f w t 1 2 true m) = if t ≥ m then some (w, t, false) else some (w, wrap64 (t + 1), true) := by
      simp [gate_Gate_Again.f, leaf_Leaf_Shut.f, leaf_Leaf_Wide.f]
    have hg : ∀ w t, gate_Gate_Step.f w t 1 2 1 2 3 = some (0, t) := by
      intro w t; simp [gate_Gate_Step.f, leaf_Leaf_Shut.f, leaf_Leaf_Wide.f]
    rw [hs]
    by_cases h : t ≥ m
    · rw [if_pos h]
      simp only [Option.bind_some, hg, if_neg (show ¬ (false = true) by decide)]
      exact ih k (i + 1) n 0 t (by omega) (by omega) (by omega) (by omega) (by omega)
    · rw [if_neg h, wr (x := t + 1) (by omega) (by omega)]
      simp only [Option.bind_some, hg, if_true]
      exact ih k (i + 1) (n + 1) 0 (t + 1) (by omega) (by omega) (by omega) (by omega) (by omega)
/-- How many rounds c of them take, at most. -/
def rnd : Nat → Nat
  | 0 => 5
  | c + 1 => rnd c + 600
theorem rnd_le : ∀ c : Nat, rnd c = 600 * c + 5
  | 0 => rfl
  | c + 1 => by rw [rnd, rnd_le c]; omega
theorem tries_out (m x1 q : Int) (hm : 0 ≤ m) (hm1 : m ≤ 255) (hq : wrap64 ((wrap64 (Int.tmod x1 4)) + 1) = q) (hq1 : q ≤ 4) (c : Nat) : ∀ (k : Nat) (r w : Int), q - r = c → rnd c < k → 0 ≤ r → paternosterlaw14_GateTries.l0 k m x1 r 1 2 0 2 w 0 = some true := by
  induction c with
  | zero =>
    intro k r w hc hk hr
    obtain ⟨k, rfl⟩ : ∃ m, k = m + 1 := ⟨k - 1, by omega⟩
    simp only [paternosterlaw14_GateTries.l0]
    rw [hq, if_neg (by omega)]
  | succ c ih =>
    intro k r w hc hk hr
    obtain ⟨k, rfl⟩ : ∃ m, k = m + 1 := ⟨k - 1, by omega⟩
    simp only [paternosterlaw14_GateTries.l0]
    rw [hq, if_pos (by omega)]
    obtain ⟨e, he⟩ := Int.eq_ofNat_of_zero_le (show 0 ≤ m + 5 by omega)
    rw [rnd] at hk
    refine tries_in m x1 r hm hm1 (rnd c + 1) ?_ e k 0 0 w 0 (by omega) (by omega) (by omega) (by omega) (by omega)
    intro k hk w
    obtain ⟨k, rfl⟩ : ∃ m, k = m + 1 := ⟨k - 1, by omega⟩
    simp only [paternosterlaw14_GateTries.j2]
    rw [if_neg (by decide), wr (x := r + 1) (by omega) (by omega)]
    have hg : ∀ w t, gate_Gate_Step.f w t 1 2 0 2 3 = some (0, 0) := by
      intro w t; simp [gate_Gate_Step.f, leaf_Leaf_Shut.f, leaf_Leaf_Wide.f]
    rw [hg]
    simp only [Option.bind_some, if_true]
    exact ih k (r + 1) 0 (by omega) (by omega) (by omega)
theorem GateTries : paternosterlaw14_GateTries.Pure := by
  intro a0 a1 h0 h1
  have b0 := u8 h0
  have b1 := u8 h1
  have aw : paternosterlaw14_awake.f = some true := by decide +kernel
  obtain ⟨hm, hm'⟩ := md b1.1 (show (0 : Int) < 4 by decide)
  obtain ⟨v, hv⟩ : ∃ v, Int.tmod a1 4 = v := ⟨_, rfl⟩
  rw [hv] at hm hm'
  have hw1 : wrap64 ((wrap64 (Int.tmod a1 4)) + 1) = v + 1 := by rw [hv, wr (x := v) (by omega) (by omega), wr (by omega) (by omega)]
  obtain ⟨K, hK⟩ : ∃ K : Nat, 2500 ≤ K := ⟨3000, by omega⟩
  refine ⟨K, ?_⟩
  unfold paternosterlaw14_GateTries.f
  rw [aw]
  simp only [Option.bind_some, if_true]
  obtain ⟨c, hc⟩ := Int.eq_ofNat_of_zero_le (show 0 ≤ v + 1 by omega)
  exact tries_out a0 a1 (v + 1) b0.1 b0.2 hw1 (by omega) c K 0 0 (by omega) (by rw [rnd_le]; omega) (by omega)
end Go.Proofs.Ytcegefhjgkoknaa.Pure
