/- GateStays: doors that are wide are ready to be shut once they were so for as long as they should, and no sooner. No conditions. -/
import Derived.Test.YtcegefhjgkoknaaQx6
import Derived.Test.YtcegefhjgkoknaaAid
namespace Go.Proofs.Ytcegefhjgkoknaa.Pure
open Go.RowKit Go.Proofs.Ytcegefhjgkoknaa.Q Go.Proofs.Ytcegefhjgkoknaa.Aid Go.Proofs.YtcegefhjgkoknaaW.PrintWords Go.Proofs.YtcegefhjgkoknaaW.PrintLast
theorem stays_loop (w d n : Int) (hw : 1 ≤ w) (hw1 : w ≤ 16) (hd : 0 ≤ d) (hd1 : d ≤ 200) (hn : n ≤ 255) (c : Nat) : ∀ (k : Nat) (i g t : Int), n - i = c → c < k → 0 ≤ i → g = max (d - i) 0 → paternosterlaw14_GateStays.l0 k w d n i w w g t = some true := by
  induction c with
  | zero =>
    intro k i g t hc hk hi hg
    obtain ⟨k, rfl⟩ : ∃ m, k = m + 1 := ⟨k - 1, by omega⟩
    simp only [paternosterlaw14_GateStays.l0, gate_Gate_Ready.f, leaf_Leaf_Wide.f, Option.bind_some]
    rw [if_neg (by omega), wr (x := w - 1) (by omega) (by omega), show (w - 1 == w) = false by rw [beq_eq_false_iff_ne]; omega]
    simp
  | succ c ih =>
    intro k i g t hc hk hi hg
    obtain ⟨k, rfl⟩ : ∃ m, k = m + 1 := ⟨k - 1, by omega⟩
    simp only [paternosterlaw14_GateStays.l0, gate_Gate_Ready.f, gate_Gate_Step.f, leaf_Leaf_Wide.f, leaf_Leaf_Shut.f, Option.bind_some]
    rw [if_pos (by omega), wr (x := i + 1) (by omega) (by omega), show (w == w) = true by simp, show (w == 0) = false by rw [beq_eq_false_iff_ne]; omega]
    simp only [if_true, Option.bind_some, if_neg (show ¬ (false = true) by decide)]
    have h1 : ((g == 0) != decide (i ≥ d)) = false := by
      rw [bne_eq_false_iff_eq, Bool.eq_iff_iff]
      simp only [beq_iff_eq, decide_eq_true_eq]
      omega
    rw [h1, if_neg (by decide), wr (x := g - 1) (by omega) (by omega)]
    exact ih k (i + 1) _ _ (by omega) (by omega) (by omega) (by unfold mx; split <;> omega)
theorem GateStays : paternosterlaw14_GateStays.Pure := by
  intro a0 a1 a2 h0 h1 h2
  have b0 := u8 h0
  have b1 := u8 h1
  have b2 := u8 h2
  have aw : paternosterlaw14_awake.f = some true := by decide +kernel
  obtain ⟨hm, hm'⟩ := md b0.1 (show (0 : Int) < 16 by decide)
  obtain ⟨v, hv⟩ : ∃ v, Int.tmod a0 16 = v := ⟨_, rfl⟩
  rw [hv] at hm hm'
  obtain ⟨hx, hx'⟩ := md b1.1 (show (0 : Int) < 201 by decide)
  obtain ⟨d, hdd⟩ : ∃ d, Int.tmod a1 201 = d := ⟨_, rfl⟩
  rw [hdd] at hx hx'
  have hw1 : wrap64 ((wrap64 (Int.tmod a0 16)) + 1) = v + 1 := by rw [hv, wr (x := v) (by omega) (by omega), wr (by omega) (by omega)]
  have hw2 : wrap64 (v + 1 - 1) = v := by rw [wr (by omega) (by omega)]; omega
  have hw3 : wrap64 (Int.tmod a1 201) = d := by rw [hdd, wr (by omega) (by omega)]
  have hw4 : wrap64 a2 = a2 := wr (by omega) (by omega)
  refine ⟨a2.toNat + 1, ?_⟩
  unfold paternosterlaw14_GateStays.f
  rw [aw, hw1, hw2, hw3, hw4]
  simp only [Option.bind_some, if_true, gate_Gate_Step.f, leaf_Leaf_Wide.f, leaf_Leaf_Shut.f]
  rw [show (v + 1 == v + 1) = true by simp, show (v == v + 1) = false by rw [beq_eq_false_iff_ne]; omega, show (v + 1 == 0) = false by rw [beq_eq_false_iff_ne]; omega]
  simp only [if_true, Option.bind_some, if_neg (show ¬ (false = true) by decide)]
  exact stays_loop (v + 1) d a2 (by omega) (by omega) hx (by omega) (by omega) a2.toNat _ 0 d 0 (by omega) (by omega) (by omega) (by omega)
end Go.Proofs.Ytcegefhjgkoknaa.Pure
