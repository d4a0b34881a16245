/- LeafBounds: whatever is done doors are open by no more than they can, and by no less than nothing, and go by one at a time. No conditions. -/
import Derived.Test.YtgoagpjmnobjhaaQx7
import Derived.Test.YtgoagpjmnobjhaaAid
namespace Go.Proofs.Ytgoagpjmnobjhaa.Pure
open Go.RowKit Go.Proofs.Ytgoagpjmnobjhaa.Q Go.Proofs.Ytgoagpjmnobjhaa.Aid Go.Proofs.YtgoagpjmnobjhaaW.PrintWords Go.Proofs.YtgoagpjmnobjhaaW.PrintLast
theorem leaf_one {o w : Int} (what : Int) (b : Bool) (h0 : 0 ≤ o) (h1 : o ≤ w) (h2 : w ≤ 16) : 0 ≤ leafTo o w what b ∧ leafTo o w what b ≤ w ∧ leafTo o w what b ≤ o + 1 ∧ o - 1 ≤ leafTo o w what b := by
  unfold leafTo leafBy wrap64
  cases b <;> (repeat' split) <;> simp_all <;> omega
theorem bounds_loop (xs : List Int) (hl : xs.length ≤ 200) (blk : Bool) (w : Int) (hw1 : 1 ≤ w) (hw : w ≤ 16) (d : Nat) : ∀ (k : Nat) (i o : Int), (xs.length : Int) - i = d → d < k → 0 ≤ i → 0 ≤ o → o ≤ w →
    paternosterlaw08_LeafBounds.l0 k xs blk i o w = some true := by
  induction d with
  | zero =>
    intro k i o hd hk hi h0 h1
    obtain ⟨k, rfl⟩ : ∃ m, k = m + 1 := ⟨k - 1, by omega⟩
    simp only [paternosterlaw08_LeafBounds.l0]
    rw [if_neg (by omega)]
  | succ d ih =>
    intro k i o hd hk hi h0 h1
    obtain ⟨k, rfl⟩ : ∃ m, k = m + 1 := ⟨k - 1, by omega⟩
    simp only [paternosterlaw08_LeafBounds.l0]
    rw [if_pos (by omega), if_pos hi, wr (x := i + 1) (by omega) (by omega)]
    have step : ∀ b : Bool, ∀ what : Int, ((leaf_Leaf_Step.f o w what b).bind fun bt => if bt.1 < 0 then some false else if bt.1 > bt.2 then some false else if wrap64 (bt.1 - o) > 1 then some false else if wrap64 (o - bt.1) > 1 then some false else
        (leaf_Leaf_Shut.f bt.1 bt.2).bind fun t141 => if t141 = true then ((leaf_Leaf_Wide.f bt.1 bt.2).bind fun t142 => if t142 = true then some false else ((leaf_Leaf_Left.f bt.1 bt.2).bind fun t143 => if wrap64 (t143 + bt.1) = bt.2 then paternosterlaw08_LeafBounds.l0 k xs blk (i + 1) bt.1 bt.2 else some false)) else
          ((leaf_Leaf_Left.f bt.1 bt.2).bind fun t144 => if wrap64 (t144 + bt.1) = bt.2 then paternosterlaw08_LeafBounds.l0 k xs blk (i + 1) bt.1 bt.2 else some false)) = some true := by
      intro b what
      have hb := leaf_one (o := o) (w := w) what b h0 h1 hw
      simp only [leaf_Leaf_Step.f, leaf_Leaf_Shut.f, leaf_Leaf_Wide.f, leaf_Leaf_Left.f, Option.bind_some]
      obtain ⟨q, hq⟩ : ∃ q, leafTo o w what b = q := ⟨_, rfl⟩
      rw [hq] at hb ⊢
      rw [wr (x := q - o) (by omega) (by omega), wr (x := o - q) (by omega) (by omega), wr (x := w - q) (by omega) (by omega), wr (x := w - q + q) (by omega) (by omega)]
      rw [if_neg (by omega), if_neg (by omega), if_neg (by omega), if_neg (by omega)]
      have := ih k (i + 1) q (by omega) (by omega) (by omega) (by omega) (by omega)
      rw [this]
      have hne : ¬ ((q == 0) = true ∧ (q == w) = true) := by simp only [beq_iff_eq]; omega
      by_cases hz : (q == 0) = true
      · rw [if_pos hz, if_neg (fun h => hne ⟨hz, h⟩), if_pos (by omega)]
      · rw [if_neg hz, if_pos (by omega)]
    cases blk
    · rw [if_neg (by decide)]
      exact step _ _
    · rw [if_pos rfl]
      exact step _ _
theorem LeafBounds : paternosterlaw08_LeafBounds.Pure := by
  intro a0 xs blk h0 _ _ _
  have b0 := u8 h0
  have aw : paternosterlaw08_awake.f = some true := by decide +kernel
  obtain ⟨hm, hm'⟩ := md b0.1 (show (0 : Int) < 16 by decide)
  obtain ⟨v, hv⟩ : ∃ v, Int.tmod a0 16 = v := ⟨_, rfl⟩
  rw [hv] at hm hm'
  have hw1 : wrap64 ((wrap64 (Int.tmod a0 16)) + 1) = v + 1 := by rw [hv, wr (x := v) (by omega) (by omega), wr (by omega) (by omega)]
  refine ⟨xs.length + 1, ?_⟩
  unfold paternosterlaw08_LeafBounds.f
  rw [aw, hw1]
  simp only [Option.bind_some, if_true]
  by_cases hl : (xs.length : Int) > 200
  · rw [if_pos hl]
  · rw [if_neg hl]
    exact bounds_loop xs (by omega) blk (v + 1) (by omega) (by omega) xs.length _ 0 0 (by omega) (by omega) (by omega) (by omega) (by omega)
end Go.Proofs.Ytgoagpjmnobjhaa.Pure
