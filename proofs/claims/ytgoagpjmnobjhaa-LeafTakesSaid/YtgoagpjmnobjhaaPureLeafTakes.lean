/- LeafTakes: doors that open are wide in as many ticks as are left, and no sooner; doors that shut are shut in as many as they are open, and those in which they are blocked. No conditions. -/
import Derived.Test.YtgoagpjmnobjhaaQx6
import Derived.Test.YtgoagpjmnobjhaaAid
namespace Go.Proofs.Ytgoagpjmnobjhaa.Pure
open Go.RowKit Go.Proofs.Ytgoagpjmnobjhaa.Q Go.Proofs.Ytgoagpjmnobjhaa.Aid Go.Proofs.YtgoagpjmnobjhaaW.PrintWords Go.Proofs.YtgoagpjmnobjhaaW.PrintLast
theorem take_leaf {o w : Int} (what : Int) (b : Bool) (h0 : 0 ≤ o) (h1 : o ≤ w) (h2 : w ≤ 16) : leafTo o w what b = if what = 2 then (if b = true then o else if o ≤ 0 then 0 else o - 1) else if what = 1 then (if w ≤ o then w else o + 1) else o := by
  unfold leafTo leafBy wrap64
  cases b <;> (repeat' split) <;> simp_all <;> omega
/-- They shut: gone ticks that weren't blocked. -/
theorem takes_shut (bs : List Bool) (hl : bs.length ≤ 200) (w : Int) (hw1 : 1 ≤ w) (hw : w ≤ 16) (d : Nat) : ∀ (k : Nat) (i g o : Int), (bs.length : Int) - i = d → d < k → 0 ≤ i → 0 ≤ g → g ≤ i → o = max (w - g) 0 →
    paternosterlaw08_LeafTakes.l1 k bs w g i o w = some true := by
  induction d with
  | zero =>
    intro k i g o hd hk hi hg hgi ho
    obtain ⟨k, rfl⟩ : ∃ m, k = m + 1 := ⟨k - 1, by omega⟩
    simp only [paternosterlaw08_LeafTakes.l1]
    rw [if_neg (by omega)]
  | succ d ih =>
    intro k i g o hd hk hi hg hgi ho
    obtain ⟨k, rfl⟩ : ∃ m, k = m + 1 := ⟨k - 1, by omega⟩
    simp only [paternosterlaw08_LeafTakes.l1]
    rw [if_pos (by omega), if_pos hi]
    have e := take_leaf (o := o) (w := w) 2 (rdOf false bs i) (by omega) (by omega) hw
    rw [if_pos rfl] at e
    simp only [leaf_Leaf_Step.f, leaf_Leaf_Shut.f, Option.bind_some, e]
    rw [wr (x := i + 1) (by omega) (by omega), wr (x := g + 1) (by omega) (by omega), wr (x := w - g) (by omega) (by omega), wr (x := w - (g + 1)) (by omega) (by omega)]
    cases hb : rdOf false bs i
    · simp only [if_neg (show ¬ (false = true) by decide)]
      obtain ⟨q, hq⟩ : ∃ q, (if o ≤ 0 then 0 else o - 1) = q := ⟨_, rfl⟩
      have hqe : q = max (w - (g + 1)) 0 := by rw [← hq]; split <;> omega
      rw [hq]
      have h1 : ((q == 0) != decide (g + 1 ≥ w)) = false := by
        rw [bne_eq_false_iff_eq, Bool.eq_iff_iff]
        simp only [beq_iff_eq, decide_eq_true_eq]
        omega
      rw [h1, if_neg (by decide), if_pos (by rw [hqe]; unfold mx; split <;> omega)]
      exact ih k (i + 1) (g + 1) q (by omega) (by omega) (by omega) (by omega) (by omega) hqe
    · simp only [if_true]
      have h1 : ((o == 0) != decide (g ≥ w)) = false := by
        rw [bne_eq_false_iff_eq, Bool.eq_iff_iff]
        simp only [beq_iff_eq, decide_eq_true_eq]
        omega
      rw [h1, if_neg (by decide), if_pos (by rw [ho]; unfold mx; split <;> omega)]
      exact ih k (i + 1) g o (by omega) (by omega) (by omega) (by omega) (by omega) ho
/-- They open. -/
theorem takes_open (bs : List Bool) (hl : bs.length ≤ 200) (w o : Int) (hw1 : 1 ≤ w) (hw : w ≤ 16) (ho : 0 ≤ o) (ho1 : o ≤ w) (d : Nat) : ∀ (k : Nat) (i m : Int), (w - o) - i = d → d + bs.length + 1 < k → 0 ≤ i → m = o + i →
    paternosterlaw08_LeafTakes.l0 k bs w i o w m w = some true := by
  induction d with
  | zero =>
    intro k i m hd hk hi hm
    obtain ⟨k, rfl⟩ : ∃ m, k = m + 1 := ⟨k - 1, by omega⟩
    simp only [paternosterlaw08_LeafTakes.l0, leaf_Leaf_Left.f, leaf_Leaf_Wide.f, Option.bind_some]
    rw [wr (x := w - o) (by omega) (by omega), if_neg (by omega), show (m == w) = true by rw [beq_iff_eq]; omega, if_pos rfl]
    exact takes_shut bs hl w hw1 hw bs.length k 0 0 m (by omega) (by omega) (by omega) (by omega) (by omega) (by omega)
  | succ d ih =>
    intro k i m hd hk hi hm
    obtain ⟨k, rfl⟩ : ∃ m, k = m + 1 := ⟨k - 1, by omega⟩
    simp only [paternosterlaw08_LeafTakes.l0, leaf_Leaf_Left.f, leaf_Leaf_Wide.f, Option.bind_some]
    have e := take_leaf (o := m) (w := w) 1 true (by omega) (by omega) hw
    rw [if_neg (by decide), if_pos rfl, if_neg (by omega)] at e
    rw [wr (x := w - o) (by omega) (by omega), if_pos (by omega), show (m == w) = false by rw [beq_eq_false_iff_ne]; omega, if_neg (by decide), wr (x := i + 1) (by omega) (by omega)]
    simp only [leaf_Leaf_Step.f, Option.bind_some, e]
    exact ih k (i + 1) (m + 1) (by omega) (by omega) (by omega) (by omega)
theorem LeafTakes : paternosterlaw08_LeafTakes.Pure := by
  intro a0 a1 bs h0 h1 _
  have b0 := u8 h0
  have b1 := u8 h1
  have aw : paternosterlaw08_awake.f = some true := by decide +kernel
  obtain ⟨hm, hm'⟩ := md b1.1 (show (0 : Int) < 16 by decide)
  obtain ⟨v, hv⟩ : ∃ v, Int.tmod a1 16 = v := ⟨_, rfl⟩
  rw [hv] at hm hm'
  have hw1 : wrap64 ((wrap64 (Int.tmod a1 16)) + 1) = v + 1 := by rw [hv, wr (x := v) (by omega) (by omega), wr (by omega) (by omega)]
  have hw2 : wrap64 (v + 1 + 1) = v + 1 + 1 := wr (by omega) (by omega)
  obtain ⟨ho, ho'⟩ := md b0.1 (show (0 : Int) < v + 1 + 1 by omega)
  obtain ⟨o, hoo⟩ : ∃ o, Int.tmod a0 (v + 1 + 1) = o := ⟨_, rfl⟩
  rw [hoo] at ho ho'
  have hw3 : Int.tmod (wrap64 a0) (v + 1 + 1) = o := by rw [wr (x := a0) (by omega) (by omega), hoo]
  refine ⟨bs.length + 30, ?_⟩
  unfold paternosterlaw08_LeafTakes.f
  rw [aw, hw1, hw2, hw3]
  simp only [Option.bind_some, if_true]
  by_cases hl : (bs.length : Int) > 200
  · rw [if_pos hl]
  · rw [if_neg hl, if_neg (by omega)]
    obtain ⟨d, hd⟩ := Int.eq_ofNat_of_zero_le (show 0 ≤ (v + 1) - o by omega)
    exact takes_open bs (by omega) (v + 1) o (by omega) (by omega) ho (by omega) d _ 0 o (by omega) (by omega) (by omega) (by omega)
end Go.Proofs.Ytgoagpjmnobjhaa.Pure
