/- LeafBack: doors that neither are wide nor shut are as they were when they opened, and shut, by one. No conditions. -/
import Derived.Test.YtgoagpjmnobjhaaQx6
import Derived.Test.YtgoagpjmnobjhaaAid
namespace Go.Proofs.Ytgoagpjmnobjhaa.Pure
open Go.RowKit Go.Proofs.Ytgoagpjmnobjhaa.Q Go.Proofs.Ytgoagpjmnobjhaa.Aid Go.Proofs.YtgoagpjmnobjhaaW.PrintWords Go.Proofs.YtgoagpjmnobjhaaW.PrintLast

/-- Doors within bounds: a tick on, without wraps. -/
def lt' (o w what : Int) (b : Bool) : Int := if what = 2 then (if b = true then o else if o ≤ 0 then 0 else o - 1) else if what = 1 then (if w ≤ o then w else o + 1) else o
theorem leafTo_in {o w what : Int} (b : Bool) (h0 : 0 ≤ o) (h1 : o ≤ w) (h2 : w ≤ 16) : leafTo o w what b = lt' o w what b := by
  unfold leafTo leafBy lt' wrap64
  cases b <;> (repeat' split) <;> simp_all <;> omega

theorem all_back : ∀ m : Nat, m < 17 → ∀ n : Nat, n < 17 → 1 ≤ m → n ≤ m →
    (((lt' (lt' (n : Int) m 1 false) m 2 false == (n : Int)) && ((m : Int) == m)) = !((n : Int) == m)) ∧ (((lt' (lt' (n : Int) m 2 false) m 1 false == (n : Int)) && ((m : Int) == m)) = !((n : Int) == 0)) := by decide +kernel

theorem LeafBack : paternosterlaw08_LeafBack.Pure := by
  intro a0 a1 h0 h1
  have b0 := u8 h0
  have b1 := u8 h1
  have aw : paternosterlaw08_awake.f = some true := by decide +kernel
  obtain ⟨hm, hm'⟩ := md b1.1 (show (0 : Int) < 16 by decide)
  obtain ⟨v, hv⟩ : ∃ v, Int.tmod a1 16 = v := ⟨_, rfl⟩
  rw [hv] at hm hm'
  have hw1 : wrap64 ((wrap64 (Int.tmod a1 16)) + 1) = v + 1 := by rw [hv, wr (x := v) (by omega) (by omega), wr (by omega) (by omega)]
  have hw2 : wrap64 (v + 1 + 1) = v + 1 + 1 := wr (by omega) (by omega)
  obtain ⟨ho, ho'⟩ := md b0.1 (show (0 : Int) < v + 1 + 1 by omega)
  obtain ⟨o, hoo⟩ : ∃ o, Int.tmod a0 (v + 1 + 1) = o := ⟨_, rfl⟩
  rw [hoo] at ho ho'
  have hw3 : Int.tmod (wrap64 a0) (v + 1 + 1) = o := by rw [wr (x := a0) (by omega) (by omega), hoo]
  unfold paternosterlaw08_LeafBack.f
  rw [aw, hw1, hw2, hw3]
  simp only [Option.bind_some, if_true, leaf_Leaf_Step.f, leaf_Leaf_Shut.f, leaf_Leaf_Wide.f]
  rw [if_neg (by omega)]
  obtain ⟨w, hw⟩ : ∃ w, v + 1 = w := ⟨_, rfl⟩
  have how : o ≤ w := by omega
  have hw0 : 1 ≤ w := by omega
  have hw16 : w ≤ 16 := by omega
  rw [hw]
  clear hw1 hw2 hw3 hw hoo hv
  have e1 : leafTo o w 1 false = lt' o w 1 false := leafTo_in _ ho (by omega) (by omega)
  have e2 : leafTo (lt' o w 1 false) w 2 false = lt' (lt' o w 1 false) w 2 false := leafTo_in _ (by unfold lt'; simp; split <;> omega) (by unfold lt'; simp; split <;> omega) (by omega)
  have e3 : leafTo o w 2 false = lt' o w 2 false := leafTo_in _ ho (by omega) (by omega)
  have e4 : leafTo (lt' o w 2 false) w 1 false = lt' (lt' o w 2 false) w 1 false := leafTo_in _ (by unfold lt'; simp; split <;> omega) (by unfold lt'; simp; split <;> omega) (by omega)
  have e5 : leafTo o w 0 true = lt' o w 0 true := leafTo_in _ ho (by omega) (by omega)
  have e6 : leafTo o w 2 true = lt' o w 2 true := leafTo_in _ ho (by omega) (by omega)
  rw [e1, e2, e3, e4, e5, e6]
  obtain ⟨n, rfl⟩ := Int.eq_ofNat_of_zero_le ho
  obtain ⟨m, rfl⟩ := Int.eq_ofNat_of_zero_le (show 0 ≤ w by omega)
  have f1 := all_back m (by omega) n (by omega) (by omega) (by omega)
  have f2 := f1.2
  replace f1 := f1.1
  rw [f1, f2]
  simp [lt']

end Go.Proofs.Ytgoagpjmnobjhaa.Pure
