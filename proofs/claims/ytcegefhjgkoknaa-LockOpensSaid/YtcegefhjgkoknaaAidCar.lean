/- Plain facts on a car's step: bounds, least and greatest. No conditions. -/
import Derived.Test.YtcegefhjgkoknaaAid
import Derived.Test.YtcegefhjgkoknaaQx10
namespace Go.Proofs.Ytcegefhjgkoknaa.Aid
open Go.RowKit Go.Proofs.Ytcegefhjgkoknaa.Q
theorem inn_mm (x lo hi : Int) : inn x lo hi = min (max x lo) hi := by unfold inn; (repeat' split) <;> omega
theorem top_mm (f : Int) : topTo f = (min (max f 2) 32 - 1) * 8 := by unfold topTo; rw [inn_mm]
theorem top_bd (f : Int) : 8 ≤ topTo f ∧ topTo f ≤ 248 := by rw [top_mm]; omega
theorem may_mm {v : Int} (x : Int) (h : -8 ≤ v) (h' : v ≤ 8) : mayTo v x = min (max (min (max x (-8)) 8) (min (max (v - 1) (-8)) 8)) (min (max (v + 1) (-8)) 8) := by
  unfold mayTo
  rw [wr (x := v - 1) (by omega) (by omega), wr (x := v + 1) (by omega) (by omega)]
  simp only [inn_mm]
theorem may_bd {v : Int} (x : Int) (h : -8 ≤ v) (h' : v ≤ 8) : -8 ≤ mayTo v x ∧ mayTo v x ≤ 8 := by rw [may_mm x h h']; omega
theorem pos_mm {p v : Int} (x f : Int) (h0 : 0 ≤ p) (h1 : p ≤ 1000000) (h : -8 ≤ v) (h' : v ≤ 8) : stepPos p v x f = min (max (p + mayTo v x) 0) (topTo f) := by
  obtain ⟨a, b⟩ := may_bd x h h'
  unfold stepPos
  rw [wr (x := p + mayTo v x) (by omega) (by omega), inn_mm]
theorem vel_mm {p v : Int} (x f : Int) (h0 : 0 ≤ p) (h1 : p ≤ 1000000) (h : -8 ≤ v) (h' : v ≤ 8) : carVel p v x f false = if stepPos p v x f = p + mayTo v x then mayTo v x else 0 := by
  obtain ⟨a, b⟩ := may_bd x h h'
  unfold carVel
  rw [if_neg (by decide), wr (x := p + mayTo v x) (by omega) (by omega)]
end Go.Proofs.Ytcegefhjgkoknaa.Aid
