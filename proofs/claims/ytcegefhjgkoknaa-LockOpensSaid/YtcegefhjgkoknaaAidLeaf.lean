/- Plain facts on doors' step and on what may be: within bounds. No conditions. -/
import Derived.Test.YtcegefhjgkoknaaAid
import Derived.Test.YtcegefhjgkoknaaQx8
import Derived.Test.YtcegefhjgkoknaaQx2
namespace Go.Proofs.Ytcegefhjgkoknaa.Aid
open Go.RowKit Go.Proofs.Ytcegefhjgkoknaa.Q
theorem take_leaf {o w : Int} (what : Int) (b : Bool) (h0 : 0 ≤ o) (h1 : o ≤ w) (h2 : w ≤ 16) : leafTo o w what b = if what = 2 then (if b = true then o else if o ≤ 0 then 0 else o - 1) else if what = 1 then (if w ≤ o then w else o + 1) else o := by
  unfold leafTo leafBy wrap64
  cases b <;> (repeat' split) <;> simp_all <;> omega
theorem leaf_bd {o w : Int} (what : Int) (b : Bool) (h0 : 0 ≤ o) (h1 : o ≤ w) (h2 : w ≤ 16) : 0 ≤ leafTo o w what b ∧ leafTo o w what b ≤ w := by
  rw [take_leaf what b h0 h1 h2]; (repeat' split) <;> omega
end Go.Proofs.Ytcegefhjgkoknaa.Aid
