/- GateTells: what is done with doors, how long they stay, and whether they open again, is as the law tells it. No conditions. -/
import Derived.Test.YtcegefhjgkoknaaGx5
namespace Go.Proofs.Ytcegefhjgkoknaa.Pure
open Go.RowKit Go.Proofs.Ytcegefhjgkoknaa.G Go.Proofs.YtcegefhjgkoknaaW.PrintWords Go.Proofs.YtcegefhjgkoknaaW.PrintLast
set_option linter.unusedVariables false
set_option linter.unusedSimpArgs false
theorem gt_may (p v ld lo lw : Int) : paternosterlaw14_may.f p v ld lo lw = some (decide (0 ≤ p ∧ p ≤ 1000000 ∧ -8 ≤ v ∧ v ≤ 8 ∧ 1 ≤ lw ∧ lw ≤ 16 ∧ 0 ≤ lo ∧ lo ≤ lw)) := by
  unfold paternosterlaw14_may.f
  (repeat' split) <;> refine congrArg some ?_
  · exact decide_eq_decide.2 (by omega)
  all_goals exact (decide_eq_false (by omega)).symm
def wantO (op pw : Bool) (p v lo lw : Int) : Bool := pw && (op && (decide (v = 0) && (decide (Int.tmod p 8 = 0) && decide (lo < lw))))
def wantS (op pw : Bool) (lo : Int) : Bool := pw && (!op && decide (lo > 0))
def wantV (op pw : Bool) (p v lo lw : Int) : Int := if wantS op pw lo = true then 2 else if wantO op pw p v lo lw = true then 1 else 0
theorem gt_what (op pw : Bool) (p v lo lw : Int) (h0 : 0 ≤ lo) (h1 : lo ≤ lw) : gateWhat p v lo lw op pw = wantV op pw p v lo lw := by
  have e1 : (!(lo == lw)) = decide (lo < lw) := by
    rw [Bool.eq_iff_iff, Bool.not_eq_true', beq_eq_false_iff_ne, decide_eq_true_iff]; omega
  have e2 : (!(lo == 0)) = decide (lo > 0) := by
    rw [Bool.eq_iff_iff, Bool.not_eq_true', beq_eq_false_iff_ne, decide_eq_true_iff]; omega
  have e3 : levelB p v = (decide (v = 0) && decide (Int.tmod p 8 = 0)) := by
    unfold levelB; rfl
  unfold gateWhat wantV wantS wantO
  rw [e1, e2, e3]
  generalize decide (lo < lw) = b1
  generalize decide (lo > 0) = b2
  generalize decide (v = 0) = b3
  generalize decide (Int.tmod p 8 = 0) = b4
  cases op <;> cases pw <;> cases b1 <;> cases b2 <;> cases b3 <;> cases b4 <;> rfl
theorem g0 (k : Nat) (op pw bl : Bool) (dw most p v ld lo lw mo mw gw gt : Int) :
    paternosterlaw14_GateTells.j0 (k + 1) op pw bl dw most false p v ld lo lw mo mw gw gt = paternosterlaw14_GateTells.j1 k op pw bl most (wrap64 (Int.tmod dw 201)) 0 (wantO op pw p v lo lw) p v ld lo lw mo mw gw gt := by
  rw [paternosterlaw14_GateTells.j0, if_neg (by decide)]
  unfold wantO
  (repeat' split) <;> simp_all
theorem g1 (k : Nat) (op pw bl : Bool) (most d p v ld lo lw mo mw gw gt : Int) :
    paternosterlaw14_GateTells.j1 (k + 2) op pw bl most d 0 (wantO op pw p v lo lw) p v ld lo lw mo mw gw gt = paternosterlaw14_GateTells.j3 k op pw bl most d (if wantO op pw p v lo lw = true then 1 else 0) (wantS op pw lo) p v ld lo lw mo mw gw gt := by
  rw [paternosterlaw14_GateTells.j1, paternosterlaw14_GateTells.j2, paternosterlaw14_GateTells.j2]
  unfold wantS
  (repeat' split) <;> simp_all
theorem g3 (k : Nat) (op pw bl : Bool) (most d p v ld lo lw mo mw gw gt : Int) :
    paternosterlaw14_GateTells.j3 (k + 1) op pw bl most d (if wantO op pw p v lo lw = true then 1 else 0) (wantS op pw lo) p v ld lo lw mo mw gw gt = paternosterlaw14_GateTells.j4 k op pw bl most d (wantV op pw p v lo lw) p v ld lo lw mo mw gw gt := by
  rw [paternosterlaw14_GateTells.j3]
  unfold wantV
  split <;> rfl
def waitV (d lo lw mo mw gw : Int) : Int := if mo = mw then (if lo = lw then mx (wrap64 (gw - 1)) 0 else d) else 0
def triesV (mo gt : Int) : Int := if mo = 0 then 0 else gt
theorem gt_step (gw gt lo lw mo mw d : Int) : gate_Gate_Step.f gw gt lo lw mo mw d = some (waitV d lo lw mo mw gw, triesV mo gt) := by
  unfold gate_Gate_Step.f leaf_Leaf_Wide.f leaf_Leaf_Shut.f waitV triesV
  simp only [Option.bind_some, beq_iff_eq]
  (repeat' split) <;> first | rfl | contradiction
theorem g4 (k : Nat) (op pw bl : Bool) (most d W p v ld lo lw mo mw gw gt : Int) :
    paternosterlaw14_GateTells.j4 (k + 1) op pw bl most d W p v ld lo lw mo mw gw gt = paternosterlaw14_GateTells.j5 k op pw bl most W (waitV d lo lw mo mw gw) p v ld lo lw mo mw gw gt (waitV d lo lw mo mw gw) (triesV mo gt) := by
  rw [paternosterlaw14_GateTells.j4, gt_step, Option.bind_some]
  unfold waitV
  (repeat' split) <;> rfl
theorem g5 (k : Nat) (op pw bl : Bool) (most W X p v ld lo lw mo mw gw gt s1 s2 : Int) :
    paternosterlaw14_GateTells.j5 (k + 1) op pw bl most W X p v ld lo lw mo mw gw gt s1 s2 = paternosterlaw14_GateTells.j6 k op pw bl most W X (triesV mo gt) p v ld lo lw gw gt s1 s2 := by
  rw [paternosterlaw14_GateTells.j5]
  unfold triesV
  split <;> rfl
theorem gt_again (gw gt lo lw most : Int) (bl : Bool) (h0 : 0 ≤ lo) (h1 : lo ≤ lw) (hw : 1 ≤ lw) : gate_Gate_Again.f gw gt lo lw bl most = some (gw, if againB lo lw gt most bl = true then wrap64 (gt + 1) else gt, againB lo lw gt most bl) := by
  unfold gate_Gate_Again.f leaf_Leaf_Wide.f leaf_Leaf_Shut.f againB
  cases bl
  · simp
  · by_cases a : lo = 0
    · subst a; simp
    · by_cases b : lo = lw
      · subst b; simp [a]
      · by_cases c : gt ≥ most
        · have c' : ¬ gt < most := by omega
          simp [a, b, c, c']
        · have c' : gt < most := by omega
          have a' : 0 < lo := by omega
          have b' : lo < lw := by omega
          simp [a, b, c, c', a', b']
theorem g6 (k : Nat) (op pw bl : Bool) (most W X Y p v ld lo lw gw gt s1 s2 : Int) (h0 : 0 ≤ lo) (h1 : lo ≤ lw) (hw : 1 ≤ lw) :
    paternosterlaw14_GateTells.j6 (k + 1) op pw bl most W X Y p v ld lo lw gw gt s1 s2 = paternosterlaw14_GateTells.j7 k op pw W X Y (againB lo lw gt most bl) (againB lo lw gt most bl) p v ld lo lw gw gt s1 s2 gw (if againB lo lw gt most bl = true then wrap64 (gt + 1) else gt) := by
  rw [paternosterlaw14_GateTells.j6, gt_again gw gt lo lw most bl h0 h1 hw, Option.bind_some]
  unfold againB
  cases bl
  · simp
  · by_cases b : lo > 0
    · by_cases c : lo < lw
      · simp [b, c]
      · simp [b, c]
    · simp [b]
theorem gt_ready (gw gt lo lw : Int) (h1 : lo ≤ lw) : gate_Gate_Ready.f gw gt lo lw = some (if lo < lw then true else gw == 0) := by
  unfold gate_Gate_Ready.f leaf_Leaf_Wide.f
  by_cases a : lo = lw
  · subst a; simp
  · have : lo < lw := by omega
    simp [a, this]
theorem g7 (k : Nat) (op pw : Bool) (X Y p v ld lo lw gw gt : Int) (B : Bool) (h0 : 0 ≤ lo) (h1 : lo ≤ lw) :
    paternosterlaw14_GateTells.j7 (k + 1) op pw (wantV op pw p v lo lw) X Y B B p v ld lo lw gw gt X Y gw (if B = true then wrap64 (gt + 1) else gt) = some true := by
  have w : gate_What.f p v ld lo lw op pw = some (wantV op pw p v lo lw) := by unfold gate_What.f; rw [gt_what op pw p v lo lw h0 h1]
  rw [paternosterlaw14_GateTells.j7, w, gt_ready gw gt lo lw h1]
  generalize wantV op pw p v lo lw = W
  simp only [Option.bind_some, if_true, beq_self_eq_true, Bool.and_self]
  by_cases c : lo < lw
  · cases B <;> simp [c]
  · cases B <;> simp [c]
theorem GateTells : paternosterlaw14_GateTells.Pure := by
  intro p v ld lo lw mo mw gw gt op pw bl dw most _ _ _ _ _ _ _ _ _ _ _
  refine ⟨8, ?_⟩
  have aw : paternosterlaw14_awake.f = some true := by decide +kernel
  have bad : paternosterlaw14_GateTells.j0 8 op pw bl dw most true p v ld lo lw mo mw gw gt = some true := by
    rw [paternosterlaw14_GateTells.j0, if_pos rfl]
  unfold paternosterlaw14_GateTells.f
  rw [aw, Option.bind_some, if_pos rfl, gt_may, Option.bind_some, gt_may, Option.bind_some]
  by_cases c1 : 0 ≤ p ∧ p ≤ 1000000 ∧ -8 ≤ v ∧ v ≤ 8 ∧ 1 ≤ lw ∧ lw ≤ 16 ∧ 0 ≤ lo ∧ lo ≤ lw
  · have good : paternosterlaw14_GateTells.j0 8 op pw bl dw most false p v ld lo lw mo mw gw gt = some true := by
      rw [g0 7, g1 5, g3 4, g4 3, g5 2, g6 1 _ _ _ _ _ _ _ _ _ _ _ _ _ _ _ _ (by omega) (by omega) (by omega)]
      exact g7 0 op pw _ _ p v ld lo lw gw gt _ (by omega) (by omega)
    rw [if_pos (decide_eq_true c1)]
    have either : ∀ b : Bool, paternosterlaw14_GateTells.j0 8 op pw bl dw most b p v ld lo lw mo mw gw gt = some true := fun b => by
      cases b
      · exact good
      · exact bad
    simp only [either]
    (repeat' split) <;> rfl
  · rw [if_neg (by rw [decide_eq_false c1]; decide)]; exact bad
end Go.Proofs.Ytcegefhjgkoknaa.Pure
