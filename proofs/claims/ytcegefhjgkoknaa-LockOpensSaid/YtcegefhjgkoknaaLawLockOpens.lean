-- Written by a program of this session (turned from the kit's print.py) out of the translation. Not trusted: Lean checks it.
import Derived.Test.YtcegefhjgkoknaaRows
import Derived.Test.YtcegefhjgkoknaaQx12
import Derived.Test.YtcegefhjgkoknaaPureLockOpens
import Derived.Test.YtcegefhjgkoknaaFrames
import Derived.WalkKit
import Derived.ProofKit
import Derived.OpenShut
import Derived.ShutString
import Derived.ChangeOld
import Derived.Below
import Derived.SizedLaws
import Derived.Lib.SmallJoins
import Derived.Test.YtcegefhjgkoknaaWSized
namespace Go.Proofs.Ytcegefhjgkoknaa.lockOpens
open Go.ChangeShapes Go.WideShapes Go.ChangeAt Go.RowKit
open Go.ChangeMaps (open_string shut_string)
set_option linter.unusedVariables false
set_option linter.unusedSimpArgs false
theorem own : ownKnob Try.prog.godebug = none := by kernel_rfl
theorem laidOut : laidOutB Try.prog = true := by kernel_rfl
set_option maxRecDepth 100000 in
theorem lifted (os : Os) (started : os.Started) (H : Type) (enc : TypeId × Value → H) :
    ReturnsInHanded {} Try.checked os 11 .any (Rows.lockOpensSpec.pre6 enc Try.prog Try.f11 Rows.lockOpensRow.domain false) (Rows.lockOpensSpec.post enc Try.prog Try.f11 false true false false) := by
  refine returnsInHanded_of_change_sized (C := Try.checked) own started (by kernel_rfl) Try.func11
    (ChangeSpec.witness6 (enc := enc) (C := Try.checked) false ⟨#[], #[.agg #[.int .i64 0, .int .i64 0, .int .i64 0], .agg #[.int .i64 0, .int .i64 0], .slice none 0 0, .int .i64 0], []⟩ 8 (by kernel_rfl) (by kernel_rfl) (by kernel_rfl) (by kernel_rfl)) ?_
  intro W base args ds gs before hval0 hW hcnd hsz0 _
  have hsz : (DataW.weightsEach Try.prog (Try.f11.params.toList ++ Rows.lockOpensSpec.plain.varTypes Try.prog) (ds ++ gs)).all (· ≤ reachBytes) = true := hsz0
  have hval : ∀ (j : Nat) t v, Try.f11.params[j]? = some t → args[j]? = some v → Value.okWide Try.prog W .any base t v := hval0
  have hW' := hW
  obtain ⟨p, q, hA0, hV, rfl, hfz, hnd⟩ := hW
  have hA : DataW.TrodAll enc Try.prog W 0 (fun _ => true) true Try.f11.params.toList args.toList ds p := hA0
  rw [Try.params11] at hA hval hsz
  obtain ⟨v0, vs0, d0, ds0, p0, q0, hargs, rfl, rfl, h0, r0⟩ := trodAll_cons hA
  obtain ⟨v1, vs1, d1, ds1, p1, q1, rfl, rfl, rfl, h1, r1⟩ := trodAll_cons r0
  obtain ⟨v2, vs2, d2, ds2, p2, q2, rfl, rfl, rfl, h2, r2⟩ := trodAll_cons r1
  obtain ⟨v3, vs3, d3, ds3, p3, q3, rfl, rfl, rfl, h3, r3⟩ := trodAll_cons r2
  obtain ⟨rfl, rfl, rfl⟩ := trodAll_nil r3
  obtain rfl : args = #[v0, v1, v2, v3] := by cases args; simp_all
  obtain ⟨rfl, rfl⟩ := trodVars_none hV
  obtain ⟨c0_0, c0_1, c0_2, u0_0, u0_1, u0_2, m0, rfl, rfl, rfl, g0_0, g0_1, g0_2⟩ := Joins.open_agg3 Try.underlying23 (by kernel_rfl) (by kernel_rfl) (hval 0 23 v0 rfl rfl) h0
  obtain ⟨a0_0, e0_0, rfl, w0_0⟩ := DataW.trod_int Try.underlying3 g0_0
  obtain rfl := List.head_eq_of_cons_eq e0_0
  obtain ⟨a0_1, e0_1, rfl, w0_1⟩ := DataW.trod_int Try.underlying3 g0_1
  obtain rfl := List.head_eq_of_cons_eq e0_1
  obtain ⟨a0_2, e0_2, rfl, w0_2⟩ := DataW.trod_int Try.underlying3 g0_2
  obtain rfl := List.head_eq_of_cons_eq e0_2
  have hS0 : ∀ (W' : World) (sp : Nat → Bool), DataW.Trod enc Try.prog W' 0 sp true 23 (.agg #[.int .i64 a0_0, .int .i64 a0_1, .int .i64 a0_2]) (.agg [.lit (.int .i64 a0_0), .lit (.int .i64 a0_1), .lit (.int .i64 a0_2)]) [] := fun W' sp =>
    Joins.shut_agg3 (y0 := (.lit (.int .i64 a0_0), [])) (y1 := (.lit (.int .i64 a0_1), [])) (y2 := (.lit (.int .i64 a0_2), [])) Try.underlying23 (by kernel_rfl) (by kernel_rfl) ⟨1, by simp [DataW.trod, Try.underlying3, w0_0]⟩ ⟨1, by simp [DataW.trod, Try.underlying3, w0_1]⟩ ⟨1, by simp [DataW.trod, Try.underlying3, w0_2]⟩
  obtain ⟨c1_0, c1_1, u1_0, u1_1, m1, rfl, rfl, rfl, g1_0, g1_1⟩ := Joins.open_agg2 Try.underlying25 (by kernel_rfl) (by kernel_rfl) (hval 1 25 v1 rfl rfl) h1
  obtain ⟨a1_0, e1_0, rfl, w1_0⟩ := DataW.trod_int Try.underlying3 g1_0
  obtain rfl := List.head_eq_of_cons_eq e1_0
  obtain ⟨a1_1, e1_1, rfl, w1_1⟩ := DataW.trod_int Try.underlying3 g1_1
  obtain rfl := List.head_eq_of_cons_eq e1_1
  have hS1 : ∀ (W' : World) (sp : Nat → Bool), DataW.Trod enc Try.prog W' 0 sp true 25 (.agg #[.int .i64 a1_0, .int .i64 a1_1]) (.agg [.lit (.int .i64 a1_0), .lit (.int .i64 a1_1)]) [] := fun W' sp =>
    Joins.shut_agg2 (y0 := (.lit (.int .i64 a1_0), [])) (y1 := (.lit (.int .i64 a1_1), [])) Try.underlying25 (by kernel_rfl) (by kernel_rfl) ⟨1, by simp [DataW.trod, Try.underlying3, w1_0]⟩ ⟨1, by simp [DataW.trod, Try.underlying3, w1_1]⟩
  obtain ⟨A2, len2, cap2, rfl⟩ := okWide_slice Try.underlying49 (hval 2 49 v2 rfl rfl)
  have k2 := h2
  have lt2 : ∀ x ∈ p2, x.block < W.heap.size := by obtain ⟨m, hm⟩ := k2; exact DataW.trod_lt m _ _ _ hm
  obtain ⟨l2, rfl, hR2, hc2, hm2, hw2⟩ := Frames.open_T27 Try.underlying49 Try.underlying27 h2
  obtain ⟨a3, rfl, rfl, rfl, w3⟩ := open_int Try.underlying3 (hval 3 3 v3 rfl rfl) h3
  clear hA0 hval0 hsz0 hsz
  simp only [List.append_nil, List.nil_append] at hW'
  refine (Q.paternosterlaw12_LockOpens.walk Pure.LockOpens a0_0 a0_1 a0_2 a1_0 a1_1 A2 cap2 l2 a3 W w0_0 w0_1 w0_2 w1_0 w1_1 hR2 hc2 hm2 hw2 w3).mono fun e W' ⟨he, bel⟩ => ?_
  subst he
  exact ⟨_, rfl, _, _, _, [], _, [], hW', trodAll_mk1 (shut_bool Try.underlying4 _), (trodAll_cons_mk (hS0 _ _) (trodAll_cons_mk (hS1 _ _) (trodAll_cons_mk (Below.trod laidOut (by kernel_rfl) (of_decide_eq_true (by kernel_rfl)) k2 bel lt2) (trodAll_cons_mk (shut_int Try.underlying3 w3) trodAll_mk0)))), rfl, bel.frame _, fun h => by cases h⟩
theorem over : Rows.lockOpensRow.holds Try.pinned (OpenSpec.ofChange Rows.lockOpensSpec) :=
  OpenClaim.holds_of_wide 11 Try.f11 rfl rfl rfl rfl rfl rfl rfl ⟨rfl, rfl, rfl, rfl, rfl⟩ rfl rfl rfl rfl rfl (by kernel_rfl) Try.func11 (by kernel_rfl)
    (of_decide_eq_true (by kernel_rfl)) (by unfold Func.isWrapper; first | (rw [if_pos (by decide +kernel)]; kernel_rfl) | (rw [if_neg (by decide +kernel)]; exact ⟨rfl, rfl⟩))
    (fun os started H enc _ => lifted os started H enc)
theorem proved : Rows.LockOpensSaid := over
#print axioms proved
end Go.Proofs.Ytcegefhjgkoknaa.lockOpens
namespace Go.Proofs.Ytcegefhjgkoknaa
/-- The row, under a short name, for the claim. -/
theorem lockOpens_holds : Rows.LockOpensSaid := lockOpens.proved
end Go.Proofs.Ytcegefhjgkoknaa
