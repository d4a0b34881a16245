-- Written by a program of this session (turned from the kit's print.py) out of the translation. Not trusted: Lean checks it.
import Derived.Test.YtcegefhjgkoknaaRows
import Derived.Test.YtcegefhjgkoknaaGx5
import Derived.Test.YtcegefhjgkoknaaPureGateTells
import Derived.WalkKit
import Derived.ProofKit
import Derived.OpenShut
import Derived.ShutString
import Derived.ChangeOld
import Derived.Below
import Derived.SizedLaws
import Derived.Lib.SmallJoins
namespace Go.Proofs.Ytcegefhjgkoknaa.gateTells
open Go.ChangeShapes Go.WideShapes Go.ChangeAt Go.RowKit
open Go.ChangeMaps (open_string shut_string)
set_option linter.unusedVariables false
set_option linter.unusedSimpArgs false
theorem own : ownKnob Try.prog.godebug = none := by kernel_rfl
set_option maxRecDepth 100000 in
theorem lifted (os : Os) (started : os.Started) (H : Type) (enc : TypeId × Value → H) :
    ReturnsInHanded {} Try.checked os 7 .any (Rows.gateTellsSpec.pre6 enc Try.prog Try.f7 Rows.gateTellsRow.domain false) (Rows.gateTellsSpec.post enc Try.prog Try.f7 false true false false) := by
  refine returnsInHanded_of_change_sized (C := Try.checked) own started (by kernel_rfl) Try.func7
    (ChangeSpec.witness6 (enc := enc) (C := Try.checked) false ⟨#[], #[.agg #[.int .i64 0, .int .i64 0, .int .i64 0], .agg #[.int .i64 0, .int .i64 0], .agg #[.int .i64 0, .int .i64 0], .agg #[.int .i64 0, .int .i64 0], .bool false, .bool false, .bool false, .int .u8 0, .int .i64 0], []⟩ 8 (by kernel_rfl) (by kernel_rfl) (by kernel_rfl) (by kernel_rfl)) ?_
  intro W base args ds gs before hval0 hW hcnd hsz0 _
  have hsz : (DataW.weightsEach Try.prog (Try.f7.params.toList ++ Rows.gateTellsSpec.plain.varTypes Try.prog) (ds ++ gs)).all (· ≤ reachBytes) = true := hsz0
  have hval : ∀ (j : Nat) t v, Try.f7.params[j]? = some t → args[j]? = some v → Value.okWide Try.prog W .any base t v := hval0
  have hW' := hW
  obtain ⟨p, q, hA0, hV, rfl, hfz, hnd⟩ := hW
  have hA : DataW.TrodAll enc Try.prog W 0 (fun _ => true) true Try.f7.params.toList args.toList ds p := hA0
  rw [Try.params7] at hA hval hsz
  obtain ⟨v0, vs0, d0, ds0, p0, q0, hargs, rfl, rfl, h0, r0⟩ := trodAll_cons hA
  obtain ⟨v1, vs1, d1, ds1, p1, q1, rfl, rfl, rfl, h1, r1⟩ := trodAll_cons r0
  obtain ⟨v2, vs2, d2, ds2, p2, q2, rfl, rfl, rfl, h2, r2⟩ := trodAll_cons r1
  obtain ⟨v3, vs3, d3, ds3, p3, q3, rfl, rfl, rfl, h3, r3⟩ := trodAll_cons r2
  obtain ⟨v4, vs4, d4, ds4, p4, q4, rfl, rfl, rfl, h4, r4⟩ := trodAll_cons r3
  obtain ⟨v5, vs5, d5, ds5, p5, q5, rfl, rfl, rfl, h5, r5⟩ := trodAll_cons r4
  obtain ⟨v6, vs6, d6, ds6, p6, q6, rfl, rfl, rfl, h6, r6⟩ := trodAll_cons r5
  obtain ⟨v7, vs7, d7, ds7, p7, q7, rfl, rfl, rfl, h7, r7⟩ := trodAll_cons r6
  obtain ⟨v8, vs8, d8, ds8, p8, q8, rfl, rfl, rfl, h8, r8⟩ := trodAll_cons r7
  obtain ⟨rfl, rfl, rfl⟩ := trodAll_nil r8
  obtain rfl : args = #[v0, v1, v2, v3, v4, v5, v6, v7, v8] := by cases args; simp_all
  obtain ⟨rfl, rfl⟩ := trodVars_none hV
  obtain ⟨c0_0, c0_1, c0_2, u0_0, u0_1, u0_2, m0, rfl, rfl, rfl, g0_0, g0_1, g0_2⟩ := Joins.open_agg3 Try.underlying23 (by kernel_rfl) (by kernel_rfl) (hval 0 23 v0 rfl rfl) h0
  obtain ⟨a0_0, e0_0, rfl, w0_0⟩ := DataW.trod_int Try.underlying3 g0_0
  obtain rfl := List.head_eq_of_cons_eq e0_0
  obtain ⟨a0_1, e0_1, rfl, w0_1⟩ := DataW.trod_int Try.underlying3 g0_1
  obtain rfl := List.head_eq_of_cons_eq e0_1
  obtain ⟨a0_2, e0_2, rfl, w0_2⟩ := DataW.trod_int Try.underlying3 g0_2
  obtain rfl := List.head_eq_of_cons_eq e0_2
  have hS0 : ∀ (W' : World) (sp : Nat → Bool), DataW.Trod enc Try.prog W' 0 sp true 23 (.agg #[.int .i64 a0_0, .int .i64 a0_1, .int .i64 a0_2]) (.agg [.lit (.int .i64 a0_0), .lit (.int .i64 a0_1), .lit (.int .i64 a0_2)]) [] := fun W' sp =>
    Joins.shut_agg3 (y0 := (.lit (.int .i64 a0_0), [])) (y1 := (.lit (.int .i64 a0_1), [])) (y2 := (.lit (.int .i64 a0_2), [])) Try.underlying23 (by kernel_rfl) (by kernel_rfl) ⟨1, by simp [DataW.trod, Try.underlying3, w0_0]⟩ ⟨1, by simp [DataW.trod, Try.underlying3, w0_1]⟩ ⟨1, by simp [DataW.trod, Try.underlying3, w0_2]⟩
  obtain ⟨c1_0, c1_1, u1_0, u1_1, m1, rfl, rfl, rfl, g1_0, g1_1⟩ := Joins.open_agg2 Try.underlying25 (by kernel_rfl) (by kernel_rfl) (hval 1 25 v1 rfl rfl) h1
  obtain ⟨a1_0, e1_0, rfl, w1_0⟩ := DataW.trod_int Try.underlying3 g1_0
  obtain rfl := List.head_eq_of_cons_eq e1_0
  obtain ⟨a1_1, e1_1, rfl, w1_1⟩ := DataW.trod_int Try.underlying3 g1_1
  obtain rfl := List.head_eq_of_cons_eq e1_1
  have hS1 : ∀ (W' : World) (sp : Nat → Bool), DataW.Trod enc Try.prog W' 0 sp true 25 (.agg #[.int .i64 a1_0, .int .i64 a1_1]) (.agg [.lit (.int .i64 a1_0), .lit (.int .i64 a1_1)]) [] := fun W' sp =>
    Joins.shut_agg2 (y0 := (.lit (.int .i64 a1_0), [])) (y1 := (.lit (.int .i64 a1_1), [])) Try.underlying25 (by kernel_rfl) (by kernel_rfl) ⟨1, by simp [DataW.trod, Try.underlying3, w1_0]⟩ ⟨1, by simp [DataW.trod, Try.underlying3, w1_1]⟩
  obtain ⟨c2_0, c2_1, u2_0, u2_1, m2, rfl, rfl, rfl, g2_0, g2_1⟩ := Joins.open_agg2 Try.underlying25 (by kernel_rfl) (by kernel_rfl) (hval 2 25 v2 rfl rfl) h2
  obtain ⟨a2_0, e2_0, rfl, w2_0⟩ := DataW.trod_int Try.underlying3 g2_0
  obtain rfl := List.head_eq_of_cons_eq e2_0
  obtain ⟨a2_1, e2_1, rfl, w2_1⟩ := DataW.trod_int Try.underlying3 g2_1
  obtain rfl := List.head_eq_of_cons_eq e2_1
  have hS2 : ∀ (W' : World) (sp : Nat → Bool), DataW.Trod enc Try.prog W' 0 sp true 25 (.agg #[.int .i64 a2_0, .int .i64 a2_1]) (.agg [.lit (.int .i64 a2_0), .lit (.int .i64 a2_1)]) [] := fun W' sp =>
    Joins.shut_agg2 (y0 := (.lit (.int .i64 a2_0), [])) (y1 := (.lit (.int .i64 a2_1), [])) Try.underlying25 (by kernel_rfl) (by kernel_rfl) ⟨1, by simp [DataW.trod, Try.underlying3, w2_0]⟩ ⟨1, by simp [DataW.trod, Try.underlying3, w2_1]⟩
  obtain ⟨c3_0, c3_1, u3_0, u3_1, m3, rfl, rfl, rfl, g3_0, g3_1⟩ := Joins.open_agg2 Try.underlying37 (by kernel_rfl) (by kernel_rfl) (hval 3 37 v3 rfl rfl) h3
  obtain ⟨a3_0, e3_0, rfl, w3_0⟩ := DataW.trod_int Try.underlying3 g3_0
  obtain rfl := List.head_eq_of_cons_eq e3_0
  obtain ⟨a3_1, e3_1, rfl, w3_1⟩ := DataW.trod_int Try.underlying3 g3_1
  obtain rfl := List.head_eq_of_cons_eq e3_1
  have hS3 : ∀ (W' : World) (sp : Nat → Bool), DataW.Trod enc Try.prog W' 0 sp true 37 (.agg #[.int .i64 a3_0, .int .i64 a3_1]) (.agg [.lit (.int .i64 a3_0), .lit (.int .i64 a3_1)]) [] := fun W' sp =>
    Joins.shut_agg2 (y0 := (.lit (.int .i64 a3_0), [])) (y1 := (.lit (.int .i64 a3_1), [])) Try.underlying37 (by kernel_rfl) (by kernel_rfl) ⟨1, by simp [DataW.trod, Try.underlying3, w3_0]⟩ ⟨1, by simp [DataW.trod, Try.underlying3, w3_1]⟩
  obtain ⟨a4, rfl, rfl, rfl⟩ := open_bool Try.underlying4 (hval 4 4 v4 rfl rfl) h4
  obtain ⟨a5, rfl, rfl, rfl⟩ := open_bool Try.underlying4 (hval 5 4 v5 rfl rfl) h5
  obtain ⟨a6, rfl, rfl, rfl⟩ := open_bool Try.underlying4 (hval 6 4 v6 rfl rfl) h6
  obtain ⟨a7, rfl, rfl, rfl, w7⟩ := open_int Try.underlying5 (hval 7 5 v7 rfl rfl) h7
  obtain ⟨a8, rfl, rfl, rfl, w8⟩ := open_int Try.underlying3 (hval 8 3 v8 rfl rfl) h8
  clear hA0 hval0 hsz0 hsz
  simp only [List.append_nil, List.nil_append] at hW'
  refine (G.paternosterlaw14_GateTells.walk Pure.GateTells a0_0 a0_1 a0_2 a1_0 a1_1 a2_0 a2_1 a3_0 a3_1 a4 a5 a6 a7 a8 W w0_0 w0_1 w0_2 w1_0 w1_1 w2_0 w2_1 w3_0 w3_1 w7 w8).mono fun e W' ⟨he, bel⟩ => ?_
  subst he
  exact ⟨_, rfl, _, _, _, [], _, [], hW', trodAll_mk1 (shut_bool Try.underlying4 _), (trodAll_cons_mk (hS0 _ _) (trodAll_cons_mk (hS1 _ _) (trodAll_cons_mk (hS2 _ _) (trodAll_cons_mk (hS3 _ _) (trodAll_cons_mk (shut_bool Try.underlying4 _) (trodAll_cons_mk (shut_bool Try.underlying4 _) (trodAll_cons_mk (shut_bool Try.underlying4 _) (trodAll_cons_mk (shut_int Try.underlying5 w7) (trodAll_cons_mk (shut_int Try.underlying3 w8) trodAll_mk0))))))))), rfl, bel.frame _, fun h => by cases h⟩
theorem over : Rows.gateTellsRow.holds Try.pinned (OpenSpec.ofChange Rows.gateTellsSpec) :=
  OpenClaim.holds_of_wide 7 Try.f7 rfl rfl rfl rfl rfl rfl rfl ⟨rfl, rfl, rfl, rfl, rfl⟩ rfl rfl rfl rfl rfl (by kernel_rfl) Try.func7 (by kernel_rfl)
    (of_decide_eq_true (by kernel_rfl)) (by unfold Func.isWrapper; first | (rw [if_pos (by decide +kernel)]; kernel_rfl) | (rw [if_neg (by decide +kernel)]; exact ⟨rfl, rfl⟩))
    (fun os started H enc _ => lifted os started H enc)
theorem proved : Rows.GateTellsSaid := over
#print axioms proved
end Go.Proofs.Ytcegefhjgkoknaa.gateTells
namespace Go.Proofs.Ytcegefhjgkoknaa
/-- The row, under a short name, for the claim. -/
theorem gateTells_holds : Rows.GateTellsSaid := gateTells.proved
end Go.Proofs.Ytcegefhjgkoknaa
