import Derived.Test.YtcegefhjgkoknaaRows
import Derived.Test.YtcegefhjgkoknaaFresh
import Derived.WalkKit
import Derived.ProofKit
import Derived.OpenShut
import Derived.ShutString
import Derived.ChangeOld
import Derived.Below
import Derived.Carry
import Derived.SizedLaws
import Derived.Lib.SmallJoins
import Derived.Deep.Slices
import Derived.Deep.Fields
import Derived.ChangeSame
namespace Go.Proofs.Ytcegefhjgkoknaa.gateFresh
open Go.ChangeShapes Go.WideShapes Go.ChangeAt Go.RowKit Go.Deep
open Go.ChangeMaps (open_string shut_string)
open Go.Proofs.Ytcegefhjgkoknaa.E Go.Proofs.Ytcegefhjgkoknaa.Fresh
set_option linter.unusedVariables false
set_option linter.unusedSimpArgs false
section
variable {H : Type} {enc : TypeId × Value → H} {P : Program} {w : World} {base : Nat} {spare : Nat → Bool} {held : Bool}
theorem open_slice_fields {t e : TypeId} {fs : Array Field} {fuel : Nat} {cs : List Value} {x : DataW H × List MemPlace} (ht : P.underlying t = some (.slice e)) (he : P.underlying e = some (.struct fs))
    (hone : oneCellFields P fs = true) (hC : P.cellsOf e = fs.size) (h : DataW.trod enc P w base spare held fuel t cs = some x) :
    (cs = [.slice none 0 0] ∧ x = (.nil, [])) ∨
    ∃ (a : Addr) (len cap m : Nat) (D : Nat → DataW H) (Pl : Nat → List MemPlace), cs = [.slice (some a) len cap] ∧ base ≤ a.block ∧ len ≤ cap ∧ cap ≤ maxLen ∧ m = (if spare a.block then cap else len) ∧
      x = (.slice ((List.range len).map D) ((List.range (m - len)).map fun j => D (len + j)), MemPlace.row a (m * fs.size) ++ (List.range m).flatMap Pl) ∧
      ∀ i, i < m → ∃ (ys : List (DataW H × List MemPlace)) (n : Nat), D i = .agg (ys.map (·.1)) ∧ Pl i = ys.flatMap (·.2) ∧ ys.length = fs.size ∧
        ∀ (j : Nat) (f : Field), fs[j]? = some f → ∃ (v : Value) (y : DataW H × List MemPlace), w.cell? (a.add (i * fs.size + j)) = some v ∧ ys[j]? = some y ∧ DataW.trod enc P w base spare held n f.type [v] = some y := by
  rcases open_slice ht h with h0 | ⟨a, len, cap, m, n, D, Pl, hcs, hb, hl, hm, hmm, hx, hi⟩
  · exact .inl h0
  · refine .inr ⟨a, len, cap, m, D, Pl, hcs, hb, hl, hm, hmm, by rw [hC] at hx; exact hx, fun i him => ?_⟩
    obtain ⟨cs', hc, ht'⟩ := hi i him
    rw [hC] at hc
    obtain ⟨ys, n', hn', hy, hlen, hyl, hf⟩ := DataW.trod_struct he ht'
    obtain ⟨_, hcl, hat⟩ := World.cells?_some hc
    simp only [Prod.mk.injEq] at hy
    refine ⟨ys, n', hy.1, hy.2, hyl, fun j f hj => ?_⟩
    obtain ⟨ho, hk⟩ := hone_of hone j f hj
    have hjl : j < fs.size := (Array.getElem?_eq_some_iff.1 hj).1
    have hcell := hat j hjl
    have hv : cs'[j]? = some (cs'[j]'(by omega)) := List.getElem?_eq_getElem (by omega)
    have h1 := hf j f hj
    rw [ho, hk] at h1
    have hone' : (cs'.drop j).take 1 = [cs'[j]'(by omega)] := by
      rw [List.drop_eq_getElem_cons (by omega)]
      rfl
    rw [hone'] at h1
    have hys : ys[j]? = some (ys[j]'(by omega)) := List.getElem?_eq_getElem (by omega)
    refine ⟨_, _, ?_, hys, h1.trans hys⟩
    rw [← Go.Deep.add_add, hcell, hv]
end
theorem own : ownKnob Try.prog.godebug = none := by kernel_rfl
theorem laidOut : laidOutB Try.prog = true := by kernel_rfl
theorem mixed : Try.prog.follows .mixedOrders = true := by kernel_rfl
theorem noRtB : (Try.prog.funcs.toList.all fun f => !(f.name == "runtime.NumGoroutine")) = true := by kernel_rfl
theorem noRt : NoRt Try.prog := by
  intro f fn h
  have h1 := List.all_eq_true.1 noRtB fn (by rw [Array.mem_toList_iff]; exact Array.mem_of_getElem? h)
  simpa using h1

/-- A slice of leaves, its cells told. -/
theorem open_leaves {H : Type} {enc : TypeId × Value → H} {W : World} {base : Nat} {held : Bool} {t : TypeId} {a : Option Addr} {len cap : Nat} {d : DataW H} {p : List MemPlace}
    (ht : Try.prog.underlying t = some (.slice 25)) (h : DataW.Trod enc Try.prog W base (fun _ => true) held t (.slice a len cap) d p) :
    len ≤ cap ∧ (len = 0 ∨ ∃ x, a = some x ∧ ∀ i, i < len → ∀ j, j < 2 → ∃ n, W.cell? (x.add (i * 2 + j)) = some (.int .i64 n)) := by
  obtain ⟨fuel, hf⟩ := h
  rcases open_slice_fields ht Try.underlying25 (by kernel_rfl) (by kernel_rfl) hf with ⟨hcs, _⟩ | ⟨x, l, c, m, D, Pl, hcs, _, hl, hm, hmm, _, hi⟩
  · simp [Value.cells] at hcs
    obtain ⟨rfl, rfl, rfl⟩ := hcs
    exact ⟨Nat.le_refl _, .inl rfl⟩
  · simp [Value.cells] at hcs
    obtain ⟨rfl, rfl, rfl⟩ := hcs
    refine ⟨hl, .inr ⟨x, rfl, fun i hil j hj => ?_⟩⟩
    obtain ⟨ys, n, _, _, _, hfl⟩ := hi i (by rw [hmm]; simp; omega)
    obtain ⟨v0, y0, c0, _, r0⟩ := hfl 0 _ rfl
    obtain ⟨v1, y1, c1, _, r1⟩ := hfl 1 _ rfl
    obtain ⟨a0, e0, _, w0⟩ := DataW.trod_int Try.underlying3 r0
    obtain ⟨a1, e1, _, w1⟩ := DataW.trod_int Try.underlying3 r1
    obtain rfl := List.head_eq_of_cons_eq e0
    obtain rfl := List.head_eq_of_cons_eq e1
    match j, hj with
    | 0, _ => exact ⟨_, c0⟩
    | 1, _ => exact ⟨_, c1⟩

def numOf : Option Value → Int
  | some (.int _ n) => n
  | _ => 0
/-- What the variables stand for. -/
def env0 (W : World) (a : Option Addr) (len cap : Nat) (u : Int) : Env where
  i := fun v => if v = 1 then (match a with | some x => (x.off : Int) | none => 0) else if v = 2 then len else if v = 4 then u else 0
  b := fun v => decide (0 < len)
  k := fun v => match a with | some x => x.block | none => 0
  f := fun _ _ => 0
  l := fun _ i j => match a with | some x => numOf (W.cell? (x.add (i * 2 + j))) | none => 0
  x := fun _ => .slice a len cap
  y := fun _ _ => undef

theorem cell_block {W : World} {x : Addr} {v : Value} (h : W.cell? x = some v) : x.spot = none ∧ ∃ cs e z, W.heap[x.block]? = some (.cells cs e z) := by
  unfold World.cell? at h
  split at h
  · rename_i c e z hh
    split at h
    · cases h
    · rename_i hs
      exact ⟨by simpa using hs, c, e, z, hh⟩
  · cases h

theorem hd0 {W : World} {a : Option Addr} {len cap : Nat} {u : Int} (hl : len ≤ cap) (hc : len = 0 ∨ ∃ x, a = some x ∧ ∀ i, i < len → ∀ j, j < 2 → ∃ n, W.cell? (x.add (i * 2 + j)) = some (.int .i64 n)) :
    HD ⟨W, fun b => b < W.heap.size⟩ (env0 W a len cap u) H0 W := by
  have hrow : ∀ id o r, E.look (.h id) H0 = some (.row o r) → id = 1 ∧ o = false ∧ r = .lst 0 [.int .i64, .int .i64] (.var 2) (.var 3) := by
    intro id o r h
    simp only [H0] at h
    rw [E.look_cons] at h
    by_cases hk : Key.h 1 = Key.h id
    · rw [if_pos hk] at h
      obtain ⟨rfl, rfl⟩ := Ent.row.inj (Option.some.inj h)
      exact ⟨(Key.h.inj hk).symm, rfl, rfl⟩
    · rw [if_neg hk] at h; cases h
  have hn : ((IE.var 2).den (env0 W a len cap u)).toNat = len := by simp [IE.den, env0]
  have hx1 : (env0 W a len cap u).x 1 = .slice a len cap := rfl
  have hb1 : (env0 W a len cap u).b 1 = decide (0 < len) := rfl
  have hold : Row.holds (env0 W a len cap u) 1 W (.lst 0 [.int .i64, .int .i64] (.var 2) (.var 3)) := by
    simp only [Row.holds, hn]
    refine ⟨fun hb => ?_, fun hb => ?_⟩
    · rw [hb1] at hb
      have : len = 0 := by have := of_decide_eq_false hb; omega
      subst this
      exact ⟨rfl, .inr ⟨trivial, a, cap, rfl⟩⟩
    · rw [hb1] at hb
      have hpos := of_decide_eq_true hb
      rcases hc with hc | ⟨x, rfl, hc⟩
      · omega
      · obtain ⟨n0, h0⟩ := hc 0 hpos 0 (by omega)
        obtain ⟨hsp, cs, e, z, hh⟩ := cell_block h0
        have hadd0 : x.add (0 * 2 + 0) = x := by simp [Addr.add]
        rw [hadd0] at hsp hh
        obtain ⟨xb, xo, xs⟩ := x
        simp only at hsp hh
        subst hsp
        refine ⟨cs, cap, by rw [hx1]; simp [env0], .inr ⟨rfl, e, z, by simpa [env0] using hh⟩, .inl trivial, hl, fun i hi j k hk => ?_⟩
        have hj : j < 2 := (List.getElem?_eq_some_iff.1 hk).1
        have hki : k = .int .i64 := by
          match j, hj with
          | 0, _ => exact (Option.some.inj hk).symm
          | 1, _ => exact (Option.some.inj hk).symm
        subst hki
        obtain ⟨n, hcell⟩ := hc i hi j hj
        have hsame : W.cell? ((⟨xb, xo, none⟩ : Addr).add (i * 2 + j)) = cs[xo + (i * 2 + j)]? := by
          rw [E.add_none]
          simp only [World.cell?, hh, Option.isSome_none, Bool.false_eq_true, if_false]
        have hl3 : (LE.var 3).den (env0 W (some ⟨xb, xo, none⟩) len cap u) i j = n := by
          simp only [LE.den, env0, hcell, numOf]
        rw [hl3]
        have hi1 : ((env0 W (some ⟨xb, xo, none⟩) len cap u).i 1).toNat = xo := by simp [env0]
        rw [hi1]
        have h3 := hsame.symm.trans hcell
        simp only [List.length_cons, List.length_nil, CK.v]
        rw [show xo + i * (0 + 1 + 1) + j = xo + (i * 2 + j) by omega]
        exact h3
  refine ⟨fun id o r h => ?_, fun id r h => ?_, fun id r h => ?_, fun i j r s hij h1 h2 => ?_, ?_⟩
  · obtain ⟨rfl, rfl, rfl⟩ := hrow id o r h
    exact hold
  · obtain ⟨_, h2, _⟩ := hrow id _ r h; cases h2
  · obtain ⟨rfl, _, rfl⟩ := hrow id _ r h
    intro b hb
    exact Row.holds_lt hold hb
  · obtain ⟨_, g, _⟩ := hrow i _ r h1; cases g
  · exact ⟨rfl, rfl, rfl, Nat.le_refl _, fun b hb => ⟨hb, rfl⟩⟩

theorem walk {W : World} {a : Option Addr} {len cap : Nat} {u : Int} (h0 : 0 ≤ u) (h1 : u ≤ 255) (hl : len ≤ cap) (hc : len = 0 ∨ ∃ x, a = some x ∧ ∀ i, i < len → ∀ j, j < 2 → ∃ n, W.cell? (x.add (i * 2 + j)) = some (.int .i64 n)) :
    Calls Try.prog 6 #[.slice a len cap, .int .u8 u] W fun e W' => e = .returned (.bool true) ∧ Below W.heap.size W W' := by
  have hcall : CallOK Try.prog call := table_ok mixed noRt (fun _ _ _ _ _ _ h => by cases h) ann 12 12
  have hg : allH (env0 W a len cap u) G0 := by
    simp only [G0, allH_cons, h_leq, IE.den]
    exact ⟨by simpa [env0] using h0, by simpa [env0] using h1, allH_nil _⟩
  have := chk_ok hcall want_ok checked (by decide) (by decide) (by decide) (by decide) ⟨W, fun b => b < W.heap.size⟩ (env0 W a len cap u) W hg (hd0 hl hc)
  have he : ([SV.lst 1, .int .u8 (.var 4)].map (SV.den (env0 W a len cap u))).toArray = #[.slice a len cap, .int .u8 u] := by
    simp [SV.den, IE.den, env0]
  rw [he] at this
  refine this.mono fun e W' ⟨h1, h2⟩ => ⟨h1, h2.os, h2.tape, h2.output, h2.size, fun k hk => (h2.keep k hk).2⟩

set_option maxRecDepth 100000 in
theorem lifted (os : Os) (started : os.Started) (H : Type) (enc : TypeId × Value → H) :
    ReturnsInHanded {} Try.checked os 6 .any (Rows.gateFreshSpec.pre6 enc Try.prog Try.f6 Rows.gateFreshRow.domain false) (Rows.gateFreshSpec.post enc Try.prog Try.f6 false true false false) := by
  refine returnsInHanded_of_change_sized (C := Try.checked) own started (by kernel_rfl) Try.func6
    (ChangeSpec.witness6 (enc := enc) (C := Try.checked) false ⟨#[], #[.slice none 0 0, .int .u8 0], []⟩ 8 (by kernel_rfl) (by kernel_rfl) (by kernel_rfl) (by kernel_rfl)) ?_
  intro W base args ds gs before hval0 hW hcnd hsz0 _
  have hsz : (DataW.weightsEach Try.prog (Try.f6.params.toList ++ Rows.gateFreshSpec.plain.varTypes Try.prog) (ds ++ gs)).all (· ≤ reachBytes) = true := hsz0
  have hval : ∀ (j : Nat) t v, Try.f6.params[j]? = some t → args[j]? = some v → Value.okWide Try.prog W .any base t v := hval0
  have hW' := hW
  obtain ⟨p, q, hA0, hV, rfl, hfz, hnd⟩ := hW
  have hA : DataW.TrodAll enc Try.prog W 0 (fun _ => true) true Try.f6.params.toList args.toList ds p := hA0
  rw [Try.params6] at hA hval hsz
  obtain ⟨v0, vs0, d0, ds0, p0, q0, hargs, rfl, rfl, h0, r0⟩ := trodAll_cons hA
  obtain ⟨v1, vs1, d1, ds1, p1, q1, rfl, rfl, rfl, h1, r1⟩ := trodAll_cons r0
  obtain ⟨rfl, rfl, rfl⟩ := trodAll_nil r1
  obtain rfl : args = #[v0, v1] := by cases args; simp_all
  obtain ⟨rfl, rfl⟩ := trodVars_none hV
  obtain ⟨A0, len0, cap0, rfl⟩ := okWide_slice Try.underlying40 (hval 0 40 v0 rfl rfl)
  have k0 := h0
  have lt0 : ∀ x ∈ p0, x.block < W.heap.size := by obtain ⟨m, hm⟩ := k0; exact DataW.trod_lt m _ _ _ hm
  obtain ⟨hc0, hs0⟩ := open_leaves Try.underlying40 h0
  obtain ⟨a1, rfl, rfl, rfl, w1⟩ := open_int Try.underlying5 (hval 1 5 v1 rfl rfl) h1
  have hw1 : 0 ≤ a1 ∧ a1 ≤ 255 := by
    have h8 : IntKind.u8.min = 0 ∧ IntKind.u8.max = 255 := by decide
    simp [Lit.wf] at w1
    omega
  clear hA0 hval0 hsz0 hsz
  refine (walk hw1.1 hw1.2 hc0 hs0).mono fun e W' ⟨he, bel⟩ => ?_
  subst he
  exact ⟨_, rfl, _, _, _, [], _, [], hW', trodAll_mk1 (shut_bool Try.underlying4 _), (trodAll_cons_mk (Below.trod laidOut (by kernel_rfl) (of_decide_eq_true (by kernel_rfl)) k0 bel lt0) (trodAll_cons_mk (shut_int Try.underlying5 w1) trodAll_mk0)), rfl, bel.frame _, fun h => by cases h⟩
theorem over : Rows.gateFreshRow.holds Try.pinned (OpenSpec.ofChange Rows.gateFreshSpec) :=
  OpenClaim.holds_of_wide 6 Try.f6 rfl rfl rfl rfl rfl rfl rfl ⟨rfl, rfl, rfl, rfl, rfl⟩ rfl rfl rfl rfl rfl (by kernel_rfl) Try.func6 (by kernel_rfl)
    (of_decide_eq_true (by kernel_rfl)) (by unfold Func.isWrapper; first | (rw [if_pos (by decide +kernel)]; kernel_rfl) | (rw [if_neg (by decide +kernel)]; exact ⟨rfl, rfl⟩))
    (fun os started H enc _ => lifted os started H enc)
theorem proved : Rows.GateFreshSaid := over
#print axioms proved
end Go.Proofs.Ytcegefhjgkoknaa.gateFresh
namespace Go.Proofs.Ytcegefhjgkoknaa
/-- The row, under a short name, for the claim. -/
theorem gateFresh_holds : Rows.GateFreshSaid := gateFresh.proved
end Go.Proofs.Ytcegefhjgkoknaa
