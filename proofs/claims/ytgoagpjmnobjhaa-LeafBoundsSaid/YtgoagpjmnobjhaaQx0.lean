-- Written by a program of this session (turned from the kit's print.py) out of the translation. Not trusted: Lean checks it.
import Derived.Test.YtgoagpjmnobjhaaProg
import Derived.Below
import Derived.Deep.Draws
import Derived.Deep.AppendLies
import Derived.Maps.AppendAt
import Derived.OwnWalk
import Derived.Laws.BytesArg
import Derived.Laws.MakeOwn
import Derived.Laws.OwnMore
import Derived.Deep.OwnRows
import Derived.Tactics
import Derived.Lib.ConvBytes
import Derived.Laws.Slices
import Derived.WalkKit
import Derived.KernelRfl
import Derived.RowKit3
import Derived.Deep.LoopGhost
import Derived.Deep.QuietTactic
import Derived.BigQuiet
import Derived.WideLaws
import Derived.Deep.DeepCutAuto
import Derived.Deep.CutBlock
import Derived.Deep.RegionHeld3
import Derived.Laws.Rows
import Derived.Lib.AppendStr
import Derived.ArgAppend
import Derived.Laws.IdiomCopy
import Derived.OrdersHeld
import Derived.Laws.BitsLemmas
import Derived.RowKit
import Derived.Test.YtgoagpjmnobjhaaWWords
import Derived.Test.YtgoagpjmnobjhaaWLast
import Derived.Test.YtgoagpjmnobjhaaWTab
import Derived.Test.YtgoagpjmnobjhaaWFour
import Derived.Test.YtgoagpjmnobjhaaWQPut
import Derived.Test.YtgoagpjmnobjhaaWApart
import Derived.Test.YtgoagpjmnobjhaaWArr
import Derived.Test.YtgoagpjmnobjhaaWZeros
import Derived.Test.YtgoagpjmnobjhaaWFoot
import Derived.Test.YtgoagpjmnobjhaaWKept
import Derived.Test.YtgoagpjmnobjhaaWShare
import Derived.Test.YtgoagpjmnobjhaaWN
import Derived.Test.YtgoagpjmnobjhaaWFootNe
import Derived.Test.YtgoagpjmnobjhaaWAt
import Derived.Test.YtgoagpjmnobjhaaWEqStruct
import Derived.Test.YtgoagpjmnobjhaaWRepsOne
import Derived.Test.YtgoagpjmnobjhaaWInv
import Derived.Test.YtgoagpjmnobjhaaWInvWords
import Derived.Test.YtgoagpjmnobjhaaWGuard
import Derived.Test.YtgoagpjmnobjhaaWNEv
import Derived.Test.YtgoagpjmnobjhaaWMore
namespace Go.Proofs.Ytgoagpjmnobjhaa.Q
open Go.RowKit Go.Proofs.YtgoagpjmnobjhaaW.PrintWords Go.Proofs.YtgoagpjmnobjhaaW.PrintLast Go.Proofs.YtgoagpjmnobjhaaW.PrintMore
attribute [local go_sem] max2_int min2_int max_two min_two max_three min_three max_four min_four   -- for this text's walks alone
set_option linter.unusedVariables false
set_option linter.unusedSimpArgs false



def errW : Option Int → Value
  | none => .nilIface
  | some c => .iface 0 (.int .i64 c)
theorem errW_none : errW none = .nilIface := rfl
theorem errW_some (c : Int) : errW (some c) = .iface 0 (.int .i64 c) := rfl

-- the values' own types
/-! #### struct type 24 -/
structure S24 where
  f0 : Int
  f1 : Int
def z24 : S24 := ⟨(0 : Int), (0 : Int)⟩
def k24 : Kd S24 := Kd.iso (Kd.pair (Kd.int .i64) (Kd.int .i64)) (fun x : S24 => (x.f0, x.f1))
theorem k24_open {w : World} {x : S24} {cs : List Value} (h : k24.K w x cs) : cs = [.int .i64 x.f0, .int .i64 x.f1] := by
  obtain ⟨_, _, rfl, rfl, rfl⟩ := h
  exact rfl
theorem k24_openM {w : World} {base : Nat} {ok : Nat → Prop} {x : S24} {cs : List Value} (h : k24.M w base ok x cs) : cs = [.int .i64 x.f0, .int .i64 x.f1] := by
  obtain ⟨_, _, rfl, rfl, rfl⟩ := h
  exact rfl
theorem k24_mk (w : World) (x : S24)  : k24.K w x [.int .i64 x.f0, .int .i64 x.f1] := ⟨[.int .i64 x.f0], [.int .i64 x.f1], rfl, rfl, rfl⟩
theorem k24_mkM (w : World) (base : Nat) (ok : Nat → Prop) (x : S24)  : k24.M w base ok x [.int .i64 x.f0, .int .i64 x.f1] := ⟨[.int .i64 x.f0], [.int .i64 x.f1], rfl, rfl, rfl⟩
def rd_T24 (xs : List S24) (i : Int) : S24 := xs.getD i.toNat z24
theorem at_T24 {w : World} {A : Option Addr} {n : Nat} {xs : List S24} (h : Kd.C k24 w A n xs) (i : Int) (h0 : 0 ≤ i) (h1 : i < n) : ∃ ad , A = some ad ∧ w.cell? (ad.add (i.toNat * 2)) = some (.int .i64 (rd_T24 xs i).f0) ∧ w.cell? ⟨(ad.add (i.toNat * 2)).block, (ad.add (i.toNat * 2)).off + 1, none⟩ = some (.int .i64 (rd_T24 xs i).f1) := by
  obtain ⟨ad, c, e, _, hK, hc0⟩ := Kd.C_get h z24 i h0 h1
  have hc : ∀ j u, c[j]? = some u → w.cell? (ad.add (i.toNat * 2 + j)) = some u := hc0
  obtain rfl := k24_open hK
  exact ⟨ad, e, hc 0 _ rfl, by rw [← add_field _ _ 1 (by omega)]; exact hc 1 _ rfl⟩

/-! #### struct type 37 -/
structure S37 where
  f0 : Int
  f1 : Int
  f2 : Int
def z37 : S37 := ⟨(0 : Int), (0 : Int), (0 : Int)⟩
def k37 : Kd S37 := Kd.iso (Kd.pair (Kd.int .i64) (Kd.pair (Kd.int .i64) (Kd.int .i64))) (fun x : S37 => (x.f0, x.f1, x.f2))
theorem k37_open {w : World} {x : S37} {cs : List Value} (h : k37.K w x cs) : cs = [.int .i64 x.f0, .int .i64 x.f1, .int .i64 x.f2] := by
  obtain ⟨_, _, rfl, rfl, ⟨_, _, rfl, rfl, rfl⟩⟩ := h
  exact rfl
theorem k37_openM {w : World} {base : Nat} {ok : Nat → Prop} {x : S37} {cs : List Value} (h : k37.M w base ok x cs) : cs = [.int .i64 x.f0, .int .i64 x.f1, .int .i64 x.f2] := by
  obtain ⟨_, _, rfl, rfl, ⟨_, _, rfl, rfl, rfl⟩⟩ := h
  exact rfl
theorem k37_mk (w : World) (x : S37)  : k37.K w x [.int .i64 x.f0, .int .i64 x.f1, .int .i64 x.f2] := ⟨[.int .i64 x.f0], [.int .i64 x.f1, .int .i64 x.f2], rfl, rfl, ⟨[.int .i64 x.f1], [.int .i64 x.f2], rfl, rfl, rfl⟩⟩
theorem k37_mkM (w : World) (base : Nat) (ok : Nat → Prop) (x : S37)  : k37.M w base ok x [.int .i64 x.f0, .int .i64 x.f1, .int .i64 x.f2] := ⟨[.int .i64 x.f0], [.int .i64 x.f1, .int .i64 x.f2], rfl, rfl, ⟨[.int .i64 x.f1], [.int .i64 x.f2], rfl, rfl, rfl⟩⟩
def rd_T37 (xs : List S37) (i : Int) : S37 := xs.getD i.toNat z37
theorem at_T37 {w : World} {A : Option Addr} {n : Nat} {xs : List S37} (h : Kd.C k37 w A n xs) (i : Int) (h0 : 0 ≤ i) (h1 : i < n) : ∃ ad , A = some ad ∧ w.cell? (ad.add (i.toNat * 3)) = some (.int .i64 (rd_T37 xs i).f0) ∧ w.cell? ⟨(ad.add (i.toNat * 3)).block, (ad.add (i.toNat * 3)).off + 1, none⟩ = some (.int .i64 (rd_T37 xs i).f1) ∧ w.cell? ⟨(ad.add (i.toNat * 3)).block, (ad.add (i.toNat * 3)).off + 2, none⟩ = some (.int .i64 (rd_T37 xs i).f2) := by
  obtain ⟨ad, c, e, _, hK, hc0⟩ := Kd.C_get h z37 i h0 h1
  have hc : ∀ j u, c[j]? = some u → w.cell? (ad.add (i.toNat * 3 + j)) = some u := hc0
  obtain rfl := k37_open hK
  exact ⟨ad, e, hc 0 _ rfl, by rw [← add_field _ _ 1 (by omega)]; exact hc 1 _ rfl, by rw [← add_field _ _ 2 (by omega)]; exact hc 2 _ rfl⟩

theorem fld24_0 (a0 a1 : Value) (w : World) : (Instr.field 24 (.agg #[a0, a1]) 0).run Try.prog w = .ok a0 w := by kernel_rfl
theorem fld24_1 (a0 a1 : Value) (w : World) : (Instr.field 24 (.agg #[a0, a1]) 1).run Try.prog w = .ok a1 w := by kernel_rfl
theorem fld37_0 (a0 a1 a2 : Value) (w : World) : (Instr.field 37 (.agg #[a0, a1, a2]) 0).run Try.prog w = .ok a0 w := by kernel_rfl
theorem fld37_1 (a0 a1 a2 : Value) (w : World) : (Instr.field 37 (.agg #[a0, a1, a2]) 1).run Try.prog w = .ok a1 w := by kernel_rfl
theorem fld37_2 (a0 a1 a2 : Value) (w : World) : (Instr.field 37 (.agg #[a0, a1, a2]) 2).run Try.prog w = .ok a2 w := by kernel_rfl
theorem fld44_0 (a0 a1 a2 : Value) (w : World) : (Instr.field 44 (.agg #[a0, a1, a2]) 0).run Try.prog w = .ok a0 w := by kernel_rfl
theorem fld44_1 (a0 a1 a2 : Value) (w : World) : (Instr.field 44 (.agg #[a0, a1, a2]) 1).run Try.prog w = .ok a1 w := by kernel_rfl
theorem fld44_2 (a0 a1 a2 : Value) (w : World) : (Instr.field 44 (.agg #[a0, a1, a2]) 2).run Try.prog w = .ok a2 w := by kernel_rfl
theorem sA {α : Type} {l : List α} {i : Nat} {a : α} : l.toArray.setIfInBounds i a = (l.set i a).toArray := by simp
theorem sB {α : Type} {x a : α} {l : List α} : (x :: l).set 0 a = a :: l := rfl
theorem sC {α : Type} {x a : α} {l : List α} {i : Nat} : (x :: l).set (i + 1) a = x :: l.set i a := rfl
end Go.Proofs.Ytgoagpjmnobjhaa.Q
