/- 'GateFresh' by the engine: what is to hold in its loop, and that it does. -/
import Derived.Test.YtcegefhjgkoknaaE25
import Derived.Test.YtcegefhjgkoknaaProg
import Derived.IntWalk
import Derived.KernelRfl
namespace Go.Proofs.Ytcegefhjgkoknaa.Fresh
open Go.RowKit Go.Proofs.Ytcegefhjgkoknaa.E
set_option linter.unusedVariables false
set_option linter.unusedSimpArgs false

def H0 : Log := [(.h 1, .row false (.lst 0 [.int .i64, .int .i64] (.var 2) (.var 3)))]
def G0 : List F := [.be (.cmp .leq (.lit 0) (.var 4)), .be (.cmp .leq (.var 4) (.lit 255))]
def boxOf (b : Br) : Option Nat := match E.look (.r 7) b.R with
  | some (.reg _ (.ptr (.at id _))) => some id
  | _ => none
/-- The loop: the index, the gate's two cells; the index is from 1 on, the wait from 0 to the dwell. -/
def ann6 : AnnS := {
  items := fun b => match boxOf b with
    | some id => [.ri 8, .ci id 0, .ci id 1]
    | none => []
  inv := [.be fun n => .cmp .leq (.lit 1) (.var n), .be fun n => .cmp .leq (.lit 0) (.var (n + 1)), .be fun n => .cmp .leq (.var (n + 1)) (.rem (.var 4) (.lit 201))]
  mes := fun n => .sub (.var 2) (.var n) }
def ann : AnnFn := fun f r => bif Nat.beq f 6 && Nat.beq r 9 then some ann6 else none

def I : IE := .var 135
def J : IE := .wrap .i64 (.sub I (.lit 1))
def wide (i : IE) : BE := .cmp .eql (.get (.var 3) i 0) (.get (.var 3) i 1)
def D : IE := .wrap .i64 (.rem (.var 4) (.lit 201))
def Wt : IE := .ite (.not (wide I)) (.lit 0) (.ite (.not (wide J)) D (.mx (.wrap .i64 (.sub (.var 136) (.lit 1))) (.lit 0)))
def Bad : BE := .ite (.ite (.ite (.not (wide I)) (.ite (.cmp .neq Wt (.lit 0)) (.lit true) (.not (.ite (.not (wide I)) (.lit true) (.cmp .eql Wt (.lit 0))))) (.lit false)) (.lit true)
  (.ite (.ite (wide I) (.not (wide J)) (.lit false)) (.cmp .neq Wt D) (.lit false))) (.lit true) (.cmp .gtr Wt D)
def a1 : F := .be (.cmp .leq (.lit 1) I)
def a2 : F := .be (.cmp .lss I (.nat (.var 2)))
def a3 : F := .be (.not (.cmp .gtr (.nat (.var 2)) (.lit 100)))
def a4 : F := .be (.cmp .leq (.lit 0) (.var 136))
def a5 : F := .be (.cmp .leq (.var 136) (.rem (.var 4) (.lit 201)))
def a6 : F := .be (.cmp .leq (.lit 0) (.var 4))
def a7 : F := .be (.cmp .leq (.var 4) (.lit 255))
def n1 : F := .be (.cmp .eql (.var 153) (.wrap .i64 (.add I (.lit 1))))
def n2 : F := .be (.cmp .eql (.var 154) Wt)
def want : Vcs := [
  ([.be (.cmp .eql I (.lit 1))], a1),
  ([.be (.cmp .eql (.var 136) (.lit 0))], a4),
  ([.be (.cmp .eql (.var 136) (.lit 0)), a6], a5),
  ([a1], .be (.cmp .leq (.lit 0) I)),
  ([a1, a2], .be (.cmp .lss (.nat I) (.nat (.var 2)))),
  ([a1, a2, a3], .be (.cmp .leq (.lit 0) J)),
  ([a1, a2, a3], .be (.cmp .lss J (.nat (.var 2)))),
  ([a1, a2, a3], .be (.cmp .lss (.nat J) (.nat (.var 2)))),
  ([n1, a1, a2, a3], .be (.cmp .lss (.nat (.sub (.var 2) (.var 153))) (.nat (.sub (.var 2) I)))),
  ([n1, a1, a2, a3], .be (.cmp .leq (.lit 1) (.var 153))),
  ([n2, a4, a5, a6, a7], .be (.cmp .leq (.lit 0) (.var 154))),
  ([n2, a4, a5, a6, a7], .be (.cmp .leq (.var 154) (.rem (.var 4) (.lit 201)))),
  ([.be Bad, a4, a5, a6, a7], .be (.lit false)),
  ([], .be (.lit true))]

theorem tmod201 {n : Int} (h : 0 ≤ n) : n.tmod 201 = n % 201 := Int.tmod_eq_emod_of_nonneg h
theorem Dv {ρ : Env} (h6 : 0 ≤ ρ.i 4) : D.den ρ = ρ.i 4 % 201 := by
  simp only [D, IE.den, tmod201 h6]
  rw [IntWalk.i64_in _ (by omega)]
theorem Wtv {ρ : Env} (h4 : 0 ≤ ρ.i 136) (h5 : ρ.i 136 ≤ ρ.i 4 % 201) (h6 : 0 ≤ ρ.i 4) :
    Wt.den ρ = if (wide I).den ρ then (if (wide J).den ρ then (if ρ.i 136 = 0 then 0 else ρ.i 136 - 1) else ρ.i 4 % 201) else 0 := by
  have hD := Dv h6
  have hw : IntKind.i64.wrap (ρ.i 136 - 1) = ρ.i 136 - 1 := IntWalk.i64_in _ (by omega)
  simp only [Wt, IE.den, BE.den, hD, hw, mxI]
  cases (wide I).den ρ <;> cases (wide J).den ρ <;> simp
  split <;> split <;> omega

theorem want_ok : Valid want := by
  intro x hx ρ hg
  have e1 : ∀ n : Int, 1 ≤ n → n < ((ρ.i 2).toNat : Int) → ¬ 100 < ((ρ.i 2).toNat : Int) → IntKind.i64.wrap (n - 1) = n - 1 := fun n _ _ _ => IntWalk.i64_in _ (by omega)
  have e2 : ∀ n : Int, 1 ≤ n → n < ((ρ.i 2).toNat : Int) → ¬ 100 < ((ρ.i 2).toNat : Int) → IntKind.i64.wrap (n + 1) = n + 1 := fun n _ _ _ => IntWalk.i64_in _ (by omega)
  simp only [want, List.mem_cons, List.not_mem_nil, or_false] at hx
  rcases hx with rfl | rfl | rfl | rfl | rfl | rfl | rfl | rfl | rfl | rfl | rfl | rfl | rfl | rfl <;>
    simp only [allH_cons, a1, a2, a3, a4, a5, a6, a7, n1, I, J, h_lss, h_leq, h_eql, h_gtr, h_not, h_true, h_false, IE.den] at hg ⊢
  · omega
  · omega
  · obtain ⟨h1, h2, _⟩ := hg
    rw [h1, tmod201 h2]; omega
  · omega
  · omega
  · obtain ⟨h1, h2, h3, _⟩ := hg
    rw [e1 _ h1 h2 (by omega)]; omega
  · obtain ⟨h1, h2, h3, _⟩ := hg
    rw [e1 _ h1 h2 (by omega)]; omega
  · obtain ⟨h1, h2, h3, _⟩ := hg
    rw [e1 _ h1 h2 (by omega)]; omega
  · obtain ⟨h0, h1, h2, h3, _⟩ := hg
    rw [e2 _ h1 h2 (by omega)] at h0; omega
  · obtain ⟨h0, h1, h2, h3, _⟩ := hg
    rw [e2 _ h1 h2 (by omega)] at h0; omega
  · obtain ⟨h0, h4, h5, h6, h7, _⟩ := hg
    rw [tmod201 h6] at h5
    simp only [n2, h_eql, IE.den] at h0
    rw [h0, Wtv h4 h5 h6]
    split
    · split
      · split <;> omega
      · omega
    · omega
  · obtain ⟨h0, h4, h5, h6, h7, _⟩ := hg
    rw [tmod201 h6] at h5 ⊢
    simp only [n2, h_eql, IE.den] at h0
    rw [h0, Wtv h4 h5 h6]
    split
    · split
      · split <;> omega
      · omega
    · omega
  · exfalso
    obtain ⟨h0, h4, h5, h6, h7, _⟩ := hg
    rw [tmod201 h6] at h5
    simp only [Bad, h_ite, h_not, h_true, h_false, h_neq, h_eql, h_gtr, Dv h6, Wtv h4 h5 h6, IE.den] at h0
    simp only [F.holds] at h0
    revert h0
    cases (wide I).den ρ <;> cases (wide J).den ρ <;> simp
    · omega
    · omega
    · split <;> omega

noncomputable def call : CallFn := table Try.prog noCtr ann 12 12
set_option maxRecDepth 100000 in
theorem checked : chk G0 want (call 6 [.lst 1, .int .u8 (.var 4)] 100 H0 G0) = true := by kernel_rfl
end Go.Proofs.Ytcegefhjgkoknaa.Fresh
