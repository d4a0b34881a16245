/- The engine, part 24: the table of calls, with loops. -/
import Derived.Test.YtcegefhjgkoknaaE23
namespace Go.Proofs.Ytcegefhjgkoknaa.E
open Go.RowKit
set_option linter.unusedVariables false
set_option linter.unusedSimpArgs false

def firstR : Code → Option Nat
  | .region id _ _ => some id
  | .seq a b => match firstR a with
    | some i => some i
    | none => firstR b
  | .cond _ a b => match firstR a with
    | some i => some i
    | none => firstR b
  | .block _ a => firstR a
  | .loop a => firstR a
  | .scope a => firstR a
  | _ => none

/-- Which loops have an invariant: by the function's number, and that of the first region in them. -/
abbrev AnnFn := Nat → Nat → Option AnnS
def lpF (ann : AnnFn) (U : Nat) (f : Nat) : LoopFn := fun c body amb =>
  match firstR c with
  | some i => match ann f i with
    | some an => runInv amb an body (wrC c)
    | none => runLoop body U
  | none => runLoop body U
theorem lpF_ok (P : Program) (ann : AnnFn) (U f : Nat) : LpOK P (lpF ann U f) := by
  intro base C nt amb n0 hamb c body hb
  unfold lpF
  split
  · split
    · rename_i an _; exact runInv_ok hamb hb an (wrC c)
    · exact unroll_ok P U base C nt amb n0 hamb c body hb
  · exact unroll_ok P U base C nt amb n0 hamb c body hb

/-- The table: contracts first; else the function is walked into. -/
def table (P : Program) (ctr : CallFn) (ann : AnnFn) (U k : Nat) : CallFn := tbl P ctr (drF P) (lpF ann U) k
theorem table_ok {P : Program} (hm : P.follows .mixedOrders = true) (hN : NoRt P) {ctr : CallFn} (hctr : CallOK P ctr) (ann : AnnFn) (U k : Nat) : CallOK P (table P ctr ann U k) :=
  tbl_ok hctr hN (fun _ hc => drF_ok hm hN hc) (lpF_ok P ann U) k
def noAnn : AnnFn := fun _ _ => none
end Go.Proofs.Ytcegefhjgkoknaa.E
