/-
  No cell of these rows narrows 'for every input' (looked for: loops, veiled, ifaces, maps, wideKeys, modest, calm, conditions, laid).
  DERIVED. THE GIVEN ROWS OF THIS SEAT. 9 by the template 'for every input the law returns true; each argument reads behind the call as it read before'; 0 by the template 'total and deterministic' (their statements: YtcegefhjgkoknaaTotals.lean).
  GIVEN WITH THE SEED: the statements are not yours to turn. If you find one false, say at which input.
  Laid BY PROGRAM, IN A SANDBOX (cutbox-rows.mjs): the forced cells as the released guide's own fill.sh prints them over the translation 8e5dd65afb77d769… (all of the seat's roots in one cut). By AI agents, Wed Nov 11 2026. No macro, syntax, notation, axiom, sorry.
-/
import Derived.Test.YtcegefhjgkoknaaChecked
import GoSem.Claim
import GoSem.ClaimJoined
import GoSem.ClaimMapViews
import Derived.JoinedTies
import Derived.KernelRfl
namespace Go.Proofs.Ytcegefhjgkoknaa
/- THE CELL 'sum', in the pinned program and in every row, IS THE sha256 OF THE DUMP (.gsa) THAT YtcegefhjgkoknaaProg.lean LOADS. Nothing in Lean hashes anything: it is a label: what it is worth is what the hold of that sum in a sandbox is worth. -/
noncomputable def Try.pinned : Pinned := { name := "ytcegefhjgkoknaa", sum := "8e5dd65afb77d76930fefaa3b12ead09af95f18facccebf2973c284c5b258c88", checked := Try.checked }
namespace Rows
def none {H : Type} : Left H := { results := [], args := [] }

/-- 'paternosterlaw12.LockTells': WHATEVER THE INPUT: true; the input reads as it did. -/
def lockTellsSpec : ChangeSpec := { name := "lockTells", fn := fun _ => fun
  | [d1, d2, d3] => { results := [.lit (.bool true)], args := [d1, d2, d3] }
  | _ => none }
def lockTellsRow : OpenClaim := { program := "ytcegefhjgkoknaa", sum := "8e5dd65afb77d76930fefaa3b12ead09af95f18facccebf2973c284c5b258c88", func := "paternoster/paternosterlaw12.LockTells", spec := "lockTells", unfollowed := true, recurses := true, apart := false }
def LockTellsSaid : Prop := lockTellsRow.holds Try.pinned (OpenSpec.ofChange lockTellsSpec)

/-- ITS FALSE NEIGHBOUR: 'it returns false'. Refute it at one input. -/
def lockTellsWrong : ChangeSpec := { name := "lockTells", fn := fun _ => fun
  | [d1, d2, d3] => { results := [.lit (.bool false)], args := [d1, d2, d3] }
  | _ => none }
def LockTellsWrongFalsely : Prop := lockTellsRow.holds Try.pinned (OpenSpec.ofChange lockTellsWrong)

/-- 'paternosterlaw12.LockSame': WHATEVER THE INPUT: true; the input reads as it did. -/
def lockSameSpec : ChangeSpec := { name := "lockSame", fn := fun _ => fun
  | [d1, d2, d3] => { results := [.lit (.bool true)], args := [d1, d2, d3] }
  | _ => none }
def lockSameRow : OpenClaim := { program := "ytcegefhjgkoknaa", sum := "8e5dd65afb77d76930fefaa3b12ead09af95f18facccebf2973c284c5b258c88", func := "paternoster/paternosterlaw12.LockSame", spec := "lockSame", unfollowed := true, recurses := true, apart := false }
def LockSameSaid : Prop := lockSameRow.holds Try.pinned (OpenSpec.ofChange lockSameSpec)

/-- ITS FALSE NEIGHBOUR: 'it returns false'. Refute it at one input. -/
def lockSameWrong : ChangeSpec := { name := "lockSame", fn := fun _ => fun
  | [d1, d2, d3] => { results := [.lit (.bool false)], args := [d1, d2, d3] }
  | _ => none }
def LockSameWrongFalsely : Prop := lockSameRow.holds Try.pinned (OpenSpec.ofChange lockSameWrong)

/-- 'paternosterlaw14.GateStays': WHATEVER THE INPUT: true; the input reads as it did. -/
def gateStaysSpec : ChangeSpec := { name := "gateStays", fn := fun _ => fun
  | [d1, d2, d3] => { results := [.lit (.bool true)], args := [d1, d2, d3] }
  | _ => none }
def gateStaysRow : OpenClaim := { program := "ytcegefhjgkoknaa", sum := "8e5dd65afb77d76930fefaa3b12ead09af95f18facccebf2973c284c5b258c88", func := "paternoster/paternosterlaw14.GateStays", spec := "gateStays", unfollowed := true, recurses := true, apart := false }
def GateStaysSaid : Prop := gateStaysRow.holds Try.pinned (OpenSpec.ofChange gateStaysSpec)

/-- ITS FALSE NEIGHBOUR: 'it returns false'. Refute it at one input. -/
def gateStaysWrong : ChangeSpec := { name := "gateStays", fn := fun _ => fun
  | [d1, d2, d3] => { results := [.lit (.bool false)], args := [d1, d2, d3] }
  | _ => none }
def GateStaysWrongFalsely : Prop := gateStaysRow.holds Try.pinned (OpenSpec.ofChange gateStaysWrong)

/-- 'paternosterlaw14.GateFresh': WHATEVER THE INPUT: true; the input reads as it did. -/
def gateFreshSpec : ChangeSpec := { name := "gateFresh", fn := fun _ => fun
  | [d1, d2] => { results := [.lit (.bool true)], args := [d1, d2] }
  | _ => none }
def gateFreshRow : OpenClaim := { program := "ytcegefhjgkoknaa", sum := "8e5dd65afb77d76930fefaa3b12ead09af95f18facccebf2973c284c5b258c88", func := "paternoster/paternosterlaw14.GateFresh", spec := "gateFresh", unfollowed := true, recurses := true, apart := false }
def GateFreshSaid : Prop := gateFreshRow.holds Try.pinned (OpenSpec.ofChange gateFreshSpec)

/-- ITS FALSE NEIGHBOUR: 'it returns false'. Refute it at one input. -/
def gateFreshWrong : ChangeSpec := { name := "gateFresh", fn := fun _ => fun
  | [d1, d2] => { results := [.lit (.bool false)], args := [d1, d2] }
  | _ => none }
def GateFreshWrongFalsely : Prop := gateFreshRow.holds Try.pinned (OpenSpec.ofChange gateFreshWrong)

/-- 'paternosterlaw14.GateTells': WHATEVER THE INPUT: true; the input reads as it did. -/
def gateTellsSpec : ChangeSpec := { name := "gateTells", fn := fun _ => fun
  | [d1, d2, d3, d4, d5, d6, d7, d8, d9] => { results := [.lit (.bool true)], args := [d1, d2, d3, d4, d5, d6, d7, d8, d9] }
  | _ => none }
def gateTellsRow : OpenClaim := { program := "ytcegefhjgkoknaa", sum := "8e5dd65afb77d76930fefaa3b12ead09af95f18facccebf2973c284c5b258c88", func := "paternoster/paternosterlaw14.GateTells", spec := "gateTells", unfollowed := true, recurses := true, apart := false }
def GateTellsSaid : Prop := gateTellsRow.holds Try.pinned (OpenSpec.ofChange gateTellsSpec)

/-- ITS FALSE NEIGHBOUR: 'it returns false'. Refute it at one input. -/
def gateTellsWrong : ChangeSpec := { name := "gateTells", fn := fun _ => fun
  | [d1, d2, d3, d4, d5, d6, d7, d8, d9] => { results := [.lit (.bool false)], args := [d1, d2, d3, d4, d5, d6, d7, d8, d9] }
  | _ => none }
def GateTellsWrongFalsely : Prop := gateTellsRow.holds Try.pinned (OpenSpec.ofChange gateTellsWrong)

/-- 'paternosterlaw14.GateTries': WHATEVER THE INPUT: true; the input reads as it did. -/
def gateTriesSpec : ChangeSpec := { name := "gateTries", fn := fun _ => fun
  | [d1, d2] => { results := [.lit (.bool true)], args := [d1, d2] }
  | _ => none }
def gateTriesRow : OpenClaim := { program := "ytcegefhjgkoknaa", sum := "8e5dd65afb77d76930fefaa3b12ead09af95f18facccebf2973c284c5b258c88", func := "paternoster/paternosterlaw14.GateTries", spec := "gateTries", unfollowed := true, recurses := true, apart := false }
def GateTriesSaid : Prop := gateTriesRow.holds Try.pinned (OpenSpec.ofChange gateTriesSpec)

/-- ITS FALSE NEIGHBOUR: 'it returns false'. Refute it at one input. -/
def gateTriesWrong : ChangeSpec := { name := "gateTries", fn := fun _ => fun
  | [d1, d2] => { results := [.lit (.bool false)], args := [d1, d2] }
  | _ => none }
def GateTriesWrongFalsely : Prop := gateTriesRow.holds Try.pinned (OpenSpec.ofChange gateTriesWrong)

/-- 'paternosterlaw14.GateHolds': WHATEVER THE INPUT: true; the input reads as it did. -/
def gateHoldsSpec : ChangeSpec := { name := "gateHolds", fn := fun _ => fun
  | [d1, d2, d3] => { results := [.lit (.bool true)], args := [d1, d2, d3] }
  | _ => none }
def gateHoldsRow : OpenClaim := { program := "ytcegefhjgkoknaa", sum := "8e5dd65afb77d76930fefaa3b12ead09af95f18facccebf2973c284c5b258c88", func := "paternoster/paternosterlaw14.GateHolds", spec := "gateHolds", unfollowed := true, recurses := true, apart := false }
def GateHoldsSaid : Prop := gateHoldsRow.holds Try.pinned (OpenSpec.ofChange gateHoldsSpec)

/-- ITS FALSE NEIGHBOUR: 'it returns false'. Refute it at one input. -/
def gateHoldsWrong : ChangeSpec := { name := "gateHolds", fn := fun _ => fun
  | [d1, d2, d3] => { results := [.lit (.bool false)], args := [d1, d2, d3] }
  | _ => none }
def GateHoldsWrongFalsely : Prop := gateHoldsRow.holds Try.pinned (OpenSpec.ofChange gateHoldsWrong)

/-- 'paternosterlaw12.LockKeeps': WHATEVER THE INPUT: true; the input reads as it did. -/
def lockKeepsSpec : ChangeSpec := { name := "lockKeeps", fn := fun _ => fun
  | [d1, d2, d3, d4, d5] => { results := [.lit (.bool true)], args := [d1, d2, d3, d4, d5] }
  | _ => none }
def lockKeepsRow : OpenClaim := { program := "ytcegefhjgkoknaa", sum := "8e5dd65afb77d76930fefaa3b12ead09af95f18facccebf2973c284c5b258c88", func := "paternoster/paternosterlaw12.LockKeeps", spec := "lockKeeps", unfollowed := true, recurses := true, apart := false }
def LockKeepsSaid : Prop := lockKeepsRow.holds Try.pinned (OpenSpec.ofChange lockKeepsSpec)

/-- ITS FALSE NEIGHBOUR: 'it returns false'. Refute it at one input. -/
def lockKeepsWrong : ChangeSpec := { name := "lockKeeps", fn := fun _ => fun
  | [d1, d2, d3, d4, d5] => { results := [.lit (.bool false)], args := [d1, d2, d3, d4, d5] }
  | _ => none }
def LockKeepsWrongFalsely : Prop := lockKeepsRow.holds Try.pinned (OpenSpec.ofChange lockKeepsWrong)

/-- 'paternosterlaw12.LockOpens': WHATEVER THE INPUT: true; the input reads as it did. -/
def lockOpensSpec : ChangeSpec := { name := "lockOpens", fn := fun _ => fun
  | [d1, d2, d3, d4] => { results := [.lit (.bool true)], args := [d1, d2, d3, d4] }
  | _ => none }
def lockOpensRow : OpenClaim := { program := "ytcegefhjgkoknaa", sum := "8e5dd65afb77d76930fefaa3b12ead09af95f18facccebf2973c284c5b258c88", func := "paternoster/paternosterlaw12.LockOpens", spec := "lockOpens", unfollowed := true, recurses := true, apart := false }
def LockOpensSaid : Prop := lockOpensRow.holds Try.pinned (OpenSpec.ofChange lockOpensSpec)

/-- ITS FALSE NEIGHBOUR: 'it returns false'. Refute it at one input. -/
def lockOpensWrong : ChangeSpec := { name := "lockOpens", fn := fun _ => fun
  | [d1, d2, d3, d4] => { results := [.lit (.bool false)], args := [d1, d2, d3, d4] }
  | _ => none }
def LockOpensWrongFalsely : Prop := lockOpensRow.holds Try.pinned (OpenSpec.ofChange lockOpensWrong)

/- THE SECOND FORM. 'bulk': how many values and letters a reading holds, each counted each time it is reached (what is shared counts as often as it is met; a slice's spare places count too). A statement '..UptoSaid' is the law's where the arguments, and the package variables that the reading takes, are together of bulk at most 1048576: NARROWER than '..Said'. Prove '..Said' where nothing that the law and all that it calls make is longer than what came in: it says more and counts as full. Else prove '..UptoSaid'. A law counts once. -/
mutual
def uptoBulk {H : Type} : DataW H → Nat
  | .lit (.string bytes) => bytes.length + 1
  | .lit _ => 1
  | .nil => 1
  | .ptr d => uptoBulk d + 1
  | .slice elems spare => uptoBulkAll elems + uptoBulkAll spare + 1
  | .agg parts => uptoBulkAll parts + 1
  | .iface _ d => uptoBulk d + 1
  | .map entries => uptoBulkEntries entries + 1
  | .held _ => 1
def uptoBulkAll {H : Type} : List (DataW H) → Nat
  | [] => 0
  | d :: r => uptoBulk d + uptoBulkAll r
def uptoBulkEntries {H : Type} : List (Lit × DataW H) → Nat
  | [] => 0
  | x :: r => uptoBulkEntry x + uptoBulkEntries r
def uptoBulkEntry {H : Type} : Lit × DataW H → Nat
  | (.string bytes, d) => bytes.length + uptoBulk d + 1
  | (_, d) => uptoBulk d + 1
 end
def uptoSmall : (H : Type) → List (DataW H) → Bool := fun _ ds => decide (uptoBulkAll ds ≤ 1048576)
def OpenSpec.upto (s : _root_.Go.ChangeSpec) : _root_.Go.OpenSpec := { _root_.Go.OpenSpec.ofChange s with cond := some uptoSmall }

/-- 'paternosterlaw12.LockTells', WHERE WHAT IT READS IS OF BULK AT MOST 1048576: true; the input reads as it did. -/
def lockTellsUptoRow : OpenClaim := { program := "ytcegefhjgkoknaa", sum := "8e5dd65afb77d76930fefaa3b12ead09af95f18facccebf2973c284c5b258c88", func := "paternoster/paternosterlaw12.LockTells", spec := "lockTells", unfollowed := true, recurses := true, apart := false, narrowed := true }
def LockTellsUptoSaid : Prop := lockTellsUptoRow.holds Try.pinned (OpenSpec.upto lockTellsSpec)

/-- 'paternosterlaw12.LockSame', WHERE WHAT IT READS IS OF BULK AT MOST 1048576: true; the input reads as it did. -/
def lockSameUptoRow : OpenClaim := { program := "ytcegefhjgkoknaa", sum := "8e5dd65afb77d76930fefaa3b12ead09af95f18facccebf2973c284c5b258c88", func := "paternoster/paternosterlaw12.LockSame", spec := "lockSame", unfollowed := true, recurses := true, apart := false, narrowed := true }
def LockSameUptoSaid : Prop := lockSameUptoRow.holds Try.pinned (OpenSpec.upto lockSameSpec)

/-- 'paternosterlaw14.GateStays', WHERE WHAT IT READS IS OF BULK AT MOST 1048576: true; the input reads as it did. -/
def gateStaysUptoRow : OpenClaim := { program := "ytcegefhjgkoknaa", sum := "8e5dd65afb77d76930fefaa3b12ead09af95f18facccebf2973c284c5b258c88", func := "paternoster/paternosterlaw14.GateStays", spec := "gateStays", unfollowed := true, recurses := true, apart := false, narrowed := true }
def GateStaysUptoSaid : Prop := gateStaysUptoRow.holds Try.pinned (OpenSpec.upto gateStaysSpec)

/-- 'paternosterlaw14.GateFresh', WHERE WHAT IT READS IS OF BULK AT MOST 1048576: true; the input reads as it did. -/
def gateFreshUptoRow : OpenClaim := { program := "ytcegefhjgkoknaa", sum := "8e5dd65afb77d76930fefaa3b12ead09af95f18facccebf2973c284c5b258c88", func := "paternoster/paternosterlaw14.GateFresh", spec := "gateFresh", unfollowed := true, recurses := true, apart := false, narrowed := true }
def GateFreshUptoSaid : Prop := gateFreshUptoRow.holds Try.pinned (OpenSpec.upto gateFreshSpec)

/-- 'paternosterlaw14.GateTells', WHERE WHAT IT READS IS OF BULK AT MOST 1048576: true; the input reads as it did. -/
def gateTellsUptoRow : OpenClaim := { program := "ytcegefhjgkoknaa", sum := "8e5dd65afb77d76930fefaa3b12ead09af95f18facccebf2973c284c5b258c88", func := "paternoster/paternosterlaw14.GateTells", spec := "gateTells", unfollowed := true, recurses := true, apart := false, narrowed := true }
def GateTellsUptoSaid : Prop := gateTellsUptoRow.holds Try.pinned (OpenSpec.upto gateTellsSpec)

/-- 'paternosterlaw14.GateTries', WHERE WHAT IT READS IS OF BULK AT MOST 1048576: true; the input reads as it did. -/
def gateTriesUptoRow : OpenClaim := { program := "ytcegefhjgkoknaa", sum := "8e5dd65afb77d76930fefaa3b12ead09af95f18facccebf2973c284c5b258c88", func := "paternoster/paternosterlaw14.GateTries", spec := "gateTries", unfollowed := true, recurses := true, apart := false, narrowed := true }
def GateTriesUptoSaid : Prop := gateTriesUptoRow.holds Try.pinned (OpenSpec.upto gateTriesSpec)

/-- 'paternosterlaw14.GateHolds', WHERE WHAT IT READS IS OF BULK AT MOST 1048576: true; the input reads as it did. -/
def gateHoldsUptoRow : OpenClaim := { program := "ytcegefhjgkoknaa", sum := "8e5dd65afb77d76930fefaa3b12ead09af95f18facccebf2973c284c5b258c88", func := "paternoster/paternosterlaw14.GateHolds", spec := "gateHolds", unfollowed := true, recurses := true, apart := false, narrowed := true }
def GateHoldsUptoSaid : Prop := gateHoldsUptoRow.holds Try.pinned (OpenSpec.upto gateHoldsSpec)

/-- 'paternosterlaw12.LockKeeps', WHERE WHAT IT READS IS OF BULK AT MOST 1048576: true; the input reads as it did. -/
def lockKeepsUptoRow : OpenClaim := { program := "ytcegefhjgkoknaa", sum := "8e5dd65afb77d76930fefaa3b12ead09af95f18facccebf2973c284c5b258c88", func := "paternoster/paternosterlaw12.LockKeeps", spec := "lockKeeps", unfollowed := true, recurses := true, apart := false, narrowed := true }
def LockKeepsUptoSaid : Prop := lockKeepsUptoRow.holds Try.pinned (OpenSpec.upto lockKeepsSpec)

/-- 'paternosterlaw12.LockOpens', WHERE WHAT IT READS IS OF BULK AT MOST 1048576: true; the input reads as it did. -/
def lockOpensUptoRow : OpenClaim := { program := "ytcegefhjgkoknaa", sum := "8e5dd65afb77d76930fefaa3b12ead09af95f18facccebf2973c284c5b258c88", func := "paternoster/paternosterlaw12.LockOpens", spec := "lockOpens", unfollowed := true, recurses := true, apart := false, narrowed := true }
def LockOpensUptoSaid : Prop := lockOpensUptoRow.holds Try.pinned (OpenSpec.upto lockOpensSpec)

end Rows
end Go.Proofs.Ytcegefhjgkoknaa
