/-
  No cell of these rows narrows 'for every input' (looked for: loops, veiled, ifaces, maps, wideKeys, modest, calm, conditions, laid).
  DERIVED. THE GIVEN ROWS OF THIS SEAT. 9 by the template 'for every input the law returns true; each argument reads behind the call as it read before'; 0 by the template 'total and deterministic' (their statements: YtgoagpjmnobjhaaTotals.lean).
  GIVEN WITH THE SEED: the statements are not yours to turn. If you find one false, say at which input.
  Laid BY PROGRAM, IN A SANDBOX (cutbox-rows.mjs): the forced cells as the released guide's own fill.sh prints them over the translation b6fd2b005241976c… (all of the seat's roots in one cut). By AI agents, Wed Nov 11 2026. No macro, syntax, notation, axiom, sorry.
-/
import Derived.Test.YtgoagpjmnobjhaaChecked
import GoSem.Claim
import GoSem.ClaimJoined
import GoSem.ClaimMapViews
import Derived.JoinedTies
import Derived.KernelRfl
namespace Go.Proofs.Ytgoagpjmnobjhaa
/- THE CELL 'sum', in the pinned program and in every row, IS THE sha256 OF THE DUMP (.gsa) THAT YtgoagpjmnobjhaaProg.lean LOADS. Nothing in Lean hashes anything: it is a label: what it is worth is what the hold of that sum in a sandbox is worth. -/
noncomputable def Try.pinned : Pinned := { name := "ytgoagpjmnobjhaa", sum := "b6fd2b005241976c29cd000147e55a4fe720a5410fbf484de0059ab2c1e47992", checked := Try.checked }
namespace Rows
def none {H : Type} : Left H := { results := [], args := [] }

/-- 'paternosterlaw08.LeafSteps': WHATEVER THE INPUT: true; the input reads as it did. -/
def leafStepsSpec : ChangeSpec := { name := "leafSteps", fn := fun _ => fun
  | [d1, d2, d3, d4] => { results := [.lit (.bool true)], args := [d1, d2, d3, d4] }
  | _ => none }
def leafStepsRow : OpenClaim := { program := "ytgoagpjmnobjhaa", sum := "b6fd2b005241976c29cd000147e55a4fe720a5410fbf484de0059ab2c1e47992", func := "paternoster/paternosterlaw08.LeafSteps", spec := "leafSteps", apart := false }
def LeafStepsSaid : Prop := leafStepsRow.holds Try.pinned (OpenSpec.ofChange leafStepsSpec)

/-- ITS FALSE NEIGHBOUR: 'it returns false'. Refute it at one input. -/
def leafStepsWrong : ChangeSpec := { name := "leafSteps", fn := fun _ => fun
  | [d1, d2, d3, d4] => { results := [.lit (.bool false)], args := [d1, d2, d3, d4] }
  | _ => none }
def LeafStepsWrongFalsely : Prop := leafStepsRow.holds Try.pinned (OpenSpec.ofChange leafStepsWrong)

/-- 'paternosterlaw08.LeafTakes': WHATEVER THE INPUT: true; the input reads as it did. -/
def leafTakesSpec : ChangeSpec := { name := "leafTakes", fn := fun _ => fun
  | [d1, d2, d3] => { results := [.lit (.bool true)], args := [d1, d2, d3] }
  | _ => none }
def leafTakesRow : OpenClaim := { program := "ytgoagpjmnobjhaa", sum := "b6fd2b005241976c29cd000147e55a4fe720a5410fbf484de0059ab2c1e47992", func := "paternoster/paternosterlaw08.LeafTakes", spec := "leafTakes", apart := false }
def LeafTakesSaid : Prop := leafTakesRow.holds Try.pinned (OpenSpec.ofChange leafTakesSpec)

/-- ITS FALSE NEIGHBOUR: 'it returns false'. Refute it at one input. -/
def leafTakesWrong : ChangeSpec := { name := "leafTakes", fn := fun _ => fun
  | [d1, d2, d3] => { results := [.lit (.bool false)], args := [d1, d2, d3] }
  | _ => none }
def LeafTakesWrongFalsely : Prop := leafTakesRow.holds Try.pinned (OpenSpec.ofChange leafTakesWrong)

/-- 'paternosterlaw08.LeafBounds': WHATEVER THE INPUT: true; the input reads as it did. -/
def leafBoundsSpec : ChangeSpec := { name := "leafBounds", fn := fun _ => fun
  | [d1, d2, d3] => { results := [.lit (.bool true)], args := [d1, d2, d3] }
  | _ => none }
def leafBoundsRow : OpenClaim := { program := "ytgoagpjmnobjhaa", sum := "b6fd2b005241976c29cd000147e55a4fe720a5410fbf484de0059ab2c1e47992", func := "paternoster/paternosterlaw08.LeafBounds", spec := "leafBounds", apart := false }
def LeafBoundsSaid : Prop := leafBoundsRow.holds Try.pinned (OpenSpec.ofChange leafBoundsSpec)

/-- ITS FALSE NEIGHBOUR: 'it returns false'. Refute it at one input. -/
def leafBoundsWrong : ChangeSpec := { name := "leafBounds", fn := fun _ => fun
  | [d1, d2, d3] => { results := [.lit (.bool false)], args := [d1, d2, d3] }
  | _ => none }
def LeafBoundsWrongFalsely : Prop := leafBoundsRow.holds Try.pinned (OpenSpec.ofChange leafBoundsWrong)

/-- 'paternosterlaw08.LeafBack': WHATEVER THE INPUT: true; the input reads as it did. -/
def leafBackSpec : ChangeSpec := { name := "leafBack", fn := fun _ => fun
  | [d1, d2] => { results := [.lit (.bool true)], args := [d1, d2] }
  | _ => none }
def leafBackRow : OpenClaim := { program := "ytgoagpjmnobjhaa", sum := "b6fd2b005241976c29cd000147e55a4fe720a5410fbf484de0059ab2c1e47992", func := "paternoster/paternosterlaw08.LeafBack", spec := "leafBack", apart := false }
def LeafBackSaid : Prop := leafBackRow.holds Try.pinned (OpenSpec.ofChange leafBackSpec)

/-- ITS FALSE NEIGHBOUR: 'it returns false'. Refute it at one input. -/
def leafBackWrong : ChangeSpec := { name := "leafBack", fn := fun _ => fun
  | [d1, d2] => { results := [.lit (.bool false)], args := [d1, d2] }
  | _ => none }
def LeafBackWrongFalsely : Prop := leafBackRow.holds Try.pinned (OpenSpec.ofChange leafBackWrong)

/-- 'paternosterlaw07.CarStays': WHATEVER THE INPUT: true; the input reads as it did. -/
def carStaysSpec : ChangeSpec := { name := "carStays", fn := fun _ => fun
  | [d1, d2, d3, d4] => { results := [.lit (.bool true)], args := [d1, d2, d3, d4] }
  | _ => none }
def carStaysRow : OpenClaim := { program := "ytgoagpjmnobjhaa", sum := "b6fd2b005241976c29cd000147e55a4fe720a5410fbf484de0059ab2c1e47992", func := "paternoster/paternosterlaw07.CarStays", spec := "carStays", unfollowed := true, recurses := true, apart := false }
def CarStaysSaid : Prop := carStaysRow.holds Try.pinned (OpenSpec.ofChange carStaysSpec)

/-- ITS FALSE NEIGHBOUR: 'it returns false'. Refute it at one input. -/
def carStaysWrong : ChangeSpec := { name := "carStays", fn := fun _ => fun
  | [d1, d2, d3, d4] => { results := [.lit (.bool false)], args := [d1, d2, d3, d4] }
  | _ => none }
def CarStaysWrongFalsely : Prop := carStaysRow.holds Try.pinned (OpenSpec.ofChange carStaysWrong)

/-- 'paternosterlaw07.CarAlone': WHATEVER THE INPUT: true; the input reads as it did. -/
def carAloneSpec : ChangeSpec := { name := "carAlone", fn := fun _ => fun
  | [d1, d2, d3, d4] => { results := [.lit (.bool true)], args := [d1, d2, d3, d4] }
  | _ => none }
def carAloneRow : OpenClaim := { program := "ytgoagpjmnobjhaa", sum := "b6fd2b005241976c29cd000147e55a4fe720a5410fbf484de0059ab2c1e47992", func := "paternoster/paternosterlaw07.CarAlone", spec := "carAlone", unfollowed := true, recurses := true, apart := false }
def CarAloneSaid : Prop := carAloneRow.holds Try.pinned (OpenSpec.ofChange carAloneSpec)

/-- ITS FALSE NEIGHBOUR: 'it returns false'. Refute it at one input. -/
def carAloneWrong : ChangeSpec := { name := "carAlone", fn := fun _ => fun
  | [d1, d2, d3, d4] => { results := [.lit (.bool false)], args := [d1, d2, d3, d4] }
  | _ => none }
def CarAloneWrongFalsely : Prop := carAloneRow.holds Try.pinned (OpenSpec.ofChange carAloneWrong)

/-- 'paternosterlaw07.CarSlow': WHATEVER THE INPUT: true; the input reads as it did. -/
def carSlowSpec : ChangeSpec := { name := "carSlow", fn := fun _ => fun
  | [d1, d2] => { results := [.lit (.bool true)], args := [d1, d2] }
  | _ => none }
def carSlowRow : OpenClaim := { program := "ytgoagpjmnobjhaa", sum := "b6fd2b005241976c29cd000147e55a4fe720a5410fbf484de0059ab2c1e47992", func := "paternoster/paternosterlaw07.CarSlow", spec := "carSlow", unfollowed := true, recurses := true, apart := false }
def CarSlowSaid : Prop := carSlowRow.holds Try.pinned (OpenSpec.ofChange carSlowSpec)

/-- ITS FALSE NEIGHBOUR: 'it returns false'. Refute it at one input. -/
def carSlowWrong : ChangeSpec := { name := "carSlow", fn := fun _ => fun
  | [d1, d2] => { results := [.lit (.bool false)], args := [d1, d2] }
  | _ => none }
def CarSlowWrongFalsely : Prop := carSlowRow.holds Try.pinned (OpenSpec.ofChange carSlowWrong)

/-- 'paternosterlaw07.CarSteps': WHATEVER THE INPUT: true; the input reads as it did. -/
def carStepsSpec : ChangeSpec := { name := "carSteps", fn := fun _ => fun
  | [d1, d2, d3, d4, d5, d6] => { results := [.lit (.bool true)], args := [d1, d2, d3, d4, d5, d6] }
  | _ => none }
def carStepsRow : OpenClaim := { program := "ytgoagpjmnobjhaa", sum := "b6fd2b005241976c29cd000147e55a4fe720a5410fbf484de0059ab2c1e47992", func := "paternoster/paternosterlaw07.CarSteps", spec := "carSteps", unfollowed := true, recurses := true, apart := false }
def CarStepsSaid : Prop := carStepsRow.holds Try.pinned (OpenSpec.ofChange carStepsSpec)

/-- ITS FALSE NEIGHBOUR: 'it returns false'. Refute it at one input. -/
def carStepsWrong : ChangeSpec := { name := "carSteps", fn := fun _ => fun
  | [d1, d2, d3, d4, d5, d6] => { results := [.lit (.bool false)], args := [d1, d2, d3, d4, d5, d6] }
  | _ => none }
def CarStepsWrongFalsely : Prop := carStepsRow.holds Try.pinned (OpenSpec.ofChange carStepsWrong)

/-- 'paternosterlaw07.CarLights': WHATEVER THE INPUT: true; the input reads as it did. -/
def carLightsSpec : ChangeSpec := { name := "carLights", fn := fun _ => fun
  | [d1, d2, d3] => { results := [.lit (.bool true)], args := [d1, d2, d3] }
  | _ => none }
def carLightsRow : OpenClaim := { program := "ytgoagpjmnobjhaa", sum := "b6fd2b005241976c29cd000147e55a4fe720a5410fbf484de0059ab2c1e47992", func := "paternoster/paternosterlaw07.CarLights", spec := "carLights", unfollowed := true, recurses := true, apart := false }
def CarLightsSaid : Prop := carLightsRow.holds Try.pinned (OpenSpec.ofChange carLightsSpec)

/-- ITS FALSE NEIGHBOUR: 'it returns false'. Refute it at one input. -/
def carLightsWrong : ChangeSpec := { name := "carLights", fn := fun _ => fun
  | [d1, d2, d3] => { results := [.lit (.bool false)], args := [d1, d2, d3] }
  | _ => none }
def CarLightsWrongFalsely : Prop := carLightsRow.holds Try.pinned (OpenSpec.ofChange carLightsWrong)

/- THE SECOND FORM. 'bulk': how many values and letters a reading holds, each counted each time it is reached (what is shared counts as often as it is met; a slice's spare places count too). A statement '..UptoSaid' is the law's where the arguments, and the package variables that the reading takes, are together of bulk at most 1048576: NARROWER than '..Said'. Prove '..Said' where nothing that the law and all that it calls make is longer than what came in: it says more and counts as full. Else prove '..UptoSaid'. A law counts once. -/
mutual
def uptoBulk {H : Type} : DataW H → Nat
  | .lit (.string bytes) => bytes.length + 1
  | .lit _ => 1
  | .nil => 1
  | .ptr d => uptoBulk d + 1
  | .slice elems spare => uptoBulkAll elems + uptoBulkAll spare + 1
  | .agg parts => uptoBulkAll parts + 1
  | .iface _ d => uptoBulk d + 1
  | .map entries => uptoBulkEntries entries + 1
  | .held _ => 1
def uptoBulkAll {H : Type} : List (DataW H) → Nat
  | [] => 0
  | d :: r => uptoBulk d + uptoBulkAll r
def uptoBulkEntries {H : Type} : List (Lit × DataW H) → Nat
  | [] => 0
  | x :: r => uptoBulkEntry x + uptoBulkEntries r
def uptoBulkEntry {H : Type} : Lit × DataW H → Nat
  | (.string bytes, d) => bytes.length + uptoBulk d + 1
  | (_, d) => uptoBulk d + 1
 end
def uptoSmall : (H : Type) → List (DataW H) → Bool := fun _ ds => decide (uptoBulkAll ds ≤ 1048576)
def OpenSpec.upto (s : _root_.Go.ChangeSpec) : _root_.Go.OpenSpec := { _root_.Go.OpenSpec.ofChange s with cond := some uptoSmall }

/-- 'paternosterlaw08.LeafSteps', WHERE WHAT IT READS IS OF BULK AT MOST 1048576: true; the input reads as it did. -/
def leafStepsUptoRow : OpenClaim := { program := "ytgoagpjmnobjhaa", sum := "b6fd2b005241976c29cd000147e55a4fe720a5410fbf484de0059ab2c1e47992", func := "paternoster/paternosterlaw08.LeafSteps", spec := "leafSteps", apart := false, narrowed := true }
def LeafStepsUptoSaid : Prop := leafStepsUptoRow.holds Try.pinned (OpenSpec.upto leafStepsSpec)

/-- 'paternosterlaw08.LeafTakes', WHERE WHAT IT READS IS OF BULK AT MOST 1048576: true; the input reads as it did. -/
def leafTakesUptoRow : OpenClaim := { program := "ytgoagpjmnobjhaa", sum := "b6fd2b005241976c29cd000147e55a4fe720a5410fbf484de0059ab2c1e47992", func := "paternoster/paternosterlaw08.LeafTakes", spec := "leafTakes", apart := false, narrowed := true }
def LeafTakesUptoSaid : Prop := leafTakesUptoRow.holds Try.pinned (OpenSpec.upto leafTakesSpec)

/-- 'paternosterlaw08.LeafBounds', WHERE WHAT IT READS IS OF BULK AT MOST 1048576: true; the input reads as it did. -/
def leafBoundsUptoRow : OpenClaim := { program := "ytgoagpjmnobjhaa", sum := "b6fd2b005241976c29cd000147e55a4fe720a5410fbf484de0059ab2c1e47992", func := "paternoster/paternosterlaw08.LeafBounds", spec := "leafBounds", apart := false, narrowed := true }
def LeafBoundsUptoSaid : Prop := leafBoundsUptoRow.holds Try.pinned (OpenSpec.upto leafBoundsSpec)

/-- 'paternosterlaw08.LeafBack', WHERE WHAT IT READS IS OF BULK AT MOST 1048576: true; the input reads as it did. -/
def leafBackUptoRow : OpenClaim := { program := "ytgoagpjmnobjhaa", sum := "b6fd2b005241976c29cd000147e55a4fe720a5410fbf484de0059ab2c1e47992", func := "paternoster/paternosterlaw08.LeafBack", spec := "leafBack", apart := false, narrowed := true }
def LeafBackUptoSaid : Prop := leafBackUptoRow.holds Try.pinned (OpenSpec.upto leafBackSpec)

/-- 'paternosterlaw07.CarStays', WHERE WHAT IT READS IS OF BULK AT MOST 1048576: true; the input reads as it did. -/
def carStaysUptoRow : OpenClaim := { program := "ytgoagpjmnobjhaa", sum := "b6fd2b005241976c29cd000147e55a4fe720a5410fbf484de0059ab2c1e47992", func := "paternoster/paternosterlaw07.CarStays", spec := "carStays", unfollowed := true, recurses := true, apart := false, narrowed := true }
def CarStaysUptoSaid : Prop := carStaysUptoRow.holds Try.pinned (OpenSpec.upto carStaysSpec)

/-- 'paternosterlaw07.CarAlone', WHERE WHAT IT READS IS OF BULK AT MOST 1048576: true; the input reads as it did. -/
def carAloneUptoRow : OpenClaim := { program := "ytgoagpjmnobjhaa", sum := "b6fd2b005241976c29cd000147e55a4fe720a5410fbf484de0059ab2c1e47992", func := "paternoster/paternosterlaw07.CarAlone", spec := "carAlone", unfollowed := true, recurses := true, apart := false, narrowed := true }
def CarAloneUptoSaid : Prop := carAloneUptoRow.holds Try.pinned (OpenSpec.upto carAloneSpec)

/-- 'paternosterlaw07.CarSlow', WHERE WHAT IT READS IS OF BULK AT MOST 1048576: true; the input reads as it did. -/
def carSlowUptoRow : OpenClaim := { program := "ytgoagpjmnobjhaa", sum := "b6fd2b005241976c29cd000147e55a4fe720a5410fbf484de0059ab2c1e47992", func := "paternoster/paternosterlaw07.CarSlow", spec := "carSlow", unfollowed := true, recurses := true, apart := false, narrowed := true }
def CarSlowUptoSaid : Prop := carSlowUptoRow.holds Try.pinned (OpenSpec.upto carSlowSpec)

/-- 'paternosterlaw07.CarSteps', WHERE WHAT IT READS IS OF BULK AT MOST 1048576: true; the input reads as it did. -/
def carStepsUptoRow : OpenClaim := { program := "ytgoagpjmnobjhaa", sum := "b6fd2b005241976c29cd000147e55a4fe720a5410fbf484de0059ab2c1e47992", func := "paternoster/paternosterlaw07.CarSteps", spec := "carSteps", unfollowed := true, recurses := true, apart := false, narrowed := true }
def CarStepsUptoSaid : Prop := carStepsUptoRow.holds Try.pinned (OpenSpec.upto carStepsSpec)

/-- 'paternosterlaw07.CarLights', WHERE WHAT IT READS IS OF BULK AT MOST 1048576: true; the input reads as it did. -/
def carLightsUptoRow : OpenClaim := { program := "ytgoagpjmnobjhaa", sum := "b6fd2b005241976c29cd000147e55a4fe720a5410fbf484de0059ab2c1e47992", func := "paternoster/paternosterlaw07.CarLights", spec := "carLights", unfollowed := true, recurses := true, apart := false, narrowed := true }
def CarLightsUptoSaid : Prop := carLightsUptoRow.holds Try.pinned (OpenSpec.upto carLightsSpec)

end Rows
end Go.Proofs.Ytgoagpjmnobjhaa
