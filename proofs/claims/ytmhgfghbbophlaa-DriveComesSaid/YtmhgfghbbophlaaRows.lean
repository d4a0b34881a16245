/-
  No cell of these rows narrows 'for every input' (looked for: loops, veiled, ifaces, maps, wideKeys, modest, calm, conditions, laid).
  DERIVED. THE GIVEN ROWS OF THIS SEAT. 11 by the template 'for every input the law returns true; each argument reads behind the call as it read before'; 0 by the template 'total and deterministic' (their statements: YtmhgfghbbophlaaTotals.lean).
  GIVEN WITH THE SEED: the statements are not yours to turn. If you find one false, say at which input.
  Laid BY PROGRAM, IN A SANDBOX (cutbox-rows.mjs): the forced cells as the released guide's own fill.sh prints them over the translation 03f0faef11204c60… (all of the seat's roots in one cut). By AI agents, Wed Nov 11 2026. No macro, syntax, notation, axiom, sorry.
-/
import Derived.Test.YtmhgfghbbophlaaChecked
import GoSem.Claim
import GoSem.ClaimJoined
import GoSem.ClaimMapViews
import Derived.JoinedTies
import Derived.KernelRfl
namespace Go.Proofs.Ytmhgfghbbophlaa
/- THE CELL 'sum', in the pinned program and in every row, IS THE sha256 OF THE DUMP (.gsa) THAT YtmhgfghbbophlaaProg.lean LOADS. Nothing in Lean hashes anything: it is a label: what it is worth is what the hold of that sum in a sandbox is worth. -/
noncomputable def Try.pinned : Pinned := { name := "ytmhgfghbbophlaa", sum := "03f0faef11204c6025fffe9b3f813fd7a08ede8d6e608a0ac5665f0308d14515", checked := Try.checked }
namespace Rows
def none {H : Type} : Left H := { results := [], args := [] }

/-- 'paternosterlaw06.PlanTells': WHATEVER THE INPUT: true; the input reads as it did. -/
def planTellsSpec : ChangeSpec := { name := "planTells", fn := fun _ => fun
  | [d1, d2, d3] => { results := [.lit (.bool true)], args := [d1, d2, d3] }
  | _ => none }
def planTellsRow : OpenClaim := { program := "ytmhgfghbbophlaa", sum := "03f0faef11204c6025fffe9b3f813fd7a08ede8d6e608a0ac5665f0308d14515", func := "paternoster/paternosterlaw06.PlanTells", spec := "planTells", unfollowed := true, recurses := true, apart := false }
def PlanTellsSaid : Prop := planTellsRow.holds Try.pinned (OpenSpec.ofChange planTellsSpec)

/-- ITS FALSE NEIGHBOUR: 'it returns false'. Refute it at one input. -/
def planTellsWrong : ChangeSpec := { name := "planTells", fn := fun _ => fun
  | [d1, d2, d3] => { results := [.lit (.bool false)], args := [d1, d2, d3] }
  | _ => none }
def PlanTellsWrongFalsely : Prop := planTellsRow.holds Try.pinned (OpenSpec.ofChange planTellsWrong)

/-- 'paternosterlaw06.PlanStops': WHATEVER THE INPUT: true; the input reads as it did. -/
def planStopsSpec : ChangeSpec := { name := "planStops", fn := fun _ => fun
  | [d1, d2] => { results := [.lit (.bool true)], args := [d1, d2] }
  | _ => none }
def planStopsRow : OpenClaim := { program := "ytmhgfghbbophlaa", sum := "03f0faef11204c6025fffe9b3f813fd7a08ede8d6e608a0ac5665f0308d14515", func := "paternoster/paternosterlaw06.PlanStops", spec := "planStops", unfollowed := true, recurses := true, apart := false }
def PlanStopsSaid : Prop := planStopsRow.holds Try.pinned (OpenSpec.ofChange planStopsSpec)

/-- ITS FALSE NEIGHBOUR: 'it returns false'. Refute it at one input. -/
def planStopsWrong : ChangeSpec := { name := "planStops", fn := fun _ => fun
  | [d1, d2] => { results := [.lit (.bool false)], args := [d1, d2] }
  | _ => none }
def PlanStopsWrongFalsely : Prop := planStopsRow.holds Try.pinned (OpenSpec.ofChange planStopsWrong)

/-- 'paternosterlaw06.PlanFaster': WHATEVER THE INPUT: true; the input reads as it did. -/
def planFasterSpec : ChangeSpec := { name := "planFaster", fn := fun _ => fun
  | [d1, d2, d3] => { results := [.lit (.bool true)], args := [d1, d2, d3] }
  | _ => none }
def planFasterRow : OpenClaim := { program := "ytmhgfghbbophlaa", sum := "03f0faef11204c6025fffe9b3f813fd7a08ede8d6e608a0ac5665f0308d14515", func := "paternoster/paternosterlaw06.PlanFaster", spec := "planFaster", unfollowed := true, recurses := true, apart := false }
def PlanFasterSaid : Prop := planFasterRow.holds Try.pinned (OpenSpec.ofChange planFasterSpec)

/-- ITS FALSE NEIGHBOUR: 'it returns false'. Refute it at one input. -/
def planFasterWrong : ChangeSpec := { name := "planFaster", fn := fun _ => fun
  | [d1, d2, d3] => { results := [.lit (.bool false)], args := [d1, d2, d3] }
  | _ => none }
def PlanFasterWrongFalsely : Prop := planFasterRow.holds Try.pinned (OpenSpec.ofChange planFasterWrong)

/-- 'paternosterlaw06.PlanBrakes': WHATEVER THE INPUT: true; the input reads as it did. -/
def planBrakesSpec : ChangeSpec := { name := "planBrakes", fn := fun _ => fun
  | [d1, d2, d3] => { results := [.lit (.bool true)], args := [d1, d2, d3] }
  | _ => none }
def planBrakesRow : OpenClaim := { program := "ytmhgfghbbophlaa", sum := "03f0faef11204c6025fffe9b3f813fd7a08ede8d6e608a0ac5665f0308d14515", func := "paternoster/paternosterlaw06.PlanBrakes", spec := "planBrakes", unfollowed := true, recurses := true, apart := false }
def PlanBrakesSaid : Prop := planBrakesRow.holds Try.pinned (OpenSpec.ofChange planBrakesSpec)

/-- ITS FALSE NEIGHBOUR: 'it returns false'. Refute it at one input. -/
def planBrakesWrong : ChangeSpec := { name := "planBrakes", fn := fun _ => fun
  | [d1, d2, d3] => { results := [.lit (.bool false)], args := [d1, d2, d3] }
  | _ => none }
def PlanBrakesWrongFalsely : Prop := planBrakesRow.holds Try.pinned (OpenSpec.ofChange planBrakesWrong)

/-- 'paternosterlaw06.PlanLeast': WHATEVER THE INPUT: true; the input reads as it did. -/
def planLeastSpec : ChangeSpec := { name := "planLeast", fn := fun _ => fun
  | [d1, d2] => { results := [.lit (.bool true)], args := [d1, d2] }
  | _ => none }
def planLeastRow : OpenClaim := { program := "ytmhgfghbbophlaa", sum := "03f0faef11204c6025fffe9b3f813fd7a08ede8d6e608a0ac5665f0308d14515", func := "paternoster/paternosterlaw06.PlanLeast", spec := "planLeast", unfollowed := true, recurses := true, apart := false }
def PlanLeastSaid : Prop := planLeastRow.holds Try.pinned (OpenSpec.ofChange planLeastSpec)

/-- ITS FALSE NEIGHBOUR: 'it returns false'. Refute it at one input. -/
def planLeastWrong : ChangeSpec := { name := "planLeast", fn := fun _ => fun
  | [d1, d2] => { results := [.lit (.bool false)], args := [d1, d2] }
  | _ => none }
def PlanLeastWrongFalsely : Prop := planLeastRow.holds Try.pinned (OpenSpec.ofChange planLeastWrong)

/-- 'paternosterlaw06.PlanRest': WHATEVER THE INPUT: true; the input reads as it did. -/
def planRestSpec : ChangeSpec := { name := "planRest", fn := fun _ => fun
  | [d1, d2] => { results := [.lit (.bool true)], args := [d1, d2] }
  | _ => none }
def planRestRow : OpenClaim := { program := "ytmhgfghbbophlaa", sum := "03f0faef11204c6025fffe9b3f813fd7a08ede8d6e608a0ac5665f0308d14515", func := "paternoster/paternosterlaw06.PlanRest", spec := "planRest", unfollowed := true, recurses := true, apart := false }
def PlanRestSaid : Prop := planRestRow.holds Try.pinned (OpenSpec.ofChange planRestSpec)

/-- ITS FALSE NEIGHBOUR: 'it returns false'. Refute it at one input. -/
def planRestWrong : ChangeSpec := { name := "planRest", fn := fun _ => fun
  | [d1, d2] => { results := [.lit (.bool false)], args := [d1, d2] }
  | _ => none }
def PlanRestWrongFalsely : Prop := planRestRow.holds Try.pinned (OpenSpec.ofChange planRestWrong)

/-- 'paternosterlaw13.DriveTells': WHATEVER THE INPUT: true; the input reads as it did. -/
def driveTellsSpec : ChangeSpec := { name := "driveTells", fn := fun _ => fun
  | [d1, d2, d3, d4, d5, d6] => { results := [.lit (.bool true)], args := [d1, d2, d3, d4, d5, d6] }
  | _ => none }
def driveTellsRow : OpenClaim := { program := "ytmhgfghbbophlaa", sum := "03f0faef11204c6025fffe9b3f813fd7a08ede8d6e608a0ac5665f0308d14515", func := "paternoster/paternosterlaw13.DriveTells", spec := "driveTells", unfollowed := true, recurses := true, apart := false }
def DriveTellsSaid : Prop := driveTellsRow.holds Try.pinned (OpenSpec.ofChange driveTellsSpec)

/-- ITS FALSE NEIGHBOUR: 'it returns false'. Refute it at one input. -/
def driveTellsWrong : ChangeSpec := { name := "driveTells", fn := fun _ => fun
  | [d1, d2, d3, d4, d5, d6] => { results := [.lit (.bool false)], args := [d1, d2, d3, d4, d5, d6] }
  | _ => none }
def DriveTellsWrongFalsely : Prop := driveTellsRow.holds Try.pinned (OpenSpec.ofChange driveTellsWrong)

/-- 'paternosterlaw13.DriveMirror': WHATEVER THE INPUT: true; the input reads as it did. -/
def driveMirrorSpec : ChangeSpec := { name := "driveMirror", fn := fun _ => fun
  | [d1, d2, d3, d4] => { results := [.lit (.bool true)], args := [d1, d2, d3, d4] }
  | _ => none }
def driveMirrorRow : OpenClaim := { program := "ytmhgfghbbophlaa", sum := "03f0faef11204c6025fffe9b3f813fd7a08ede8d6e608a0ac5665f0308d14515", func := "paternoster/paternosterlaw13.DriveMirror", spec := "driveMirror", unfollowed := true, recurses := true, apart := false }
def DriveMirrorSaid : Prop := driveMirrorRow.holds Try.pinned (OpenSpec.ofChange driveMirrorSpec)

/-- ITS FALSE NEIGHBOUR: 'it returns false'. Refute it at one input. -/
def driveMirrorWrong : ChangeSpec := { name := "driveMirror", fn := fun _ => fun
  | [d1, d2, d3, d4] => { results := [.lit (.bool false)], args := [d1, d2, d3, d4] }
  | _ => none }
def DriveMirrorWrongFalsely : Prop := driveMirrorRow.holds Try.pinned (OpenSpec.ofChange driveMirrorWrong)

/-- 'paternosterlaw13.DriveHere': WHATEVER THE INPUT: true; the input reads as it did. -/
def driveHereSpec : ChangeSpec := { name := "driveHere", fn := fun _ => fun
  | [d1, d2, d3] => { results := [.lit (.bool true)], args := [d1, d2, d3] }
  | _ => none }
def driveHereRow : OpenClaim := { program := "ytmhgfghbbophlaa", sum := "03f0faef11204c6025fffe9b3f813fd7a08ede8d6e608a0ac5665f0308d14515", func := "paternoster/paternosterlaw13.DriveHere", spec := "driveHere", unfollowed := true, recurses := true, apart := false }
def DriveHereSaid : Prop := driveHereRow.holds Try.pinned (OpenSpec.ofChange driveHereSpec)

/-- ITS FALSE NEIGHBOUR: 'it returns false'. Refute it at one input. -/
def driveHereWrong : ChangeSpec := { name := "driveHere", fn := fun _ => fun
  | [d1, d2, d3] => { results := [.lit (.bool false)], args := [d1, d2, d3] }
  | _ => none }
def DriveHereWrongFalsely : Prop := driveHereRow.holds Try.pinned (OpenSpec.ofChange driveHereWrong)

/-- 'paternosterlaw13.DriveStops': WHATEVER THE INPUT: true; the input reads as it did. -/
def driveStopsSpec : ChangeSpec := { name := "driveStops", fn := fun _ => fun
  | [d1, d2, d3] => { results := [.lit (.bool true)], args := [d1, d2, d3] }
  | _ => none }
def driveStopsRow : OpenClaim := { program := "ytmhgfghbbophlaa", sum := "03f0faef11204c6025fffe9b3f813fd7a08ede8d6e608a0ac5665f0308d14515", func := "paternoster/paternosterlaw13.DriveStops", spec := "driveStops", unfollowed := true, recurses := true, apart := false }
def DriveStopsSaid : Prop := driveStopsRow.holds Try.pinned (OpenSpec.ofChange driveStopsSpec)

/-- ITS FALSE NEIGHBOUR: 'it returns false'. Refute it at one input. -/
def driveStopsWrong : ChangeSpec := { name := "driveStops", fn := fun _ => fun
  | [d1, d2, d3] => { results := [.lit (.bool false)], args := [d1, d2, d3] }
  | _ => none }
def DriveStopsWrongFalsely : Prop := driveStopsRow.holds Try.pinned (OpenSpec.ofChange driveStopsWrong)

/-- 'paternosterlaw13.DriveComes': WHATEVER THE INPUT: true; the input reads as it did. -/
def driveComesSpec : ChangeSpec := { name := "driveComes", fn := fun _ => fun
  | [d1, d2, d3, d4] => { results := [.lit (.bool true)], args := [d1, d2, d3, d4] }
  | _ => none }
def driveComesRow : OpenClaim := { program := "ytmhgfghbbophlaa", sum := "03f0faef11204c6025fffe9b3f813fd7a08ede8d6e608a0ac5665f0308d14515", func := "paternoster/paternosterlaw13.DriveComes", spec := "driveComes", unfollowed := true, recurses := true, apart := false }
def DriveComesSaid : Prop := driveComesRow.holds Try.pinned (OpenSpec.ofChange driveComesSpec)

/-- ITS FALSE NEIGHBOUR: 'it returns false'. Refute it at one input. -/
def driveComesWrong : ChangeSpec := { name := "driveComes", fn := fun _ => fun
  | [d1, d2, d3, d4] => { results := [.lit (.bool false)], args := [d1, d2, d3, d4] }
  | _ => none }
def DriveComesWrongFalsely : Prop := driveComesRow.holds Try.pinned (OpenSpec.ofChange driveComesWrong)

/- THE SECOND FORM. 'bulk': how many values and letters a reading holds, each counted each time it is reached (what is shared counts as often as it is met; a slice's spare places count too). A statement '..UptoSaid' is the law's where the arguments, and the package variables that the reading takes, are together of bulk at most 1048576: NARROWER than '..Said'. Prove '..Said' where nothing that the law and all that it calls make is longer than what came in: it says more and counts as full. Else prove '..UptoSaid'. A law counts once. -/
mutual
def uptoBulk {H : Type} : DataW H → Nat
  | .lit (.string bytes) => bytes.length + 1
  | .lit _ => 1
  | .nil => 1
  | .ptr d => uptoBulk d + 1
  | .slice elems spare => uptoBulkAll elems + uptoBulkAll spare + 1
  | .agg parts => uptoBulkAll parts + 1
  | .iface _ d => uptoBulk d + 1
  | .map entries => uptoBulkEntries entries + 1
  | .held _ => 1
def uptoBulkAll {H : Type} : List (DataW H) → Nat
  | [] => 0
  | d :: r => uptoBulk d + uptoBulkAll r
def uptoBulkEntries {H : Type} : List (Lit × DataW H) → Nat
  | [] => 0
  | x :: r => uptoBulkEntry x + uptoBulkEntries r
def uptoBulkEntry {H : Type} : Lit × DataW H → Nat
  | (.string bytes, d) => bytes.length + uptoBulk d + 1
  | (_, d) => uptoBulk d + 1
 end
def uptoSmall : (H : Type) → List (DataW H) → Bool := fun _ ds => decide (uptoBulkAll ds ≤ 1048576)
def OpenSpec.upto (s : _root_.Go.ChangeSpec) : _root_.Go.OpenSpec := { _root_.Go.OpenSpec.ofChange s with cond := some uptoSmall }

/-- 'paternosterlaw06.PlanTells', WHERE WHAT IT READS IS OF BULK AT MOST 1048576: true; the input reads as it did. -/
def planTellsUptoRow : OpenClaim := { program := "ytmhgfghbbophlaa", sum := "03f0faef11204c6025fffe9b3f813fd7a08ede8d6e608a0ac5665f0308d14515", func := "paternoster/paternosterlaw06.PlanTells", spec := "planTells", unfollowed := true, recurses := true, apart := false, narrowed := true }
def PlanTellsUptoSaid : Prop := planTellsUptoRow.holds Try.pinned (OpenSpec.upto planTellsSpec)

/-- 'paternosterlaw06.PlanStops', WHERE WHAT IT READS IS OF BULK AT MOST 1048576: true; the input reads as it did. -/
def planStopsUptoRow : OpenClaim := { program := "ytmhgfghbbophlaa", sum := "03f0faef11204c6025fffe9b3f813fd7a08ede8d6e608a0ac5665f0308d14515", func := "paternoster/paternosterlaw06.PlanStops", spec := "planStops", unfollowed := true, recurses := true, apart := false, narrowed := true }
def PlanStopsUptoSaid : Prop := planStopsUptoRow.holds Try.pinned (OpenSpec.upto planStopsSpec)

/-- 'paternosterlaw06.PlanFaster', WHERE WHAT IT READS IS OF BULK AT MOST 1048576: true; the input reads as it did. -/
def planFasterUptoRow : OpenClaim := { program := "ytmhgfghbbophlaa", sum := "03f0faef11204c6025fffe9b3f813fd7a08ede8d6e608a0ac5665f0308d14515", func := "paternoster/paternosterlaw06.PlanFaster", spec := "planFaster", unfollowed := true, recurses := true, apart := false, narrowed := true }
def PlanFasterUptoSaid : Prop := planFasterUptoRow.holds Try.pinned (OpenSpec.upto planFasterSpec)

/-- 'paternosterlaw06.PlanBrakes', WHERE WHAT IT READS IS OF BULK AT MOST 1048576: true; the input reads as it did. -/
def planBrakesUptoRow : OpenClaim := { program := "ytmhgfghbbophlaa", sum := "03f0faef11204c6025fffe9b3f813fd7a08ede8d6e608a0ac5665f0308d14515", func := "paternoster/paternosterlaw06.PlanBrakes", spec := "planBrakes", unfollowed := true, recurses := true, apart := false, narrowed := true }
def PlanBrakesUptoSaid : Prop := planBrakesUptoRow.holds Try.pinned (OpenSpec.upto planBrakesSpec)

/-- 'paternosterlaw06.PlanLeast', WHERE WHAT IT READS IS OF BULK AT MOST 1048576: true; the input reads as it did. -/
def planLeastUptoRow : OpenClaim := { program := "ytmhgfghbbophlaa", sum := "03f0faef11204c6025fffe9b3f813fd7a08ede8d6e608a0ac5665f0308d14515", func := "paternoster/paternosterlaw06.PlanLeast", spec := "planLeast", unfollowed := true, recurses := true, apart := false, narrowed := true }
def PlanLeastUptoSaid : Prop := planLeastUptoRow.holds Try.pinned (OpenSpec.upto planLeastSpec)

/-- 'paternosterlaw06.PlanRest', WHERE WHAT IT READS IS OF BULK AT MOST 1048576: true; the input reads as it did. -/
def planRestUptoRow : OpenClaim := { program := "ytmhgfghbbophlaa", sum := "03f0faef11204c6025fffe9b3f813fd7a08ede8d6e608a0ac5665f0308d14515", func := "paternoster/paternosterlaw06.PlanRest", spec := "planRest", unfollowed := true, recurses := true, apart := false, narrowed := true }
def PlanRestUptoSaid : Prop := planRestUptoRow.holds Try.pinned (OpenSpec.upto planRestSpec)

/-- 'paternosterlaw13.DriveTells', WHERE WHAT IT READS IS OF BULK AT MOST 1048576: true; the input reads as it did. -/
def driveTellsUptoRow : OpenClaim := { program := "ytmhgfghbbophlaa", sum := "03f0faef11204c6025fffe9b3f813fd7a08ede8d6e608a0ac5665f0308d14515", func := "paternoster/paternosterlaw13.DriveTells", spec := "driveTells", unfollowed := true, recurses := true, apart := false, narrowed := true }
def DriveTellsUptoSaid : Prop := driveTellsUptoRow.holds Try.pinned (OpenSpec.upto driveTellsSpec)

/-- 'paternosterlaw13.DriveMirror', WHERE WHAT IT READS IS OF BULK AT MOST 1048576: true; the input reads as it did. -/
def driveMirrorUptoRow : OpenClaim := { program := "ytmhgfghbbophlaa", sum := "03f0faef11204c6025fffe9b3f813fd7a08ede8d6e608a0ac5665f0308d14515", func := "paternoster/paternosterlaw13.DriveMirror", spec := "driveMirror", unfollowed := true, recurses := true, apart := false, narrowed := true }
def DriveMirrorUptoSaid : Prop := driveMirrorUptoRow.holds Try.pinned (OpenSpec.upto driveMirrorSpec)

/-- 'paternosterlaw13.DriveHere', WHERE WHAT IT READS IS OF BULK AT MOST 1048576: true; the input reads as it did. -/
def driveHereUptoRow : OpenClaim := { program := "ytmhgfghbbophlaa", sum := "03f0faef11204c6025fffe9b3f813fd7a08ede8d6e608a0ac5665f0308d14515", func := "paternoster/paternosterlaw13.DriveHere", spec := "driveHere", unfollowed := true, recurses := true, apart := false, narrowed := true }
def DriveHereUptoSaid : Prop := driveHereUptoRow.holds Try.pinned (OpenSpec.upto driveHereSpec)

/-- 'paternosterlaw13.DriveStops', WHERE WHAT IT READS IS OF BULK AT MOST 1048576: true; the input reads as it did. -/
def driveStopsUptoRow : OpenClaim := { program := "ytmhgfghbbophlaa", sum := "03f0faef11204c6025fffe9b3f813fd7a08ede8d6e608a0ac5665f0308d14515", func := "paternoster/paternosterlaw13.DriveStops", spec := "driveStops", unfollowed := true, recurses := true, apart := false, narrowed := true }
def DriveStopsUptoSaid : Prop := driveStopsUptoRow.holds Try.pinned (OpenSpec.upto driveStopsSpec)

/-- 'paternosterlaw13.DriveComes', WHERE WHAT IT READS IS OF BULK AT MOST 1048576: true; the input reads as it did. -/
def driveComesUptoRow : OpenClaim := { program := "ytmhgfghbbophlaa", sum := "03f0faef11204c6025fffe9b3f813fd7a08ede8d6e608a0ac5665f0308d14515", func := "paternoster/paternosterlaw13.DriveComes", spec := "driveComes", unfollowed := true, recurses := true, apart := false, narrowed := true }
def DriveComesUptoSaid : Prop := driveComesUptoRow.holds Try.pinned (OpenSpec.upto driveComesSpec)

end Rows
end Go.Proofs.Ytmhgfghbbophlaa
