/-
  No cell of these rows narrows 'for every input' (looked for: loops, veiled, ifaces, maps, wideKeys, modest, calm, conditions, laid).
  DERIVED. THE GIVEN ROWS OF THIS SEAT. 14 by the template 'for every input the law returns true; each argument reads behind the call as it read before'; 0 by the template 'total and deterministic' (their statements: YtmdledlbkdcmnaaTotals.lean).
  GIVEN WITH THE SEED: the statements are not yours to turn. If you find one false, say at which input.
  Laid BY PROGRAM, IN A SANDBOX (cutbox-rows.mjs): the forced cells as the released guide's own fill.sh prints them over the translation 6a8ca4628a6d458e… (all of the seat's roots in one cut). By AI agents, Wed Nov 11 2026. No macro, syntax, notation, axiom, sorry.
-/
import Derived.Test.YtmdledlbkdcmnaaChecked
import GoSem.Claim
import GoSem.ClaimJoined
import GoSem.ClaimMapViews
import Derived.JoinedTies
import Derived.KernelRfl
namespace Go.Proofs.Ytmdledlbkdcmnaa
/- THE CELL 'sum', in the pinned program and in every row, IS THE sha256 OF THE DUMP (.gsa) THAT YtmdledlbkdcmnaaProg.lean LOADS. Nothing in Lean hashes anything: it is a label: what it is worth is what the hold of that sum in a sandbox is worth. -/
noncomputable def Try.pinned : Pinned := { name := "ytmdledlbkdcmnaa", sum := "6a8ca4628a6d458e105fdb83abaa7b7da60721f230e794016a13744b5ad3d9ba", checked := Try.checked }
namespace Rows
def none {H : Type} : Left H := { results := [], args := [] }

/-- 'scorebooktop.TopEnclosed': WHATEVER THE INPUT: true; the input reads as it did. -/
def topEnclosedSpec : ChangeSpec := { name := "topEnclosed", fn := fun _ => fun
  | [d1, d2, d3] => { results := [.lit (.bool true)], args := [d1, d2, d3] }
  | _ => none }
def topEnclosedRow : OpenClaim := { program := "ytmdledlbkdcmnaa", sum := "6a8ca4628a6d458e105fdb83abaa7b7da60721f230e794016a13744b5ad3d9ba", func := "scorebook/scorebooktop.TopEnclosed", spec := "topEnclosed", inPlace := ["math/bits.Sub64", "math/bits.Add64"], apart := false }
def TopEnclosedSaid : Prop := topEnclosedRow.holds Try.pinned (OpenSpec.ofChange topEnclosedSpec)

/-- ITS FALSE NEIGHBOUR: 'it returns false'. Refute it at one input. -/
def topEnclosedWrong : ChangeSpec := { name := "topEnclosed", fn := fun _ => fun
  | [d1, d2, d3] => { results := [.lit (.bool false)], args := [d1, d2, d3] }
  | _ => none }
def TopEnclosedWrongFalsely : Prop := topEnclosedRow.holds Try.pinned (OpenSpec.ofChange topEnclosedWrong)

/-- 'scorebooktop.TopDecided': WHATEVER THE INPUT: true; the input reads as it did. -/
def topDecidedSpec : ChangeSpec := { name := "topDecided", fn := fun _ => fun
  | [d1, d2] => { results := [.lit (.bool true)], args := [d1, d2] }
  | _ => none }
def topDecidedRow : OpenClaim := { program := "ytmdledlbkdcmnaa", sum := "6a8ca4628a6d458e105fdb83abaa7b7da60721f230e794016a13744b5ad3d9ba", func := "scorebook/scorebooktop.TopDecided", spec := "topDecided", inPlace := ["math/bits.Sub64", "math/bits.Add64"], apart := false }
def TopDecidedSaid : Prop := topDecidedRow.holds Try.pinned (OpenSpec.ofChange topDecidedSpec)

/-- ITS FALSE NEIGHBOUR: 'it returns false'. Refute it at one input. -/
def topDecidedWrong : ChangeSpec := { name := "topDecided", fn := fun _ => fun
  | [d1, d2] => { results := [.lit (.bool false)], args := [d1, d2] }
  | _ => none }
def TopDecidedWrongFalsely : Prop := topDecidedRow.holds Try.pinned (OpenSpec.ofChange topDecidedWrong)

/-- 'scorebooklaw33.PathLines': WHATEVER THE INPUT: true; the input reads as it did. -/
def pathLinesSpec : ChangeSpec := { name := "pathLines", fn := fun _ => fun
  | [d1, d2, d3] => { results := [.lit (.bool true)], args := [d1, d2, d3] }
  | _ => none }
def pathLinesRow : OpenClaim := { program := "ytmdledlbkdcmnaa", sum := "6a8ca4628a6d458e105fdb83abaa7b7da60721f230e794016a13744b5ad3d9ba", func := "scorebook/scorebooklaw33.PathLines", spec := "pathLines", apart := false }
def PathLinesSaid : Prop := pathLinesRow.holds Try.pinned (OpenSpec.ofChange pathLinesSpec)

/-- ITS FALSE NEIGHBOUR: 'it returns false'. Refute it at one input. -/
def pathLinesWrong : ChangeSpec := { name := "pathLines", fn := fun _ => fun
  | [d1, d2, d3] => { results := [.lit (.bool false)], args := [d1, d2, d3] }
  | _ => none }
def PathLinesWrongFalsely : Prop := pathLinesRow.holds Try.pinned (OpenSpec.ofChange pathLinesWrong)

/-- 'scorebooklaw33.PathPossible': WHATEVER THE INPUT: true; the input reads as it did. -/
def pathPossibleSpec : ChangeSpec := { name := "pathPossible", fn := fun _ => fun
  | [d] => { results := [.lit (.bool true)], args := [d] }
  | _ => none }
def pathPossibleRow : OpenClaim := { program := "ytmdledlbkdcmnaa", sum := "6a8ca4628a6d458e105fdb83abaa7b7da60721f230e794016a13744b5ad3d9ba", func := "scorebook/scorebooklaw33.PathPossible", spec := "pathPossible", apart := false }
def PathPossibleSaid : Prop := pathPossibleRow.holds Try.pinned (OpenSpec.ofChange pathPossibleSpec)

/-- ITS FALSE NEIGHBOUR: 'it returns false'. Refute it at one input. -/
def pathPossibleWrong : ChangeSpec := { name := "pathPossible", fn := fun _ => fun
  | [d] => { results := [.lit (.bool false)], args := [d] }
  | _ => none }
def PathPossibleWrongFalsely : Prop := pathPossibleRow.holds Try.pinned (OpenSpec.ofChange pathPossibleWrong)

/-- 'scorebooklaw33.PathFits': WHATEVER THE INPUT: true; the input reads as it did. -/
def pathFitsSpec : ChangeSpec := { name := "pathFits", fn := fun _ => fun
  | [d1, d2, d3] => { results := [.lit (.bool true)], args := [d1, d2, d3] }
  | _ => none }
def pathFitsRow : OpenClaim := { program := "ytmdledlbkdcmnaa", sum := "6a8ca4628a6d458e105fdb83abaa7b7da60721f230e794016a13744b5ad3d9ba", func := "scorebook/scorebooklaw33.PathFits", spec := "pathFits", apart := false }
def PathFitsSaid : Prop := pathFitsRow.holds Try.pinned (OpenSpec.ofChange pathFitsSpec)

/-- ITS FALSE NEIGHBOUR: 'it returns false'. Refute it at one input. -/
def pathFitsWrong : ChangeSpec := { name := "pathFits", fn := fun _ => fun
  | [d1, d2, d3] => { results := [.lit (.bool false)], args := [d1, d2, d3] }
  | _ => none }
def PathFitsWrongFalsely : Prop := pathFitsRow.holds Try.pinned (OpenSpec.ofChange pathFitsWrong)

/-- 'scorebooklaw33.PathEncloses': WHATEVER THE INPUT: true; the input reads as it did. -/
def pathEnclosesSpec : ChangeSpec := { name := "pathEncloses", fn := fun _ => fun
  | [d1, d2, d3] => { results := [.lit (.bool true)], args := [d1, d2, d3] }
  | _ => none }
def pathEnclosesRow : OpenClaim := { program := "ytmdledlbkdcmnaa", sum := "6a8ca4628a6d458e105fdb83abaa7b7da60721f230e794016a13744b5ad3d9ba", func := "scorebook/scorebooklaw33.PathEncloses", spec := "pathEncloses", apart := false }
def PathEnclosesSaid : Prop := pathEnclosesRow.holds Try.pinned (OpenSpec.ofChange pathEnclosesSpec)

/-- ITS FALSE NEIGHBOUR: 'it returns false'. Refute it at one input. -/
def pathEnclosesWrong : ChangeSpec := { name := "pathEncloses", fn := fun _ => fun
  | [d1, d2, d3] => { results := [.lit (.bool false)], args := [d1, d2, d3] }
  | _ => none }
def PathEnclosesWrongFalsely : Prop := pathEnclosesRow.holds Try.pinned (OpenSpec.ofChange pathEnclosesWrong)

/-- 'scorebooklaw33.PathAttained': WHATEVER THE INPUT: true; the input reads as it did. -/
def pathAttainedSpec : ChangeSpec := { name := "pathAttained", fn := fun _ => fun
  | [d1, d2, d3] => { results := [.lit (.bool true)], args := [d1, d2, d3] }
  | _ => none }
def pathAttainedRow : OpenClaim := { program := "ytmdledlbkdcmnaa", sum := "6a8ca4628a6d458e105fdb83abaa7b7da60721f230e794016a13744b5ad3d9ba", func := "scorebook/scorebooklaw33.PathAttained", spec := "pathAttained", apart := false }
def PathAttainedSaid : Prop := pathAttainedRow.holds Try.pinned (OpenSpec.ofChange pathAttainedSpec)

/-- ITS FALSE NEIGHBOUR: 'it returns false'. Refute it at one input. -/
def pathAttainedWrong : ChangeSpec := { name := "pathAttained", fn := fun _ => fun
  | [d1, d2, d3] => { results := [.lit (.bool false)], args := [d1, d2, d3] }
  | _ => none }
def PathAttainedWrongFalsely : Prop := pathAttainedRow.holds Try.pinned (OpenSpec.ofChange pathAttainedWrong)

/-- 'scorebooklaw33.PathPlaces': WHATEVER THE INPUT: true; the input reads as it did. -/
def pathPlacesSpec : ChangeSpec := { name := "pathPlaces", fn := fun _ => fun
  | [d1, d2] => { results := [.lit (.bool true)], args := [d1, d2] }
  | _ => none }
def pathPlacesRow : OpenClaim := { program := "ytmdledlbkdcmnaa", sum := "6a8ca4628a6d458e105fdb83abaa7b7da60721f230e794016a13744b5ad3d9ba", func := "scorebook/scorebooklaw33.PathPlaces", spec := "pathPlaces", apart := false }
def PathPlacesSaid : Prop := pathPlacesRow.holds Try.pinned (OpenSpec.ofChange pathPlacesSpec)

/-- ITS FALSE NEIGHBOUR: 'it returns false'. Refute it at one input. -/
def pathPlacesWrong : ChangeSpec := { name := "pathPlaces", fn := fun _ => fun
  | [d1, d2] => { results := [.lit (.bool false)], args := [d1, d2] }
  | _ => none }
def PathPlacesWrongFalsely : Prop := pathPlacesRow.holds Try.pinned (OpenSpec.ofChange pathPlacesWrong)

/-- 'scorebooklaw33.PathCrosses': WHATEVER THE INPUT: true; the input reads as it did. -/
def pathCrossesSpec : ChangeSpec := { name := "pathCrosses", fn := fun _ => fun
  | [d] => { results := [.lit (.bool true)], args := [d] }
  | _ => none }
def pathCrossesRow : OpenClaim := { program := "ytmdledlbkdcmnaa", sum := "6a8ca4628a6d458e105fdb83abaa7b7da60721f230e794016a13744b5ad3d9ba", func := "scorebook/scorebooklaw33.PathCrosses", spec := "pathCrosses", apart := false }
def PathCrossesSaid : Prop := pathCrossesRow.holds Try.pinned (OpenSpec.ofChange pathCrossesSpec)

/-- ITS FALSE NEIGHBOUR: 'it returns false'. Refute it at one input. -/
def pathCrossesWrong : ChangeSpec := { name := "pathCrosses", fn := fun _ => fun
  | [d] => { results := [.lit (.bool false)], args := [d] }
  | _ => none }
def PathCrossesWrongFalsely : Prop := pathCrossesRow.holds Try.pinned (OpenSpec.ofChange pathCrossesWrong)

/-- 'scorebooklaw33.PathCrossed': WHATEVER THE INPUT: true; the input reads as it did. -/
def pathCrossedSpec : ChangeSpec := { name := "pathCrossed", fn := fun _ => fun
  | [d1, d2] => { results := [.lit (.bool true)], args := [d1, d2] }
  | _ => none }
def pathCrossedRow : OpenClaim := { program := "ytmdledlbkdcmnaa", sum := "6a8ca4628a6d458e105fdb83abaa7b7da60721f230e794016a13744b5ad3d9ba", func := "scorebook/scorebooklaw33.PathCrossed", spec := "pathCrossed", inPlace := ["math/bits.Add64", "math/bits.Sub64"], apart := false }
def PathCrossedSaid : Prop := pathCrossedRow.holds Try.pinned (OpenSpec.ofChange pathCrossedSpec)

/-- ITS FALSE NEIGHBOUR: 'it returns false'. Refute it at one input. -/
def pathCrossedWrong : ChangeSpec := { name := "pathCrossed", fn := fun _ => fun
  | [d1, d2] => { results := [.lit (.bool false)], args := [d1, d2] }
  | _ => none }
def PathCrossedWrongFalsely : Prop := pathCrossedRow.holds Try.pinned (OpenSpec.ofChange pathCrossedWrong)

/-- 'scorebooklaw35.LbwDecides': WHATEVER THE INPUT: true; the input reads as it did. -/
def lbwDecidesSpec : ChangeSpec := { name := "lbwDecides", fn := fun _ => fun
  | [d] => { results := [.lit (.bool true)], args := [d] }
  | _ => none }
def lbwDecidesRow : OpenClaim := { program := "ytmdledlbkdcmnaa", sum := "6a8ca4628a6d458e105fdb83abaa7b7da60721f230e794016a13744b5ad3d9ba", func := "scorebook/scorebooklaw35.LbwDecides", spec := "lbwDecides", inPlace := ["math/bits.Sub64", "math/bits.Add64"], apart := false }
def LbwDecidesSaid : Prop := lbwDecidesRow.holds Try.pinned (OpenSpec.ofChange lbwDecidesSpec)

/-- ITS FALSE NEIGHBOUR: 'it returns false'. Refute it at one input. -/
def lbwDecidesWrong : ChangeSpec := { name := "lbwDecides", fn := fun _ => fun
  | [d] => { results := [.lit (.bool false)], args := [d] }
  | _ => none }
def LbwDecidesWrongFalsely : Prop := lbwDecidesRow.holds Try.pinned (OpenSpec.ofChange lbwDecidesWrong)

/-- 'scorebooklaw35.LbwExcuses': WHATEVER THE INPUT: true; the input reads as it did. -/
def lbwExcusesSpec : ChangeSpec := { name := "lbwExcuses", fn := fun _ => fun
  | [d] => { results := [.lit (.bool true)], args := [d] }
  | _ => none }
def lbwExcusesRow : OpenClaim := { program := "ytmdledlbkdcmnaa", sum := "6a8ca4628a6d458e105fdb83abaa7b7da60721f230e794016a13744b5ad3d9ba", func := "scorebook/scorebooklaw35.LbwExcuses", spec := "lbwExcuses", inPlace := ["math/bits.Sub64", "math/bits.Add64"], apart := false }
def LbwExcusesSaid : Prop := lbwExcusesRow.holds Try.pinned (OpenSpec.ofChange lbwExcusesSpec)

/-- ITS FALSE NEIGHBOUR: 'it returns false'. Refute it at one input. -/
def lbwExcusesWrong : ChangeSpec := { name := "lbwExcuses", fn := fun _ => fun
  | [d] => { results := [.lit (.bool false)], args := [d] }
  | _ => none }
def LbwExcusesWrongFalsely : Prop := lbwExcusesRow.holds Try.pinned (OpenSpec.ofChange lbwExcusesWrong)

/-- 'scorebooklaw35.LbwSurer': WHATEVER THE INPUT: true; the input reads as it did. -/
def lbwSurerSpec : ChangeSpec := { name := "lbwSurer", fn := fun _ => fun
  | [d1, d2] => { results := [.lit (.bool true)], args := [d1, d2] }
  | _ => none }
def lbwSurerRow : OpenClaim := { program := "ytmdledlbkdcmnaa", sum := "6a8ca4628a6d458e105fdb83abaa7b7da60721f230e794016a13744b5ad3d9ba", func := "scorebook/scorebooklaw35.LbwSurer", spec := "lbwSurer", inPlace := ["math/bits.Sub64", "math/bits.Add64"], apart := false }
def LbwSurerSaid : Prop := lbwSurerRow.holds Try.pinned (OpenSpec.ofChange lbwSurerSpec)

/-- ITS FALSE NEIGHBOUR: 'it returns false'. Refute it at one input. -/
def lbwSurerWrong : ChangeSpec := { name := "lbwSurer", fn := fun _ => fun
  | [d1, d2] => { results := [.lit (.bool false)], args := [d1, d2] }
  | _ => none }
def LbwSurerWrongFalsely : Prop := lbwSurerRow.holds Try.pinned (OpenSpec.ofChange lbwSurerWrong)

/-- 'scorebooklaw35.LbwMirrors': WHATEVER THE INPUT: true; the input reads as it did. -/
def lbwMirrorsSpec : ChangeSpec := { name := "lbwMirrors", fn := fun _ => fun
  | [d] => { results := [.lit (.bool true)], args := [d] }
  | _ => none }
def lbwMirrorsRow : OpenClaim := { program := "ytmdledlbkdcmnaa", sum := "6a8ca4628a6d458e105fdb83abaa7b7da60721f230e794016a13744b5ad3d9ba", func := "scorebook/scorebooklaw35.LbwMirrors", spec := "lbwMirrors", inPlace := ["math/bits.Sub64", "math/bits.Add64"], apart := false }
def LbwMirrorsSaid : Prop := lbwMirrorsRow.holds Try.pinned (OpenSpec.ofChange lbwMirrorsSpec)

/-- ITS FALSE NEIGHBOUR: 'it returns false'. Refute it at one input. -/
def lbwMirrorsWrong : ChangeSpec := { name := "lbwMirrors", fn := fun _ => fun
  | [d] => { results := [.lit (.bool false)], args := [d] }
  | _ => none }
def LbwMirrorsWrongFalsely : Prop := lbwMirrorsRow.holds Try.pinned (OpenSpec.ofChange lbwMirrorsWrong)

/- THE SECOND FORM. 'bulk': how many values and letters a reading holds, each counted each time it is reached (what is shared counts as often as it is met; a slice's spare places count too). A statement '..UptoSaid' is the law's where the arguments, and the package variables that the reading takes, are together of bulk at most 1048576: NARROWER than '..Said'. Prove '..Said' where nothing that the law and all that it calls make is longer than what came in: it says more and counts as full. Else prove '..UptoSaid'. A law counts once. -/
mutual
def uptoBulk {H : Type} : DataW H → Nat
  | .lit (.string bytes) => bytes.length + 1
  | .lit _ => 1
  | .nil => 1
  | .ptr d => uptoBulk d + 1
  | .slice elems spare => uptoBulkAll elems + uptoBulkAll spare + 1
  | .agg parts => uptoBulkAll parts + 1
  | .iface _ d => uptoBulk d + 1
  | .map entries => uptoBulkEntries entries + 1
  | .held _ => 1
def uptoBulkAll {H : Type} : List (DataW H) → Nat
  | [] => 0
  | d :: r => uptoBulk d + uptoBulkAll r
def uptoBulkEntries {H : Type} : List (Lit × DataW H) → Nat
  | [] => 0
  | x :: r => uptoBulkEntry x + uptoBulkEntries r
def uptoBulkEntry {H : Type} : Lit × DataW H → Nat
  | (.string bytes, d) => bytes.length + uptoBulk d + 1
  | (_, d) => uptoBulk d + 1
 end
def uptoSmall : (H : Type) → List (DataW H) → Bool := fun _ ds => decide (uptoBulkAll ds ≤ 1048576)
def OpenSpec.upto (s : _root_.Go.ChangeSpec) : _root_.Go.OpenSpec := { _root_.Go.OpenSpec.ofChange s with cond := some uptoSmall }

/-- 'scorebooktop.TopEnclosed', WHERE WHAT IT READS IS OF BULK AT MOST 1048576: true; the input reads as it did. -/
def topEnclosedUptoRow : OpenClaim := { program := "ytmdledlbkdcmnaa", sum := "6a8ca4628a6d458e105fdb83abaa7b7da60721f230e794016a13744b5ad3d9ba", func := "scorebook/scorebooktop.TopEnclosed", spec := "topEnclosed", inPlace := ["math/bits.Sub64", "math/bits.Add64"], apart := false, narrowed := true }
def TopEnclosedUptoSaid : Prop := topEnclosedUptoRow.holds Try.pinned (OpenSpec.upto topEnclosedSpec)

/-- 'scorebooktop.TopDecided', WHERE WHAT IT READS IS OF BULK AT MOST 1048576: true; the input reads as it did. -/
def topDecidedUptoRow : OpenClaim := { program := "ytmdledlbkdcmnaa", sum := "6a8ca4628a6d458e105fdb83abaa7b7da60721f230e794016a13744b5ad3d9ba", func := "scorebook/scorebooktop.TopDecided", spec := "topDecided", inPlace := ["math/bits.Sub64", "math/bits.Add64"], apart := false, narrowed := true }
def TopDecidedUptoSaid : Prop := topDecidedUptoRow.holds Try.pinned (OpenSpec.upto topDecidedSpec)

/-- 'scorebooklaw33.PathLines', WHERE WHAT IT READS IS OF BULK AT MOST 1048576: true; the input reads as it did. -/
def pathLinesUptoRow : OpenClaim := { program := "ytmdledlbkdcmnaa", sum := "6a8ca4628a6d458e105fdb83abaa7b7da60721f230e794016a13744b5ad3d9ba", func := "scorebook/scorebooklaw33.PathLines", spec := "pathLines", apart := false, narrowed := true }
def PathLinesUptoSaid : Prop := pathLinesUptoRow.holds Try.pinned (OpenSpec.upto pathLinesSpec)

/-- 'scorebooklaw33.PathPossible', WHERE WHAT IT READS IS OF BULK AT MOST 1048576: true; the input reads as it did. -/
def pathPossibleUptoRow : OpenClaim := { program := "ytmdledlbkdcmnaa", sum := "6a8ca4628a6d458e105fdb83abaa7b7da60721f230e794016a13744b5ad3d9ba", func := "scorebook/scorebooklaw33.PathPossible", spec := "pathPossible", apart := false, narrowed := true }
def PathPossibleUptoSaid : Prop := pathPossibleUptoRow.holds Try.pinned (OpenSpec.upto pathPossibleSpec)

/-- 'scorebooklaw33.PathFits', WHERE WHAT IT READS IS OF BULK AT MOST 1048576: true; the input reads as it did. -/
def pathFitsUptoRow : OpenClaim := { program := "ytmdledlbkdcmnaa", sum := "6a8ca4628a6d458e105fdb83abaa7b7da60721f230e794016a13744b5ad3d9ba", func := "scorebook/scorebooklaw33.PathFits", spec := "pathFits", apart := false, narrowed := true }
def PathFitsUptoSaid : Prop := pathFitsUptoRow.holds Try.pinned (OpenSpec.upto pathFitsSpec)

/-- 'scorebooklaw33.PathEncloses', WHERE WHAT IT READS IS OF BULK AT MOST 1048576: true; the input reads as it did. -/
def pathEnclosesUptoRow : OpenClaim := { program := "ytmdledlbkdcmnaa", sum := "6a8ca4628a6d458e105fdb83abaa7b7da60721f230e794016a13744b5ad3d9ba", func := "scorebook/scorebooklaw33.PathEncloses", spec := "pathEncloses", apart := false, narrowed := true }
def PathEnclosesUptoSaid : Prop := pathEnclosesUptoRow.holds Try.pinned (OpenSpec.upto pathEnclosesSpec)

/-- 'scorebooklaw33.PathAttained', WHERE WHAT IT READS IS OF BULK AT MOST 1048576: true; the input reads as it did. -/
def pathAttainedUptoRow : OpenClaim := { program := "ytmdledlbkdcmnaa", sum := "6a8ca4628a6d458e105fdb83abaa7b7da60721f230e794016a13744b5ad3d9ba", func := "scorebook/scorebooklaw33.PathAttained", spec := "pathAttained", apart := false, narrowed := true }
def PathAttainedUptoSaid : Prop := pathAttainedUptoRow.holds Try.pinned (OpenSpec.upto pathAttainedSpec)

/-- 'scorebooklaw33.PathPlaces', WHERE WHAT IT READS IS OF BULK AT MOST 1048576: true; the input reads as it did. -/
def pathPlacesUptoRow : OpenClaim := { program := "ytmdledlbkdcmnaa", sum := "6a8ca4628a6d458e105fdb83abaa7b7da60721f230e794016a13744b5ad3d9ba", func := "scorebook/scorebooklaw33.PathPlaces", spec := "pathPlaces", apart := false, narrowed := true }
def PathPlacesUptoSaid : Prop := pathPlacesUptoRow.holds Try.pinned (OpenSpec.upto pathPlacesSpec)

/-- 'scorebooklaw33.PathCrosses', WHERE WHAT IT READS IS OF BULK AT MOST 1048576: true; the input reads as it did. -/
def pathCrossesUptoRow : OpenClaim := { program := "ytmdledlbkdcmnaa", sum := "6a8ca4628a6d458e105fdb83abaa7b7da60721f230e794016a13744b5ad3d9ba", func := "scorebook/scorebooklaw33.PathCrosses", spec := "pathCrosses", apart := false, narrowed := true }
def PathCrossesUptoSaid : Prop := pathCrossesUptoRow.holds Try.pinned (OpenSpec.upto pathCrossesSpec)

/-- 'scorebooklaw33.PathCrossed', WHERE WHAT IT READS IS OF BULK AT MOST 1048576: true; the input reads as it did. -/
def pathCrossedUptoRow : OpenClaim := { program := "ytmdledlbkdcmnaa", sum := "6a8ca4628a6d458e105fdb83abaa7b7da60721f230e794016a13744b5ad3d9ba", func := "scorebook/scorebooklaw33.PathCrossed", spec := "pathCrossed", inPlace := ["math/bits.Add64", "math/bits.Sub64"], apart := false, narrowed := true }
def PathCrossedUptoSaid : Prop := pathCrossedUptoRow.holds Try.pinned (OpenSpec.upto pathCrossedSpec)

/-- 'scorebooklaw35.LbwDecides', WHERE WHAT IT READS IS OF BULK AT MOST 1048576: true; the input reads as it did. -/
def lbwDecidesUptoRow : OpenClaim := { program := "ytmdledlbkdcmnaa", sum := "6a8ca4628a6d458e105fdb83abaa7b7da60721f230e794016a13744b5ad3d9ba", func := "scorebook/scorebooklaw35.LbwDecides", spec := "lbwDecides", inPlace := ["math/bits.Sub64", "math/bits.Add64"], apart := false, narrowed := true }
def LbwDecidesUptoSaid : Prop := lbwDecidesUptoRow.holds Try.pinned (OpenSpec.upto lbwDecidesSpec)

/-- 'scorebooklaw35.LbwExcuses', WHERE WHAT IT READS IS OF BULK AT MOST 1048576: true; the input reads as it did. -/
def lbwExcusesUptoRow : OpenClaim := { program := "ytmdledlbkdcmnaa", sum := "6a8ca4628a6d458e105fdb83abaa7b7da60721f230e794016a13744b5ad3d9ba", func := "scorebook/scorebooklaw35.LbwExcuses", spec := "lbwExcuses", inPlace := ["math/bits.Sub64", "math/bits.Add64"], apart := false, narrowed := true }
def LbwExcusesUptoSaid : Prop := lbwExcusesUptoRow.holds Try.pinned (OpenSpec.upto lbwExcusesSpec)

/-- 'scorebooklaw35.LbwSurer', WHERE WHAT IT READS IS OF BULK AT MOST 1048576: true; the input reads as it did. -/
def lbwSurerUptoRow : OpenClaim := { program := "ytmdledlbkdcmnaa", sum := "6a8ca4628a6d458e105fdb83abaa7b7da60721f230e794016a13744b5ad3d9ba", func := "scorebook/scorebooklaw35.LbwSurer", spec := "lbwSurer", inPlace := ["math/bits.Sub64", "math/bits.Add64"], apart := false, narrowed := true }
def LbwSurerUptoSaid : Prop := lbwSurerUptoRow.holds Try.pinned (OpenSpec.upto lbwSurerSpec)

/-- 'scorebooklaw35.LbwMirrors', WHERE WHAT IT READS IS OF BULK AT MOST 1048576: true; the input reads as it did. -/
def lbwMirrorsUptoRow : OpenClaim := { program := "ytmdledlbkdcmnaa", sum := "6a8ca4628a6d458e105fdb83abaa7b7da60721f230e794016a13744b5ad3d9ba", func := "scorebook/scorebooklaw35.LbwMirrors", spec := "lbwMirrors", inPlace := ["math/bits.Sub64", "math/bits.Add64"], apart := false, narrowed := true }
def LbwMirrorsUptoSaid : Prop := lbwMirrorsUptoRow.holds Try.pinned (OpenSpec.upto lbwMirrorsSpec)

end Rows
end Go.Proofs.Ytmdledlbkdcmnaa
