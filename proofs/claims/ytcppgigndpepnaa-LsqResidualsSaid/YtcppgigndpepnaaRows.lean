/-
  No cell of these rows narrows 'for every input' (looked for: loops, veiled, ifaces, maps, wideKeys, modest, calm, conditions, laid).
  DERIVED. THE GIVEN ROWS OF THIS SEAT. 14 by the template 'for every input the law returns true; each argument reads behind the call as it read before'; 0 by the template 'total and deterministic' (their statements: YtcppgigndpepnaaTotals.lean).
  GIVEN WITH THE SEED: the statements are not yours to turn. If you find one false, say at which input.
  Laid BY PROGRAM, IN A SANDBOX (cutbox-rows.mjs): the forced cells as the released guide's own fill.sh prints them over the translation 5540fabe70864c2d… (all of the seat's roots in one cut). By AI agents, Wed Nov 11 2026. No macro, syntax, notation, axiom, sorry.
-/
import Derived.Test.YtcppgigndpepnaaChecked
import GoSem.Claim
import GoSem.ClaimJoined
import GoSem.ClaimMapViews
import Derived.JoinedTies
import Derived.KernelRfl
namespace Go.Proofs.Ytcppgigndpepnaa
/- THE CELL 'sum', in the pinned program and in every row, IS THE sha256 OF THE DUMP (.gsa) THAT YtcppgigndpepnaaProg.lean LOADS. Nothing in Lean hashes anything: it is a label: what it is worth is what the hold of that sum in a sandbox is worth. -/
noncomputable def Try.pinned : Pinned := { name := "ytcppgigndpepnaa", sum := "5540fabe70864c2d3d129b80d84bb76e49f457b2db7604bfb4910d8d24449be2", checked := Try.checked }
namespace Rows
def none {H : Type} : Left H := { results := [], args := [] }

/-- 'scorebooklaw30.LsqSolves': WHATEVER THE INPUT: true; the input reads as it did. -/
def lsqSolvesSpec : ChangeSpec := { name := "lsqSolves", fn := fun _ => fun
  | [d1, d2] => { results := [.lit (.bool true)], args := [d1, d2] }
  | _ => none }
def lsqSolvesRow : OpenClaim := { program := "ytcppgigndpepnaa", sum := "5540fabe70864c2d3d129b80d84bb76e49f457b2db7604bfb4910d8d24449be2", func := "scorebook/scorebooklaw30.LsqSolves", spec := "lsqSolves", apart := false }
def LsqSolvesSaid : Prop := lsqSolvesRow.holds Try.pinned (OpenSpec.ofChange lsqSolvesSpec)

/-- ITS FALSE NEIGHBOUR: 'it returns false'. Refute it at one input. -/
def lsqSolvesWrong : ChangeSpec := { name := "lsqSolves", fn := fun _ => fun
  | [d1, d2] => { results := [.lit (.bool false)], args := [d1, d2] }
  | _ => none }
def LsqSolvesWrongFalsely : Prop := lsqSolvesRow.holds Try.pinned (OpenSpec.ofChange lsqSolvesWrong)

/-- 'scorebooklaw30.LsqLines': WHATEVER THE INPUT: true; the input reads as it did. -/
def lsqLinesSpec : ChangeSpec := { name := "lsqLines", fn := fun _ => fun
  | [d] => { results := [.lit (.bool true)], args := [d] }
  | _ => none }
def lsqLinesRow : OpenClaim := { program := "ytcppgigndpepnaa", sum := "5540fabe70864c2d3d129b80d84bb76e49f457b2db7604bfb4910d8d24449be2", func := "scorebook/scorebooklaw30.LsqLines", spec := "lsqLines", apart := false }
def LsqLinesSaid : Prop := lsqLinesRow.holds Try.pinned (OpenSpec.ofChange lsqLinesSpec)

/-- ITS FALSE NEIGHBOUR: 'it returns false'. Refute it at one input. -/
def lsqLinesWrong : ChangeSpec := { name := "lsqLines", fn := fun _ => fun
  | [d] => { results := [.lit (.bool false)], args := [d] }
  | _ => none }
def LsqLinesWrongFalsely : Prop := lsqLinesRow.holds Try.pinned (OpenSpec.ofChange lsqLinesWrong)

/-- 'scorebooklaw30.LsqValues': WHATEVER THE INPUT: true; the input reads as it did. -/
def lsqValuesSpec : ChangeSpec := { name := "lsqValues", fn := fun _ => fun
  | [d1, d2] => { results := [.lit (.bool true)], args := [d1, d2] }
  | _ => none }
def lsqValuesRow : OpenClaim := { program := "ytcppgigndpepnaa", sum := "5540fabe70864c2d3d129b80d84bb76e49f457b2db7604bfb4910d8d24449be2", func := "scorebook/scorebooklaw30.LsqValues", spec := "lsqValues", apart := false }
def LsqValuesSaid : Prop := lsqValuesRow.holds Try.pinned (OpenSpec.ofChange lsqValuesSpec)

/-- ITS FALSE NEIGHBOUR: 'it returns false'. Refute it at one input. -/
def lsqValuesWrong : ChangeSpec := { name := "lsqValues", fn := fun _ => fun
  | [d1, d2] => { results := [.lit (.bool false)], args := [d1, d2] }
  | _ => none }
def LsqValuesWrongFalsely : Prop := lsqValuesRow.holds Try.pinned (OpenSpec.ofChange lsqValuesWrong)

/-- 'scorebooklaw32.FlightRaises': WHATEVER THE INPUT: true; the input reads as it did. -/
def flightRaisesSpec : ChangeSpec := { name := "flightRaises", fn := fun _ => fun
  | [d1, d2] => { results := [.lit (.bool true)], args := [d1, d2] }
  | _ => none }
def flightRaisesRow : OpenClaim := { program := "ytcppgigndpepnaa", sum := "5540fabe70864c2d3d129b80d84bb76e49f457b2db7604bfb4910d8d24449be2", func := "scorebook/scorebooklaw32.FlightRaises", spec := "flightRaises", apart := false }
def FlightRaisesSaid : Prop := flightRaisesRow.holds Try.pinned (OpenSpec.ofChange flightRaisesSpec)

/-- ITS FALSE NEIGHBOUR: 'it returns false'. Refute it at one input. -/
def flightRaisesWrong : ChangeSpec := { name := "flightRaises", fn := fun _ => fun
  | [d1, d2] => { results := [.lit (.bool false)], args := [d1, d2] }
  | _ => none }
def FlightRaisesWrongFalsely : Prop := flightRaisesRow.holds Try.pinned (OpenSpec.ofChange flightRaisesWrong)

/-- 'scorebooklaw32.FlightFits': WHATEVER THE INPUT: true; the input reads as it did. -/
def flightFitsSpec : ChangeSpec := { name := "flightFits", fn := fun _ => fun
  | [d] => { results := [.lit (.bool true)], args := [d] }
  | _ => none }
def flightFitsRow : OpenClaim := { program := "ytcppgigndpepnaa", sum := "5540fabe70864c2d3d129b80d84bb76e49f457b2db7604bfb4910d8d24449be2", func := "scorebook/scorebooklaw32.FlightFits", spec := "flightFits", apart := false }
def FlightFitsSaid : Prop := flightFitsRow.holds Try.pinned (OpenSpec.ofChange flightFitsSpec)

/-- ITS FALSE NEIGHBOUR: 'it returns false'. Refute it at one input. -/
def flightFitsWrong : ChangeSpec := { name := "flightFits", fn := fun _ => fun
  | [d] => { results := [.lit (.bool false)], args := [d] }
  | _ => none }
def FlightFitsWrongFalsely : Prop := flightFitsRow.holds Try.pinned (OpenSpec.ofChange flightFitsWrong)

/-- 'scorebooklaw32.FlightPlaces': WHATEVER THE INPUT: true; the input reads as it did. -/
def flightPlacesSpec : ChangeSpec := { name := "flightPlaces", fn := fun _ => fun
  | [d1, d2] => { results := [.lit (.bool true)], args := [d1, d2] }
  | _ => none }
def flightPlacesRow : OpenClaim := { program := "ytcppgigndpepnaa", sum := "5540fabe70864c2d3d129b80d84bb76e49f457b2db7604bfb4910d8d24449be2", func := "scorebook/scorebooklaw32.FlightPlaces", spec := "flightPlaces", apart := false }
def FlightPlacesSaid : Prop := flightPlacesRow.holds Try.pinned (OpenSpec.ofChange flightPlacesSpec)

/-- ITS FALSE NEIGHBOUR: 'it returns false'. Refute it at one input. -/
def flightPlacesWrong : ChangeSpec := { name := "flightPlaces", fn := fun _ => fun
  | [d1, d2] => { results := [.lit (.bool false)], args := [d1, d2] }
  | _ => none }
def FlightPlacesWrongFalsely : Prop := flightPlacesRow.holds Try.pinned (OpenSpec.ofChange flightPlacesWrong)

/-- 'scorebooklaw32.FlightMirrors': WHATEVER THE INPUT: true; the input reads as it did. -/
def flightMirrorsSpec : ChangeSpec := { name := "flightMirrors", fn := fun _ => fun
  | [d] => { results := [.lit (.bool true)], args := [d] }
  | _ => none }
def flightMirrorsRow : OpenClaim := { program := "ytcppgigndpepnaa", sum := "5540fabe70864c2d3d129b80d84bb76e49f457b2db7604bfb4910d8d24449be2", func := "scorebook/scorebooklaw32.FlightMirrors", spec := "flightMirrors", apart := false }
def FlightMirrorsSaid : Prop := flightMirrorsRow.holds Try.pinned (OpenSpec.ofChange flightMirrorsSpec)

/-- ITS FALSE NEIGHBOUR: 'it returns false'. Refute it at one input. -/
def flightMirrorsWrong : ChangeSpec := { name := "flightMirrors", fn := fun _ => fun
  | [d] => { results := [.lit (.bool false)], args := [d] }
  | _ => none }
def FlightMirrorsWrongFalsely : Prop := flightMirrorsRow.holds Try.pinned (OpenSpec.ofChange flightMirrorsWrong)

/-- 'scorebooklaw32.FlightDraws': WHATEVER THE INPUT: true; the input reads as it did. -/
def flightDrawsSpec : ChangeSpec := { name := "flightDraws", fn := fun _ => fun
  | [d1, d2] => { results := [.lit (.bool true)], args := [d1, d2] }
  | _ => none }
def flightDrawsRow : OpenClaim := { program := "ytcppgigndpepnaa", sum := "5540fabe70864c2d3d129b80d84bb76e49f457b2db7604bfb4910d8d24449be2", func := "scorebook/scorebooklaw32.FlightDraws", spec := "flightDraws", apart := false }
def FlightDrawsSaid : Prop := flightDrawsRow.holds Try.pinned (OpenSpec.ofChange flightDrawsSpec)

/-- ITS FALSE NEIGHBOUR: 'it returns false'. Refute it at one input. -/
def flightDrawsWrong : ChangeSpec := { name := "flightDraws", fn := fun _ => fun
  | [d1, d2] => { results := [.lit (.bool false)], args := [d1, d2] }
  | _ => none }
def FlightDrawsWrongFalsely : Prop := flightDrawsRow.holds Try.pinned (OpenSpec.ofChange flightDrawsWrong)

/-- 'scorebooklaw32.FlightDrawn': WHATEVER THE INPUT: true; the input reads as it did. -/
def flightDrawnSpec : ChangeSpec := { name := "flightDrawn", fn := fun _ => fun
  | [d1, d2] => { results := [.lit (.bool true)], args := [d1, d2] }
  | _ => none }
def flightDrawnRow : OpenClaim := { program := "ytcppgigndpepnaa", sum := "5540fabe70864c2d3d129b80d84bb76e49f457b2db7604bfb4910d8d24449be2", func := "scorebook/scorebooklaw32.FlightDrawn", spec := "flightDrawn", apart := false }
def FlightDrawnSaid : Prop := flightDrawnRow.holds Try.pinned (OpenSpec.ofChange flightDrawnSpec)

/-- ITS FALSE NEIGHBOUR: 'it returns false'. Refute it at one input. -/
def flightDrawnWrong : ChangeSpec := { name := "flightDrawn", fn := fun _ => fun
  | [d1, d2] => { results := [.lit (.bool false)], args := [d1, d2] }
  | _ => none }
def FlightDrawnWrongFalsely : Prop := flightDrawnRow.holds Try.pinned (OpenSpec.ofChange flightDrawnWrong)

/-- 'scorebooklaw30.LsqSatisfies': WHATEVER THE INPUT: true; the input reads as it did. -/
def lsqSatisfiesSpec : ChangeSpec := { name := "lsqSatisfies", fn := fun _ => fun
  | [d1, d2] => { results := [.lit (.bool true)], args := [d1, d2] }
  | _ => none }
def lsqSatisfiesRow : OpenClaim := { program := "ytcppgigndpepnaa", sum := "5540fabe70864c2d3d129b80d84bb76e49f457b2db7604bfb4910d8d24449be2", func := "scorebook/scorebooklaw30.LsqSatisfies", spec := "lsqSatisfies", inPlace := ["math/bits.Add64"], apart := false }
def LsqSatisfiesSaid : Prop := lsqSatisfiesRow.holds Try.pinned (OpenSpec.ofChange lsqSatisfiesSpec)

/-- ITS FALSE NEIGHBOUR: 'it returns false'. Refute it at one input. -/
def lsqSatisfiesWrong : ChangeSpec := { name := "lsqSatisfies", fn := fun _ => fun
  | [d1, d2] => { results := [.lit (.bool false)], args := [d1, d2] }
  | _ => none }
def LsqSatisfiesWrongFalsely : Prop := lsqSatisfiesRow.holds Try.pinned (OpenSpec.ofChange lsqSatisfiesWrong)

/-- 'scorebooklaw30.LsqAccepts': WHATEVER THE INPUT: true; the input reads as it did. -/
def lsqAcceptsSpec : ChangeSpec := { name := "lsqAccepts", fn := fun _ => fun
  | [d] => { results := [.lit (.bool true)], args := [d] }
  | _ => none }
def lsqAcceptsRow : OpenClaim := { program := "ytcppgigndpepnaa", sum := "5540fabe70864c2d3d129b80d84bb76e49f457b2db7604bfb4910d8d24449be2", func := "scorebook/scorebooklaw30.LsqAccepts", spec := "lsqAccepts", inPlace := ["math/bits.Add64"], apart := false }
def LsqAcceptsSaid : Prop := lsqAcceptsRow.holds Try.pinned (OpenSpec.ofChange lsqAcceptsSpec)

/-- ITS FALSE NEIGHBOUR: 'it returns false'. Refute it at one input. -/
def lsqAcceptsWrong : ChangeSpec := { name := "lsqAccepts", fn := fun _ => fun
  | [d] => { results := [.lit (.bool false)], args := [d] }
  | _ => none }
def LsqAcceptsWrongFalsely : Prop := lsqAcceptsRow.holds Try.pinned (OpenSpec.ofChange lsqAcceptsWrong)

/-- 'scorebooklaw32.FlightBest': WHATEVER THE INPUT: true; the input reads as it did. -/
def flightBestSpec : ChangeSpec := { name := "flightBest", fn := fun _ => fun
  | [d] => { results := [.lit (.bool true)], args := [d] }
  | _ => none }
def flightBestRow : OpenClaim := { program := "ytcppgigndpepnaa", sum := "5540fabe70864c2d3d129b80d84bb76e49f457b2db7604bfb4910d8d24449be2", func := "scorebook/scorebooklaw32.FlightBest", spec := "flightBest", inPlace := ["math/bits.Add64"], apart := false }
def FlightBestSaid : Prop := flightBestRow.holds Try.pinned (OpenSpec.ofChange flightBestSpec)

/-- ITS FALSE NEIGHBOUR: 'it returns false'. Refute it at one input. -/
def flightBestWrong : ChangeSpec := { name := "flightBest", fn := fun _ => fun
  | [d] => { results := [.lit (.bool false)], args := [d] }
  | _ => none }
def FlightBestWrongFalsely : Prop := flightBestRow.holds Try.pinned (OpenSpec.ofChange flightBestWrong)

/-- 'scorebooklaw30.LsqResiduals': WHATEVER THE INPUT: true; the input reads as it did. -/
def lsqResidualsSpec : ChangeSpec := { name := "lsqResiduals", fn := fun _ => fun
  | [d1, d2] => { results := [.lit (.bool true)], args := [d1, d2] }
  | _ => none }
def lsqResidualsRow : OpenClaim := { program := "ytcppgigndpepnaa", sum := "5540fabe70864c2d3d129b80d84bb76e49f457b2db7604bfb4910d8d24449be2", func := "scorebook/scorebooklaw30.LsqResiduals", spec := "lsqResiduals", inPlace := ["math/bits.Add64"], apart := false }
def LsqResidualsSaid : Prop := lsqResidualsRow.holds Try.pinned (OpenSpec.ofChange lsqResidualsSpec)

/-- ITS FALSE NEIGHBOUR: 'it returns false'. Refute it at one input. -/
def lsqResidualsWrong : ChangeSpec := { name := "lsqResiduals", fn := fun _ => fun
  | [d1, d2] => { results := [.lit (.bool false)], args := [d1, d2] }
  | _ => none }
def LsqResidualsWrongFalsely : Prop := lsqResidualsRow.holds Try.pinned (OpenSpec.ofChange lsqResidualsWrong)

/-- 'scorebooklaw30.LsqLeast': WHATEVER THE INPUT: true; the input reads as it did. -/
def lsqLeastSpec : ChangeSpec := { name := "lsqLeast", fn := fun _ => fun
  | [d1, d2] => { results := [.lit (.bool true)], args := [d1, d2] }
  | _ => none }
def lsqLeastRow : OpenClaim := { program := "ytcppgigndpepnaa", sum := "5540fabe70864c2d3d129b80d84bb76e49f457b2db7604bfb4910d8d24449be2", func := "scorebook/scorebooklaw30.LsqLeast", spec := "lsqLeast", inPlace := ["math/bits.Add64"], apart := false }
def LsqLeastSaid : Prop := lsqLeastRow.holds Try.pinned (OpenSpec.ofChange lsqLeastSpec)

/-- ITS FALSE NEIGHBOUR: 'it returns false'. Refute it at one input. -/
def lsqLeastWrong : ChangeSpec := { name := "lsqLeast", fn := fun _ => fun
  | [d1, d2] => { results := [.lit (.bool false)], args := [d1, d2] }
  | _ => none }
def LsqLeastWrongFalsely : Prop := lsqLeastRow.holds Try.pinned (OpenSpec.ofChange lsqLeastWrong)

/- THE SECOND FORM. 'bulk': how many values and letters a reading holds, each counted each time it is reached (what is shared counts as often as it is met; a slice's spare places count too). A statement '..UptoSaid' is the law's where the arguments, and the package variables that the reading takes, are together of bulk at most 1048576: NARROWER than '..Said'. Prove '..Said' where nothing that the law and all that it calls make is longer than what came in: it says more and counts as full. Else prove '..UptoSaid'. A law counts once. -/
mutual
def uptoBulk {H : Type} : DataW H → Nat
  | .lit (.string bytes) => bytes.length + 1
  | .lit _ => 1
  | .nil => 1
  | .ptr d => uptoBulk d + 1
  | .slice elems spare => uptoBulkAll elems + uptoBulkAll spare + 1
  | .agg parts => uptoBulkAll parts + 1
  | .iface _ d => uptoBulk d + 1
  | .map entries => uptoBulkEntries entries + 1
  | .held _ => 1
def uptoBulkAll {H : Type} : List (DataW H) → Nat
  | [] => 0
  | d :: r => uptoBulk d + uptoBulkAll r
def uptoBulkEntries {H : Type} : List (Lit × DataW H) → Nat
  | [] => 0
  | x :: r => uptoBulkEntry x + uptoBulkEntries r
def uptoBulkEntry {H : Type} : Lit × DataW H → Nat
  | (.string bytes, d) => bytes.length + uptoBulk d + 1
  | (_, d) => uptoBulk d + 1
 end
def uptoSmall : (H : Type) → List (DataW H) → Bool := fun _ ds => decide (uptoBulkAll ds ≤ 1048576)
def OpenSpec.upto (s : _root_.Go.ChangeSpec) : _root_.Go.OpenSpec := { _root_.Go.OpenSpec.ofChange s with cond := some uptoSmall }

/-- 'scorebooklaw30.LsqSolves', WHERE WHAT IT READS IS OF BULK AT MOST 1048576: true; the input reads as it did. -/
def lsqSolvesUptoRow : OpenClaim := { program := "ytcppgigndpepnaa", sum := "5540fabe70864c2d3d129b80d84bb76e49f457b2db7604bfb4910d8d24449be2", func := "scorebook/scorebooklaw30.LsqSolves", spec := "lsqSolves", apart := false, narrowed := true }
def LsqSolvesUptoSaid : Prop := lsqSolvesUptoRow.holds Try.pinned (OpenSpec.upto lsqSolvesSpec)

/-- 'scorebooklaw30.LsqLines', WHERE WHAT IT READS IS OF BULK AT MOST 1048576: true; the input reads as it did. -/
def lsqLinesUptoRow : OpenClaim := { program := "ytcppgigndpepnaa", sum := "5540fabe70864c2d3d129b80d84bb76e49f457b2db7604bfb4910d8d24449be2", func := "scorebook/scorebooklaw30.LsqLines", spec := "lsqLines", apart := false, narrowed := true }
def LsqLinesUptoSaid : Prop := lsqLinesUptoRow.holds Try.pinned (OpenSpec.upto lsqLinesSpec)

/-- 'scorebooklaw30.LsqValues', WHERE WHAT IT READS IS OF BULK AT MOST 1048576: true; the input reads as it did. -/
def lsqValuesUptoRow : OpenClaim := { program := "ytcppgigndpepnaa", sum := "5540fabe70864c2d3d129b80d84bb76e49f457b2db7604bfb4910d8d24449be2", func := "scorebook/scorebooklaw30.LsqValues", spec := "lsqValues", apart := false, narrowed := true }
def LsqValuesUptoSaid : Prop := lsqValuesUptoRow.holds Try.pinned (OpenSpec.upto lsqValuesSpec)

/-- 'scorebooklaw32.FlightRaises', WHERE WHAT IT READS IS OF BULK AT MOST 1048576: true; the input reads as it did. -/
def flightRaisesUptoRow : OpenClaim := { program := "ytcppgigndpepnaa", sum := "5540fabe70864c2d3d129b80d84bb76e49f457b2db7604bfb4910d8d24449be2", func := "scorebook/scorebooklaw32.FlightRaises", spec := "flightRaises", apart := false, narrowed := true }
def FlightRaisesUptoSaid : Prop := flightRaisesUptoRow.holds Try.pinned (OpenSpec.upto flightRaisesSpec)

/-- 'scorebooklaw32.FlightFits', WHERE WHAT IT READS IS OF BULK AT MOST 1048576: true; the input reads as it did. -/
def flightFitsUptoRow : OpenClaim := { program := "ytcppgigndpepnaa", sum := "5540fabe70864c2d3d129b80d84bb76e49f457b2db7604bfb4910d8d24449be2", func := "scorebook/scorebooklaw32.FlightFits", spec := "flightFits", apart := false, narrowed := true }
def FlightFitsUptoSaid : Prop := flightFitsUptoRow.holds Try.pinned (OpenSpec.upto flightFitsSpec)

/-- 'scorebooklaw32.FlightPlaces', WHERE WHAT IT READS IS OF BULK AT MOST 1048576: true; the input reads as it did. -/
def flightPlacesUptoRow : OpenClaim := { program := "ytcppgigndpepnaa", sum := "5540fabe70864c2d3d129b80d84bb76e49f457b2db7604bfb4910d8d24449be2", func := "scorebook/scorebooklaw32.FlightPlaces", spec := "flightPlaces", apart := false, narrowed := true }
def FlightPlacesUptoSaid : Prop := flightPlacesUptoRow.holds Try.pinned (OpenSpec.upto flightPlacesSpec)

/-- 'scorebooklaw32.FlightMirrors', WHERE WHAT IT READS IS OF BULK AT MOST 1048576: true; the input reads as it did. -/
def flightMirrorsUptoRow : OpenClaim := { program := "ytcppgigndpepnaa", sum := "5540fabe70864c2d3d129b80d84bb76e49f457b2db7604bfb4910d8d24449be2", func := "scorebook/scorebooklaw32.FlightMirrors", spec := "flightMirrors", apart := false, narrowed := true }
def FlightMirrorsUptoSaid : Prop := flightMirrorsUptoRow.holds Try.pinned (OpenSpec.upto flightMirrorsSpec)

/-- 'scorebooklaw32.FlightDraws', WHERE WHAT IT READS IS OF BULK AT MOST 1048576: true; the input reads as it did. -/
def flightDrawsUptoRow : OpenClaim := { program := "ytcppgigndpepnaa", sum := "5540fabe70864c2d3d129b80d84bb76e49f457b2db7604bfb4910d8d24449be2", func := "scorebook/scorebooklaw32.FlightDraws", spec := "flightDraws", apart := false, narrowed := true }
def FlightDrawsUptoSaid : Prop := flightDrawsUptoRow.holds Try.pinned (OpenSpec.upto flightDrawsSpec)

/-- 'scorebooklaw32.FlightDrawn', WHERE WHAT IT READS IS OF BULK AT MOST 1048576: true; the input reads as it did. -/
def flightDrawnUptoRow : OpenClaim := { program := "ytcppgigndpepnaa", sum := "5540fabe70864c2d3d129b80d84bb76e49f457b2db7604bfb4910d8d24449be2", func := "scorebook/scorebooklaw32.FlightDrawn", spec := "flightDrawn", apart := false, narrowed := true }
def FlightDrawnUptoSaid : Prop := flightDrawnUptoRow.holds Try.pinned (OpenSpec.upto flightDrawnSpec)

/-- 'scorebooklaw30.LsqSatisfies', WHERE WHAT IT READS IS OF BULK AT MOST 1048576: true; the input reads as it did. -/
def lsqSatisfiesUptoRow : OpenClaim := { program := "ytcppgigndpepnaa", sum := "5540fabe70864c2d3d129b80d84bb76e49f457b2db7604bfb4910d8d24449be2", func := "scorebook/scorebooklaw30.LsqSatisfies", spec := "lsqSatisfies", inPlace := ["math/bits.Add64"], apart := false, narrowed := true }
def LsqSatisfiesUptoSaid : Prop := lsqSatisfiesUptoRow.holds Try.pinned (OpenSpec.upto lsqSatisfiesSpec)

/-- 'scorebooklaw30.LsqAccepts', WHERE WHAT IT READS IS OF BULK AT MOST 1048576: true; the input reads as it did. -/
def lsqAcceptsUptoRow : OpenClaim := { program := "ytcppgigndpepnaa", sum := "5540fabe70864c2d3d129b80d84bb76e49f457b2db7604bfb4910d8d24449be2", func := "scorebook/scorebooklaw30.LsqAccepts", spec := "lsqAccepts", inPlace := ["math/bits.Add64"], apart := false, narrowed := true }
def LsqAcceptsUptoSaid : Prop := lsqAcceptsUptoRow.holds Try.pinned (OpenSpec.upto lsqAcceptsSpec)

/-- 'scorebooklaw32.FlightBest', WHERE WHAT IT READS IS OF BULK AT MOST 1048576: true; the input reads as it did. -/
def flightBestUptoRow : OpenClaim := { program := "ytcppgigndpepnaa", sum := "5540fabe70864c2d3d129b80d84bb76e49f457b2db7604bfb4910d8d24449be2", func := "scorebook/scorebooklaw32.FlightBest", spec := "flightBest", inPlace := ["math/bits.Add64"], apart := false, narrowed := true }
def FlightBestUptoSaid : Prop := flightBestUptoRow.holds Try.pinned (OpenSpec.upto flightBestSpec)

/-- 'scorebooklaw30.LsqResiduals', WHERE WHAT IT READS IS OF BULK AT MOST 1048576: true; the input reads as it did. -/
def lsqResidualsUptoRow : OpenClaim := { program := "ytcppgigndpepnaa", sum := "5540fabe70864c2d3d129b80d84bb76e49f457b2db7604bfb4910d8d24449be2", func := "scorebook/scorebooklaw30.LsqResiduals", spec := "lsqResiduals", inPlace := ["math/bits.Add64"], apart := false, narrowed := true }
def LsqResidualsUptoSaid : Prop := lsqResidualsUptoRow.holds Try.pinned (OpenSpec.upto lsqResidualsSpec)

/-- 'scorebooklaw30.LsqLeast', WHERE WHAT IT READS IS OF BULK AT MOST 1048576: true; the input reads as it did. -/
def lsqLeastUptoRow : OpenClaim := { program := "ytcppgigndpepnaa", sum := "5540fabe70864c2d3d129b80d84bb76e49f457b2db7604bfb4910d8d24449be2", func := "scorebook/scorebooklaw30.LsqLeast", spec := "lsqLeast", inPlace := ["math/bits.Add64"], apart := false, narrowed := true }
def LsqLeastUptoSaid : Prop := lsqLeastUptoRow.holds Try.pinned (OpenSpec.upto lsqLeastSpec)

end Rows
end Go.Proofs.Ytcppgigndpepnaa
