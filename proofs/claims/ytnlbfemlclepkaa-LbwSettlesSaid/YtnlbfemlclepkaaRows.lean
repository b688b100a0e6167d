/-
  No cell of these rows narrows 'for every input' (looked for: loops, veiled, ifaces, maps, wideKeys, modest, calm, conditions, laid).
  DERIVED. THE GIVEN ROWS OF THIS SEAT. 10 by the template 'for every input the law returns true; each argument reads behind the call as it read before'; 0 by the template 'total and deterministic' (their statements: YtnlbfemlclepkaaTotals.lean).
  GIVEN WITH THE SEED: the statements are not yours to turn. If you find one false, say at which input.
  Laid BY PROGRAM, IN A SANDBOX (cutbox-rows.mjs): the forced cells as the released guide's own fill.sh prints them over the translation 9c5b85d5cc60b8de… (all of the seat's roots in one cut). By AI agents, Wed Nov 11 2026. No macro, syntax, notation, axiom, sorry.
-/
import Derived.Test.YtnlbfemlclepkaaChecked
import GoSem.Claim
import GoSem.ClaimJoined
import GoSem.ClaimMapViews
import Derived.JoinedTies
import Derived.KernelRfl
namespace Go.Proofs.Ytnlbfemlclepkaa
/- THE CELL 'sum', in the pinned program and in every row, IS THE sha256 OF THE DUMP (.gsa) THAT YtnlbfemlclepkaaProg.lean LOADS. Nothing in Lean hashes anything: it is a label: what it is worth is what the hold of that sum in a sandbox is worth. -/
noncomputable def Try.pinned : Pinned := { name := "ytnlbfemlclepkaa", sum := "9c5b85d5cc60b8de5b480385f88682081962e5b1ca04ed713544da900df6cbba", checked := Try.checked }
namespace Rows
def none {H : Type} : Left H := { results := [], args := [] }

/-- 'scorebooklaw35.LbwRules': WHATEVER THE INPUT: true; the input reads as it did. -/
def lbwRulesSpec : ChangeSpec := { name := "lbwRules", fn := fun _ => fun
  | [d1, d2, d3] => { results := [.lit (.bool true)], args := [d1, d2, d3] }
  | _ => none }
def lbwRulesRow : OpenClaim := { program := "ytnlbfemlclepkaa", sum := "9c5b85d5cc60b8de5b480385f88682081962e5b1ca04ed713544da900df6cbba", func := "scorebook/scorebooklaw35.LbwRules", spec := "lbwRules", apart := false }
def LbwRulesSaid : Prop := lbwRulesRow.holds Try.pinned (OpenSpec.ofChange lbwRulesSpec)

/-- ITS FALSE NEIGHBOUR: 'it returns false'. Refute it at one input. -/
def lbwRulesWrong : ChangeSpec := { name := "lbwRules", fn := fun _ => fun
  | [d1, d2, d3] => { results := [.lit (.bool false)], args := [d1, d2, d3] }
  | _ => none }
def LbwRulesWrongFalsely : Prop := lbwRulesRow.holds Try.pinned (OpenSpec.ofChange lbwRulesWrong)

/-- 'scorebooklaw35.LbwSettles': WHATEVER THE INPUT: true; the input reads as it did. -/
def lbwSettlesSpec : ChangeSpec := { name := "lbwSettles", fn := fun _ => fun
  | [d1, d2] => { results := [.lit (.bool true)], args := [d1, d2] }
  | _ => none }
def lbwSettlesRow : OpenClaim := { program := "ytnlbfemlclepkaa", sum := "9c5b85d5cc60b8de5b480385f88682081962e5b1ca04ed713544da900df6cbba", func := "scorebook/scorebooklaw35.LbwSettles", spec := "lbwSettles", apart := false }
def LbwSettlesSaid : Prop := lbwSettlesRow.holds Try.pinned (OpenSpec.ofChange lbwSettlesSpec)

/-- ITS FALSE NEIGHBOUR: 'it returns false'. Refute it at one input. -/
def lbwSettlesWrong : ChangeSpec := { name := "lbwSettles", fn := fun _ => fun
  | [d1, d2] => { results := [.lit (.bool false)], args := [d1, d2] }
  | _ => none }
def LbwSettlesWrongFalsely : Prop := lbwSettlesRow.holds Try.pinned (OpenSpec.ofChange lbwSettlesWrong)

/-- 'scorebooklaw35.LbwTexts': WHATEVER THE INPUT: true; the input reads as it did. -/
def lbwTextsSpec : ChangeSpec := { name := "lbwTexts", fn := fun _ => fun
  | [d] => { results := [.lit (.bool true)], args := [d] }
  | _ => none }
def lbwTextsRow : OpenClaim := { program := "ytnlbfemlclepkaa", sum := "9c5b85d5cc60b8de5b480385f88682081962e5b1ca04ed713544da900df6cbba", func := "scorebook/scorebooklaw35.LbwTexts", spec := "lbwTexts", apart := false }
def LbwTextsSaid : Prop := lbwTextsRow.holds Try.pinned (OpenSpec.ofChange lbwTextsSpec)

/-- ITS FALSE NEIGHBOUR: 'it returns false'. Refute it at one input. -/
def lbwTextsWrong : ChangeSpec := { name := "lbwTexts", fn := fun _ => fun
  | [d] => { results := [.lit (.bool false)], args := [d] }
  | _ => none }
def LbwTextsWrongFalsely : Prop := lbwTextsRow.holds Try.pinned (OpenSpec.ofChange lbwTextsWrong)

/-- 'scorebooklaw34.ZonesWickets': WHATEVER THE INPUT: true; the input reads as it did. -/
def zonesWicketsSpec : ChangeSpec := { name := "zonesWickets", fn := fun _ => fun
  | [d1, d2, d3] => { results := [.lit (.bool true)], args := [d1, d2, d3] }
  | _ => none }
def zonesWicketsRow : OpenClaim := { program := "ytnlbfemlclepkaa", sum := "9c5b85d5cc60b8de5b480385f88682081962e5b1ca04ed713544da900df6cbba", func := "scorebook/scorebooklaw34.ZonesWickets", spec := "zonesWickets", apart := false }
def ZonesWicketsSaid : Prop := zonesWicketsRow.holds Try.pinned (OpenSpec.ofChange zonesWicketsSpec)

/-- ITS FALSE NEIGHBOUR: 'it returns false'. Refute it at one input. -/
def zonesWicketsWrong : ChangeSpec := { name := "zonesWickets", fn := fun _ => fun
  | [d1, d2, d3] => { results := [.lit (.bool false)], args := [d1, d2, d3] }
  | _ => none }
def ZonesWicketsWrongFalsely : Prop := zonesWicketsRow.holds Try.pinned (OpenSpec.ofChange zonesWicketsWrong)

/-- 'scorebooklaw34.ZonesMargins': WHATEVER THE INPUT: true; the input reads as it did. -/
def zonesMarginsSpec : ChangeSpec := { name := "zonesMargins", fn := fun _ => fun
  | [d1, d2, d3] => { results := [.lit (.bool true)], args := [d1, d2, d3] }
  | _ => none }
def zonesMarginsRow : OpenClaim := { program := "ytnlbfemlclepkaa", sum := "9c5b85d5cc60b8de5b480385f88682081962e5b1ca04ed713544da900df6cbba", func := "scorebook/scorebooklaw34.ZonesMargins", spec := "zonesMargins", apart := false }
def ZonesMarginsSaid : Prop := zonesMarginsRow.holds Try.pinned (OpenSpec.ofChange zonesMarginsSpec)

/-- ITS FALSE NEIGHBOUR: 'it returns false'. Refute it at one input. -/
def zonesMarginsWrong : ChangeSpec := { name := "zonesMargins", fn := fun _ => fun
  | [d1, d2, d3] => { results := [.lit (.bool false)], args := [d1, d2, d3] }
  | _ => none }
def ZonesMarginsWrongFalsely : Prop := zonesMarginsRow.holds Try.pinned (OpenSpec.ofChange zonesMarginsWrong)

/-- 'scorebooklaw34.ZonesNames': WHATEVER THE INPUT: true; the input reads as it did. -/
def zonesNamesSpec : ChangeSpec := { name := "zonesNames", fn := fun _ => fun
  | [d] => { results := [.lit (.bool true)], args := [d] }
  | _ => none }
def zonesNamesRow : OpenClaim := { program := "ytnlbfemlclepkaa", sum := "9c5b85d5cc60b8de5b480385f88682081962e5b1ca04ed713544da900df6cbba", func := "scorebook/scorebooklaw34.ZonesNames", spec := "zonesNames", apart := false }
def ZonesNamesSaid : Prop := zonesNamesRow.holds Try.pinned (OpenSpec.ofChange zonesNamesSpec)

/-- ITS FALSE NEIGHBOUR: 'it returns false'. Refute it at one input. -/
def zonesNamesWrong : ChangeSpec := { name := "zonesNames", fn := fun _ => fun
  | [d] => { results := [.lit (.bool false)], args := [d] }
  | _ => none }
def ZonesNamesWrongFalsely : Prop := zonesNamesRow.holds Try.pinned (OpenSpec.ofChange zonesNamesWrong)

/-- 'scorebooklaw34.ZonesAnswers': WHATEVER THE INPUT: true; the input reads as it did. -/
def zonesAnswersSpec : ChangeSpec := { name := "zonesAnswers", fn := fun _ => fun
  | [d1, d2] => { results := [.lit (.bool true)], args := [d1, d2] }
  | _ => none }
def zonesAnswersRow : OpenClaim := { program := "ytnlbfemlclepkaa", sum := "9c5b85d5cc60b8de5b480385f88682081962e5b1ca04ed713544da900df6cbba", func := "scorebook/scorebooklaw34.ZonesAnswers", spec := "zonesAnswers", apart := false }
def ZonesAnswersSaid : Prop := zonesAnswersRow.holds Try.pinned (OpenSpec.ofChange zonesAnswersSpec)

/-- ITS FALSE NEIGHBOUR: 'it returns false'. Refute it at one input. -/
def zonesAnswersWrong : ChangeSpec := { name := "zonesAnswers", fn := fun _ => fun
  | [d1, d2] => { results := [.lit (.bool false)], args := [d1, d2] }
  | _ => none }
def ZonesAnswersWrongFalsely : Prop := zonesAnswersRow.holds Try.pinned (OpenSpec.ofChange zonesAnswersWrong)

/-- 'scorebooklaw34.ZonesParts': WHATEVER THE INPUT: true; the input reads as it did. -/
def zonesPartsSpec : ChangeSpec := { name := "zonesParts", fn := fun _ => fun
  | [d] => { results := [.lit (.bool true)], args := [d] }
  | _ => none }
def zonesPartsRow : OpenClaim := { program := "ytnlbfemlclepkaa", sum := "9c5b85d5cc60b8de5b480385f88682081962e5b1ca04ed713544da900df6cbba", func := "scorebook/scorebooklaw34.ZonesParts", spec := "zonesParts", apart := false }
def ZonesPartsSaid : Prop := zonesPartsRow.holds Try.pinned (OpenSpec.ofChange zonesPartsSpec)

/-- ITS FALSE NEIGHBOUR: 'it returns false'. Refute it at one input. -/
def zonesPartsWrong : ChangeSpec := { name := "zonesParts", fn := fun _ => fun
  | [d] => { results := [.lit (.bool false)], args := [d] }
  | _ => none }
def ZonesPartsWrongFalsely : Prop := zonesPartsRow.holds Try.pinned (OpenSpec.ofChange zonesPartsWrong)

/-- 'scorebooklaw34.ZonesSides': WHATEVER THE INPUT: true; the input reads as it did. -/
def zonesSidesSpec : ChangeSpec := { name := "zonesSides", fn := fun _ => fun
  | [d1, d2] => { results := [.lit (.bool true)], args := [d1, d2] }
  | _ => none }
def zonesSidesRow : OpenClaim := { program := "ytnlbfemlclepkaa", sum := "9c5b85d5cc60b8de5b480385f88682081962e5b1ca04ed713544da900df6cbba", func := "scorebook/scorebooklaw34.ZonesSides", spec := "zonesSides", apart := false }
def ZonesSidesSaid : Prop := zonesSidesRow.holds Try.pinned (OpenSpec.ofChange zonesSidesSpec)

/-- ITS FALSE NEIGHBOUR: 'it returns false'. Refute it at one input. -/
def zonesSidesWrong : ChangeSpec := { name := "zonesSides", fn := fun _ => fun
  | [d1, d2] => { results := [.lit (.bool false)], args := [d1, d2] }
  | _ => none }
def ZonesSidesWrongFalsely : Prop := zonesSidesRow.holds Try.pinned (OpenSpec.ofChange zonesSidesWrong)

/-- 'scorebooklaw34.ZonesSmaller': WHATEVER THE INPUT: true; the input reads as it did. -/
def zonesSmallerSpec : ChangeSpec := { name := "zonesSmaller", fn := fun _ => fun
  | [d1, d2, d3] => { results := [.lit (.bool true)], args := [d1, d2, d3] }
  | _ => none }
def zonesSmallerRow : OpenClaim := { program := "ytnlbfemlclepkaa", sum := "9c5b85d5cc60b8de5b480385f88682081962e5b1ca04ed713544da900df6cbba", func := "scorebook/scorebooklaw34.ZonesSmaller", spec := "zonesSmaller", apart := false }
def ZonesSmallerSaid : Prop := zonesSmallerRow.holds Try.pinned (OpenSpec.ofChange zonesSmallerSpec)

/-- ITS FALSE NEIGHBOUR: 'it returns false'. Refute it at one input. -/
def zonesSmallerWrong : ChangeSpec := { name := "zonesSmaller", fn := fun _ => fun
  | [d1, d2, d3] => { results := [.lit (.bool false)], args := [d1, d2, d3] }
  | _ => none }
def ZonesSmallerWrongFalsely : Prop := zonesSmallerRow.holds Try.pinned (OpenSpec.ofChange zonesSmallerWrong)

/- THE SECOND FORM. 'bulk': how many values and letters a reading holds, each counted each time it is reached (what is shared counts as often as it is met; a slice's spare places count too). A statement '..UptoSaid' is the law's where the arguments, and the package variables that the reading takes, are together of bulk at most 1048576: NARROWER than '..Said'. Prove '..Said' where nothing that the law and all that it calls make is longer than what came in: it says more and counts as full. Else prove '..UptoSaid'. A law counts once. -/
mutual
def uptoBulk {H : Type} : DataW H → Nat
  | .lit (.string bytes) => bytes.length + 1
  | .lit _ => 1
  | .nil => 1
  | .ptr d => uptoBulk d + 1
  | .slice elems spare => uptoBulkAll elems + uptoBulkAll spare + 1
  | .agg parts => uptoBulkAll parts + 1
  | .iface _ d => uptoBulk d + 1
  | .map entries => uptoBulkEntries entries + 1
  | .held _ => 1
def uptoBulkAll {H : Type} : List (DataW H) → Nat
  | [] => 0
  | d :: r => uptoBulk d + uptoBulkAll r
def uptoBulkEntries {H : Type} : List (Lit × DataW H) → Nat
  | [] => 0
  | x :: r => uptoBulkEntry x + uptoBulkEntries r
def uptoBulkEntry {H : Type} : Lit × DataW H → Nat
  | (.string bytes, d) => bytes.length + uptoBulk d + 1
  | (_, d) => uptoBulk d + 1
 end
def uptoSmall : (H : Type) → List (DataW H) → Bool := fun _ ds => decide (uptoBulkAll ds ≤ 1048576)
def OpenSpec.upto (s : _root_.Go.ChangeSpec) : _root_.Go.OpenSpec := { _root_.Go.OpenSpec.ofChange s with cond := some uptoSmall }

/-- 'scorebooklaw35.LbwRules', WHERE WHAT IT READS IS OF BULK AT MOST 1048576: true; the input reads as it did. -/
def lbwRulesUptoRow : OpenClaim := { program := "ytnlbfemlclepkaa", sum := "9c5b85d5cc60b8de5b480385f88682081962e5b1ca04ed713544da900df6cbba", func := "scorebook/scorebooklaw35.LbwRules", spec := "lbwRules", apart := false, narrowed := true }
def LbwRulesUptoSaid : Prop := lbwRulesUptoRow.holds Try.pinned (OpenSpec.upto lbwRulesSpec)

/-- 'scorebooklaw35.LbwSettles', WHERE WHAT IT READS IS OF BULK AT MOST 1048576: true; the input reads as it did. -/
def lbwSettlesUptoRow : OpenClaim := { program := "ytnlbfemlclepkaa", sum := "9c5b85d5cc60b8de5b480385f88682081962e5b1ca04ed713544da900df6cbba", func := "scorebook/scorebooklaw35.LbwSettles", spec := "lbwSettles", apart := false, narrowed := true }
def LbwSettlesUptoSaid : Prop := lbwSettlesUptoRow.holds Try.pinned (OpenSpec.upto lbwSettlesSpec)

/-- 'scorebooklaw35.LbwTexts', WHERE WHAT IT READS IS OF BULK AT MOST 1048576: true; the input reads as it did. -/
def lbwTextsUptoRow : OpenClaim := { program := "ytnlbfemlclepkaa", sum := "9c5b85d5cc60b8de5b480385f88682081962e5b1ca04ed713544da900df6cbba", func := "scorebook/scorebooklaw35.LbwTexts", spec := "lbwTexts", apart := false, narrowed := true }
def LbwTextsUptoSaid : Prop := lbwTextsUptoRow.holds Try.pinned (OpenSpec.upto lbwTextsSpec)

/-- 'scorebooklaw34.ZonesWickets', WHERE WHAT IT READS IS OF BULK AT MOST 1048576: true; the input reads as it did. -/
def zonesWicketsUptoRow : OpenClaim := { program := "ytnlbfemlclepkaa", sum := "9c5b85d5cc60b8de5b480385f88682081962e5b1ca04ed713544da900df6cbba", func := "scorebook/scorebooklaw34.ZonesWickets", spec := "zonesWickets", apart := false, narrowed := true }
def ZonesWicketsUptoSaid : Prop := zonesWicketsUptoRow.holds Try.pinned (OpenSpec.upto zonesWicketsSpec)

/-- 'scorebooklaw34.ZonesMargins', WHERE WHAT IT READS IS OF BULK AT MOST 1048576: true; the input reads as it did. -/
def zonesMarginsUptoRow : OpenClaim := { program := "ytnlbfemlclepkaa", sum := "9c5b85d5cc60b8de5b480385f88682081962e5b1ca04ed713544da900df6cbba", func := "scorebook/scorebooklaw34.ZonesMargins", spec := "zonesMargins", apart := false, narrowed := true }
def ZonesMarginsUptoSaid : Prop := zonesMarginsUptoRow.holds Try.pinned (OpenSpec.upto zonesMarginsSpec)

/-- 'scorebooklaw34.ZonesNames', WHERE WHAT IT READS IS OF BULK AT MOST 1048576: true; the input reads as it did. -/
def zonesNamesUptoRow : OpenClaim := { program := "ytnlbfemlclepkaa", sum := "9c5b85d5cc60b8de5b480385f88682081962e5b1ca04ed713544da900df6cbba", func := "scorebook/scorebooklaw34.ZonesNames", spec := "zonesNames", apart := false, narrowed := true }
def ZonesNamesUptoSaid : Prop := zonesNamesUptoRow.holds Try.pinned (OpenSpec.upto zonesNamesSpec)

/-- 'scorebooklaw34.ZonesAnswers', WHERE WHAT IT READS IS OF BULK AT MOST 1048576: true; the input reads as it did. -/
def zonesAnswersUptoRow : OpenClaim := { program := "ytnlbfemlclepkaa", sum := "9c5b85d5cc60b8de5b480385f88682081962e5b1ca04ed713544da900df6cbba", func := "scorebook/scorebooklaw34.ZonesAnswers", spec := "zonesAnswers", apart := false, narrowed := true }
def ZonesAnswersUptoSaid : Prop := zonesAnswersUptoRow.holds Try.pinned (OpenSpec.upto zonesAnswersSpec)

/-- 'scorebooklaw34.ZonesParts', WHERE WHAT IT READS IS OF BULK AT MOST 1048576: true; the input reads as it did. -/
def zonesPartsUptoRow : OpenClaim := { program := "ytnlbfemlclepkaa", sum := "9c5b85d5cc60b8de5b480385f88682081962e5b1ca04ed713544da900df6cbba", func := "scorebook/scorebooklaw34.ZonesParts", spec := "zonesParts", apart := false, narrowed := true }
def ZonesPartsUptoSaid : Prop := zonesPartsUptoRow.holds Try.pinned (OpenSpec.upto zonesPartsSpec)

/-- 'scorebooklaw34.ZonesSides', WHERE WHAT IT READS IS OF BULK AT MOST 1048576: true; the input reads as it did. -/
def zonesSidesUptoRow : OpenClaim := { program := "ytnlbfemlclepkaa", sum := "9c5b85d5cc60b8de5b480385f88682081962e5b1ca04ed713544da900df6cbba", func := "scorebook/scorebooklaw34.ZonesSides", spec := "zonesSides", apart := false, narrowed := true }
def ZonesSidesUptoSaid : Prop := zonesSidesUptoRow.holds Try.pinned (OpenSpec.upto zonesSidesSpec)

/-- 'scorebooklaw34.ZonesSmaller', WHERE WHAT IT READS IS OF BULK AT MOST 1048576: true; the input reads as it did. -/
def zonesSmallerUptoRow : OpenClaim := { program := "ytnlbfemlclepkaa", sum := "9c5b85d5cc60b8de5b480385f88682081962e5b1ca04ed713544da900df6cbba", func := "scorebook/scorebooklaw34.ZonesSmaller", spec := "zonesSmaller", apart := false, narrowed := true }
def ZonesSmallerUptoSaid : Prop := zonesSmallerUptoRow.holds Try.pinned (OpenSpec.upto zonesSmallerSpec)

end Rows
end Go.Proofs.Ytnlbfemlclepkaa
