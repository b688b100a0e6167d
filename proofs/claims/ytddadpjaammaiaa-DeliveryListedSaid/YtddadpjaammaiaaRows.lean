/-
  No cell of these rows narrows 'for every input' (looked for: loops, veiled, ifaces, maps, wideKeys, modest, calm, conditions, laid).
  DERIVED. THE GIVEN ROWS OF THIS SEAT. 6 by the template 'for every input the law returns true; each argument reads behind the call as it read before'; 0 by the template 'total and deterministic' (their statements: YtddadpjaammaiaaTotals.lean).
  GIVEN WITH THE SEED: the statements are not yours to turn. If you find one false, say at which input.
  Laid BY PROGRAM, IN A SANDBOX (cutbox-rows.mjs): the forced cells as the released guide's own fill.sh prints them over the translation 17cdb0efc97100b0… (all of the seat's roots in one cut). By AI agents, Wed Nov 11 2026. No macro, syntax, notation, axiom, sorry.
-/
import Derived.Test.YtddadpjaammaiaaChecked
import GoSem.Claim
import GoSem.ClaimJoined
import GoSem.ClaimMapViews
import Derived.JoinedTies
import Derived.KernelRfl
namespace Go.Proofs.Ytddadpjaammaiaa
/- THE CELL 'sum', in the pinned program and in every row, IS THE sha256 OF THE DUMP (.gsa) THAT YtddadpjaammaiaaProg.lean LOADS. Nothing in Lean hashes anything: it is a label: what it is worth is what the hold of that sum in a sandbox is worth. -/
noncomputable def Try.pinned : Pinned := { name := "ytddadpjaammaiaa", sum := "17cdb0efc97100b0acdecd474b104ea2622ba63ef6e3007a366fdef8b887e339", checked := Try.checked }
namespace Rows
def none {H : Type} : Left H := { results := [], args := [] }

/-- 'scorebooklaw09.DeliveryLegal': WHATEVER THE INPUT: true; the input reads as it did. -/
def deliveryLegalSpec : ChangeSpec := { name := "deliveryLegal", fn := fun _ => fun
  | [d] => { results := [.lit (.bool true)], args := [d] }
  | _ => none }
def deliveryLegalRow : OpenClaim := { program := "ytddadpjaammaiaa", sum := "17cdb0efc97100b0acdecd474b104ea2622ba63ef6e3007a366fdef8b887e339", func := "scorebook/scorebooklaw09.DeliveryLegal", spec := "deliveryLegal", apart := false }
def DeliveryLegalSaid : Prop := deliveryLegalRow.holds Try.pinned (OpenSpec.ofChange deliveryLegalSpec)

/-- ITS FALSE NEIGHBOUR: 'it returns false'. Refute it at one input. -/
def deliveryLegalWrong : ChangeSpec := { name := "deliveryLegal", fn := fun _ => fun
  | [d] => { results := [.lit (.bool false)], args := [d] }
  | _ => none }
def DeliveryLegalWrongFalsely : Prop := deliveryLegalRow.holds Try.pinned (OpenSpec.ofChange deliveryLegalWrong)

/-- 'scorebooklaw09.DeliveryAll': WHATEVER THE INPUT: true; the input reads as it did. -/
def deliveryAllSpec : ChangeSpec := { name := "deliveryAll", fn := fun _ => fun
  | [d] => { results := [.lit (.bool true)], args := [d] }
  | _ => none }
def deliveryAllRow : OpenClaim := { program := "ytddadpjaammaiaa", sum := "17cdb0efc97100b0acdecd474b104ea2622ba63ef6e3007a366fdef8b887e339", func := "scorebook/scorebooklaw09.DeliveryAll", spec := "deliveryAll", apart := false }
def DeliveryAllSaid : Prop := deliveryAllRow.holds Try.pinned (OpenSpec.ofChange deliveryAllSpec)

/-- ITS FALSE NEIGHBOUR: 'it returns false'. Refute it at one input. -/
def deliveryAllWrong : ChangeSpec := { name := "deliveryAll", fn := fun _ => fun
  | [d] => { results := [.lit (.bool false)], args := [d] }
  | _ => none }
def DeliveryAllWrongFalsely : Prop := deliveryAllRow.holds Try.pinned (OpenSpec.ofChange deliveryAllWrong)

/-- 'scorebooklaw09.DeliveryListed': WHATEVER THE INPUT: true; the input reads as it did. -/
def deliveryListedSpec : ChangeSpec := { name := "deliveryListed", fn := fun _ => fun
  | [d1, d2] => { results := [.lit (.bool true)], args := [d1, d2] }
  | _ => none }
def deliveryListedRow : OpenClaim := { program := "ytddadpjaammaiaa", sum := "17cdb0efc97100b0acdecd474b104ea2622ba63ef6e3007a366fdef8b887e339", func := "scorebook/scorebooklaw09.DeliveryListed", spec := "deliveryListed", apart := false }
def DeliveryListedSaid : Prop := deliveryListedRow.holds Try.pinned (OpenSpec.ofChange deliveryListedSpec)

/-- ITS FALSE NEIGHBOUR: 'it returns false'. Refute it at one input. -/
def deliveryListedWrong : ChangeSpec := { name := "deliveryListed", fn := fun _ => fun
  | [d1, d2] => { results := [.lit (.bool false)], args := [d1, d2] }
  | _ => none }
def DeliveryListedWrongFalsely : Prop := deliveryListedRow.holds Try.pinned (OpenSpec.ofChange deliveryListedWrong)

/-- 'scorebooklaw09.DeliveryEnds': WHATEVER THE INPUT: true; the input reads as it did. -/
def deliveryEndsSpec : ChangeSpec := { name := "deliveryEnds", fn := fun _ => fun
  | [d] => { results := [.lit (.bool true)], args := [d] }
  | _ => none }
def deliveryEndsRow : OpenClaim := { program := "ytddadpjaammaiaa", sum := "17cdb0efc97100b0acdecd474b104ea2622ba63ef6e3007a366fdef8b887e339", func := "scorebook/scorebooklaw09.DeliveryEnds", spec := "deliveryEnds", apart := false }
def DeliveryEndsSaid : Prop := deliveryEndsRow.holds Try.pinned (OpenSpec.ofChange deliveryEndsSpec)

/-- ITS FALSE NEIGHBOUR: 'it returns false'. Refute it at one input. -/
def deliveryEndsWrong : ChangeSpec := { name := "deliveryEnds", fn := fun _ => fun
  | [d] => { results := [.lit (.bool false)], args := [d] }
  | _ => none }
def DeliveryEndsWrongFalsely : Prop := deliveryEndsRow.holds Try.pinned (OpenSpec.ofChange deliveryEndsWrong)

/-- 'scorebooklaw09.DeliveryCredits': WHATEVER THE INPUT: true; the input reads as it did. -/
def deliveryCreditsSpec : ChangeSpec := { name := "deliveryCredits", fn := fun _ => fun
  | [d1, d2] => { results := [.lit (.bool true)], args := [d1, d2] }
  | _ => none }
def deliveryCreditsRow : OpenClaim := { program := "ytddadpjaammaiaa", sum := "17cdb0efc97100b0acdecd474b104ea2622ba63ef6e3007a366fdef8b887e339", func := "scorebook/scorebooklaw09.DeliveryCredits", spec := "deliveryCredits", apart := false }
def DeliveryCreditsSaid : Prop := deliveryCreditsRow.holds Try.pinned (OpenSpec.ofChange deliveryCreditsSpec)

/-- ITS FALSE NEIGHBOUR: 'it returns false'. Refute it at one input. -/
def deliveryCreditsWrong : ChangeSpec := { name := "deliveryCredits", fn := fun _ => fun
  | [d1, d2] => { results := [.lit (.bool false)], args := [d1, d2] }
  | _ => none }
def DeliveryCreditsWrongFalsely : Prop := deliveryCreditsRow.holds Try.pinned (OpenSpec.ofChange deliveryCreditsWrong)

/-- 'scorebooklaw09.DeliveryAdds': WHATEVER THE INPUT: true; the input reads as it did. -/
def deliveryAddsSpec : ChangeSpec := { name := "deliveryAdds", fn := fun _ => fun
  | [d1, d2] => { results := [.lit (.bool true)], args := [d1, d2] }
  | _ => none }
def deliveryAddsRow : OpenClaim := { program := "ytddadpjaammaiaa", sum := "17cdb0efc97100b0acdecd474b104ea2622ba63ef6e3007a366fdef8b887e339", func := "scorebook/scorebooklaw09.DeliveryAdds", spec := "deliveryAdds", apart := false }
def DeliveryAddsSaid : Prop := deliveryAddsRow.holds Try.pinned (OpenSpec.ofChange deliveryAddsSpec)

/-- ITS FALSE NEIGHBOUR: 'it returns false'. Refute it at one input. -/
def deliveryAddsWrong : ChangeSpec := { name := "deliveryAdds", fn := fun _ => fun
  | [d1, d2] => { results := [.lit (.bool false)], args := [d1, d2] }
  | _ => none }
def DeliveryAddsWrongFalsely : Prop := deliveryAddsRow.holds Try.pinned (OpenSpec.ofChange deliveryAddsWrong)

/- THE SECOND FORM. 'bulk': how many values and letters a reading holds, each counted each time it is reached (what is shared counts as often as it is met; a slice's spare places count too). A statement '..UptoSaid' is the law's where the arguments, and the package variables that the reading takes, are together of bulk at most 1048576: NARROWER than '..Said'. Prove '..Said' where nothing that the law and all that it calls make is longer than what came in: it says more and counts as full. Else prove '..UptoSaid'. A law counts once. -/
mutual
def uptoBulk {H : Type} : DataW H → Nat
  | .lit (.string bytes) => bytes.length + 1
  | .lit _ => 1
  | .nil => 1
  | .ptr d => uptoBulk d + 1
  | .slice elems spare => uptoBulkAll elems + uptoBulkAll spare + 1
  | .agg parts => uptoBulkAll parts + 1
  | .iface _ d => uptoBulk d + 1
  | .map entries => uptoBulkEntries entries + 1
  | .held _ => 1
def uptoBulkAll {H : Type} : List (DataW H) → Nat
  | [] => 0
  | d :: r => uptoBulk d + uptoBulkAll r
def uptoBulkEntries {H : Type} : List (Lit × DataW H) → Nat
  | [] => 0
  | x :: r => uptoBulkEntry x + uptoBulkEntries r
def uptoBulkEntry {H : Type} : Lit × DataW H → Nat
  | (.string bytes, d) => bytes.length + uptoBulk d + 1
  | (_, d) => uptoBulk d + 1
 end
def uptoSmall : (H : Type) → List (DataW H) → Bool := fun _ ds => decide (uptoBulkAll ds ≤ 1048576)
def OpenSpec.upto (s : _root_.Go.ChangeSpec) : _root_.Go.OpenSpec := { _root_.Go.OpenSpec.ofChange s with cond := some uptoSmall }

/-- 'scorebooklaw09.DeliveryLegal', WHERE WHAT IT READS IS OF BULK AT MOST 1048576: true; the input reads as it did. -/
def deliveryLegalUptoRow : OpenClaim := { program := "ytddadpjaammaiaa", sum := "17cdb0efc97100b0acdecd474b104ea2622ba63ef6e3007a366fdef8b887e339", func := "scorebook/scorebooklaw09.DeliveryLegal", spec := "deliveryLegal", apart := false, narrowed := true }
def DeliveryLegalUptoSaid : Prop := deliveryLegalUptoRow.holds Try.pinned (OpenSpec.upto deliveryLegalSpec)

/-- 'scorebooklaw09.DeliveryAll', WHERE WHAT IT READS IS OF BULK AT MOST 1048576: true; the input reads as it did. -/
def deliveryAllUptoRow : OpenClaim := { program := "ytddadpjaammaiaa", sum := "17cdb0efc97100b0acdecd474b104ea2622ba63ef6e3007a366fdef8b887e339", func := "scorebook/scorebooklaw09.DeliveryAll", spec := "deliveryAll", apart := false, narrowed := true }
def DeliveryAllUptoSaid : Prop := deliveryAllUptoRow.holds Try.pinned (OpenSpec.upto deliveryAllSpec)

/-- 'scorebooklaw09.DeliveryListed', WHERE WHAT IT READS IS OF BULK AT MOST 1048576: true; the input reads as it did. -/
def deliveryListedUptoRow : OpenClaim := { program := "ytddadpjaammaiaa", sum := "17cdb0efc97100b0acdecd474b104ea2622ba63ef6e3007a366fdef8b887e339", func := "scorebook/scorebooklaw09.DeliveryListed", spec := "deliveryListed", apart := false, narrowed := true }
def DeliveryListedUptoSaid : Prop := deliveryListedUptoRow.holds Try.pinned (OpenSpec.upto deliveryListedSpec)

/-- 'scorebooklaw09.DeliveryEnds', WHERE WHAT IT READS IS OF BULK AT MOST 1048576: true; the input reads as it did. -/
def deliveryEndsUptoRow : OpenClaim := { program := "ytddadpjaammaiaa", sum := "17cdb0efc97100b0acdecd474b104ea2622ba63ef6e3007a366fdef8b887e339", func := "scorebook/scorebooklaw09.DeliveryEnds", spec := "deliveryEnds", apart := false, narrowed := true }
def DeliveryEndsUptoSaid : Prop := deliveryEndsUptoRow.holds Try.pinned (OpenSpec.upto deliveryEndsSpec)

/-- 'scorebooklaw09.DeliveryCredits', WHERE WHAT IT READS IS OF BULK AT MOST 1048576: true; the input reads as it did. -/
def deliveryCreditsUptoRow : OpenClaim := { program := "ytddadpjaammaiaa", sum := "17cdb0efc97100b0acdecd474b104ea2622ba63ef6e3007a366fdef8b887e339", func := "scorebook/scorebooklaw09.DeliveryCredits", spec := "deliveryCredits", apart := false, narrowed := true }
def DeliveryCreditsUptoSaid : Prop := deliveryCreditsUptoRow.holds Try.pinned (OpenSpec.upto deliveryCreditsSpec)

/-- 'scorebooklaw09.DeliveryAdds', WHERE WHAT IT READS IS OF BULK AT MOST 1048576: true; the input reads as it did. -/
def deliveryAddsUptoRow : OpenClaim := { program := "ytddadpjaammaiaa", sum := "17cdb0efc97100b0acdecd474b104ea2622ba63ef6e3007a366fdef8b887e339", func := "scorebook/scorebooklaw09.DeliveryAdds", spec := "deliveryAdds", apart := false, narrowed := true }
def DeliveryAddsUptoSaid : Prop := deliveryAddsUptoRow.holds Try.pinned (OpenSpec.upto deliveryAddsSpec)

end Rows
end Go.Proofs.Ytddadpjaammaiaa
