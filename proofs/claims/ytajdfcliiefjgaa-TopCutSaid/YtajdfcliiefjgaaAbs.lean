/-
  What a region may leave, told on its own.
  Conditions: none.
-/
import Derived.Test.YtajdfcliiefjgaaRegionH
namespace Go.Proofs.Ytajdfcliiefjgaa
open Go.RowKit
/-- What a region may leave: told on its own, and at the normal exit alone. -/
def AbsQ (R : Act → World → Prop) : Exit → Act → World → Prop
  | .normal, a, W => R a W
  | _, _, _ => False
theorem wp_abs {P : Program} {c : Code} {Q : Exit → Act → World → Prop} {a : Act} {w : World} (R : Act → Act → World → Prop) (h : c.wp P (AbsQ (R a)) a w) (k : ∀ a' W, R a a' W → Q .normal a' W) : c.wp P Q a w :=
  Code.wp_mono (fun e a' W hr => by cases e <;> first | exact k a' W hr | exact hr.elim) h
end Go.Proofs.Ytajdfcliiefjgaa
