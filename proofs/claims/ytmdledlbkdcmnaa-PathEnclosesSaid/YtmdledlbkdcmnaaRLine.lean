/-
  Contract of the reference's Line.
  Conditions: none.
-/
import Derived.Test.YtmdledlbkdcmnaaLine
namespace Go.Proofs.Ytmdledlbkdcmnaa
open Go.RowKit
end Go.Proofs.Ytmdledlbkdcmnaa
