/-
  Proved here: a part of what the claim needs (texts YM of the prover's own).
-/
import Derived.Test.YtbecjgckobhmpaaGreatDoorPS12
namespace Go.Proofs.YtbecjgckobhmpaaGreatDoor
open Go Go.AM Go.Proofs Go.ChangeShapes Go.WideShapes Go.ChangeAt Go.RowKit
set_option maxRecDepth 100000
end Go.Proofs.YtbecjgckobhmpaaGreatDoor
