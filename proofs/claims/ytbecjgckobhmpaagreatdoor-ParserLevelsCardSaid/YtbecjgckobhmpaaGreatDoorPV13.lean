/-
  Proved here: a part of what the claim needs (texts YV3 of the prover's own).
-/
import Derived.Test.YtbecjgckobhmpaaGreatDoorPV12
namespace Go.Proofs.YtbecjgckobhmpaaGreatDoor
open Go Go.AM Go.Proofs
set_option maxRecDepth 100000
theorem runs8_9:runs8 9 = true:=by kernel_rfl
theorem runs8_10:runs8 10 = true:=by kernel_rfl
theorem runs8_11:runs8 11 = true:=by kernel_rfl
theorem runs8_12:runs8 12 = true:=by kernel_rfl
end Go.Proofs.YtbecjgckobhmpaaGreatDoor
