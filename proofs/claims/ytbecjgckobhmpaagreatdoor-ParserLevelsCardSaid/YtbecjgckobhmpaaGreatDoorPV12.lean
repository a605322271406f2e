/-
  Proved here: a part of what the claim needs (texts YV2 of the prover's own).
-/
import Derived.Test.YtbecjgckobhmpaaGreatDoorPV11
namespace Go.Proofs.YtbecjgckobhmpaaGreatDoor
open Go Go.AM Go.Proofs
set_option maxRecDepth 100000
theorem runs8_5:runs8 5 = true:=by kernel_rfl
theorem runs8_6:runs8 6 = true:=by kernel_rfl
theorem runs8_7:runs8 7 = true:=by kernel_rfl
theorem runs8_8:runs8 8 = true:=by kernel_rfl
end Go.Proofs.YtbecjgckobhmpaaGreatDoor
