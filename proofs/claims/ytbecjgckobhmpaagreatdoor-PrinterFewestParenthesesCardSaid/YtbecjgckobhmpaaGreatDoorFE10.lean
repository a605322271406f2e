/-
  Proved here: a part of what the claim needs (texts YN of the prover's own).
-/
import Derived.Test.YtbecjgckobhmpaaGreatDoorFE09
import Derived.Test.YtbecjgckobhmpaaGreatDoorTie
import Derived.Test.YtbecjgckobhmpaaGreatDoorCards
import Derived.SevenTiedAt
namespace Go.Proofs.YtbecjgckobhmpaaGreatDoor
open Go Go.AM Go.Proofs
set_option maxRecDepth 100000
theorem harness_ok : Tryz.prog.mainIs = some (true, "2c71bd9c32cec8dbcba7c163806e698ca6c65506520b8081d9b2cc6a0913ebf0".toList) := by
 unfold Program.mainIs
 rw [io_toList]
 kernel_rfl
theorem looks_ok:true = Tryz.prog.looks []:=by kernel_rfl
end Go.Proofs.YtbecjgckobhmpaaGreatDoor
