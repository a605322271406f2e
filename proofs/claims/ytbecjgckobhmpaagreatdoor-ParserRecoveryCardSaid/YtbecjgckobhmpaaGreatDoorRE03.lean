/-
  Proved here: a part of what the claim needs (texts YKP of the prover's own).
-/
import Derived.Test.YtbecjgckobhmpaaGreatDoorRE02
import Derived.ProofKit
import Derived.MakeChecks
import Derived.Lay
import Derived.LaidLaws
import Derived.LaidHandle
import Derived.ChangeSame
import Derived.ChangeVars
import Derived.JoinedOf
import Derived.RowKit
import Derived.RowKitTokens
import Derived.Stop.Joined
namespace Go.Proofs.YtbecjgckobhmpaaGreatDoor
open Go Go.AM Go.Proofs Go.ChangeShapes Go.WideShapes Go.ChangeAt Go.RowKit
set_option maxRecDepth 100000
theorem Tryz.own':ownKnob Tryz.prog.godebug = none:=by kernel_rfl
end Go.Proofs.YtbecjgckobhmpaaGreatDoor
