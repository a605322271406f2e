/-
  Proved here: a part of what the claim needs (texts YM12 of the prover's own).
-/
import Derived.Test.YtbecjgckobhmpaaGreatDoorTR08
namespace Go.Proofs.YtbecjgckobhmpaaGreatDoor
open Go Go.AM Go.Proofs Go.ChangeShapes Go.WideShapes Go.ChangeAt Go.RowKit
set_option maxRecDepth 100000
theorem jf12:joinedFacts Tryz.prog 12 Tryz.f12 Rows.parserTruncatedSpec Rows.parserTruncatedRow = true:=by
 unfold joinedFacts
 simp only [Bool.and_eq_true]
 refine ⟨⟨⟨⟨⟨⟨⟨⟨⟨⟨⟨⟨⟨⟨⟨⟨⟨⟨⟨⟨⟨⟨⟨⟨⟨⟨⟨⟨⟨⟨⟨?_,?_⟩,?_⟩,?_⟩,?_⟩,?_⟩,?_⟩,?_⟩,?_⟩,?_⟩,?_⟩,?_⟩,?_⟩,?_⟩,?_⟩,?_⟩,?_⟩,?_⟩,?_⟩,?_⟩,?_⟩,?_⟩,?_⟩,?_⟩,?_⟩,may_ok⟩,lifts_ok⟩,make_ok⟩,?_⟩,?_⟩,?_⟩,?_⟩
 all_goals kernel_rfl
theorem holds12 (law:∀ s0:ByteArray,∀ w1:Nat,w1 < 65536→∃ n,F12 n s0 (w1:Int) = some true):Rows.ParserTruncatedSaid :=
 OpenClaim.holds_of_wide 12 Tryz.f12 rfl rfl rfl rfl rfl rfl rfl ⟨rfl,rfl,rfl,rfl,rfl⟩ rfl rfl rfl rfl rfl (by kernel_rfl) Tryz.func12 jf12
  (of_decide_eq_true (by kernel_rfl)) (by unfold Func.isWrapper; rw [if_neg (of_decide_eq_false (by kernel_rfl))]; exact ⟨rfl,rfl⟩)
  (fun os started H enc _=>lifted12 law os started H enc)
end Go.Proofs.YtbecjgckobhmpaaGreatDoor
