/-
  Proved here: a part of what the claim needs (texts YM10 of the prover's own).
-/
import Derived.Test.YtbecjgckobhmpaaGreatDoorCO08
namespace Go.Proofs.YtbecjgckobhmpaaGreatDoor
open Go Go.AM Go.Proofs Go.ChangeShapes Go.WideShapes Go.ChangeAt Go.RowKit
set_option maxRecDepth 100000
theorem jf10:joinedFacts Tryz.prog 10 Tryz.f10 Rows.parserConcatSpec Rows.parserConcatRow = true:=by
 unfold joinedFacts
 simp only [Bool.and_eq_true]
 refine ⟨⟨⟨⟨⟨⟨⟨⟨⟨⟨⟨⟨⟨⟨⟨⟨⟨⟨⟨⟨⟨⟨⟨⟨⟨⟨⟨⟨⟨⟨⟨?_,?_⟩,?_⟩,?_⟩,?_⟩,?_⟩,?_⟩,?_⟩,?_⟩,?_⟩,?_⟩,?_⟩,?_⟩,?_⟩,?_⟩,?_⟩,?_⟩,?_⟩,?_⟩,?_⟩,?_⟩,?_⟩,?_⟩,?_⟩,?_⟩,may_ok⟩,lifts_ok⟩,make_ok⟩,?_⟩,?_⟩,?_⟩,?_⟩
 all_goals kernel_rfl
theorem holds10 (law:∀ s0:ByteArray,∀ s1:ByteArray,∃ n,F10 n s0 s1 = some true):Rows.ParserConcatSaid :=
 OpenClaim.holds_of_wide 10 Tryz.f10 rfl rfl rfl rfl rfl rfl rfl ⟨rfl,rfl,rfl,rfl,rfl⟩ rfl rfl rfl rfl rfl (by kernel_rfl) Tryz.func10 jf10
  (of_decide_eq_true (by kernel_rfl)) (by unfold Func.isWrapper; rw [if_neg (of_decide_eq_false (by kernel_rfl))]; exact ⟨rfl,rfl⟩)
  (fun os started H enc _=>lifted10 law os started H enc)
end Go.Proofs.YtbecjgckobhmpaaGreatDoor
