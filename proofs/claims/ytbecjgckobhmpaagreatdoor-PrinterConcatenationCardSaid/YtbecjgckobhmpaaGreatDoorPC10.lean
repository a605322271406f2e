/-
  Proved here: a part of what the claim needs (texts YM4 of the prover's own).
-/
import Derived.Test.YtbecjgckobhmpaaGreatDoorPC09
namespace Go.Proofs.YtbecjgckobhmpaaGreatDoor
open Go Go.AM Go.Proofs Go.ChangeShapes Go.WideShapes Go.ChangeAt Go.RowKit
set_option maxRecDepth 100000
theorem jf4:joinedFacts Tryz.prog 4 Tryz.f4 Rows.printerConcatenationSpec Rows.printerConcatenationRow = true:=by
 unfold joinedFacts
 simp only [Bool.and_eq_true]
 refine ⟨⟨⟨⟨⟨⟨⟨⟨⟨⟨⟨⟨⟨⟨⟨⟨⟨⟨⟨⟨⟨⟨⟨⟨⟨⟨⟨⟨⟨⟨⟨?_,?_⟩,?_⟩,?_⟩,?_⟩,?_⟩,?_⟩,?_⟩,?_⟩,?_⟩,?_⟩,?_⟩,?_⟩,?_⟩,?_⟩,?_⟩,?_⟩,?_⟩,?_⟩,?_⟩,?_⟩,?_⟩,?_⟩,?_⟩,?_⟩,may_ok⟩,lifts_ok⟩,make_ok⟩,?_⟩,?_⟩,?_⟩,?_⟩
 all_goals kernel_rfl
theorem holds4 (law:∀ x,WfN x→∃ n,F4 n x = some true):Rows.PrinterConcatenationSaid :=
 OpenClaim.holds_of_wide 4 Tryz.f4 rfl rfl rfl rfl rfl rfl rfl ⟨rfl,rfl,rfl,rfl,rfl⟩ rfl rfl rfl rfl rfl (by kernel_rfl) Tryz.func4 jf4
  (of_decide_eq_true (by kernel_rfl)) (by unfold Func.isWrapper; rw [if_neg (of_decide_eq_false (by kernel_rfl))]; exact ⟨rfl,rfl⟩)
  (fun os started H enc _=>lifted4 law os started H enc)
end Go.Proofs.YtbecjgckobhmpaaGreatDoor
