/-
  Proved here: a part of what the claim needs (texts YM of the prover's own).
-/
import Derived.Test.YtbecjgckobhmpaaGreatDoorPL08
namespace Go.Proofs.YtbecjgckobhmpaaGreatDoor
open Go Go.AM Go.Proofs Go.ChangeShapes Go.WideShapes Go.ChangeAt Go.RowKit
set_option maxRecDepth 100000
theorem jf3:joinedFacts Tryz.prog 3 Tryz.f3 Rows.printerLayoutSpec Rows.printerLayoutRow = true:=by
 unfold joinedFacts
 simp only [Bool.and_eq_true]
 refine ⟨⟨⟨⟨⟨⟨⟨⟨⟨⟨⟨⟨⟨⟨⟨⟨⟨⟨⟨⟨⟨⟨⟨⟨⟨⟨⟨⟨⟨⟨⟨?_,?_⟩,?_⟩,?_⟩,?_⟩,?_⟩,?_⟩,?_⟩,?_⟩,?_⟩,?_⟩,?_⟩,?_⟩,?_⟩,?_⟩,?_⟩,?_⟩,?_⟩,?_⟩,?_⟩,?_⟩,?_⟩,?_⟩,?_⟩,?_⟩,may_ok⟩,lifts_ok⟩,make_ok⟩,?_⟩,?_⟩,?_⟩,?_⟩
 all_goals kernel_rfl
theorem holds3 (law:∀ x,WfN x→∃ n,F3 n x = some true):Rows.PrinterLayoutSaid :=
 OpenClaim.holds_of_wide 3 Tryz.f3 rfl rfl rfl rfl rfl rfl rfl ⟨rfl,rfl,rfl,rfl,rfl⟩ rfl rfl rfl rfl rfl (by kernel_rfl) Tryz.func3 jf3
  (of_decide_eq_true (by kernel_rfl)) (by unfold Func.isWrapper; rw [if_neg (of_decide_eq_false (by kernel_rfl))]; exact ⟨rfl,rfl⟩)
  (fun os started H enc _=>lifted3 law os started H enc)
end Go.Proofs.YtbecjgckobhmpaaGreatDoor
