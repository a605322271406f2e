/-
  Proved here: a part of what the claim needs (texts YM11 of the prover's own).
-/
import Derived.Test.YtbecjgckobhmpaaGreatDoorRE08
namespace Go.Proofs.YtbecjgckobhmpaaGreatDoor
open Go Go.AM Go.Proofs Go.ChangeShapes Go.WideShapes Go.ChangeAt Go.RowKit
set_option maxRecDepth 100000
theorem jf11:joinedFacts Tryz.prog 11 Tryz.f11 Rows.parserRecoverySpec Rows.parserRecoveryRow = true:=by
 unfold joinedFacts
 simp only [Bool.and_eq_true]
 refine ⟨⟨⟨⟨⟨⟨⟨⟨⟨⟨⟨⟨⟨⟨⟨⟨⟨⟨⟨⟨⟨⟨⟨⟨⟨⟨⟨⟨⟨⟨⟨?_,?_⟩,?_⟩,?_⟩,?_⟩,?_⟩,?_⟩,?_⟩,?_⟩,?_⟩,?_⟩,?_⟩,?_⟩,?_⟩,?_⟩,?_⟩,?_⟩,?_⟩,?_⟩,?_⟩,?_⟩,?_⟩,?_⟩,?_⟩,?_⟩,may_ok⟩,lifts_ok⟩,make_ok⟩,?_⟩,?_⟩,?_⟩,?_⟩
 all_goals kernel_rfl
theorem holds11 (law:∀ s0:ByteArray,∀ w1:Nat,w1 < 65536→∃ n,F11 n s0 (w1:Int) = some true):Rows.ParserRecoverySaid :=
 OpenClaim.holds_of_wide 11 Tryz.f11 rfl rfl rfl rfl rfl rfl rfl ⟨rfl,rfl,rfl,rfl,rfl⟩ rfl rfl rfl rfl rfl (by kernel_rfl) Tryz.func11 jf11
  (of_decide_eq_true (by kernel_rfl)) (by unfold Func.isWrapper; rw [if_neg (of_decide_eq_false (by kernel_rfl))]; exact ⟨rfl,rfl⟩)
  (fun os started H enc _=>lifted11 law os started H enc)
end Go.Proofs.YtbecjgckobhmpaaGreatDoor
