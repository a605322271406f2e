/-
  Proved here: a part of what the claim needs (texts YKP of the prover's own).
-/
import Derived.Test.YtbecjgckobhmpaaGreatDoorFE02
import Derived.ProofKit
import Derived.MakeChecks
import Derived.Lay
import Derived.LaidLaws
import Derived.LaidHandle
import Derived.ChangeSame
import Derived.ChangeVars
import Derived.JoinedOf
import Derived.RowKit
import Derived.RowKitTokens
import Derived.Stop.Joined
namespace Go.Proofs.YtbecjgckobhmpaaGreatDoor
open Go Go.AM Go.Proofs Go.ChangeShapes Go.WideShapes Go.ChangeAt Go.RowKit
set_option maxRecDepth 100000
theorem Tryz.own':ownKnob Tryz.prog.godebug = none:=by kernel_rfl
theorem Tryz.laidOut':laidOutB Tryz.prog = true:=by kernel_rfl
theorem nodeTs:∀ t ∈ [24,22,3,9,4],plainT Tryz.prog [24,22,3,9,4] t = true:=List.all_eq_true.1 (by kernel_rfl)
def zNodeV:Value:=.agg #[.int .i64 0,.string ⟨#[]⟩,.string ⟨#[]⟩,.int .i64 0,.int .i64 0,.int .i64 0,.bool false,.slice none 0 0,.int .i64 0]
theorem arg_node {H:Type} {enc:TypeId × Value→H} {W:World} {base:Nat} {v:Value} {d:DataW H} {p:List MemPlace} (hv:Value.okWide Tryz.prog W .any base 24 v) (h:DataW.Trod enc Tryz.prog W 0 (fun _=>true) true 24 v d p) :
  ∃ x,WfN x∧V (G0 W) W (aN x) v:=by
 obtain ⟨cs,rfl,_⟩:=okWide_struct Tryz.underlying24 hv
 obtain ⟨fuel,hf⟩:=h
 obtain ⟨avs,hs,hl,_⟩:=read_ok nodeTs fuel 24 _ _ (by simp) hf
 obtain ⟨x,rfl,hx⟩:=shape_node _ _ hs
 refine ⟨x,hx,?_⟩
 simp only [V]
 exact ⟨cs.toList,by simp,by simpa [Value.cells] using hl⟩
end Go.Proofs.YtbecjgckobhmpaaGreatDoor
