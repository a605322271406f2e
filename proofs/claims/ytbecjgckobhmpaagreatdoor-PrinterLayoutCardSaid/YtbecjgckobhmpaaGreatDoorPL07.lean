/-
  Proved here: a part of what the claim needs (texts YK of the prover's own).
-/
import Derived.Test.YtbecjgckobhmpaaGreatDoorPL06
import Derived.ProofKit
import Derived.MakeChecks
import Derived.Lay
import Derived.LaidLaws
import Derived.LaidHandle
import Derived.ChangeSame
import Derived.ChangeVars
import Derived.JoinedOf
import Derived.RowKit
import Derived.RowKitTokens
import Derived.Stop.Joined
namespace Go.Proofs.YtbecjgckobhmpaaGreatDoor
open Go Go.AM Go.Proofs Go.ChangeShapes Go.WideShapes Go.ChangeAt Go.RowKit
set_option maxRecDepth 100000
theorem Tryz.own':ownKnob Tryz.prog.godebug = none:=by kernel_rfl
theorem Tryz.laidOut':laidOutB Tryz.prog = true:=by kernel_rfl
theorem nodeTs:∀ t ∈ [24,22,3,9,4],plainT Tryz.prog [24,22,3,9,4] t = true:=List.all_eq_true.1 (by kernel_rfl)
def zNodeV:Value:=.agg #[.int .i64 0,.string ⟨#[]⟩,.string ⟨#[]⟩,.int .i64 0,.int .i64 0,.int .i64 0,.bool false,.slice none 0 0,.int .i64 0]
theorem arg_node {H:Type} {enc:TypeId × Value→H} {W:World} {base:Nat} {v:Value} {d:DataW H} {p:List MemPlace} (hv:Value.okWide Tryz.prog W .any base 24 v) (h:DataW.Trod enc Tryz.prog W 0 (fun _=>true) true 24 v d p) :
  ∃ x,WfN x∧V (G0 W) W (aN x) v:=by
 obtain ⟨cs,rfl,_⟩:=okWide_struct Tryz.underlying24 hv
 obtain ⟨fuel,hf⟩:=h
 obtain ⟨avs,hs,hl,_⟩:=read_ok nodeTs fuel 24 _ _ (by simp) hf
 obtain ⟨x,rfl,hx⟩:=shape_node _ _ hs
 refine ⟨x,hx,?_⟩
 simp only [V]
 exact ⟨cs.toList,by simp,by simpa [Value.cells] using hl⟩
theorem lifted3 (law:∀ x,WfN x→∃ n,F3 n x = some true) (os:Os) (started:os.Started) (H:Type) (enc:TypeId × Value→H) :
  ReturnsInHanded {} Tryz.checked os 3 .any (fun w args=>(Rows.printerLayoutSpec.pre enc Tryz.prog Tryz.f3 [] false w args∧laidMetH Tryz.prog Rows.printerLayoutRow.laid w)∧sizedMet enc Tryz.prog Tryz.f3 (OpenSpec.ofChange Rows.printerLayoutSpec) false w args)
   (Rows.printerLayoutSpec.post enc Tryz.prog Tryz.f3 false true false false):=by
 refine returnsInHanded_of_change_and (C:=Tryz.checked) (X:=fun w _=>laidMetH Tryz.prog Rows.printerLayoutRow.laid w) (fun _ _ _ hh h=>h.of_heap hh) Tryz.own' started (by kernel_rfl) Tryz.func3
  (ChangeSpec.witness_shaped (enc:=enc) (C:=Tryz.checked) (os:=os) (X:=fun w _=>laidMetH Tryz.prog Rows.printerLayoutRow.laid w) false (World.laidAll Tryz.prog os Rows.printerLayoutRow.laid) #[zNodeV] 8 (World.laidAll_os _ _ _)
   (World.shaped_of_ZipB (by kernel_rfl) (by kernel_rfl)) (by kernel_rfl) (by kernel_rfl) (by kernel_rfl)
   (by rw [MakeChecks.laidMetH_plain _ _ _ (by kernel_rfl)]; exact laidMet_laidAll _ (by kernel_rfl) (by kernel_rfl))) ?_
 intro W base args ds gs before hval0 hW _ _ hL _
 have hval:∀ (j:Nat) t v,Tryz.f3.params[j]? = some t→args[j]? = some v→Value.okWide Tryz.prog W .any base t v:=hval0
 have hW':=hW
 obtain ⟨p,q,hA0,hV,rfl,_,_⟩:=hW
 have hA:DataW.TrodAll enc Tryz.prog W 0 (fun _=>true) true Tryz.f3.params.toList args.toList ds p:=hA0
 rw [Tryz.params3] at hA hval
 obtain ⟨v0,d0,rfl,rfl,h0⟩:=trodAll_one hA
 obtain ⟨rfl,rfl⟩:=trodVars_none hV
 simp only [List.append_nil] at hW'
 have hlt:∀ x ∈ p,x.block < W.heap.size:=fun x hx=>by simpa using hW'.lt x hx
 obtain ⟨x,hx,hvx⟩:=arg_node (hval 0 24 v0 rfl rfl) h0
 rw [MakeChecks.laidMetH_plain _ _ _ (by kernel_rfl)] at hL
 obtain ⟨n,hn⟩:=law x hx
 obtain ⟨m,hm⟩:=F3_R n x true hn (st:=[]) (p0:=.shut)
 have hc:=call_ok AN_mixed AN_static AN_glob AN_prims AN_hprims hm (G:=G0 W) (w:=W) (cargs:=[v0]) (VL.cons hvx VL.nil) (G0_ok W) (globs_ok hL)
 refine hc.mono fun e W' ⟨c,G',he,hv,hb⟩=>?_
 subst he
 have hcb:c = .bool true:=by simpa [vB,V] using hv
 subst hcb
 exact ⟨_,rfl,_,_,_,[],p,[],hW',trodAll_mk1 (shut_bool Tryz.underlying4 true),trodAll_mk1 (Below.trod Tryz.laidOut' (by kernel_rfl) (of_decide_eq_true (by kernel_rfl)) h0 hb hlt),rfl,hb.frame _,fun h=>by cases h⟩
end Go.Proofs.YtbecjgckobhmpaaGreatDoor
