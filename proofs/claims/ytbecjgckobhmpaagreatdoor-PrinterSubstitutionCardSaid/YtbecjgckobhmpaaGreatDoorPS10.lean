/-
  Proved here: a part of what the claim needs (texts YK5 of the prover's own).
-/
import Derived.Test.YtbecjgckobhmpaaGreatDoorPS09
namespace Go.Proofs.YtbecjgckobhmpaaGreatDoor
open Go Go.AM Go.Proofs Go.ChangeShapes Go.WideShapes Go.ChangeAt Go.RowKit
set_option maxRecDepth 100000
theorem lifted5 (law:∀ x,WfN x→∀ w:Nat,w < 65536→∃ n,F5 n x (w:Int) = some true) (os:Os) (started:os.Started) (H:Type) (enc:TypeId × Value→H) :
  ReturnsInHanded {} Tryz.checked os 5 .any (fun w args=>(Rows.printerSubstitutionSpec.pre enc Tryz.prog Tryz.f5 [] false w args∧laidMetH Tryz.prog Rows.printerSubstitutionRow.laid w)∧sizedMet enc Tryz.prog Tryz.f5 (OpenSpec.ofChange Rows.printerSubstitutionSpec) false w args)
   (Rows.printerSubstitutionSpec.post enc Tryz.prog Tryz.f5 false true false false):=by
 refine returnsInHanded_of_change_and (C:=Tryz.checked) (X:=fun w _=>laidMetH Tryz.prog Rows.printerSubstitutionRow.laid w) (fun _ _ _ hh h=>h.of_heap hh) Tryz.own' started (by kernel_rfl) Tryz.func5
  (ChangeSpec.witness_shaped (enc:=enc) (C:=Tryz.checked) (os:=os) (X:=fun w _=>laidMetH Tryz.prog Rows.printerSubstitutionRow.laid w) false (World.laidAll Tryz.prog os Rows.printerSubstitutionRow.laid) #[zNodeV,.int .u16 0] 8 (World.laidAll_os _ _ _)
   (World.shaped_of_ZipB (by kernel_rfl) (by kernel_rfl)) (by kernel_rfl) (by kernel_rfl) (by kernel_rfl)
   (by rw [MakeChecks.laidMetH_plain _ _ _ (by kernel_rfl)]; exact laidMet_laidAll _ (by kernel_rfl) (by kernel_rfl))) ?_
 intro W base args ds gs before hval0 hW _ _ hL _
 have hval:∀ (j:Nat) t v,Tryz.f5.params[j]? = some t→args[j]? = some v→Value.okWide Tryz.prog W .any base t v:=hval0
 have hW':=hW
 obtain ⟨p,q,hA0,hV,rfl,_,_⟩:=hW
 have hA:DataW.TrodAll enc Tryz.prog W 0 (fun _=>true) true Tryz.f5.params.toList args.toList ds p:=hA0
 rw [Tryz.params5] at hA hval
 obtain ⟨v0,v1,d0,d1,p0,p1,rfl,rfl,rfl,h0,h1⟩:=trodAll_two hA
 obtain ⟨rfl,rfl⟩:=trodVars_none hV
 simp only [List.append_nil] at hW'
 have hlt:∀ x ∈ p0,x.block < W.heap.size:=fun x hx=>by simpa using hW'.lt x (List.mem_append_left _ hx)
 obtain ⟨x,hx,hvx⟩:=arg_node (hval 0 24 v0 rfl rfl) h0
 obtain ⟨k,rfl,rfl,rfl,hwf⟩:=open_int Tryz.underlying33 (hval 1 33 v1 rfl rfl) h1
 have hk:∃ w:Nat,k = (w:Int)∧w < 65536:=by
  have hwf':(decide ((0:Int)≤k) && decide (k≤65535)) = true:=hwf
  simp only [Bool.and_eq_true,decide_eq_true_eq] at hwf'
  exact ⟨k.toNat,by omega,by omega⟩
 obtain ⟨w,rfl,hw⟩:=hk
 rw [MakeChecks.laidMetH_plain _ _ _ (by kernel_rfl)] at hL
 obtain ⟨n,hn⟩:=law x hx w hw
 obtain ⟨m,hm⟩:=F5_R n x (w:Int) true hn (st:=[]) (p0:=.shut)
 have hc:=call_ok AN_mixed AN_static AN_glob AN_prims AN_hprims hm (G:=G0 W) (w:=W) (cargs:=[v0,.int .u16 (w:Int)]) (VL.cons hvx (VL.cons (by simp only [V]) VL.nil)) (G0_ok W) (globs_ok hL)
 refine hc.mono fun e W' ⟨c,G',he,hv,hb⟩=>?_
 subst he
 have hcb:c = .bool true:=by simpa [vB,V] using hv
 subst hcb
 exact ⟨_,rfl,_,_,_,[],_,[],hW',trodAll_mk1 (shut_bool Tryz.underlying4 true),trodAll_mk2 (Below.trod Tryz.laidOut' (by kernel_rfl) (of_decide_eq_true (by kernel_rfl)) h0 hb hlt) (shut_int Tryz.underlying33 hwf),rfl,hb.frame _,fun h=>by cases h⟩
end Go.Proofs.YtbecjgckobhmpaaGreatDoor
