/-
  Proved here: a part of what the claim needs (texts YK10 of the prover's own).
-/
import Derived.Test.YtbecjgckobhmpaaGreatDoorCO06
import Derived.ChangeMaps5
namespace Go.Proofs.YtbecjgckobhmpaaGreatDoor
open Go Go.AM Go.Proofs Go.ChangeShapes Go.WideShapes Go.ChangeAt Go.RowKit Go.ChangeMaps
set_option maxRecDepth 100000
theorem lifted10 (law:∀ s0:ByteArray,∀ s1:ByteArray,∃ n,F10 n s0 s1 = some true) (os:Os) (started:os.Started) (H:Type) (enc:TypeId × Value→H) :
  ReturnsInHanded {} Tryz.checked os 10 .any (fun w args=>(Rows.parserConcatSpec.pre enc Tryz.prog Tryz.f10 [] false w args∧laidMetH Tryz.prog Rows.parserConcatRow.laid w)∧sizedMet enc Tryz.prog Tryz.f10 (OpenSpec.ofChange Rows.parserConcatSpec) false w args)
   (Rows.parserConcatSpec.post enc Tryz.prog Tryz.f10 false true false false):=by
 refine returnsInHanded_of_change_and (C:=Tryz.checked) (X:=fun w _=>laidMetH Tryz.prog Rows.parserConcatRow.laid w) (fun _ _ _ hh h=>h.of_heap hh) Tryz.own' started (by kernel_rfl) Tryz.func10
  (ChangeSpec.witness_shaped (enc:=enc) (C:=Tryz.checked) (os:=os) (X:=fun w _=>laidMetH Tryz.prog Rows.parserConcatRow.laid w) false (World.laidAll Tryz.prog os Rows.parserConcatRow.laid) #[.string ⟨#[]⟩,.string ⟨#[]⟩] 8 (World.laidAll_os _ _ _)
   (World.shaped_of_ZipB (by kernel_rfl) (by kernel_rfl)) (by kernel_rfl) (by kernel_rfl) (by kernel_rfl)
   (by rw [MakeChecks.laidMetH_plain _ _ _ (by kernel_rfl)]; exact laidMet_laidAll _ (by kernel_rfl) (by kernel_rfl))) ?_
 intro W base args ds gs before hval0 hW _ _ hL _
 have hval:∀ (j:Nat) t v,Tryz.f10.params[j]? = some t→args[j]? = some v→Value.okWide Tryz.prog W .any base t v:=hval0
 have hW':=hW
 obtain ⟨p,q,hA0,hV,rfl,_,_⟩:=hW
 have hA:DataW.TrodAll enc Tryz.prog W 0 (fun _=>true) true Tryz.f10.params.toList args.toList ds p:=hA0
 rw [Tryz.params10] at hA hval
 obtain ⟨v0,v1,d0,d1,p0,p1,rfl,rfl,rfl,h0,h1⟩:=trodAll_two hA
 obtain ⟨rfl,rfl⟩:=trodVars_none hV
 simp only [List.append_nil] at hW'
 obtain ⟨s0,rfl,rfl,rfl,hs0⟩:=open_string Tryz.underlying9 (hval 0 9 v0 rfl rfl) h0
 obtain ⟨s1,rfl,rfl,rfl,hs1⟩:=open_string Tryz.underlying9 (hval 1 9 v1 rfl rfl) h1
 rw [MakeChecks.laidMetH_plain _ _ _ (by kernel_rfl)] at hL
 obtain ⟨n,hn⟩:=law s0 s1
 have hc:=R_calls (F10_R n s0 s1 true hn (st:=[])) (G:=G0 W) (w:=W) (cargs:=[.string s0,.string s1]) (VL.cons (by simp only [V]) (VL.cons (by simp only [V]) VL.nil)) (G0_ok W) (globs_ok hL)
 refine hc.mono fun e W' ⟨c',G',he,hv,hb⟩=>?_
 subst he
 have hcb:c' = .bool true:=by simpa [vB,V] using hv
 subst hcb
 exact ⟨_,rfl,_,_,_,[],_,[],hW',trodAll_mk1 (shut_bool Tryz.underlying4 true),trodAll_mk2 (shut_string Tryz.underlying9 hs0) (shut_string Tryz.underlying9 hs1),rfl,hb.frame _,fun h=>by cases h⟩
end Go.Proofs.YtbecjgckobhmpaaGreatDoor
