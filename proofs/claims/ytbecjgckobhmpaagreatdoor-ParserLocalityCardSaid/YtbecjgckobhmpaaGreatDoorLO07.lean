/-
  Proved here: a part of what the claim needs (texts YK13 of the prover's own).
-/
import Derived.Test.YtbecjgckobhmpaaGreatDoorLO06
import Derived.ChangeMaps5
namespace Go.Proofs.YtbecjgckobhmpaaGreatDoor
open Go Go.AM Go.Proofs Go.ChangeShapes Go.WideShapes Go.ChangeAt Go.RowKit Go.ChangeMaps
set_option maxRecDepth 100000
theorem lifted13 (law:∀ s0:ByteArray,∃ n,F13 n s0 = some true) (os:Os) (started:os.Started) (H:Type) (enc:TypeId × Value→H) :
  ReturnsInHanded {} Tryz.checked os 13 .any (fun w args=>(Rows.parserLocalitySpec.pre enc Tryz.prog Tryz.f13 [] false w args∧laidMetH Tryz.prog Rows.parserLocalityRow.laid w)∧sizedMet enc Tryz.prog Tryz.f13 (OpenSpec.ofChange Rows.parserLocalitySpec) false w args)
   (Rows.parserLocalitySpec.post enc Tryz.prog Tryz.f13 false true false false):=by
 refine returnsInHanded_of_change_and (C:=Tryz.checked) (X:=fun w _=>laidMetH Tryz.prog Rows.parserLocalityRow.laid w) (fun _ _ _ hh h=>h.of_heap hh) Tryz.own' started (by kernel_rfl) Tryz.func13
  (ChangeSpec.witness_shaped (enc:=enc) (C:=Tryz.checked) (os:=os) (X:=fun w _=>laidMetH Tryz.prog Rows.parserLocalityRow.laid w) false (World.laidAll Tryz.prog os Rows.parserLocalityRow.laid) #[.string ⟨#[]⟩] 8 (World.laidAll_os _ _ _)
   (World.shaped_of_ZipB (by kernel_rfl) (by kernel_rfl)) (by kernel_rfl) (by kernel_rfl) (by kernel_rfl)
   (by rw [MakeChecks.laidMetH_plain _ _ _ (by kernel_rfl)]; exact laidMet_laidAll _ (by kernel_rfl) (by kernel_rfl))) ?_
 intro W base args ds gs before hval0 hW _ _ hL _
 have hval:∀ (j:Nat) t v,Tryz.f13.params[j]? = some t→args[j]? = some v→Value.okWide Tryz.prog W .any base t v:=hval0
 have hW':=hW
 obtain ⟨p,q,hA0,hV,rfl,_,_⟩:=hW
 have hA:DataW.TrodAll enc Tryz.prog W 0 (fun _=>true) true Tryz.f13.params.toList args.toList ds p:=hA0
 rw [Tryz.params13] at hA hval
 obtain ⟨v0,d0,rfl,rfl,h0⟩:=trodAll_one hA
 obtain ⟨rfl,rfl⟩:=trodVars_none hV
 simp only [List.append_nil] at hW'
 obtain ⟨s0,rfl,rfl,rfl,hs0⟩:=open_string Tryz.underlying9 (hval 0 9 v0 rfl rfl) h0
 rw [MakeChecks.laidMetH_plain _ _ _ (by kernel_rfl)] at hL
 obtain ⟨n,hn⟩:=law s0
 have hc:=R_calls (F13_R n s0 true hn (st:=[])) (G:=G0 W) (w:=W) (cargs:=[.string s0]) (VL.cons (by simp only [V]) VL.nil) (G0_ok W) (globs_ok hL)
 refine hc.mono fun e W' ⟨c',G',he,hv,hb⟩=>?_
 subst he
 have hcb:c' = .bool true:=by simpa [vB,V] using hv
 subst hcb
 exact ⟨_,rfl,_,_,_,[],_,[],hW',trodAll_mk1 (shut_bool Tryz.underlying4 true),trodAll_mk1 (shut_string Tryz.underlying9 hs0),rfl,hb.frame _,fun h=>by cases h⟩
end Go.Proofs.YtbecjgckobhmpaaGreatDoor
