/-
  Proved here: a part of what the claim needs (texts YK8 of the prover's own).
-/
import Derived.Test.YtbecjgckobhmpaaGreatDoorPV06
namespace Go.Proofs.YtbecjgckobhmpaaGreatDoor
open Go Go.AM Go.Proofs Go.ChangeShapes Go.WideShapes Go.ChangeAt Go.RowKit
set_option maxRecDepth 100000
theorem lifted8 (law:∀ (a b:Nat) (c:Bool),a < 256→b < 256→∃ n,F8 n (a:Int) (b:Int) c = some true) (os:Os) (started:os.Started) (H:Type) (enc:TypeId × Value→H) :
  ReturnsInHanded {} Tryz.checked os 8 .any (fun w args=>(Rows.parserLevelsSpec.pre enc Tryz.prog Tryz.f8 [] false w args∧laidMetH Tryz.prog Rows.parserLevelsRow.laid w)∧sizedMet enc Tryz.prog Tryz.f8 (OpenSpec.ofChange Rows.parserLevelsSpec) false w args)
   (Rows.parserLevelsSpec.post enc Tryz.prog Tryz.f8 false true false false):=by
 refine returnsInHanded_of_change_and (C:=Tryz.checked) (X:=fun w _=>laidMetH Tryz.prog Rows.parserLevelsRow.laid w) (fun _ _ _ hh h=>h.of_heap hh) Tryz.own' started (by kernel_rfl) Tryz.func8
  (ChangeSpec.witness_shaped (enc:=enc) (C:=Tryz.checked) (os:=os) (X:=fun w _=>laidMetH Tryz.prog Rows.parserLevelsRow.laid w) false (World.laidAll Tryz.prog os Rows.parserLevelsRow.laid) #[.int .u8 0,.int .u8 0,.bool false] 8 (World.laidAll_os _ _ _)
   (World.shaped_of_ZipB (by kernel_rfl) (by kernel_rfl)) (by kernel_rfl) (by kernel_rfl) (by kernel_rfl)
   (by rw [MakeChecks.laidMetH_plain _ _ _ (by kernel_rfl)]; exact laidMet_laidAll _ (by kernel_rfl) (by kernel_rfl))) ?_
 intro W base args ds gs before hval0 hW _ _ hL _
 have hval:∀ (j:Nat) t v,Tryz.f8.params[j]? = some t→args[j]? = some v→Value.okWide Tryz.prog W .any base t v:=hval0
 have hW':=hW
 obtain ⟨p,q,hA0,hV,rfl,_,_⟩:=hW
 have hA:DataW.TrodAll enc Tryz.prog W 0 (fun _=>true) true Tryz.f8.params.toList args.toList ds p:=hA0
 rw [Tryz.params8] at hA hval
 obtain ⟨v0,v1,v2,d0,d1,d2,p0,p1,p2,rfl,rfl,rfl,h0,h1,h2⟩:=trodAll_three hA
 obtain ⟨rfl,rfl⟩:=trodVars_none hV
 simp only [List.append_nil] at hW'
 have byte:∀ {k:Int},(Lit.int .u8 k).wf = true→∃ w:Nat,k = (w:Int)∧w < 256:=fun {k} hwf=>by
  have hwf':(decide ((0:Int)≤k) && decide (k≤255)) = true:=hwf
  simp only [Bool.and_eq_true,decide_eq_true_eq] at hwf'
  exact ⟨k.toNat,by omega,by omega⟩
 obtain ⟨k0,rfl,rfl,rfl,hwf0⟩:=open_int Tryz.underlying5 (hval 0 5 v0 rfl rfl) h0
 obtain ⟨k1,rfl,rfl,rfl,hwf1⟩:=open_int Tryz.underlying5 (hval 1 5 v1 rfl rfl) h1
 obtain ⟨c,rfl,rfl,rfl⟩:=open_bool Tryz.underlying4 (hval 2 4 v2 rfl rfl) h2
 obtain ⟨a,rfl,ha⟩:=byte hwf0
 obtain ⟨b,rfl,hb⟩:=byte hwf1
 rw [MakeChecks.laidMetH_plain _ _ _ (by kernel_rfl)] at hL
 obtain ⟨n,hn⟩:=law a b c ha hb
 have hc:=R_calls (F8_R n (a:Int) (b:Int) c true hn (st:=[])) (G:=G0 W) (w:=W) (cargs:=[.int .u8 (a:Int),.int .u8 (b:Int),.bool c]) (VL.cons (by simp only [V]) (VL.cons (by simp only [V]) (VL.cons (by simp only [V]) VL.nil))) (G0_ok W) (globs_ok hL)
 refine hc.mono fun e W' ⟨c',G',he,hv,hb⟩=>?_
 subst he
 have hcb:c' = .bool true:=by simpa [vB,V] using hv
 subst hcb
 exact ⟨_,rfl,_,_,_,[],_,[],hW',trodAll_mk1 (shut_bool Tryz.underlying4 true),trodAll_mk3 (shut_int Tryz.underlying5 hwf0) (shut_int Tryz.underlying5 hwf1) (shut_bool Tryz.underlying4 c),rfl,hb.frame _,fun h=>by cases h⟩
end Go.Proofs.YtbecjgckobhmpaaGreatDoor
