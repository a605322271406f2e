/-
  Proved here: a part of what the claim needs (texts YK11 of the prover's own).
-/
import Derived.Test.YtbecjgckobhmpaaGreatDoorRE06
import Derived.ChangeMaps5
namespace Go.Proofs.YtbecjgckobhmpaaGreatDoor
open Go Go.AM Go.Proofs Go.ChangeShapes Go.WideShapes Go.ChangeAt Go.RowKit Go.ChangeMaps
set_option maxRecDepth 100000
theorem lifted11 (law:∀ s0:ByteArray,∀ w1:Nat,w1 < 65536→∃ n,F11 n s0 (w1:Int) = some true) (os:Os) (started:os.Started) (H:Type) (enc:TypeId × Value→H) :
  ReturnsInHanded {} Tryz.checked os 11 .any (fun w args=>(Rows.parserRecoverySpec.pre enc Tryz.prog Tryz.f11 [] false w args∧laidMetH Tryz.prog Rows.parserRecoveryRow.laid w)∧sizedMet enc Tryz.prog Tryz.f11 (OpenSpec.ofChange Rows.parserRecoverySpec) false w args)
   (Rows.parserRecoverySpec.post enc Tryz.prog Tryz.f11 false true false false):=by
 refine returnsInHanded_of_change_and (C:=Tryz.checked) (X:=fun w _=>laidMetH Tryz.prog Rows.parserRecoveryRow.laid w) (fun _ _ _ hh h=>h.of_heap hh) Tryz.own' started (by kernel_rfl) Tryz.func11
  (ChangeSpec.witness_shaped (enc:=enc) (C:=Tryz.checked) (os:=os) (X:=fun w _=>laidMetH Tryz.prog Rows.parserRecoveryRow.laid w) false (World.laidAll Tryz.prog os Rows.parserRecoveryRow.laid) #[.string ⟨#[]⟩,.int .u16 0] 8 (World.laidAll_os _ _ _)
   (World.shaped_of_ZipB (by kernel_rfl) (by kernel_rfl)) (by kernel_rfl) (by kernel_rfl) (by kernel_rfl)
   (by rw [MakeChecks.laidMetH_plain _ _ _ (by kernel_rfl)]; exact laidMet_laidAll _ (by kernel_rfl) (by kernel_rfl))) ?_
 intro W base args ds gs before hval0 hW _ _ hL _
 have hval:∀ (j:Nat) t v,Tryz.f11.params[j]? = some t→args[j]? = some v→Value.okWide Tryz.prog W .any base t v:=hval0
 have hW':=hW
 obtain ⟨p,q,hA0,hV,rfl,_,_⟩:=hW
 have hA:DataW.TrodAll enc Tryz.prog W 0 (fun _=>true) true Tryz.f11.params.toList args.toList ds p:=hA0
 rw [Tryz.params11] at hA hval
 obtain ⟨v0,v1,d0,d1,p0,p1,rfl,rfl,rfl,h0,h1⟩:=trodAll_two hA
 obtain ⟨rfl,rfl⟩:=trodVars_none hV
 simp only [List.append_nil] at hW'
 obtain ⟨s0,rfl,rfl,rfl,hs0⟩:=open_string Tryz.underlying9 (hval 0 9 v0 rfl rfl) h0
 obtain ⟨k1,rfl,rfl,rfl,hwf1⟩:=open_int Tryz.underlying33 (hval 1 33 v1 rfl rfl) h1
 obtain ⟨w1,rfl,hw1⟩:∃ w:Nat,k1 = (w:Int)∧w < 65536:=by
  have hwf':(decide ((0:Int)≤k1) && decide (k1≤65535)) = true:=hwf1
  simp only [Bool.and_eq_true,decide_eq_true_eq] at hwf'
  exact ⟨k1.toNat,by omega,by omega⟩
 rw [MakeChecks.laidMetH_plain _ _ _ (by kernel_rfl)] at hL
 obtain ⟨n,hn⟩:=law s0 w1 hw1
 have hc:=R_calls (F11_R n s0 (w1:Int) true hn (st:=[])) (G:=G0 W) (w:=W) (cargs:=[.string s0,.int .u16 (w1:Int)]) (VL.cons (by simp only [V]) (VL.cons (by simp only [V]) VL.nil)) (G0_ok W) (globs_ok hL)
 refine hc.mono fun e W' ⟨c',G',he,hv,hb⟩=>?_
 subst he
 have hcb:c' = .bool true:=by simpa [vB,V] using hv
 subst hcb
 exact ⟨_,rfl,_,_,_,[],_,[],hW',trodAll_mk1 (shut_bool Tryz.underlying4 true),trodAll_mk2 (shut_string Tryz.underlying9 hs0) (shut_int Tryz.underlying33 hwf1),rfl,hb.frame _,fun h=>by cases h⟩
end Go.Proofs.YtbecjgckobhmpaaGreatDoor
