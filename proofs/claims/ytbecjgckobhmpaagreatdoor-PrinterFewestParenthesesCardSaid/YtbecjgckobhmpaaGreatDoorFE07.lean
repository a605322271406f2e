/-
  Proved here: a part of what the claim needs (texts YK14 of the prover's own).
-/
import Derived.Test.YtbecjgckobhmpaaGreatDoorFE06
import Derived.ChangeMaps5
namespace Go.Proofs.YtbecjgckobhmpaaGreatDoor
open Go Go.AM Go.Proofs Go.ChangeShapes Go.WideShapes Go.ChangeAt Go.RowKit Go.ChangeMaps
set_option maxRecDepth 100000
theorem lifted14 (law:∀ x0,WfN x0→∀ w1:Nat,w1 < 256→∃ n,F14 n x0 (w1:Int) = some true) (os:Os) (started:os.Started) (H:Type) (enc:TypeId × Value→H) :
  ReturnsInHanded {} Tryz.checked os 14 .any (fun w args=>(Rows.printerFewestParenthesesSpec.pre enc Tryz.prog Tryz.f14 [] false w args∧laidMetH Tryz.prog Rows.printerFewestParenthesesRow.laid w)∧sizedMet enc Tryz.prog Tryz.f14 (OpenSpec.ofChange Rows.printerFewestParenthesesSpec) false w args)
   (Rows.printerFewestParenthesesSpec.post enc Tryz.prog Tryz.f14 false true false false):=by
 refine returnsInHanded_of_change_and (C:=Tryz.checked) (X:=fun w _=>laidMetH Tryz.prog Rows.printerFewestParenthesesRow.laid w) (fun _ _ _ hh h=>h.of_heap hh) Tryz.own' started (by kernel_rfl) Tryz.func14
  (ChangeSpec.witness_shaped (enc:=enc) (C:=Tryz.checked) (os:=os) (X:=fun w _=>laidMetH Tryz.prog Rows.printerFewestParenthesesRow.laid w) false (World.laidAll Tryz.prog os Rows.printerFewestParenthesesRow.laid) #[zNodeV,.int .u8 0] 8 (World.laidAll_os _ _ _)
   (World.shaped_of_ZipB (by kernel_rfl) (by kernel_rfl)) (by kernel_rfl) (by kernel_rfl) (by kernel_rfl)
   (by rw [MakeChecks.laidMetH_plain _ _ _ (by kernel_rfl)]; exact laidMet_laidAll _ (by kernel_rfl) (by kernel_rfl))) ?_
 intro W base args ds gs before hval0 hW _ _ hL _
 have hval:∀ (j:Nat) t v,Tryz.f14.params[j]? = some t→args[j]? = some v→Value.okWide Tryz.prog W .any base t v:=hval0
 have hW':=hW
 obtain ⟨p,q,hA0,hV,rfl,_,_⟩:=hW
 have hA:DataW.TrodAll enc Tryz.prog W 0 (fun _=>true) true Tryz.f14.params.toList args.toList ds p:=hA0
 rw [Tryz.params14] at hA hval
 obtain ⟨v0,v1,d0,d1,p0,p1,rfl,rfl,rfl,h0,h1⟩:=trodAll_two hA
 obtain ⟨rfl,rfl⟩:=trodVars_none hV
 simp only [List.append_nil] at hW'
 have hlt0:∀ x ∈ p0,x.block < W.heap.size:=fun x hx=>by simpa using hW'.lt x (List.mem_append_left _ hx)
 obtain ⟨x0,hx0,hvx0⟩:=arg_node (hval 0 24 v0 rfl rfl) h0
 obtain ⟨k1,rfl,rfl,rfl,hwf1⟩:=open_int Tryz.underlying5 (hval 1 5 v1 rfl rfl) h1
 obtain ⟨w1,rfl,hw1⟩:∃ w:Nat,k1 = (w:Int)∧w < 256:=by
  have hwf':(decide ((0:Int)≤k1) && decide (k1≤255)) = true:=hwf1
  simp only [Bool.and_eq_true,decide_eq_true_eq] at hwf'
  exact ⟨k1.toNat,by omega,by omega⟩
 rw [MakeChecks.laidMetH_plain _ _ _ (by kernel_rfl)] at hL
 obtain ⟨n,hn⟩:=law x0 hx0 w1 hw1
 have hc:=R_calls (F14_R n x0 (w1:Int) true hn (st:=[]) (p0:=.shut)) (G:=G0 W) (w:=W) (cargs:=[v0,.int .u8 (w1:Int)]) (VL.cons hvx0 (VL.cons (by simp only [V]) VL.nil)) (G0_ok W) (globs_ok hL)
 refine hc.mono fun e W' ⟨c',G',he,hv,hb⟩=>?_
 subst he
 have hcb:c' = .bool true:=by simpa [vB,V] using hv
 subst hcb
 exact ⟨_,rfl,_,_,_,[],_,[],hW',trodAll_mk1 (shut_bool Tryz.underlying4 true),trodAll_mk2 (Below.trod Tryz.laidOut' (by kernel_rfl) (of_decide_eq_true (by kernel_rfl)) h0 hb hlt0) (shut_int Tryz.underlying5 hwf1),rfl,hb.frame _,fun h=>by cases h⟩
end Go.Proofs.YtbecjgckobhmpaaGreatDoor
