/-
  Proved here: a part of what the claim needs (texts YK9 of the prover's own).
-/
import Derived.Test.YtbecjgckobhmpaaGreatDoorLY06
import Derived.ChangeMaps5
namespace Go.Proofs.YtbecjgckobhmpaaGreatDoor
open Go Go.AM Go.Proofs Go.ChangeShapes Go.WideShapes Go.ChangeAt Go.RowKit Go.ChangeMaps
set_option maxRecDepth 100000
theorem lifted9 (law:∀ s0:ByteArray,∀ l1:List Int,(∀ x ∈ l1,0≤x∧x < 256)→∃ n,F9 n s0 l1 = some true) (os:Os) (started:os.Started) (H:Type) (enc:TypeId × Value→H) :
  ReturnsInHanded {} Tryz.checked os 9 .any (fun w args=>(Rows.parserLayoutSpec.pre enc Tryz.prog Tryz.f9 [] false w args∧laidMetH Tryz.prog Rows.parserLayoutRow.laid w)∧sizedMet enc Tryz.prog Tryz.f9 (OpenSpec.ofChange Rows.parserLayoutSpec) false w args)
   (Rows.parserLayoutSpec.post enc Tryz.prog Tryz.f9 false true false false):=by
 refine returnsInHanded_of_change_and (C:=Tryz.checked) (X:=fun w _=>laidMetH Tryz.prog Rows.parserLayoutRow.laid w) (fun _ _ _ hh h=>h.of_heap hh) Tryz.own' started (by kernel_rfl) Tryz.func9
  (ChangeSpec.witness_shaped (enc:=enc) (C:=Tryz.checked) (os:=os) (X:=fun w _=>laidMetH Tryz.prog Rows.parserLayoutRow.laid w) false (World.laidAll Tryz.prog os Rows.parserLayoutRow.laid) #[.string ⟨#[]⟩,.slice none 0 0] 8 (World.laidAll_os _ _ _)
   (World.shaped_of_ZipB (by kernel_rfl) (by kernel_rfl)) (by kernel_rfl) (by kernel_rfl) (by kernel_rfl)
   (by rw [MakeChecks.laidMetH_plain _ _ _ (by kernel_rfl)]; exact laidMet_laidAll _ (by kernel_rfl) (by kernel_rfl))) ?_
 intro W base args ds gs before hval0 hW _ _ hL _
 have hval:∀ (j:Nat) t v,Tryz.f9.params[j]? = some t→args[j]? = some v→Value.okWide Tryz.prog W .any base t v:=hval0
 have hW':=hW
 obtain ⟨p,q,hA0,hV,rfl,_,_⟩:=hW
 have hA:DataW.TrodAll enc Tryz.prog W 0 (fun _=>true) true Tryz.f9.params.toList args.toList ds p:=hA0
 rw [Tryz.params9] at hA hval
 obtain ⟨v0,v1,d0,d1,p0,p1,rfl,rfl,rfl,h0,h1⟩:=trodAll_two hA
 obtain ⟨rfl,rfl⟩:=trodVars_none hV
 simp only [List.append_nil] at hW'
 have hlt1:∀ x ∈ p1,x.block < W.heap.size:=fun x hx=>by simpa using hW'.lt x (List.mem_append_right _ hx)
 obtain ⟨s0,rfl,rfl,rfl,hs0⟩:=open_string Tryz.underlying9 (hval 0 9 v0 rfl rfl) h0
 obtain ⟨l1,hl1,hvl1⟩:=arg_bytes (cells_bytes (hval 1 55 v1 rfl rfl)) h1
 rw [MakeChecks.laidMetH_plain _ _ _ (by kernel_rfl)] at hL
 obtain ⟨n,hn⟩:=law s0 l1 hl1
 have hc:=R_calls (F9_R n s0 l1 true hn (st:=[]) (p0:=.shut)) (G:=G0 W) (w:=W) (cargs:=[.string s0,v1]) (VL.cons (by simp only [V]) (VL.cons hvl1 VL.nil)) (G0_ok W) (globs_ok hL)
 refine hc.mono fun e W' ⟨c',G',he,hv,hb⟩=>?_
 subst he
 have hcb:c' = .bool true:=by simpa [vB,V] using hv
 subst hcb
 exact ⟨_,rfl,_,_,_,[],_,[],hW',trodAll_mk1 (shut_bool Tryz.underlying4 true),trodAll_mk2 (shut_string Tryz.underlying9 hs0) (Below.trod Tryz.laidOut' (by kernel_rfl) (of_decide_eq_true (by kernel_rfl)) h1 hb hlt1),rfl,hb.frame _,fun h=>by cases h⟩
end Go.Proofs.YtbecjgckobhmpaaGreatDoor
