/-
  Proved here: a part of what the claim needs (texts YG1 of the prover's own).
-/
import Derived.Test.YtbecjgckobhmpaaGreatDoorPS02
namespace Go.Proofs.YtbecjgckobhmpaaGreatDoor
open Go Go.AM Go.Proofs
set_option maxRecDepth 100000
set_option maxHeartbeats 4000000
def F62 (a0:Node):Option Bool := some ((decide (1≤a0.kind)) && (decide (a0.kind≤8)))
theorem F62_R (a0:Node) (r:Bool) (hr:F62 a0 = some r) {st:St} {p0:Spare}:R Tryz.prog AN 62 [.agg (cNode p0 a0)] st (.ret (vB r)) st:=by
 unfold F62 at hr
 refine R_pureX [aN a0] [(0,aN a0)] (by kernel_rfl) Tryz.func62 rfl (by kernel_rfl) (by simp only [strip,stripL,stripL_cNode,Option.bind_some,Option.map_some]) rfl fun fr st H K=>W_seq (W_reg (q_g 2 [(1,cN a0 0)] H fun _ H=>q_e (W_seq (W_reg (q_g 4 [(1,cN a0 0),(6,vB (decide (1≤a0.kind)))] H fun _ H=>?_)))))
 refine k_g 4 [(10,vB ((decide (1≤a0.kind)) && (decide (a0.kind≤8))))] H (fun _ _=>by generalize (decide (1≤a0.kind)) = b0; cases b0 <;> kernel_rfl) fun _ H=>q_g 1 [(2,vB ((decide (1≤a0.kind)) && (decide (a0.kind≤8))))] H fun _ H=>q_e (W_ret ?_)
 obtain rfl:=sj hr
 exact q_r [vB ((decide (1≤a0.kind)) && (decide (a0.kind≤8)))] H K
def F96_step (F96:Node→Int→Int→Option (Bool × Int)) (n:Nat) (a0:Node) (a1:Int) (a2:Int):Option (Bool × Int) := bif (decide (1500 < (w64 (a2 + 1)))) || (decide (40 < a1)) then (some (false,w64 (a2 + 1))) else ((iter (σ:=Int × Int) (ρ:=Int ⊕ Int) (fun s2=>bif decide (s2.1 < (a0.kids.length:Int)) then ((idxL a0.kids s2.1).bind fun x4 => (F96 x4 (w64 (a1 + 1)) s2.2).bind fun x5 => bif !x5.1 then (some (.inr (.inl x5.2))) else (some (.inl (w64 (s2.1 + 1),x5.2)))) else (some (.inr (.inr s2.2)))) n ((0:Int),w64 (a2 + 1))).bind fun r7=>match r7 with | .inl r7a=>some (false,r7a) | .inr r7b=>some (true,r7b))
def F96:Nat→Node→Int→Int→Option (Bool × Int)
 | 0,_,_,_=>none
 | n + 1,a0,a1,a2=>F96_step (F96 n) n a0 a1 a2
theorem F96_RR (n:Nat):(∀ (a0:Node) (a1:Int) (a2:Int) (r:Bool × Int),F96 n a0 a1 a2 = some r→∀ {st:St} {rs:List Res} {i0 i1:Nat} {p0:Spare} (_:HL st (.obj i0 (.cells 3 [vI a2]) :: .obj i1 (.cells 124 [.fn 96 [] [.ptr i0 0,.ptr i1 0]]) :: rs)),∃ (st':St),R Tryz.prog AN 96 [.cptr (cNode p0 a0) 0,vI a1,.ptr i0 0,.ptr i1 0] st (.ret (vB r.1)) st'∧HL st' (.obj i0 (.cells 3 [vI r.2]) :: .obj i1 (.cells 124 [.fn 96 [] [.ptr i0 0,.ptr i1 0]]) :: rs)):=by
 induction n with
 | zero=>(intros; contradiction)
 | succ n ih =>
  have ih_F96:=@ih; clear ih
  intro a0 a1 a2 r hr st rs i0 i1 p0 K
  change F96_step (F96 n) n a0 a1 a2 = some r at hr
  unfold F96_step at hr
  suffices h:∃ v st',R Tryz.prog AN 96 [.cptr (cNode p0 a0) 0,vI a1,.ptr i0 0,.ptr i1 0] st (.ret v) st'∧(v = (vB r.1)∧HL st' (.obj i0 (.cells 3 [vI r.2]) :: .obj i1 (.cells 124 [.fn 96 [] [.ptr i0 0,.ptr i1 0]]) :: rs)) by
   obtain ⟨v,st',hR,rfl,K⟩:=h
   exact ⟨st',hR,K⟩
  refine R_bodyX (Post:=fun v st=>v = (vB r.1)∧HL st (.obj i0 (.cells 3 [vI r.2]) :: .obj i1 (.cells 124 [.fn 96 [] [.ptr i0 0,.ptr i1 0]]) :: rs)) [(0,.cptr (cNode p0 a0) 0),(1,vI a1),(2,.ptr i0 0),(3,.ptr i1 0)] (by kernel_rfl) Tryz.func96 rfl (by kernel_rfl) rfl fun _ H=>W_seq (W_reg (q_g 1 [(0,.cptr (cNode p0 a0) 0),(1,vI a1),(2,.ptr i0 0),(3,.ptr i1 0)] H fun _ H=>q_e (W_seq (W_reg ?_))))
  refine k_load (t:=3) (off:=0) 0 [(0,.cptr (cNode p0 a0) 0),(1,vI a1),(2,.ptr i0 0),(3,.ptr i1 0),(8,vI a2)] H K rfl (v:=vI a2) (by kernel_rfl) (fun _=>by kernel_rfl) fun _ H=>q_g 1 [(0,.cptr (cNode p0 a0) 0),(1,vI a1),(2,.ptr i0 0),(3,.ptr i1 0),(9,vI (w64 (a2 + 1)))] H fun _ H=>?_
  refine k_store (t:=3) (off:=0) (v:=vI (w64 (a2 + 1))) (cs':=[vI (w64 (a2 + 1))]) 0 [(0,.cptr (cNode p0 a0) 0),(1,vI a1),(2,.ptr i0 0),(3,.ptr i1 0)] H K rfl (by kernel_rfl) (fun _=>by kernel_rfl) fun st K fr H=>q_e (W_seq (W_seq (W_reg ?_)))
  refine k_load (t:=3) (off:=0) 0 [(0,.cptr (cNode p0 a0) 0),(1,vI a1),(3,.ptr i1 0),(10,vI (w64 (a2 + 1)))] H K rfl (v:=vI (w64 (a2 + 1))) (by kernel_rfl) (fun _=>by kernel_rfl) fun _ H=>q_g 2 [(0,.cptr (cNode p0 a0) 0),(1,vI a1),(3,.ptr i1 0),(12,vB (decide (1500 < (w64 (a2 + 1)))))] H fun _ H=>?_
  refine k_g 3 [(0,.cptr (cNode p0 a0) 0),(1,vI a1),(3,.ptr i1 0),(15,vB ((decide (1500 < (w64 (a2 + 1)))) || (decide (40 < a1))))] H (fun _ _=>by generalize (decide (1500 < (w64 (a2 + 1)))) = b0; cases b0 <;> kernel_rfl) fun _ H=>q_e ?_
  rcases csplit hr with ⟨c1,hr⟩|⟨c1,hr⟩
  ·refine q_T H c1 (W_seq (W_reg (q_g 1 [(6,vB false)] H fun _ H=>q_e (W_ret ?_))))
   obtain rfl:=sj hr
   show endsB _ Tryz.f96 _ .ret _ _
   refine e_retB [vB false] H K (fun _=>resT (by kernel_rfl) resN) ?_
   exact ⟨rfl,(K.keep [true,true])⟩
  refine q_F H c1 (W_skip (W_seq (W_seq (W_reg (q_g 4 [(0,.cptr (cNode p0 a0) 0),(1,vI a1),(3,.ptr i1 0),(19,vL tNode a0.kids p0)] H fun _ H=>?_)))))
  refine q_v (.len 22 (vL tNode a0.kids p0)) [(0,.cptr (cNode p0 a0) 0),(1,vI a1),(3,.ptr i1 0),(20,vI (a0.kids.length:Int))] H (run_len tNode (by kernel_rfl)) fun _ H=>q_g 1 [(0,.cptr (cNode p0 a0) 0),(1,vI a1),(3,.ptr i1 0),(20,vI (a0.kids.length:Int)),(21,vI 0)] H fun _ H=>q_e (W_block ?_)
  obtain ⟨r7,hr7,hr⟩:=obind hr
  refine W_iter hr7 (fun (s2:Int × Int) fr st=>Rd fr [(0,.cptr (cNode p0 a0) 0),(1,vI a1),(3,.ptr i1 0),(20,vI (a0.kids.length:Int)),(21,vI s2.1)]∧HL st (.obj i0 (.cells 3 [vI s2.2]) :: .obj i1 (.cells 124 [.fn 96 [] [.ptr i0 0,.ptr i1 0]]) :: rs)) (fun (r7:Int ⊕ Int) e fr st=>match r7 with | .inl r7a=>(e = .ret∧Rd fr [(6,vB false)]∧HL st (.obj i0 (.cells 3 [vI r7a]) :: .obj i1 (.cells 124 [.fn 96 [] [.ptr i0 0,.ptr i1 0]]) :: rs)) | .inr r7b=>(e = .exit 0∧Rd fr []∧HL st (.obj i0 (.cells 3 [vI r7b]) :: .obj i1 (.cells 124 [.fn 96 [] [.ptr i0 0,.ptr i1 0]]) :: rs))) ⟨H.tq,K.keep [true,true]⟩ ?_ ?_
  ·intro s2 fr st r hi hr
   obtain ⟨H,K⟩:=hi
   refine W_seq (W_reg (q_g 1 [(0,.cptr (cNode p0 a0) 0),(1,vI a1),(3,.ptr i1 0),(20,vI (a0.kids.length:Int)),(21,vI s2.1),(22,vB (decide (s2.1 < (a0.kids.length:Int))))] H fun _ H=>q_e (W_seq ?_)))
   rcases csplit hr with ⟨c3,hr⟩|⟨c3,hr⟩
   rotate_left
   ·refine q_F H c3 ?_
    refine W_exit ?_
    obtain rfl:=sj hr
    exact ⟨by simp,⟨rfl,H.tq,K.keep [true,true]⟩⟩
   refine q_T H c3 (W_skip (W_seq (W_block (W_seq (W_reg (q_g 2 [(0,.cptr (cNode p0 a0) 0),(1,vI a1),(3,.ptr i1 0),(7,vI s2.1),(20,vI (a0.kids.length:Int)),(21,vI s2.1)] H fun _ H=>q_e (W_seq (W_drw ?_))))))))
   refine k_load (t:=124) (off:=0) 1 [(0,.cptr (cNode p0 a0) 0),(1,vI a1),(3,.ptr i1 0),(7,vI s2.1),(20,vI (a0.kids.length:Int)),(21,vI s2.1),(24,.fn 96 [] [.ptr i0 0,.ptr i1 0])] H K rfl (v:=.fn 96 [] [.ptr i0 0,.ptr i1 0]) (by kernel_rfl) (fun _=>by kernel_rfl) fun _ H=>q_g 5 [(0,.cptr (cNode p0 a0) 0),(1,vI a1),(3,.ptr i1 0),(20,vI (a0.kids.length:Int)),(21,vI s2.1),(24,.fn 96 [] [.ptr i0 0,.ptr i1 0]),(28,vL tNode a0.kids p0),(29,vI s2.1)] H fun _ H=>?_
   obtain ⟨x4,hx4,hr⟩:=obind hr
   refine q_v (.indexAddr 22 (vL tNode a0.kids p0) (vI s2.1)) [(0,.cptr (cNode p0 a0) 0),(1,vI a1),(3,.ptr i1 0),(20,vI (a0.kids.length:Int)),(21,vI s2.1),(24,.fn 96 [] [.ptr i0 0,.ptr i1 0]),(30,cN x4 0)] H (run_idxL tNode (by kernel_rfl) hx4) fun _ H=>q_g 2 [(0,.cptr (cNode p0 a0) 0),(1,vI a1),(3,.ptr i1 0),(20,vI (a0.kids.length:Int)),(21,vI s2.1),(24,.fn 96 [] [.ptr i0 0,.ptr i1 0]),(30,cN x4 0),(32,vI (w64 (a1 + 1)))] H fun _ H=>?_
   obtain ⟨x5,hx5,hr⟩:=obind hr
   obtain ⟨st,hR,K⟩:=ih_F96 x4 (w64 (a1 + 1)) s2.2 x5 hx5 (i0:=i0) (i1:=i1) (p0:=.shut) ((K.front 1 rfl).front 1 rfl)
   refine q_c hR 2 [(0,.cptr (cNode p0 a0) 0),(1,vI a1),(3,.ptr i1 0),(20,vI (a0.kids.length:Int)),(21,vI s2.1),(33,vB x5.1)] H fun _ H=>q_g 1 [(0,.cptr (cNode p0 a0) 0),(1,vI a1),(3,.ptr i1 0),(20,vI (a0.kids.length:Int)),(21,vI s2.1),(34,vB !x5.1)] H fun _ H=>q_e (q_d ?_)
   rcases csplit hr with ⟨c6,hr⟩|⟨c6,hr⟩
   ·refine q_T H c6 (W_seq (W_reg (q_g 1 [(6,vB false)] H fun _ H=>q_e (W_ret ?_))))
    obtain rfl:=sj hr
    exact ⟨by simp,⟨rfl,H.tq,K.keep [true,true]⟩⟩
   refine q_F H c6 (W_skip (W_reg (q_g 2 [(0,.cptr (cNode p0 a0) 0),(1,vI a1),(3,.ptr i1 0),(20,vI (a0.kids.length:Int)),(21,vI (w64 (s2.1 + 1)))] H fun _ H=>q_e ?_)))
   obtain rfl:=sj hr
   exact ⟨rfl,⟨H.tq,K.keep [true,true]⟩⟩
  rcases r7 with r7a | r7b
  ·rintro e fr st ⟨rfl,H,K⟩
   obtain rfl:=sj hr
   show endsB _ Tryz.f96 _ .ret _ _
   refine e_retB [vB false] H K (fun _=>resT (by kernel_rfl) resN) ?_
   exact ⟨rfl,(K.keep [true,true])⟩
  rintro e fr st ⟨rfl,H,K⟩
  refine W_seq (W_reg (q_g 1 [(6,vB true)] H fun _ H=>q_e (W_ret ?_)))
  obtain rfl:=sj hr
  show endsB _ Tryz.f96 _ .ret _ _
  refine e_retB [vB true] H K (fun _=>resT (by kernel_rfl) resN) ?_
  exact ⟨rfl,(K.keep [true,true])⟩
theorem F96_R (n:Nat) (a0:Node) (a1:Int) (a2:Int) (r:Bool × Int) (hr:F96 n a0 a1 a2 = some r) {st:St} {rs:List Res} {i0 i1:Nat} {p0:Spare} (K:HL st (.obj i0 (.cells 3 [vI a2]) :: .obj i1 (.cells 124 [.fn 96 [] [.ptr i0 0,.ptr i1 0]]) :: rs)):∃ (st':St),R Tryz.prog AN 96 [.cptr (cNode p0 a0) 0,vI a1,.ptr i0 0,.ptr i1 0] st (.ret (vB r.1)) st'∧HL st' (.obj i0 (.cells 3 [vI r.2]) :: .obj i1 (.cells 124 [.fn 96 [] [.ptr i0 0,.ptr i1 0]]) :: rs):=(F96_RR n) a0 a1 a2 r hr K
def F59 (n:Nat) (a0:Node):Option Bool := (F96 n a0 (1:Int) (0:Int)).bind fun x3 => some x3.1
theorem F59_R (n:Nat) (a0:Node) (r:Bool) (hr:F59 n a0 = some r) {st:St} {p0:Spare}:R Tryz.prog AN 59 [.agg (cNode p0 a0)] st (.ret (vB r)) st:=by
 unfold F59 at hr
 refine R_pureX [aN a0] [(0,aN a0)] (by kernel_rfl) Tryz.func59 rfl (by kernel_rfl) (by simp only [strip,stripL,stripL_cNode,Option.bind_some,Option.map_some]) rfl fun fr st H K=>W_seq (W_reg (q_g 2 [(1,cN a0 0)] H fun _ H=>q_e (W_seq (W_reg ?_))))
 refine k_alloc (t:=3) (cs:=[vI 0]) (fun id1=>[(1,cN a0 0),(3,.ptr id1 0)]) H K (by kernel_rfl) (fun _ _=>by kernel_rfl) fun id1 st K fr H=>?_
 refine k_store (t:=3) (off:=0) (v:=vI 0) (cs':=[vI 0]) 0 [(1,cN a0 0),(3,.ptr id1 0)] H K rfl (by kernel_rfl) (fun _=>by kernel_rfl) fun st K fr H=>q_e (W_seq (W_reg ?_))
 refine k_alloc (t:=124) (cs:=[.sc .nilFunc]) (fun id2=>[(1,cN a0 0),(3,.ptr id1 0),(4,.ptr id2 0)]) H K (by kernel_rfl) (fun _ _=>by kernel_rfl) fun id2 st K fr H=>q_e (W_seq (W_reg (q_g 1 [(1,cN a0 0),(4,.ptr id2 0),(5,.fn 96 [] [.ptr id1 0,.ptr id2 0])] H fun _ H=>?_)))
 refine k_store (t:=124) (off:=0) (v:=.fn 96 [] [.ptr id1 0,.ptr id2 0]) (cs':=[.fn 96 [] [.ptr id1 0,.ptr id2 0]]) 0 [(1,cN a0 0),(4,.ptr id2 0)] H K rfl (by kernel_rfl) (fun _=>by kernel_rfl) fun st K fr H=>q_e (W_seq (W_reg ?_))
 refine k_load (t:=124) (off:=0) 0 [(1,cN a0 0),(6,.fn 96 [] [.ptr id1 0,.ptr id2 0])] H K rfl (v:=.fn 96 [] [.ptr id1 0,.ptr id2 0]) (by kernel_rfl) (fun _=>by kernel_rfl) fun _ H=>?_
 obtain ⟨x3,hx3,hr⟩:=obind hr
 obtain ⟨st,hR,K⟩:=F96_R n a0 (1:Int) (0:Int) x3 hx3 (i0:=id1) (i1:=id2) (p0:=.shut) ((K.front 0 rfl).front 1 rfl)
 refine q_c hR 2 [(7,vB x3.1)] H fun _ H=>q_g 1 [(2,vB x3.1)] H fun _ H=>q_e (W_ret ?_)
 obtain rfl:=sj hr
 exact q_r [vB x3.1] H K
def F154 (a0:Int):Option Bool := some ((decide (0≤a0)) && (decide (a0≤999999999)))
theorem F154_R (a0:Int) (r:Bool) (hr:F154 a0 = some r) {st:St}:R Tryz.prog AN 154 [vI a0] st (.ret (vB r)) st:=by
 unfold F154 at hr
 refine pK [vI a0] [(0,vI a0)] Tryz.func154 rfl fun fr st H K=>W_seq (W_reg (q_g 1 [(0,vI a0)] H fun _ H=>q_e (W_seq (W_reg (q_g 3 [(0,vI a0),(5,vB (decide (0≤a0)))] H fun _ H=>?_)))))
 refine k_g 3 [(8,vB ((decide (0≤a0)) && (decide (a0≤999999999))))] H (fun _ _=>by generalize (decide (0≤a0)) = b0; cases b0 <;> kernel_rfl) fun _ H=>q_g 1 [(2,vB ((decide (0≤a0)) && (decide (a0≤999999999))))] H fun _ H=>q_e (W_ret ?_)
 obtain rfl:=sj hr
 exact q_r [vB ((decide (0≤a0)) && (decide (a0≤999999999)))] H K
def F157 (n:Nat) (a0:ByteArray):Option Bool := bif (decide ((a0.size:Int) < 1)) || (decide (16 < (a0.size:Int))) then (some false) else (bif isKey a0 then (some false) else ((iter (σ:=Int) (ρ:=Unit ⊕ Unit) (fun s3=>bif decide (s3 < (a0.size:Int)) then ((idxS a0 s3).bind fun x5 => bif (!(((decide (65≤x5)) && (decide (x5≤90))) || ((decide (97≤x5)) && (decide (x5≤122))))) && ((s3 == 0) || ((x5 != 95) && ((decide (x5 < 48)) || (decide (57 < x5))))) then (some (.inr (.inl ()))) else (some (.inl (w64 (s3 + 1))))) else (some (.inr (.inr ())))) n (0:Int)).bind fun r13=>match r13 with | .inl _=>some false | .inr _=>some true))
theorem F157_R (n:Nat) (a0:ByteArray) (r:Bool) (hr:F157 n a0 = some r) {st:St}:R Tryz.prog AN 157 [.agg [keysV],vS a0] st (.ret (vB r)) st:=by
 unfold F157 at hr
 refine pK [.agg [keysV],vS a0] [(0,.agg [keysV]),(1,vS a0)] Tryz.func157 rfl fun fr st H K=>W_seq (W_reg (q_g 2 [(1,vS a0),(2,.cptr ([keysV]) 0)] H fun _ H=>q_e (W_seq (W_seq (W_reg (q_g 4 [(1,vS a0),(2,.cptr ([keysV]) 0),(11,vB (decide ((a0.size:Int) < 1)))] H fun _ H=>?_))))))
 refine k_g 4 [(1,vS a0),(2,.cptr ([keysV]) 0),(15,vB ((decide ((a0.size:Int) < 1)) || (decide (16 < (a0.size:Int)))))] H (fun _ _=>by generalize (decide ((a0.size:Int) < 1)) = b0; cases b0 <;> kernel_rfl) fun _ H=>q_g 1 [(1,vS a0),(2,.cptr ([keysV]) 0),(16,vB ((decide ((a0.size:Int) < 1)) || (decide (16 < (a0.size:Int)))))] H fun _ H=>?_
 rcases csplit hr with ⟨c1,hr⟩|⟨c1,hr⟩
 ·rw [c1] at H
  refine q_g 5 [(1,vS a0),(21,vB true)] H fun _ H=>q_e (q_T H rfl (W_seq (W_reg (q_g 1 [(4,vB false)] H fun _ H=>q_e (W_ret ?_)))))
  obtain rfl:=sj hr
  exact q_r [vB false] H K
 rw [c1] at H
 refine q_g 3 [(1,vS a0),(16,vB false),(18,keysV),(19,vS a0)] H fun _ H=>?_
 refine q_v (.lookup 85 keysV (vS a0)) [(1,vS a0),(16,vB false),(20,vB (isKey a0))] H (run_key) fun _ H=>q_g 1 [(1,vS a0),(21,vB (isKey a0))] H fun _ H=>q_e ?_
 rcases csplit hr with ⟨c2,hr⟩|⟨c2,hr⟩
 ·refine q_T H c2 (W_seq (W_reg (q_g 1 [(4,vB false)] H fun _ H=>q_e (W_ret ?_))))
  obtain rfl:=sj hr
  exact q_r [vB false] H K
 refine q_F H c2 (W_skip (W_seq (W_seq (W_reg (q_g 3 [(1,vS a0),(23,vI (a0.size:Int)),(24,vI 0)] H fun _ H=>q_e (W_block ?_))))))
 obtain ⟨r13,hr13,hr⟩:=obind hr
 refine W_iter hr13 (fun (s3:Int) fr st=>Rd fr [(1,vS a0),(23,vI (a0.size:Int)),(24,vI s3)]∧HL st []) (fun (r13:Unit ⊕ Unit) e fr st=>match r13 with | .inl r13a=>(e = .ret∧Rd fr [(4,vB false)]∧HL st []) | .inr r13b=>(e = .exit 0∧Rd fr []∧HL st [])) ⟨H.tq,K.keep []⟩ ?_ ?_
 ·intro s3 fr st r hi hr
  obtain ⟨H,K⟩:=hi
  refine W_seq (W_reg (q_g 1 [(1,vS a0),(23,vI (a0.size:Int)),(24,vI s3),(25,vB (decide (s3 < (a0.size:Int))))] H fun _ H=>q_e (W_seq ?_)))
  rcases csplit hr with ⟨c4,hr⟩|⟨c4,hr⟩
  rotate_left
  ·refine q_F H c4 ?_
   refine W_exit ?_
   obtain rfl:=sj hr
   exact ⟨by simp,⟨rfl,H.tq,K.keep []⟩⟩
  refine q_T H c4 (W_skip (W_seq (W_block (W_seq (W_reg (q_g 2 [(1,vS a0),(5,vI s3),(23,vI (a0.size:Int)),(24,vI s3)] H fun _ H=>q_e (W_seq (W_reg (q_g 2 [(1,vS a0),(5,vI s3),(23,vI (a0.size:Int)),(24,vI s3),(27,vS a0),(28,vI s3)] H fun _ H=>?_)))))))))
  obtain ⟨x5,hx5,hr⟩:=obind hr
  refine q_v (.index 9 (vS a0) (vI s3)) [(1,vS a0),(5,vI s3),(23,vI (a0.size:Int)),(24,vI s3),(29,vU x5)] H (run_idxS (by kernel_rfl) hx5) fun _ H=>q_g 1 [(1,vS a0),(5,vI s3),(6,vU x5),(23,vI (a0.size:Int)),(24,vI s3)] H fun _ H=>q_e (W_seq (W_reg (q_g 3 [(1,vS a0),(5,vI s3),(6,vU x5),(23,vI (a0.size:Int)),(24,vI s3),(32,vB (decide (65≤x5)))] H fun _ H=>?_)))
  refine k_g 3 [(1,vS a0),(5,vI s3),(6,vU x5),(23,vI (a0.size:Int)),(24,vI s3),(35,vB ((decide (65≤x5)) && (decide (x5≤90))))] H (fun _ _=>by generalize (decide (65≤x5)) = b0; cases b0 <;> kernel_rfl) fun _ H=>q_g 1 [(1,vS a0),(5,vI s3),(6,vU x5),(23,vI (a0.size:Int)),(24,vI s3),(36,vB ((decide (65≤x5)) && (decide (x5≤90))))] H fun _ H=>?_
  refine k_seg 7 [(1,vS a0),(5,vI s3),(6,vU x5),(23,vI (a0.size:Int)),(24,vI s3),(43,vB (((decide (65≤x5)) && (decide (x5≤90))) || ((decide (97≤x5)) && (decide (x5≤122)))))] ?_ ?_
  ·cases hg6:((decide (65≤x5)) && (decide (x5≤90)))
   ·rw [hg6] at H
    refine seg_go (m:=4) 3 [(1,vS a0),(5,vI s3),(6,vU x5),(23,vI (a0.size:Int)),(24,vI s3),(36,vB false),(39,vB (decide (97≤x5)))] H (fun _ _=>by kernel_rfl) fun _ H=>?_
    cases hg7:(decide (97≤x5))
    ·rw [hg7] at H
     refine seg_go (m:=0) 4 [(1,vS a0),(5,vI s3),(6,vU x5),(23,vI (a0.size:Int)),(24,vI s3),(43,vB false)] H (fun _ _=>by kernel_rfl) fun _ H=>?_
     exact seg_end (by (try simp only [hg6,hg7]); exact H.tq)
    ·rw [hg7] at H
     refine seg_go (m:=0) 4 [(1,vS a0),(5,vI s3),(6,vU x5),(23,vI (a0.size:Int)),(24,vI s3),(43,vB (decide (x5≤122)))] H (fun _ _=>by kernel_rfl) fun _ H=>?_
     exact seg_end (by (try simp only [hg6,hg7]); exact H.tq)
   ·rw [hg6] at H
    refine seg_go (m:=0) 7 [(1,vS a0),(5,vI s3),(6,vU x5),(23,vI (a0.size:Int)),(24,vI s3),(43,vB true)] H (fun _ _=>by kernel_rfl) fun _ H=>?_
    exact seg_end (by (try simp only [hg6]); exact H.tq)
  intro fr H
  refine q_g 1 [(1,vS a0),(5,vI s3),(6,vU x5),(7,vB (((decide (65≤x5)) && (decide (x5≤90))) || ((decide (97≤x5)) && (decide (x5≤122))))),(23,vI (a0.size:Int)),(24,vI s3)] H fun _ H=>q_e (W_seq (W_reg (q_g 3 [(1,vS a0),(5,vI s3),(6,vU x5),(23,vI (a0.size:Int)),(24,vI s3),(46,vB (!(((decide (65≤x5)) && (decide (x5≤90))) || ((decide (97≤x5)) && (decide (x5≤122))))))] H fun _ H=>?_)))
  refine k_seg 15 [(1,vS a0),(23,vI (a0.size:Int)),(24,vI s3),(61,vB ((!(((decide (65≤x5)) && (decide (x5≤90))) || ((decide (97≤x5)) && (decide (x5≤122))))) && ((s3 == 0) || ((x5 != 95) && ((decide (x5 < 48)) || (decide (57 < x5)))))))] ?_ ?_
  ·cases hg8:(!(((decide (65≤x5)) && (decide (x5≤90))) || ((decide (97≤x5)) && (decide (x5≤122)))))
   ·rw [hg8] at H
    refine seg_go (m:=0) 15 [(1,vS a0),(23,vI (a0.size:Int)),(24,vI s3),(61,vB false)] H (fun _ _=>by kernel_rfl) fun _ H=>?_
    exact seg_end (by (try simp only [hg8]); exact H.tq)
   ·rw [hg8] at H
    refine seg_go (m:=12) 3 [(1,vS a0),(6,vU x5),(23,vI (a0.size:Int)),(24,vI s3),(46,vB true),(49,vB (s3 == 0))] H (fun _ _=>by kernel_rfl) fun _ H=>?_
    cases hg9:(s3 == 0)
    ·rw [hg9] at H
     refine seg_go (m:=9) 3 [(1,vS a0),(6,vU x5),(23,vI (a0.size:Int)),(24,vI s3),(46,vB true),(49,vB false),(52,vB (x5 != 95))] H (fun _ _=>by kernel_rfl) fun _ H=>?_
     cases hg10:(x5 != 95)
     ·rw [hg10] at H
      refine seg_go (m:=0) 9 [(1,vS a0),(23,vI (a0.size:Int)),(24,vI s3),(61,vB false)] H (fun _ _=>by kernel_rfl) fun _ H=>?_
      exact seg_end (by (try simp only [hg8,hg9,hg10]); exact H.tq)
     ·rw [hg10] at H
      refine seg_go (m:=6) 3 [(1,vS a0),(6,vU x5),(23,vI (a0.size:Int)),(24,vI s3),(46,vB true),(49,vB false),(52,vB true),(55,vB (decide (x5 < 48)))] H (fun _ _=>by kernel_rfl) fun _ H=>?_
      cases hg11:(decide (x5 < 48))
      ·rw [hg11] at H
       refine seg_go (m:=0) 6 [(1,vS a0),(23,vI (a0.size:Int)),(24,vI s3),(61,vB (decide (57 < x5)))] H (fun _ _=>by kernel_rfl) fun _ H=>?_
       exact seg_end (by (try simp only [hg8,hg9,hg10,hg11]); exact H.tq)
      ·rw [hg11] at H
       refine seg_go (m:=0) 6 [(1,vS a0),(23,vI (a0.size:Int)),(24,vI s3),(61,vB true)] H (fun _ _=>by kernel_rfl) fun _ H=>?_
       exact seg_end (by (try simp only [hg8,hg9,hg10,hg11]); exact H.tq)
    ·rw [hg9] at H
     refine seg_go (m:=0) 12 [(1,vS a0),(23,vI (a0.size:Int)),(24,vI s3),(61,vB true)] H (fun _ _=>by kernel_rfl) fun _ H=>?_
     exact seg_end (by (try simp only [hg8,hg9]); exact H.tq)
  intro fr H
  refine q_e ?_
  rcases csplit hr with ⟨c12,hr⟩|⟨c12,hr⟩
  ·refine q_T H c12 (W_seq (W_reg (q_g 1 [(4,vB false)] H fun _ H=>q_e (W_ret ?_))))
   obtain rfl:=sj hr
   exact ⟨by simp,⟨rfl,H.tq,K.keep []⟩⟩
  refine q_F H c12 (W_skip (W_reg (q_g 2 [(1,vS a0),(23,vI (a0.size:Int)),(24,vI (w64 (s3 + 1)))] H fun _ H=>q_e ?_)))
  obtain rfl:=sj hr
  exact ⟨rfl,⟨H.tq,K.keep []⟩⟩
 rcases r13 with r13a | r13b
 ·rintro e fr st ⟨rfl,H,K⟩
  obtain rfl:=sj hr
  exact q_r [vB false] H K
 rintro e fr st ⟨rfl,H,K⟩
 refine W_seq (W_reg (q_g 1 [(4,vB true)] H fun _ H=>q_e (W_ret ?_)))
 obtain rfl:=sj hr
 exact q_r [vB true] H K
def F222 (a0:ByteArray) (a1:ByteArray):Option (ByteArray × ByteArray × Bool) := (index1F a0 a1).bind fun x1 => bif decide (0≤x1) then ((subS a0 0 x1).bind fun x3 => (subS a0 (w64 (x1 + (a1.size:Int))) (a0.size:Int)).bind fun x4 => some (x3,x4,true)) else (some (a0,(bs []),false))
theorem F222_R (a0:ByteArray) (a1:ByteArray) (r:ByteArray × ByteArray × Bool) (hr:F222 a0 a1 = some r) {st:St}:R Tryz.prog AN 222 [vS a0,vS a1] st (.ret (.tuple [vS r.1,vS r.2.1,vB r.2.2])) st:=by
 unfold F222 at hr
 refine pK [vS a0,vS a1] [(0,vS a0),(1,vS a1)] Tryz.func222 rfl fun fr st H K=>W_seq (W_reg (q_g 3 [(0,vS a0),(1,vS a1)] H fun _ H=>q_e (W_seq (W_seq (W_reg (q_g 2 [(0,vS a0),(1,vS a1),(8,vS a0),(9,vS a1)] H fun _ H=>?_))))))
 obtain ⟨x1,hx1,hr⟩:=obind hr
 refine q_c (index1_R a0 a1 x1 hx1) 0 [(0,vS a0),(1,vS a1),(10,vI x1)] H fun _ H=>q_g 1 [(0,vS a0),(1,vS a1),(7,vI x1)] H fun _ H=>q_e (W_seq (W_reg (q_g 2 [(0,vS a0),(1,vS a1),(7,vI x1),(12,vB (decide (0≤x1)))] H fun _ H=>q_e ?_)))
 rcases csplit hr with ⟨c2,hr⟩|⟨c2,hr⟩
 rotate_left
 ·refine q_F H c2 (W_skip (W_seq (W_reg (q_g 4 [(4,vS a0),(5,vS (bs [])),(6,vB false)] H fun _ H=>q_e (W_ret ?_)))))
  obtain rfl:=sj hr
  exact e_ret [vS a0,vS (bs []),vB false] H K (fun _=>resT (by kernel_rfl) (resT (by kernel_rfl) (resT (by kernel_rfl) resN))) (fun _=>by kernel_rfl)
 refine q_T H c2 (W_seq (W_drw (q_g 2 [(0,vS a0),(1,vS a1),(7,vI x1),(13,vS a0),(14,vI x1)] H fun _ H=>?_)))
 obtain ⟨x3,hx3,hr⟩:=obind hr
 refine q_v (.slice 9 (vS a0) none (some (vI x1))) [(0,vS a0),(1,vS a1),(7,vI x1),(15,vS x3)] H (run_subS_hi (by kernel_rfl) hx3) fun _ H=>q_g 5 [(15,vS x3),(16,vS a0),(20,vI (w64 (x1 + (a1.size:Int))))] H fun _ H=>?_
 obtain ⟨x4,hx4,hr⟩:=obind hr
 refine q_v (.slice 9 (vS a0) (some (vI (w64 (x1 + (a1.size:Int))))) none) [(15,vS x3),(21,vS x4)] H (run_subS_lo (by kernel_rfl) hx4) fun _ H=>q_g 3 [(4,vS x3),(5,vS x4),(6,vB true)] H fun _ H=>q_e (q_d (W_ret ?_))
 obtain rfl:=sj hr
 exact e_ret [vS x3,vS x4,vB true] H K (fun _=>resT (by kernel_rfl) (resT (by kernel_rfl) (resT (by kernel_rfl) resN))) (fun _=>by kernel_rfl)
def F196 (a0:ByteArray) (a1:ByteArray):Option (ByteArray × ByteArray × Bool) := (F222 a0 a1).bind fun x1 => some (x1.1,x1.2.1,x1.2.2)
theorem F196_R (a0:ByteArray) (a1:ByteArray) (r:ByteArray × ByteArray × Bool) (hr:F196 a0 a1 = some r) {st:St}:R Tryz.prog AN 196 [vS a0,vS a1] st (.ret (.tuple [vS r.1,vS r.2.1,vB r.2.2])) st:=by
 unfold F196 at hr
 refine pK [vS a0,vS a1] [(0,vS a0),(1,vS a1)] Tryz.func196 rfl fun fr st H K=>W_seq (W_reg (q_g 3 [(0,vS a0),(1,vS a1)] H fun _ H=>q_e (W_seq (W_reg (q_g 2 [(7,vS a0),(8,vS a1)] H fun _ H=>?_)))))
 obtain ⟨x1,hx1,hr⟩:=obind hr
 refine q_c (F222_R  a0 a1 x1 hx1) 0 [(9,.tuple [vS x1.1,vS x1.2.1,vB x1.2.2])] H fun _ H=>q_g 6 [(4,vS x1.1),(5,vS x1.2.1),(6,vB x1.2.2)] H fun _ H=>q_e (W_ret ?_)
 obtain rfl:=sj hr
 exact e_ret [vS x1.1,vS x1.2.1,vB x1.2.2] H K (fun _=>resT (by kernel_rfl) (resT (by kernel_rfl) (resT (by kernel_rfl) resN))) (fun _=>by kernel_rfl)
def F155 (n:Nat) (a0:ByteArray):Option Bool := (iter (σ:=ByteArray × Int) (ρ:=Bool ⊕ Unit) (fun s1=>bif decide (s1.2 < 3) then ((F196 s1.1 (bs [46])).bind fun x3 => (F157 n x3.1).bind fun x4 => bif !x4 then (some (.inr (.inl false))) else (bif !x3.2.2 then (some (.inr (.inl true))) else (some (.inl (x3.2.1,w64 (s1.2 + 1)))))) else (some (.inr (.inr ())))) n (a0,(0:Int))).bind fun r7=>match r7 with | .inl r7a=>some r7a | .inr _=>some false
theorem F155_R (n:Nat) (a0:ByteArray) (r:Bool) (hr:F155 n a0 = some r) {st:St}:R Tryz.prog AN 155 [.agg [keysV],vS a0] st (.ret (vB r)) st:=by
 unfold F155 at hr
 refine pK [.agg [keysV],vS a0] [(0,.agg [keysV]),(1,vS a0)] Tryz.func155 rfl fun fr st H K=>W_seq (W_reg (q_g 2 [(1,vS a0),(2,.cptr ([keysV]) 0)] H fun _ H=>q_e (W_seq (W_seq (W_reg (q_g 1 [(1,vS a0),(2,.cptr ([keysV]) 0),(8,vI 0)] H fun _ H=>q_e (W_block ?_)))))))
 obtain ⟨r7,hr7,hr⟩:=obind hr
 refine W_iter hr7 (fun (s1:ByteArray × Int) fr st=>Rd fr [(1,vS s1.1),(2,.cptr ([keysV]) 0),(8,vI s1.2)]∧HL st []) (fun (r7:Bool ⊕ Unit) e fr st=>match r7 with | .inl r7a=>(e = .ret∧Rd fr [(4,vB r7a)]∧HL st []) | .inr r7b=>(e = .exit 0∧Rd fr []∧HL st [])) ⟨H.tq,K.keep []⟩ ?_ ?_
 ·intro s1 fr st r hi hr
  obtain ⟨H,K⟩:=hi
  refine W_seq (W_reg (q_g 1 [(1,vS s1.1),(2,.cptr ([keysV]) 0),(8,vI s1.2),(9,vB (decide (s1.2 < 3)))] H fun _ H=>q_e (W_seq ?_)))
  rcases csplit hr with ⟨c2,hr⟩|⟨c2,hr⟩
  rotate_left
  ·refine q_F H c2 ?_
   refine W_exit ?_
   obtain rfl:=sj hr
   exact ⟨by simp,⟨rfl,H.tq,K.keep []⟩⟩
  refine q_T H c2 (W_skip (W_seq (W_block (W_seq (W_reg (q_g 1 [(2,.cptr ([keysV]) 0),(8,vI s1.2),(11,vS s1.1)] H fun _ H=>?_))))))
  obtain ⟨x3,hx3,hr⟩:=obind hr
  refine q_c (F196_R  s1.1 (bs [46]) x3 hx3) 0 [(2,.cptr ([keysV]) 0),(8,vI s1.2),(12,.tuple [vS x3.1,vS x3.2.1,vB x3.2.2])] H fun _ H=>q_g 7 [(2,.cptr ([keysV]) 0),(5,vS x3.1),(6,vS x3.2.1),(7,vB x3.2.2),(8,vI s1.2)] H fun _ H=>q_e (W_seq (W_seq (W_reg (q_g 2 [(2,.cptr ([keysV]) 0),(6,vS x3.2.1),(7,vB x3.2.2),(8,vI s1.2),(16,.agg [keysV]),(17,vS x3.1)] H fun _ H=>?_))))
  obtain ⟨x4,hx4,hr⟩:=obind hr
  refine q_c (F157_R n x3.1 x4 hx4) 0 [(2,.cptr ([keysV]) 0),(6,vS x3.2.1),(7,vB x3.2.2),(8,vI s1.2),(18,vB x4)] H fun _ H=>q_g 1 [(2,.cptr ([keysV]) 0),(6,vS x3.2.1),(7,vB x3.2.2),(8,vI s1.2),(19,vB !x4)] H fun _ H=>q_e ?_
  rcases csplit hr with ⟨c5,hr⟩|⟨c5,hr⟩
  ·refine q_T H c5 (W_seq (W_reg (q_g 1 [(4,vB false)] H fun _ H=>q_e (W_ret ?_))))
   obtain rfl:=sj hr
   exact ⟨by simp,⟨rfl,H.tq,K.keep []⟩⟩
  refine q_F H c5 (W_skip (W_seq (W_seq (W_reg (q_g 2 [(2,.cptr ([keysV]) 0),(6,vS x3.2.1),(8,vI s1.2),(21,vB !x3.2.2)] H fun _ H=>q_e ?_)))))
  rcases csplit hr with ⟨c6,hr⟩|⟨c6,hr⟩
  ·refine q_T H c6 (W_seq (W_reg (q_g 1 [(4,vB true)] H fun _ H=>q_e (W_ret ?_))))
   obtain rfl:=sj hr
   exact ⟨by simp,⟨rfl,H.tq,K.keep []⟩⟩
  refine q_F H c6 (W_skip (W_reg (q_g 2 [(1,vS x3.2.1),(2,.cptr ([keysV]) 0),(8,vI s1.2)] H fun _ H=>q_e (W_reg (q_g 2 [(1,vS x3.2.1),(2,.cptr ([keysV]) 0),(8,vI (w64 (s1.2 + 1)))] H fun _ H=>q_e ?_)))))
  obtain rfl:=sj hr
  exact ⟨rfl,⟨H.tq,K.keep []⟩⟩
 rcases r7 with r7a | r7b
 ·rintro e fr st ⟨rfl,H,K⟩
  obtain rfl:=sj hr
  exact q_r [vB r7a] H K
 rintro e fr st ⟨rfl,H,K⟩
 refine W_seq (W_reg (q_g 1 [(4,vB false)] H fun _ H=>q_e (W_ret ?_)))
 obtain rfl:=sj hr
 exact q_r [vB false] H K
def F156 (a0:ByteArray):Option Int := bif strEq a0 (bs [61,61,62]) then (some (2:Int)) else (bif strEq a0 (bs [124,124]) then (some (3:Int)) else (bif strEq a0 (bs [38,38]) then (some (4:Int)) else ((bif strEq a0 (bs [61,61]) then (some (strEq a0 (bs [61,61]))) else (bif strEq a0 (bs [33,61]) then (some (strEq a0 (bs [33,61]))) else (bif strEq a0 (bs [60]) then (some (strEq a0 (bs [60]))) else (some (strEq a0 (bs [60,61]))))):Option (Bool)).bind fun j7 => bif j7 then (some (5:Int)) else (bif strEq a0 (bs [124]) then (some (6:Int)) else (bif strEq a0 (bs [94]) then (some (7:Int)) else (bif strEq a0 (bs [38]) then (some (8:Int)) else ((bif strEq a0 (bs [43]) then (some (strEq a0 (bs [43]))) else (some (strEq a0 (bs [45]))):Option (Bool)).bind fun j13 => bif j13 then (some (9:Int)) else (bif strEq a0 (bs [42]) then (some (10:Int)) else (some (0:Int))))))))))
theorem F156_R (a0:ByteArray) (r:Int) (hr:F156 a0 = some r) {st:St}:R Tryz.prog AN 156 [vS a0] st (.ret (vI r)) st:=by
 unfold F156 at hr
 refine pK [vS a0] [(0,vS a0)] Tryz.func156 rfl fun fr st H K=>W_seq (W_reg (q_g 1 [(0,vS a0)] H fun _ H=>q_e (W_seq (W_seq (W_reg (q_g 1 [(3,vS a0)] H fun _ H=>q_e (W_block (W_seq (W_reg (q_g 2 [(3,vS a0),(4,vB (strEq a0 (bs [61,61,62])))] H fun _ H=>q_e ?_))))))))))
 rcases csplit hr with ⟨c1,hr⟩|⟨c1,hr⟩
 ·refine q_T H c1 (W_seq (W_reg (q_g 1 [(2,vI 2)] H fun _ H=>q_e (W_ret ?_))))
  obtain rfl:=sj hr
  exact q_r [vI 2] H K
 refine q_F H c1 (W_seq (W_reg (q_g 2 [(3,vS a0),(6,vB (strEq a0 (bs [124,124])))] H fun _ H=>q_e ?_)))
 rcases csplit hr with ⟨c2,hr⟩|⟨c2,hr⟩
 ·refine q_T H c2 (W_seq (W_reg (q_g 1 [(2,vI 3)] H fun _ H=>q_e (W_ret ?_))))
  obtain rfl:=sj hr
  exact q_r [vI 3] H K
 refine q_F H c2 (W_seq (W_reg (q_g 2 [(3,vS a0),(8,vB (strEq a0 (bs [38,38])))] H fun _ H=>q_e ?_)))
 rcases csplit hr with ⟨c3,hr⟩|⟨c3,hr⟩
 ·refine q_T H c3 (W_seq (W_reg (q_g 1 [(2,vI 4)] H fun _ H=>q_e (W_ret ?_))))
  obtain rfl:=sj hr
  exact q_r [vI 4] H K
 refine q_F H c3 (W_seq ?_)
 obtain ⟨j7,hj7,hr⟩:=obind hr
 refine W_via (fun e fr st=>e = .normal∧Rd fr [(3,vS a0),(10,vB j7)]∧HL st []) ?_ ?_
 ·replace hr:=hj7
  refine W_seq (W_reg (q_g 2 [(3,vS a0),(10,vB (strEq a0 (bs [61,61])))] H fun _ H=>q_e ?_))
  rcases csplit hr with ⟨c4,hr⟩|⟨c4,hr⟩
  ·refine q_T H c4 (W_skip ?_)
   obtain rfl:=sj hr
   exact ⟨rfl,H.to (env':=_) (fun _=>by kernel_rfl),K.keep []⟩
  refine q_F H c4 (W_seq (W_reg (q_g 2 [(3,vS a0),(10,vB (strEq a0 (bs [33,61])))] H fun _ H=>q_e ?_)))
  rcases csplit hr with ⟨c5,hr⟩|⟨c5,hr⟩
  ·refine q_T H c5 (W_skip ?_)
   obtain rfl:=sj hr
   exact ⟨rfl,H.to (env':=_) (fun _=>by kernel_rfl),K.keep []⟩
  refine q_F H c5 (W_seq (W_reg (q_g 2 [(3,vS a0),(10,vB (strEq a0 (bs [60])))] H fun _ H=>q_e ?_)))
  rcases csplit hr with ⟨c6,hr⟩|⟨c6,hr⟩
  ·refine q_T H c6 (W_skip ?_)
   obtain rfl:=sj hr
   exact ⟨rfl,H.to (env':=_) (fun _=>by kernel_rfl),K.keep []⟩
  refine q_F H c6 (W_reg (q_g 2 [(3,vS a0),(10,vB (strEq a0 (bs [60,61])))] H fun _ H=>q_e ?_))
  obtain rfl:=sj hr
  exact ⟨rfl,H.to (env':=_) (fun _=>by kernel_rfl),K.keep []⟩
 rintro e fr st ⟨rfl,H,K⟩
 rcases csplit hr with ⟨c8,hr⟩|⟨c8,hr⟩
 ·refine q_T H c8 (W_seq (W_reg (q_g 1 [(2,vI 5)] H fun _ H=>q_e (W_ret ?_))))
  obtain rfl:=sj hr
  exact q_r [vI 5] H K
 refine q_F H c8 (W_seq (W_reg (q_g 2 [(3,vS a0),(15,vB (strEq a0 (bs [124])))] H fun _ H=>q_e ?_)))
 rcases csplit hr with ⟨c9,hr⟩|⟨c9,hr⟩
 ·refine q_T H c9 (W_seq (W_reg (q_g 1 [(2,vI 6)] H fun _ H=>q_e (W_ret ?_))))
  obtain rfl:=sj hr
  exact q_r [vI 6] H K
 refine q_F H c9 (W_seq (W_reg (q_g 2 [(3,vS a0),(17,vB (strEq a0 (bs [94])))] H fun _ H=>q_e ?_)))
 rcases csplit hr with ⟨c10,hr⟩|⟨c10,hr⟩
 ·refine q_T H c10 (W_seq (W_reg (q_g 1 [(2,vI 7)] H fun _ H=>q_e (W_ret ?_))))
  obtain rfl:=sj hr
  exact q_r [vI 7] H K
 refine q_F H c10 (W_seq (W_reg (q_g 2 [(3,vS a0),(19,vB (strEq a0 (bs [38])))] H fun _ H=>q_e ?_)))
 rcases csplit hr with ⟨c11,hr⟩|⟨c11,hr⟩
 ·refine q_T H c11 (W_seq (W_reg (q_g 1 [(2,vI 8)] H fun _ H=>q_e (W_ret ?_))))
  obtain rfl:=sj hr
  exact q_r [vI 8] H K
 refine q_F H c11 (W_seq ?_)
 obtain ⟨j13,hj13,hr⟩:=obind hr
 refine W_via (fun e fr st=>e = .normal∧Rd fr [(3,vS a0),(21,vB j13)]∧HL st []) ?_ ?_
 ·replace hr:=hj13
  refine W_seq (W_reg (q_g 2 [(3,vS a0),(21,vB (strEq a0 (bs [43])))] H fun _ H=>q_e ?_))
  rcases csplit hr with ⟨c12,hr⟩|⟨c12,hr⟩
  ·refine q_T H c12 (W_skip ?_)
   obtain rfl:=sj hr
   exact ⟨rfl,H.to (env':=_) (fun _=>by kernel_rfl),K.keep []⟩
  refine q_F H c12 (W_reg (q_g 2 [(3,vS a0),(21,vB (strEq a0 (bs [45])))] H fun _ H=>q_e ?_))
  obtain rfl:=sj hr
  exact ⟨rfl,H.to (env':=_) (fun _=>by kernel_rfl),K.keep []⟩
 rintro e fr st ⟨rfl,H,K⟩
 rcases csplit hr with ⟨c14,hr⟩|⟨c14,hr⟩
 ·refine q_T H c14 (W_seq (W_reg (q_g 1 [(2,vI 9)] H fun _ H=>q_e (W_ret ?_))))
  obtain rfl:=sj hr
  exact q_r [vI 9] H K
 refine q_F H c14 (W_seq (W_reg (q_g 2 [(24,vB (strEq a0 (bs [42])))] H fun _ H=>q_e ?_)))
 rcases csplit hr with ⟨c15,hr⟩|⟨c15,hr⟩
 ·refine q_T H c15 (W_seq (W_reg (q_g 1 [(2,vI 10)] H fun _ H=>q_e (W_ret ?_))))
  obtain rfl:=sj hr
  exact q_r [vI 10] H K
 refine q_F H c15 (W_skip (W_seq (W_reg (q_g 1 [(2,vI 0)] H fun _ H=>q_e (W_ret ?_)))))
 obtain rfl:=sj hr
 exact q_r [vI 0] H K
def F97 (n:Nat) (a0:Node):Option Bool := (bif a0.kind == 1 then ((F154 a0.n).bind fun x3 => some (x3,(bs []),(bs []),a0.n,(0:Int),(0:Int),false)) else ((bif a0.kind == 2 then (some (a0.kind == 2)) else (bif a0.kind == 24 then (some (a0.kind == 24)) else (bif a0.kind == 25 then (some (a0.kind == 25)) else (some (a0.kind == 33)))):Option (Bool)).bind fun j7 => bif j7 then ((F155 n a0.name).bind fun x9 => some (x9,a0.name,(bs []),(0:Int),(0:Int),(0:Int),false)) else (bif a0.kind == 5 then ((F156 a0.name).bind fun x11 => some ((x11 != 0),a0.name,(bs []),(0:Int),(0:Int),(0:Int),false)) else ((bif a0.kind == 7 then (some (a0.kind == 7)) else (bif a0.kind == 8 then (some (a0.kind == 8)) else (bif a0.kind == 58 then (some (a0.kind == 58)) else (some (a0.kind == 52)))):Option (Bool)).bind fun j15 => bif j15 then ((F157 n a0.name).bind fun x17 => bif x17 then ((F154 a0.n).bind fun x19 => some (x19,a0.name,(bs []),a0.n,(0:Int),(0:Int),false)) else (some (false,a0.name,(bs []),a0.n,(0:Int),(0:Int),false))) else (bif a0.kind == 35 then ((F157 n a0.name).bind fun x21 => bif x21 then ((F154 a0.n).bind fun x23 => some (x23,a0.name,(bs []),a0.n,(0:Int),(0:Int),a0.ghost)) else (some (false,a0.name,(bs []),a0.n,(0:Int),(0:Int),a0.ghost))) else (bif a0.kind == 21 then (some (((a0.n == 0) || (a0.n == 1)),(bs []),(bs []),a0.n,(0:Int),(0:Int),false)) else ((bif a0.kind == 27 then (some (a0.kind == 27)) else (bif a0.kind == 28 then (some (a0.kind == 28)) else (bif a0.kind == 51 then (some (a0.kind == 51)) else (some (a0.kind == 53)))):Option (Bool)).bind fun j28 => bif j28 then ((F157 n a0.name).bind fun x30 => some (x30,a0.name,(bs []),(0:Int),(0:Int),(0:Int),false)) else (bif a0.kind == 50 then ((F157 n a0.name).bind fun x32 => bif x32 then ((F154 a0.n).bind fun x34 => bif x34 then ((F154 a0.len).bind fun x36 => bif x36 then ((F154 a0.init).bind fun x38 => bif x38 then (bif strEq a0.other (bs []) then (some (true,a0.name,a0.other,a0.n,a0.len,a0.init,a0.ghost)) else (bif a0.n == 0 then ((F157 n a0.other).bind fun x42 => some (x42,a0.name,a0.other,a0.n,a0.len,a0.init,a0.ghost)) else (some (false,a0.name,a0.other,a0.n,a0.len,a0.init,a0.ghost)))) else (some (false,a0.name,a0.other,a0.n,a0.len,a0.init,a0.ghost))) else (some (false,a0.name,a0.other,a0.n,a0.len,a0.init,a0.ghost))) else (some (false,a0.name,a0.other,a0.n,a0.len,a0.init,a0.ghost))) else (some (false,a0.name,a0.other,a0.n,a0.len,a0.init,a0.ghost))) else (bif a0.kind == 57 then ((F157 n a0.name).bind fun x44 => bif x44 then (bif strEq a0.other (bs []) then (some (true,a0.name,a0.other,(0:Int),(0:Int),(0:Int),false)) else ((F157 n a0.other).bind fun x47 => some (x47,a0.name,a0.other,(0:Int),(0:Int),(0:Int),false))) else (some (false,a0.name,a0.other,(0:Int),(0:Int),(0:Int),false))) else (bif a0.kind == 60 then ((F157 n a0.name).bind fun x49 => bif x49 then ((F157 n a0.other).bind fun x51 => some (x51,a0.name,a0.other,(0:Int),(0:Int),(0:Int),false)) else (some (false,a0.name,a0.other,(0:Int),(0:Int),(0:Int),false))) else (bif a0.kind == 61 then ((F157 n a0.name).bind fun x53 => bif x53 then ((F155 n a0.other).bind fun x55 => some ((x55 && ((a0.n == 0) || (a0.n == 1))),a0.name,a0.other,a0.n,(0:Int),(0:Int),false)) else (some (false,a0.name,a0.other,a0.n,(0:Int),(0:Int),false))) else (some (true,(bs []),(bs []),(0:Int),(0:Int),(0:Int),false)))))))))))):Option ((Bool × ByteArray × ByteArray × Int × Int × Int × Bool))).bind fun j58 => bif j58.1 then (bif strEq a0.name j58.2.1 then (bif strEq a0.other j58.2.2.1 then (bif a0.n == j58.2.2.2.1 then (bif a0.len == j58.2.2.2.2.1 then (bif a0.init == j58.2.2.2.2.2.1 then (some (a0.ghost == j58.2.2.2.2.2.2)) else (some false)) else (some false)) else (some false)) else (some false)) else (some false)) else (some false)
theorem F97_R (n:Nat) (a0:Node) (r:Bool) (hr:F97 n a0 = some r) {st:St} {p0:Spare}:R Tryz.prog AN 97 [.agg [keysV],.agg (cNode p0 a0)] st (.ret (vB r)) st:=by
 unfold F97 at hr
 refine R_pureX [.agg [keysV],aN a0] [(0,.agg [keysV]),(1,aN a0)] (by kernel_rfl) Tryz.func97 rfl (by kernel_rfl) (by simp only [strip,stripL,strip_keysV,stripL_cNode,Option.bind_some,Option.map_some]) rfl fun fr st H K=>W_seq (W_reg (q_g 3 [(2,.cptr ([keysV]) 0),(3,cN a0 0)] H fun _ H=>q_e (W_seq (W_reg (q_g 3 [(2,.cptr ([keysV]) 0),(3,cN a0 0),(9,.agg [vI a0.kind,vS (bs []),vS (bs []),vI 0,vI 0,vI 0,vB false,vL tNode ([]:List Node) .nil,vI 0])] H fun _ H=>?_)))))
 refine k_alloc (t:=24) (cs:=[vI 0,vS (bs []),vS (bs []),vI 0,vI 0,vI 0,vB false,vL tNode ([]:List Node) .nil,vI 0]) (fun id1=>[(2,.cptr ([keysV]) 0),(3,cN a0 0),(5,.ptr id1 0),(9,.agg [vI a0.kind,vS (bs []),vS (bs []),vI 0,vI 0,vI 0,vB false,vL tNode ([]:List Node) .nil,vI 0])]) H K (by kernel_rfl) (fun _ _=>by kernel_rfl) fun id1 st K fr H=>?_
 refine k_store (t:=24) (off:=0) (v:=.agg [vI a0.kind,vS (bs []),vS (bs []),vI 0,vI 0,vI 0,vB false,vL tNode ([]:List Node) .nil,vI 0]) (cs':=[vI a0.kind,vS (bs []),vS (bs []),vI 0,vI 0,vI 0,vB false,vL tNode ([]:List Node) .nil,vI 0]) 0 [(2,.cptr ([keysV]) 0),(3,cN a0 0),(5,.ptr id1 0)] H K rfl (by kernel_rfl) (fun _=>by kernel_rfl) fun st K fr H=>q_e (W_seq (W_reg (q_g 1 [(2,.cptr ([keysV]) 0),(3,cN a0 0),(5,.ptr id1 0),(6,vB true)] H fun _ H=>q_e (W_seq ?_))))
 obtain ⟨j58,hj58,hr⟩:=obind hr
 refine W_via (fun e fr st=>e = .normal∧Rd fr [(3,cN a0 0),(5,.ptr id1 0),(6,vB j58.1)]∧HL st [.obj id1 (.cells 24 [vI a0.kind,vS j58.2.1,vS j58.2.2.1,vI j58.2.2.2.1,vI j58.2.2.2.2.1,vI j58.2.2.2.2.2.1,vB j58.2.2.2.2.2.2,vL tNode ([]:List Node) .nil,vI 0])]) ?_ ?_
 ·replace hr:=hj58
  refine W_seq (W_reg (q_g 2 [(2,.cptr ([keysV]) 0),(3,cN a0 0),(5,.ptr id1 0),(6,vB true),(11,vI a0.kind)] H fun _ H=>q_e (W_block (W_seq (W_reg (q_g 2 [(2,.cptr ([keysV]) 0),(3,cN a0 0),(5,.ptr id1 0),(6,vB true),(11,vI a0.kind),(12,vB (a0.kind == 1))] H fun _ H=>q_e ?_))))))
  rcases csplit hr with ⟨c2,hr⟩|⟨c2,hr⟩
  ·refine q_T H c2 (W_drw (q_g 4 [(3,cN a0 0),(5,.ptr id1 0),(15,vI a0.n),(17,vI a0.n)] H fun _ H=>?_))
   obtain ⟨x3,hx3,hr⟩:=obind hr
   refine q_c (F154_R  a0.n x3 hx3) 0 [(3,cN a0 0),(5,.ptr id1 0),(15,vI a0.n),(18,vB x3)] H fun _ H=>q_g 1 [(3,cN a0 0),(5,.ptr id1 0),(15,vI a0.n),(18,vB x3),(19,.ptr id1 3)] H fun _ H=>?_
   refine k_store (t:=3) (off:=3) (v:=vI a0.n) (cs':=[vI a0.kind,vS (bs []),vS (bs []),vI a0.n,vI 0,vI 0,vB false,vL tNode ([]:List Node) .nil,vI 0]) 0 [(3,cN a0 0),(5,.ptr id1 0),(18,vB x3)] H K rfl (by kernel_rfl) (fun _=>by kernel_rfl) fun st K fr H=>q_g 1 [(3,cN a0 0),(5,.ptr id1 0),(6,vB x3)] H fun _ H=>q_e (q_d ?_)
   obtain rfl:=sj hr
   exact ⟨rfl,H.to (env':=_) (fun _=>by kernel_rfl),K.keep [true]⟩
  refine q_F H c2 (W_seq ?_)
  obtain ⟨j7,hj7,hr⟩:=obind hr
  refine W_via (fun e fr st=>e = .normal∧Rd fr [(2,.cptr ([keysV]) 0),(3,cN a0 0),(5,.ptr id1 0),(6,vB true),(11,vI a0.kind),(20,vB j7)]∧HL st [.obj id1 (.cells 24 [vI a0.kind,vS (bs []),vS (bs []),vI 0,vI 0,vI 0,vB false,vL tNode ([]:List Node) .nil,vI 0])]) ?_ ?_
  ·replace hr:=hj7
   refine W_seq (W_reg (q_g 2 [(2,.cptr ([keysV]) 0),(3,cN a0 0),(5,.ptr id1 0),(6,vB true),(11,vI a0.kind),(20,vB (a0.kind == 2))] H fun _ H=>q_e ?_))
   rcases csplit hr with ⟨c4,hr⟩|⟨c4,hr⟩
   ·refine q_T H c4 (W_skip ?_)
    obtain rfl:=sj hr
    exact ⟨rfl,H.to (env':=_) (fun _=>by kernel_rfl),K.keep [true]⟩
   refine q_F H c4 (W_seq (W_reg (q_g 2 [(2,.cptr ([keysV]) 0),(3,cN a0 0),(5,.ptr id1 0),(6,vB true),(11,vI a0.kind),(20,vB (a0.kind == 24))] H fun _ H=>q_e ?_)))
   rcases csplit hr with ⟨c5,hr⟩|⟨c5,hr⟩
   ·refine q_T H c5 (W_skip ?_)
    obtain rfl:=sj hr
    exact ⟨rfl,H.to (env':=_) (fun _=>by kernel_rfl),K.keep [true]⟩
   refine q_F H c5 (W_seq (W_reg (q_g 2 [(2,.cptr ([keysV]) 0),(3,cN a0 0),(5,.ptr id1 0),(6,vB true),(11,vI a0.kind),(20,vB (a0.kind == 25))] H fun _ H=>q_e ?_)))
   rcases csplit hr with ⟨c6,hr⟩|⟨c6,hr⟩
   ·refine q_T H c6 (W_skip ?_)
    obtain rfl:=sj hr
    exact ⟨rfl,H.to (env':=_) (fun _=>by kernel_rfl),K.keep [true]⟩
   refine q_F H c6 (W_reg (q_g 2 [(2,.cptr ([keysV]) 0),(3,cN a0 0),(5,.ptr id1 0),(6,vB true),(11,vI a0.kind),(20,vB (a0.kind == 33))] H fun _ H=>q_e ?_))
   obtain rfl:=sj hr
   exact ⟨rfl,H.to (env':=_) (fun _=>by kernel_rfl),K.keep [true]⟩
  rintro e fr st ⟨rfl,H,K⟩
  rcases csplit hr with ⟨c8,hr⟩|⟨c8,hr⟩
  ·refine q_T H c8 (W_drw (q_g 5 [(3,cN a0 0),(5,.ptr id1 0),(26,vS a0.name),(27,.agg [keysV]),(29,vS a0.name)] H fun _ H=>?_))
   obtain ⟨x9,hx9,hr⟩:=obind hr
   refine q_c (F155_R n a0.name x9 hx9) 0 [(3,cN a0 0),(5,.ptr id1 0),(26,vS a0.name),(30,vB x9)] H fun _ H=>q_g 1 [(3,cN a0 0),(5,.ptr id1 0),(26,vS a0.name),(30,vB x9),(31,.ptr id1 1)] H fun _ H=>?_
   refine k_store (t:=9) (off:=1) (v:=vS a0.name) (cs':=[vI a0.kind,vS a0.name,vS (bs []),vI 0,vI 0,vI 0,vB false,vL tNode ([]:List Node) .nil,vI 0]) 0 [(3,cN a0 0),(5,.ptr id1 0),(30,vB x9)] H K rfl (by kernel_rfl) (fun _=>by kernel_rfl) fun st K fr H=>q_g 1 [(3,cN a0 0),(5,.ptr id1 0),(6,vB x9)] H fun _ H=>q_e (q_d ?_)
   obtain rfl:=sj hr
   exact ⟨rfl,H.to (env':=_) (fun _=>by kernel_rfl),K.keep [true]⟩
  refine q_F H c8 (W_seq (W_reg (q_g 2 [(2,.cptr ([keysV]) 0),(3,cN a0 0),(5,.ptr id1 0),(6,vB true),(11,vI a0.kind),(32,vB (a0.kind == 5))] H fun _ H=>q_e ?_)))
  rcases csplit hr with ⟨c10,hr⟩|⟨c10,hr⟩
  ·refine q_T H c10 (W_drw (q_g 4 [(3,cN a0 0),(5,.ptr id1 0),(35,vS a0.name),(37,vS a0.name)] H fun _ H=>?_))
   obtain ⟨x11,hx11,hr⟩:=obind hr
   refine q_c (F156_R  a0.name x11 hx11) 0 [(3,cN a0 0),(5,.ptr id1 0),(35,vS a0.name),(38,vI x11)] H fun _ H=>q_g 2 [(3,cN a0 0),(5,.ptr id1 0),(35,vS a0.name),(39,vB (x11 != 0)),(40,.ptr id1 1)] H fun _ H=>?_
   refine k_store (t:=9) (off:=1) (v:=vS a0.name) (cs':=[vI a0.kind,vS a0.name,vS (bs []),vI 0,vI 0,vI 0,vB false,vL tNode ([]:List Node) .nil,vI 0]) 0 [(3,cN a0 0),(5,.ptr id1 0),(39,vB (x11 != 0))] H K rfl (by kernel_rfl) (fun _=>by kernel_rfl) fun st K fr H=>q_g 1 [(3,cN a0 0),(5,.ptr id1 0),(6,vB (x11 != 0))] H fun _ H=>q_e (q_d ?_)
   obtain rfl:=sj hr
   exact ⟨rfl,H.to (env':=_) (fun _=>by kernel_rfl),K.keep [true]⟩
  refine q_F H c10 (W_seq ?_)
  obtain ⟨j15,hj15,hr⟩:=obind hr
  refine W_via (fun e fr st=>e = .normal∧Rd fr [(2,.cptr ([keysV]) 0),(3,cN a0 0),(5,.ptr id1 0),(6,vB true),(11,vI a0.kind),(41,vB j15)]∧HL st [.obj id1 (.cells 24 [vI a0.kind,vS (bs []),vS (bs []),vI 0,vI 0,vI 0,vB false,vL tNode ([]:List Node) .nil,vI 0])]) ?_ ?_
  ·replace hr:=hj15
   refine W_seq (W_reg (q_g 2 [(2,.cptr ([keysV]) 0),(3,cN a0 0),(5,.ptr id1 0),(6,vB true),(11,vI a0.kind),(41,vB (a0.kind == 7))] H fun _ H=>q_e ?_))
   rcases csplit hr with ⟨c12,hr⟩|⟨c12,hr⟩
   ·refine q_T H c12 (W_skip ?_)
    obtain rfl:=sj hr
    exact ⟨rfl,H.to (env':=_) (fun _=>by kernel_rfl),K.keep [true]⟩
   refine q_F H c12 (W_seq (W_reg (q_g 2 [(2,.cptr ([keysV]) 0),(3,cN a0 0),(5,.ptr id1 0),(6,vB true),(11,vI a0.kind),(41,vB (a0.kind == 8))] H fun _ H=>q_e ?_)))
   rcases csplit hr with ⟨c13,hr⟩|⟨c13,hr⟩
   ·refine q_T H c13 (W_skip ?_)
    obtain rfl:=sj hr
    exact ⟨rfl,H.to (env':=_) (fun _=>by kernel_rfl),K.keep [true]⟩
   refine q_F H c13 (W_seq (W_reg (q_g 2 [(2,.cptr ([keysV]) 0),(3,cN a0 0),(5,.ptr id1 0),(6,vB true),(11,vI a0.kind),(41,vB (a0.kind == 58))] H fun _ H=>q_e ?_)))
   rcases csplit hr with ⟨c14,hr⟩|⟨c14,hr⟩
   ·refine q_T H c14 (W_skip ?_)
    obtain rfl:=sj hr
    exact ⟨rfl,H.to (env':=_) (fun _=>by kernel_rfl),K.keep [true]⟩
   refine q_F H c14 (W_reg (q_g 2 [(2,.cptr ([keysV]) 0),(3,cN a0 0),(5,.ptr id1 0),(6,vB true),(11,vI a0.kind),(41,vB (a0.kind == 52))] H fun _ H=>q_e ?_))
   obtain rfl:=sj hr
   exact ⟨rfl,H.to (env':=_) (fun _=>by kernel_rfl),K.keep [true]⟩
  rintro e fr st ⟨rfl,H,K⟩
  rcases csplit hr with ⟨c16,hr⟩|⟨c16,hr⟩
  ·refine q_T H c16 (W_drw (q_g 7 [(3,cN a0 0),(5,.ptr id1 0),(47,vS a0.name),(49,vI a0.n),(50,.agg [keysV]),(52,vS a0.name)] H fun _ H=>?_))
   obtain ⟨x17,hx17,hr⟩:=obind hr
   refine q_c (F157_R n a0.name x17 hx17) 0 [(3,cN a0 0),(5,.ptr id1 0),(47,vS a0.name),(49,vI a0.n),(53,vB x17)] H fun _ H=>q_g 1 [(3,cN a0 0),(5,.ptr id1 0),(47,vS a0.name),(49,vI a0.n),(54,vB x17)] H fun _ H=>?_
   rcases csplit hr with ⟨c18,hr⟩|⟨c18,hr⟩
   rotate_left
   ·rw [c18] at H
    refine q_g 5 [(3,cN a0 0),(5,.ptr id1 0),(47,vS a0.name),(49,vI a0.n),(58,vB false),(59,.ptr id1 1)] H fun _ H=>?_
    refine k_store (t:=9) (off:=1) (v:=vS a0.name) (cs':=[vI a0.kind,vS a0.name,vS (bs []),vI 0,vI 0,vI 0,vB false,vL tNode ([]:List Node) .nil,vI 0]) 0 [(3,cN a0 0),(5,.ptr id1 0),(49,vI a0.n),(58,vB false)] H K rfl (by kernel_rfl) (fun _=>by kernel_rfl) fun st K fr H=>q_g 1 [(3,cN a0 0),(5,.ptr id1 0),(49,vI a0.n),(58,vB false),(60,.ptr id1 3)] H fun _ H=>?_
    refine k_store (t:=3) (off:=3) (v:=vI a0.n) (cs':=[vI a0.kind,vS a0.name,vS (bs []),vI a0.n,vI 0,vI 0,vB false,vL tNode ([]:List Node) .nil,vI 0]) 0 [(3,cN a0 0),(5,.ptr id1 0),(58,vB false)] H K rfl (by kernel_rfl) (fun _=>by kernel_rfl) fun st K fr H=>q_g 1 [(3,cN a0 0),(5,.ptr id1 0),(6,vB false)] H fun _ H=>q_e (q_d ?_)
    obtain rfl:=sj hr
    exact ⟨rfl,H.to (env':=_) (fun _=>by kernel_rfl),K.keep [true]⟩
   rw [c18] at H
   refine q_g 2 [(3,cN a0 0),(5,.ptr id1 0),(47,vS a0.name),(49,vI a0.n),(54,vB true),(56,vI a0.n)] H fun _ H=>?_
   obtain ⟨x19,hx19,hr⟩:=obind hr
   refine q_c (F154_R  a0.n x19 hx19) 0 [(3,cN a0 0),(5,.ptr id1 0),(47,vS a0.name),(49,vI a0.n),(54,vB true),(57,vB x19)] H fun _ H=>q_g 2 [(3,cN a0 0),(5,.ptr id1 0),(47,vS a0.name),(49,vI a0.n),(58,vB x19),(59,.ptr id1 1)] H fun _ H=>?_
   refine k_store (t:=9) (off:=1) (v:=vS a0.name) (cs':=[vI a0.kind,vS a0.name,vS (bs []),vI 0,vI 0,vI 0,vB false,vL tNode ([]:List Node) .nil,vI 0]) 0 [(3,cN a0 0),(5,.ptr id1 0),(49,vI a0.n),(58,vB x19)] H K rfl (by kernel_rfl) (fun _=>by kernel_rfl) fun st K fr H=>q_g 1 [(3,cN a0 0),(5,.ptr id1 0),(49,vI a0.n),(58,vB x19),(60,.ptr id1 3)] H fun _ H=>?_
   refine k_store (t:=3) (off:=3) (v:=vI a0.n) (cs':=[vI a0.kind,vS a0.name,vS (bs []),vI a0.n,vI 0,vI 0,vB false,vL tNode ([]:List Node) .nil,vI 0]) 0 [(3,cN a0 0),(5,.ptr id1 0),(58,vB x19)] H K rfl (by kernel_rfl) (fun _=>by kernel_rfl) fun st K fr H=>q_g 1 [(3,cN a0 0),(5,.ptr id1 0),(6,vB x19)] H fun _ H=>q_e (q_d ?_)
   obtain rfl:=sj hr
   exact ⟨rfl,H.to (env':=_) (fun _=>by kernel_rfl),K.keep [true]⟩
  refine q_F H c16 (W_seq (W_reg (q_g 2 [(2,.cptr ([keysV]) 0),(3,cN a0 0),(5,.ptr id1 0),(6,vB true),(11,vI a0.kind),(61,vB (a0.kind == 35))] H fun _ H=>q_e ?_)))
  rcases csplit hr with ⟨c20,hr⟩|⟨c20,hr⟩
  ·refine q_T H c20 (W_drw (q_g 9 [(3,cN a0 0),(5,.ptr id1 0),(64,vS a0.name),(66,vI a0.n),(68,vB a0.ghost),(69,.agg [keysV]),(71,vS a0.name)] H fun _ H=>?_))
   obtain ⟨x21,hx21,hr⟩:=obind hr
   refine q_c (F157_R n a0.name x21 hx21) 0 [(3,cN a0 0),(5,.ptr id1 0),(64,vS a0.name),(66,vI a0.n),(68,vB a0.ghost),(72,vB x21)] H fun _ H=>q_g 1 [(3,cN a0 0),(5,.ptr id1 0),(64,vS a0.name),(66,vI a0.n),(68,vB a0.ghost),(73,vB x21)] H fun _ H=>?_
   rcases csplit hr with ⟨c22,hr⟩|⟨c22,hr⟩
   rotate_left
   ·rw [c22] at H
    refine q_g 5 [(3,cN a0 0),(5,.ptr id1 0),(64,vS a0.name),(66,vI a0.n),(68,vB a0.ghost),(77,vB false),(78,.ptr id1 1)] H fun _ H=>?_
    refine k_store (t:=9) (off:=1) (v:=vS a0.name) (cs':=[vI a0.kind,vS a0.name,vS (bs []),vI 0,vI 0,vI 0,vB false,vL tNode ([]:List Node) .nil,vI 0]) 0 [(3,cN a0 0),(5,.ptr id1 0),(66,vI a0.n),(68,vB a0.ghost),(77,vB false)] H K rfl (by kernel_rfl) (fun _=>by kernel_rfl) fun st K fr H=>q_g 1 [(3,cN a0 0),(5,.ptr id1 0),(66,vI a0.n),(68,vB a0.ghost),(77,vB false),(79,.ptr id1 3)] H fun _ H=>?_
    refine k_store (t:=3) (off:=3) (v:=vI a0.n) (cs':=[vI a0.kind,vS a0.name,vS (bs []),vI a0.n,vI 0,vI 0,vB false,vL tNode ([]:List Node) .nil,vI 0]) 0 [(3,cN a0 0),(5,.ptr id1 0),(68,vB a0.ghost),(77,vB false)] H K rfl (by kernel_rfl) (fun _=>by kernel_rfl) fun st K fr H=>q_g 1 [(3,cN a0 0),(5,.ptr id1 0),(68,vB a0.ghost),(77,vB false),(80,.ptr id1 6)] H fun _ H=>?_
    refine k_store (t:=4) (off:=6) (v:=vB a0.ghost) (cs':=[vI a0.kind,vS a0.name,vS (bs []),vI a0.n,vI 0,vI 0,vB a0.ghost,vL tNode ([]:List Node) .nil,vI 0]) 0 [(3,cN a0 0),(5,.ptr id1 0),(77,vB false)] H K rfl (by kernel_rfl) (fun _=>by kernel_rfl) fun st K fr H=>q_g 1 [(3,cN a0 0),(5,.ptr id1 0),(6,vB false)] H fun _ H=>q_e (q_d ?_)
    obtain rfl:=sj hr
    exact ⟨rfl,H.to (env':=_) (fun _=>by kernel_rfl),K.keep [true]⟩
   rw [c22] at H
   refine q_g 2 [(3,cN a0 0),(5,.ptr id1 0),(64,vS a0.name),(66,vI a0.n),(68,vB a0.ghost),(73,vB true),(75,vI a0.n)] H fun _ H=>?_
   obtain ⟨x23,hx23,hr⟩:=obind hr
   refine q_c (F154_R  a0.n x23 hx23) 0 [(3,cN a0 0),(5,.ptr id1 0),(64,vS a0.name),(66,vI a0.n),(68,vB a0.ghost),(73,vB true),(76,vB x23)] H fun _ H=>q_g 2 [(3,cN a0 0),(5,.ptr id1 0),(64,vS a0.name),(66,vI a0.n),(68,vB a0.ghost),(77,vB x23),(78,.ptr id1 1)] H fun _ H=>?_
   refine k_store (t:=9) (off:=1) (v:=vS a0.name) (cs':=[vI a0.kind,vS a0.name,vS (bs []),vI 0,vI 0,vI 0,vB false,vL tNode ([]:List Node) .nil,vI 0]) 0 [(3,cN a0 0),(5,.ptr id1 0),(66,vI a0.n),(68,vB a0.ghost),(77,vB x23)] H K rfl (by kernel_rfl) (fun _=>by kernel_rfl) fun st K fr H=>q_g 1 [(3,cN a0 0),(5,.ptr id1 0),(66,vI a0.n),(68,vB a0.ghost),(77,vB x23),(79,.ptr id1 3)] H fun _ H=>?_
   refine k_store (t:=3) (off:=3) (v:=vI a0.n) (cs':=[vI a0.kind,vS a0.name,vS (bs []),vI a0.n,vI 0,vI 0,vB false,vL tNode ([]:List Node) .nil,vI 0]) 0 [(3,cN a0 0),(5,.ptr id1 0),(68,vB a0.ghost),(77,vB x23)] H K rfl (by kernel_rfl) (fun _=>by kernel_rfl) fun st K fr H=>q_g 1 [(3,cN a0 0),(5,.ptr id1 0),(68,vB a0.ghost),(77,vB x23),(80,.ptr id1 6)] H fun _ H=>?_
   refine k_store (t:=4) (off:=6) (v:=vB a0.ghost) (cs':=[vI a0.kind,vS a0.name,vS (bs []),vI a0.n,vI 0,vI 0,vB a0.ghost,vL tNode ([]:List Node) .nil,vI 0]) 0 [(3,cN a0 0),(5,.ptr id1 0),(77,vB x23)] H K rfl (by kernel_rfl) (fun _=>by kernel_rfl) fun st K fr H=>q_g 1 [(3,cN a0 0),(5,.ptr id1 0),(6,vB x23)] H fun _ H=>q_e (q_d ?_)
   obtain rfl:=sj hr
   exact ⟨rfl,H.to (env':=_) (fun _=>by kernel_rfl),K.keep [true]⟩
  refine q_F H c20 (W_seq (W_reg (q_g 2 [(2,.cptr ([keysV]) 0),(3,cN a0 0),(5,.ptr id1 0),(6,vB true),(11,vI a0.kind),(81,vB (a0.kind == 21))] H fun _ H=>q_e ?_)))
  rcases csplit hr with ⟨c24,hr⟩|⟨c24,hr⟩
  ·refine q_T H c24 (W_drw (q_g 6 [(3,cN a0 0),(5,.ptr id1 0),(84,vI a0.n),(88,vB (a0.n == 0))] H fun _ H=>?_))
   refine k_g 4 [(3,cN a0 0),(5,.ptr id1 0),(84,vI a0.n),(92,vB ((a0.n == 0) || (a0.n == 1)))] H (fun _ _=>by generalize (a0.n == 0) = b0; cases b0 <;> kernel_rfl) fun _ H=>q_g 1 [(3,cN a0 0),(5,.ptr id1 0),(84,vI a0.n),(92,vB ((a0.n == 0) || (a0.n == 1))),(93,.ptr id1 3)] H fun _ H=>?_
   refine k_store (t:=3) (off:=3) (v:=vI a0.n) (cs':=[vI a0.kind,vS (bs []),vS (bs []),vI a0.n,vI 0,vI 0,vB false,vL tNode ([]:List Node) .nil,vI 0]) 0 [(3,cN a0 0),(5,.ptr id1 0),(92,vB ((a0.n == 0) || (a0.n == 1)))] H K rfl (by kernel_rfl) (fun _=>by kernel_rfl) fun st K fr H=>q_g 1 [(3,cN a0 0),(5,.ptr id1 0),(6,vB ((a0.n == 0) || (a0.n == 1)))] H fun _ H=>q_e (q_d ?_)
   obtain rfl:=sj hr
   exact ⟨rfl,H.to (env':=_) (fun _=>by kernel_rfl),K.keep [true]⟩
  refine q_F H c24 (W_seq ?_)
  obtain ⟨j28,hj28,hr⟩:=obind hr
  refine W_via (fun e fr st=>e = .normal∧Rd fr [(2,.cptr ([keysV]) 0),(3,cN a0 0),(5,.ptr id1 0),(6,vB true),(11,vI a0.kind),(94,vB j28)]∧HL st [.obj id1 (.cells 24 [vI a0.kind,vS (bs []),vS (bs []),vI 0,vI 0,vI 0,vB false,vL tNode ([]:List Node) .nil,vI 0])]) ?_ ?_
  ·replace hr:=hj28
   refine W_seq (W_reg (q_g 2 [(2,.cptr ([keysV]) 0),(3,cN a0 0),(5,.ptr id1 0),(6,vB true),(11,vI a0.kind),(94,vB (a0.kind == 27))] H fun _ H=>q_e ?_))
   rcases csplit hr with ⟨c25,hr⟩|⟨c25,hr⟩
   ·refine q_T H c25 (W_skip ?_)
    obtain rfl:=sj hr
    exact ⟨rfl,H.to (env':=_) (fun _=>by kernel_rfl),K.keep [true]⟩
   refine q_F H c25 (W_seq (W_reg (q_g 2 [(2,.cptr ([keysV]) 0),(3,cN a0 0),(5,.ptr id1 0),(6,vB true),(11,vI a0.kind),(94,vB (a0.kind == 28))] H fun _ H=>q_e ?_)))
   rcases csplit hr with ⟨c26,hr⟩|⟨c26,hr⟩
   ·refine q_T H c26 (W_skip ?_)
    obtain rfl:=sj hr
    exact ⟨rfl,H.to (env':=_) (fun _=>by kernel_rfl),K.keep [true]⟩
   refine q_F H c26 (W_seq (W_reg (q_g 2 [(2,.cptr ([keysV]) 0),(3,cN a0 0),(5,.ptr id1 0),(6,vB true),(11,vI a0.kind),(94,vB (a0.kind == 51))] H fun _ H=>q_e ?_)))
   rcases csplit hr with ⟨c27,hr⟩|⟨c27,hr⟩
   ·refine q_T H c27 (W_skip ?_)
    obtain rfl:=sj hr
    exact ⟨rfl,H.to (env':=_) (fun _=>by kernel_rfl),K.keep [true]⟩
   refine q_F H c27 (W_reg (q_g 2 [(2,.cptr ([keysV]) 0),(3,cN a0 0),(5,.ptr id1 0),(6,vB true),(11,vI a0.kind),(94,vB (a0.kind == 53))] H fun _ H=>q_e ?_))
   obtain rfl:=sj hr
   exact ⟨rfl,H.to (env':=_) (fun _=>by kernel_rfl),K.keep [true]⟩
  rintro e fr st ⟨rfl,H,K⟩
  rcases csplit hr with ⟨c29,hr⟩|⟨c29,hr⟩
  ·refine q_T H c29 (W_drw (q_g 5 [(3,cN a0 0),(5,.ptr id1 0),(100,vS a0.name),(101,.agg [keysV]),(103,vS a0.name)] H fun _ H=>?_))
   obtain ⟨x30,hx30,hr⟩:=obind hr
   refine q_c (F157_R n a0.name x30 hx30) 0 [(3,cN a0 0),(5,.ptr id1 0),(100,vS a0.name),(104,vB x30)] H fun _ H=>q_g 1 [(3,cN a0 0),(5,.ptr id1 0),(100,vS a0.name),(104,vB x30),(105,.ptr id1 1)] H fun _ H=>?_
   refine k_store (t:=9) (off:=1) (v:=vS a0.name) (cs':=[vI a0.kind,vS a0.name,vS (bs []),vI 0,vI 0,vI 0,vB false,vL tNode ([]:List Node) .nil,vI 0]) 0 [(3,cN a0 0),(5,.ptr id1 0),(104,vB x30)] H K rfl (by kernel_rfl) (fun _=>by kernel_rfl) fun st K fr H=>q_g 1 [(3,cN a0 0),(5,.ptr id1 0),(6,vB x30)] H fun _ H=>q_e (q_d ?_)
   obtain rfl:=sj hr
   exact ⟨rfl,H.to (env':=_) (fun _=>by kernel_rfl),K.keep [true]⟩
  refine q_F H c29 (W_seq (W_reg (q_g 2 [(2,.cptr ([keysV]) 0),(3,cN a0 0),(5,.ptr id1 0),(6,vB true),(11,vI a0.kind),(106,vB (a0.kind == 50))] H fun _ H=>q_e ?_)))
  rcases csplit hr with ⟨c31,hr⟩|⟨c31,hr⟩
  ·refine q_T H c31 (W_seq (W_drw (q_g 13 [(2,.cptr ([keysV]) 0),(3,cN a0 0),(5,.ptr id1 0),(109,vS a0.name),(111,vI a0.n),(113,vS a0.other),(115,vI a0.len),(117,vI a0.init),(119,vB a0.ghost),(120,.ptr id1 1)] H fun _ H=>?_)))
   refine k_store (t:=9) (off:=1) (v:=vS a0.name) (cs':=[vI a0.kind,vS a0.name,vS (bs []),vI 0,vI 0,vI 0,vB false,vL tNode ([]:List Node) .nil,vI 0]) 0 [(2,.cptr ([keysV]) 0),(3,cN a0 0),(5,.ptr id1 0),(111,vI a0.n),(113,vS a0.other),(115,vI a0.len),(117,vI a0.init),(119,vB a0.ghost)] H K rfl (by kernel_rfl) (fun _=>by kernel_rfl) fun st K fr H=>q_g 1 [(2,.cptr ([keysV]) 0),(3,cN a0 0),(5,.ptr id1 0),(111,vI a0.n),(113,vS a0.other),(115,vI a0.len),(117,vI a0.init),(119,vB a0.ghost),(121,.ptr id1 3)] H fun _ H=>?_
   refine k_store (t:=3) (off:=3) (v:=vI a0.n) (cs':=[vI a0.kind,vS a0.name,vS (bs []),vI a0.n,vI 0,vI 0,vB false,vL tNode ([]:List Node) .nil,vI 0]) 0 [(2,.cptr ([keysV]) 0),(3,cN a0 0),(5,.ptr id1 0),(113,vS a0.other),(115,vI a0.len),(117,vI a0.init),(119,vB a0.ghost)] H K rfl (by kernel_rfl) (fun _=>by kernel_rfl) fun st K fr H=>q_g 1 [(2,.cptr ([keysV]) 0),(3,cN a0 0),(5,.ptr id1 0),(113,vS a0.other),(115,vI a0.len),(117,vI a0.init),(119,vB a0.ghost),(122,.ptr id1 2)] H fun _ H=>?_
   refine k_store (t:=9) (off:=2) (v:=vS a0.other) (cs':=[vI a0.kind,vS a0.name,vS a0.other,vI a0.n,vI 0,vI 0,vB false,vL tNode ([]:List Node) .nil,vI 0]) 0 [(2,.cptr ([keysV]) 0),(3,cN a0 0),(5,.ptr id1 0),(115,vI a0.len),(117,vI a0.init),(119,vB a0.ghost)] H K rfl (by kernel_rfl) (fun _=>by kernel_rfl) fun st K fr H=>q_g 1 [(2,.cptr ([keysV]) 0),(3,cN a0 0),(5,.ptr id1 0),(115,vI a0.len),(117,vI a0.init),(119,vB a0.ghost),(123,.ptr id1 4)] H fun _ H=>?_
   refine k_store (t:=3) (off:=4) (v:=vI a0.len) (cs':=[vI a0.kind,vS a0.name,vS a0.other,vI a0.n,vI a0.len,vI 0,vB false,vL tNode ([]:List Node) .nil,vI 0]) 0 [(2,.cptr ([keysV]) 0),(3,cN a0 0),(5,.ptr id1 0),(117,vI a0.init),(119,vB a0.ghost)] H K rfl (by kernel_rfl) (fun _=>by kernel_rfl) fun st K fr H=>q_g 1 [(2,.cptr ([keysV]) 0),(3,cN a0 0),(5,.ptr id1 0),(117,vI a0.init),(119,vB a0.ghost),(124,.ptr id1 5)] H fun _ H=>?_
   refine k_store (t:=3) (off:=5) (v:=vI a0.init) (cs':=[vI a0.kind,vS a0.name,vS a0.other,vI a0.n,vI a0.len,vI a0.init,vB false,vL tNode ([]:List Node) .nil,vI 0]) 0 [(2,.cptr ([keysV]) 0),(3,cN a0 0),(5,.ptr id1 0),(119,vB a0.ghost)] H K rfl (by kernel_rfl) (fun _=>by kernel_rfl) fun st K fr H=>q_g 1 [(2,.cptr ([keysV]) 0),(3,cN a0 0),(5,.ptr id1 0),(119,vB a0.ghost),(125,.ptr id1 6)] H fun _ H=>?_
   refine k_store (t:=4) (off:=6) (v:=vB a0.ghost) (cs':=[vI a0.kind,vS a0.name,vS a0.other,vI a0.n,vI a0.len,vI a0.init,vB a0.ghost,vL tNode ([]:List Node) .nil,vI 0]) 0 [(2,.cptr ([keysV]) 0),(3,cN a0 0),(5,.ptr id1 0)] H K rfl (by kernel_rfl) (fun _=>by kernel_rfl) fun st K fr H=>q_e (q_d (W_reg (q_g 3 [(2,.cptr ([keysV]) 0),(3,cN a0 0),(5,.ptr id1 0),(126,.agg [keysV]),(128,vS a0.name)] H fun _ H=>?_)))
   obtain ⟨x32,hx32,hr⟩:=obind hr
   refine q_c (F157_R n a0.name x32 hx32) 0 [(2,.cptr ([keysV]) 0),(3,cN a0 0),(5,.ptr id1 0),(129,vB x32)] H fun _ H=>q_g 1 [(2,.cptr ([keysV]) 0),(3,cN a0 0),(5,.ptr id1 0),(130,vB x32)] H fun _ H=>?_
   rcases csplit hr with ⟨c33,hr⟩|⟨c33,hr⟩
   rotate_left
   ·rw [c33] at H
    refine q_g 31 [(3,cN a0 0),(5,.ptr id1 0),(6,vB false)] H fun _ H=>q_e ?_
    obtain rfl:=sj hr
    exact ⟨rfl,H.to (env':=_) (fun _=>by kernel_rfl),K.keep [true]⟩
   rw [c33] at H
   refine q_g 2 [(2,.cptr ([keysV]) 0),(3,cN a0 0),(5,.ptr id1 0),(130,vB true),(132,vI a0.n)] H fun _ H=>?_
   obtain ⟨x34,hx34,hr⟩:=obind hr
   refine q_c (F154_R  a0.n x34 hx34) 0 [(2,.cptr ([keysV]) 0),(3,cN a0 0),(5,.ptr id1 0),(130,vB true),(133,vB x34)] H fun _ H=>q_g 2 [(2,.cptr ([keysV]) 0),(3,cN a0 0),(5,.ptr id1 0),(135,vB x34)] H fun _ H=>?_
   rcases csplit hr with ⟨c35,hr⟩|⟨c35,hr⟩
   rotate_left
   ·rw [c35] at H
    refine q_g 26 [(3,cN a0 0),(5,.ptr id1 0),(6,vB false)] H fun _ H=>q_e ?_
    obtain rfl:=sj hr
    exact ⟨rfl,H.to (env':=_) (fun _=>by kernel_rfl),K.keep [true]⟩
   rw [c35] at H
   refine q_g 2 [(2,.cptr ([keysV]) 0),(3,cN a0 0),(5,.ptr id1 0),(135,vB true),(137,vI a0.len)] H fun _ H=>?_
   obtain ⟨x36,hx36,hr⟩:=obind hr
   refine q_c (F154_R  a0.len x36 hx36) 0 [(2,.cptr ([keysV]) 0),(3,cN a0 0),(5,.ptr id1 0),(135,vB true),(138,vB x36)] H fun _ H=>q_g 2 [(2,.cptr ([keysV]) 0),(3,cN a0 0),(5,.ptr id1 0),(140,vB x36)] H fun _ H=>?_
   rcases csplit hr with ⟨c37,hr⟩|⟨c37,hr⟩
   rotate_left
   ·rw [c37] at H
    refine q_g 21 [(3,cN a0 0),(5,.ptr id1 0),(6,vB false)] H fun _ H=>q_e ?_
    obtain rfl:=sj hr
    exact ⟨rfl,H.to (env':=_) (fun _=>by kernel_rfl),K.keep [true]⟩
   rw [c37] at H
   refine q_g 2 [(2,.cptr ([keysV]) 0),(3,cN a0 0),(5,.ptr id1 0),(140,vB true),(142,vI a0.init)] H fun _ H=>?_
   obtain ⟨x38,hx38,hr⟩:=obind hr
   refine q_c (F154_R  a0.init x38 hx38) 0 [(2,.cptr ([keysV]) 0),(3,cN a0 0),(5,.ptr id1 0),(140,vB true),(143,vB x38)] H fun _ H=>q_g 2 [(2,.cptr ([keysV]) 0),(3,cN a0 0),(5,.ptr id1 0),(145,vB x38)] H fun _ H=>?_
   rcases csplit hr with ⟨c39,hr⟩|⟨c39,hr⟩
   rotate_left
   ·rw [c39] at H
    refine q_g 16 [(3,cN a0 0),(5,.ptr id1 0),(6,vB false)] H fun _ H=>q_e ?_
    obtain rfl:=sj hr
    exact ⟨rfl,H.to (env':=_) (fun _=>by kernel_rfl),K.keep [true]⟩
   rw [c39] at H
   refine q_g 4 [(2,.cptr ([keysV]) 0),(3,cN a0 0),(5,.ptr id1 0),(145,vB true),(149,vB (strEq a0.other (bs [])))] H fun _ H=>?_
   rcases csplit hr with ⟨c40,hr⟩|⟨c40,hr⟩
   ·rw [c40] at H
    refine q_g 12 [(3,cN a0 0),(5,.ptr id1 0),(6,vB true)] H fun _ H=>q_e ?_
    obtain rfl:=sj hr
    exact ⟨rfl,H.to (env':=_) (fun _=>by kernel_rfl),K.keep [true]⟩
   rw [c40] at H
   refine q_g 4 [(2,.cptr ([keysV]) 0),(3,cN a0 0),(5,.ptr id1 0),(145,vB true),(149,vB false),(153,vB (a0.n == 0))] H fun _ H=>?_
   rcases csplit hr with ⟨c41,hr⟩|⟨c41,hr⟩
   rotate_left
   ·rw [c41] at H
    refine q_g 8 [(3,cN a0 0),(5,.ptr id1 0),(6,vB false)] H fun _ H=>q_e ?_
    obtain rfl:=sj hr
    exact ⟨rfl,H.to (env':=_) (fun _=>by kernel_rfl),K.keep [true]⟩
   rw [c41] at H
   refine q_g 3 [(3,cN a0 0),(5,.ptr id1 0),(145,vB true),(149,vB false),(153,vB true),(154,.agg [keysV]),(156,vS a0.other)] H fun _ H=>?_
   obtain ⟨x42,hx42,hr⟩:=obind hr
   refine q_c (F157_R n a0.other x42 hx42) 0 [(3,cN a0 0),(5,.ptr id1 0),(145,vB true),(149,vB false),(153,vB true),(157,vB x42)] H fun _ H=>q_g 4 [(3,cN a0 0),(5,.ptr id1 0),(6,vB x42)] H fun _ H=>q_e ?_
   obtain rfl:=sj hr
   exact ⟨rfl,H.to (env':=_) (fun _=>by kernel_rfl),K.keep [true]⟩
  refine q_F H c31 (W_seq (W_reg (q_g 2 [(2,.cptr ([keysV]) 0),(3,cN a0 0),(5,.ptr id1 0),(6,vB true),(11,vI a0.kind),(161,vB (a0.kind == 57))] H fun _ H=>q_e ?_)))
  rcases csplit hr with ⟨c43,hr⟩|⟨c43,hr⟩
  ·refine q_T H c43 (W_drw (q_g 7 [(2,.cptr ([keysV]) 0),(3,cN a0 0),(5,.ptr id1 0),(164,vS a0.name),(166,vS a0.other),(167,.agg [keysV]),(169,vS a0.name)] H fun _ H=>?_))
   obtain ⟨x44,hx44,hr⟩:=obind hr
   refine q_c (F157_R n a0.name x44 hx44) 0 [(2,.cptr ([keysV]) 0),(3,cN a0 0),(5,.ptr id1 0),(164,vS a0.name),(166,vS a0.other),(170,vB x44)] H fun _ H=>q_g 1 [(2,.cptr ([keysV]) 0),(3,cN a0 0),(5,.ptr id1 0),(164,vS a0.name),(166,vS a0.other),(171,vB x44)] H fun _ H=>?_
   rcases csplit hr with ⟨c45,hr⟩|⟨c45,hr⟩
   rotate_left
   ·rw [c45] at H
    refine q_g 11 [(3,cN a0 0),(5,.ptr id1 0),(164,vS a0.name),(166,vS a0.other),(181,vB false),(182,.ptr id1 1)] H fun _ H=>?_
    refine k_store (t:=9) (off:=1) (v:=vS a0.name) (cs':=[vI a0.kind,vS a0.name,vS (bs []),vI 0,vI 0,vI 0,vB false,vL tNode ([]:List Node) .nil,vI 0]) 0 [(3,cN a0 0),(5,.ptr id1 0),(166,vS a0.other),(181,vB false)] H K rfl (by kernel_rfl) (fun _=>by kernel_rfl) fun st K fr H=>q_g 1 [(3,cN a0 0),(5,.ptr id1 0),(166,vS a0.other),(181,vB false),(183,.ptr id1 2)] H fun _ H=>?_
    refine k_store (t:=9) (off:=2) (v:=vS a0.other) (cs':=[vI a0.kind,vS a0.name,vS a0.other,vI 0,vI 0,vI 0,vB false,vL tNode ([]:List Node) .nil,vI 0]) 0 [(3,cN a0 0),(5,.ptr id1 0),(181,vB false)] H K rfl (by kernel_rfl) (fun _=>by kernel_rfl) fun st K fr H=>q_g 1 [(3,cN a0 0),(5,.ptr id1 0),(6,vB false)] H fun _ H=>q_e (q_d ?_)
    obtain rfl:=sj hr
    exact ⟨rfl,H.to (env':=_) (fun _=>by kernel_rfl),K.keep [true]⟩
   rw [c45] at H
   refine q_g 4 [(2,.cptr ([keysV]) 0),(3,cN a0 0),(5,.ptr id1 0),(164,vS a0.name),(166,vS a0.other),(171,vB true),(175,vB (strEq a0.other (bs [])))] H fun _ H=>?_
   rcases csplit hr with ⟨c46,hr⟩|⟨c46,hr⟩
   ·rw [c46] at H
    refine q_g 7 [(3,cN a0 0),(5,.ptr id1 0),(164,vS a0.name),(166,vS a0.other),(181,vB true),(182,.ptr id1 1)] H fun _ H=>?_
    refine k_store (t:=9) (off:=1) (v:=vS a0.name) (cs':=[vI a0.kind,vS a0.name,vS (bs []),vI 0,vI 0,vI 0,vB false,vL tNode ([]:List Node) .nil,vI 0]) 0 [(3,cN a0 0),(5,.ptr id1 0),(166,vS a0.other),(181,vB true)] H K rfl (by kernel_rfl) (fun _=>by kernel_rfl) fun st K fr H=>q_g 1 [(3,cN a0 0),(5,.ptr id1 0),(166,vS a0.other),(181,vB true),(183,.ptr id1 2)] H fun _ H=>?_
    refine k_store (t:=9) (off:=2) (v:=vS a0.other) (cs':=[vI a0.kind,vS a0.name,vS a0.other,vI 0,vI 0,vI 0,vB false,vL tNode ([]:List Node) .nil,vI 0]) 0 [(3,cN a0 0),(5,.ptr id1 0),(181,vB true)] H K rfl (by kernel_rfl) (fun _=>by kernel_rfl) fun st K fr H=>q_g 1 [(3,cN a0 0),(5,.ptr id1 0),(6,vB true)] H fun _ H=>q_e (q_d ?_)
    obtain rfl:=sj hr
    exact ⟨rfl,H.to (env':=_) (fun _=>by kernel_rfl),K.keep [true]⟩
   rw [c46] at H
   refine q_g 3 [(3,cN a0 0),(5,.ptr id1 0),(164,vS a0.name),(166,vS a0.other),(171,vB true),(175,vB false),(176,.agg [keysV]),(178,vS a0.other)] H fun _ H=>?_
   obtain ⟨x47,hx47,hr⟩:=obind hr
   refine q_c (F157_R n a0.other x47 hx47) 0 [(3,cN a0 0),(5,.ptr id1 0),(164,vS a0.name),(166,vS a0.other),(171,vB true),(175,vB false),(179,vB x47)] H fun _ H=>q_g 3 [(3,cN a0 0),(5,.ptr id1 0),(164,vS a0.name),(166,vS a0.other),(181,vB x47),(182,.ptr id1 1)] H fun _ H=>?_
   refine k_store (t:=9) (off:=1) (v:=vS a0.name) (cs':=[vI a0.kind,vS a0.name,vS (bs []),vI 0,vI 0,vI 0,vB false,vL tNode ([]:List Node) .nil,vI 0]) 0 [(3,cN a0 0),(5,.ptr id1 0),(166,vS a0.other),(181,vB x47)] H K rfl (by kernel_rfl) (fun _=>by kernel_rfl) fun st K fr H=>q_g 1 [(3,cN a0 0),(5,.ptr id1 0),(166,vS a0.other),(181,vB x47),(183,.ptr id1 2)] H fun _ H=>?_
   refine k_store (t:=9) (off:=2) (v:=vS a0.other) (cs':=[vI a0.kind,vS a0.name,vS a0.other,vI 0,vI 0,vI 0,vB false,vL tNode ([]:List Node) .nil,vI 0]) 0 [(3,cN a0 0),(5,.ptr id1 0),(181,vB x47)] H K rfl (by kernel_rfl) (fun _=>by kernel_rfl) fun st K fr H=>q_g 1 [(3,cN a0 0),(5,.ptr id1 0),(6,vB x47)] H fun _ H=>q_e (q_d ?_)
   obtain rfl:=sj hr
   exact ⟨rfl,H.to (env':=_) (fun _=>by kernel_rfl),K.keep [true]⟩
  refine q_F H c43 (W_seq (W_reg (q_g 2 [(2,.cptr ([keysV]) 0),(3,cN a0 0),(5,.ptr id1 0),(6,vB true),(11,vI a0.kind),(184,vB (a0.kind == 60))] H fun _ H=>q_e ?_)))
  rcases csplit hr with ⟨c48,hr⟩|⟨c48,hr⟩
  ·refine q_T H c48 (W_drw (q_g 7 [(2,.cptr ([keysV]) 0),(3,cN a0 0),(5,.ptr id1 0),(187,vS a0.name),(189,vS a0.other),(190,.agg [keysV]),(192,vS a0.name)] H fun _ H=>?_))
   obtain ⟨x49,hx49,hr⟩:=obind hr
   refine q_c (F157_R n a0.name x49 hx49) 0 [(2,.cptr ([keysV]) 0),(3,cN a0 0),(5,.ptr id1 0),(187,vS a0.name),(189,vS a0.other),(193,vB x49)] H fun _ H=>q_g 1 [(2,.cptr ([keysV]) 0),(3,cN a0 0),(5,.ptr id1 0),(187,vS a0.name),(189,vS a0.other),(194,vB x49)] H fun _ H=>?_
   rcases csplit hr with ⟨c50,hr⟩|⟨c50,hr⟩
   rotate_left
   ·rw [c50] at H
    refine q_g 6 [(3,cN a0 0),(5,.ptr id1 0),(187,vS a0.name),(189,vS a0.other),(199,vB false),(200,.ptr id1 1)] H fun _ H=>?_
    refine k_store (t:=9) (off:=1) (v:=vS a0.name) (cs':=[vI a0.kind,vS a0.name,vS (bs []),vI 0,vI 0,vI 0,vB false,vL tNode ([]:List Node) .nil,vI 0]) 0 [(3,cN a0 0),(5,.ptr id1 0),(189,vS a0.other),(199,vB false)] H K rfl (by kernel_rfl) (fun _=>by kernel_rfl) fun st K fr H=>q_g 1 [(3,cN a0 0),(5,.ptr id1 0),(189,vS a0.other),(199,vB false),(201,.ptr id1 2)] H fun _ H=>?_
    refine k_store (t:=9) (off:=2) (v:=vS a0.other) (cs':=[vI a0.kind,vS a0.name,vS a0.other,vI 0,vI 0,vI 0,vB false,vL tNode ([]:List Node) .nil,vI 0]) 0 [(3,cN a0 0),(5,.ptr id1 0),(199,vB false)] H K rfl (by kernel_rfl) (fun _=>by kernel_rfl) fun st K fr H=>q_g 1 [(3,cN a0 0),(5,.ptr id1 0),(6,vB false)] H fun _ H=>q_e (q_d ?_)
    obtain rfl:=sj hr
    exact ⟨rfl,H.to (env':=_) (fun _=>by kernel_rfl),K.keep [true]⟩
   rw [c50] at H
   refine q_g 3 [(3,cN a0 0),(5,.ptr id1 0),(187,vS a0.name),(189,vS a0.other),(194,vB true),(195,.agg [keysV]),(197,vS a0.other)] H fun _ H=>?_
   obtain ⟨x51,hx51,hr⟩:=obind hr
   refine q_c (F157_R n a0.other x51 hx51) 0 [(3,cN a0 0),(5,.ptr id1 0),(187,vS a0.name),(189,vS a0.other),(194,vB true),(198,vB x51)] H fun _ H=>q_g 2 [(3,cN a0 0),(5,.ptr id1 0),(187,vS a0.name),(189,vS a0.other),(199,vB x51),(200,.ptr id1 1)] H fun _ H=>?_
   refine k_store (t:=9) (off:=1) (v:=vS a0.name) (cs':=[vI a0.kind,vS a0.name,vS (bs []),vI 0,vI 0,vI 0,vB false,vL tNode ([]:List Node) .nil,vI 0]) 0 [(3,cN a0 0),(5,.ptr id1 0),(189,vS a0.other),(199,vB x51)] H K rfl (by kernel_rfl) (fun _=>by kernel_rfl) fun st K fr H=>q_g 1 [(3,cN a0 0),(5,.ptr id1 0),(189,vS a0.other),(199,vB x51),(201,.ptr id1 2)] H fun _ H=>?_
   refine k_store (t:=9) (off:=2) (v:=vS a0.other) (cs':=[vI a0.kind,vS a0.name,vS a0.other,vI 0,vI 0,vI 0,vB false,vL tNode ([]:List Node) .nil,vI 0]) 0 [(3,cN a0 0),(5,.ptr id1 0),(199,vB x51)] H K rfl (by kernel_rfl) (fun _=>by kernel_rfl) fun st K fr H=>q_g 1 [(3,cN a0 0),(5,.ptr id1 0),(6,vB x51)] H fun _ H=>q_e (q_d ?_)
   obtain rfl:=sj hr
   exact ⟨rfl,H.to (env':=_) (fun _=>by kernel_rfl),K.keep [true]⟩
  refine q_F H c48 (W_seq (W_reg (q_g 2 [(2,.cptr ([keysV]) 0),(3,cN a0 0),(5,.ptr id1 0),(6,vB true),(202,vB (a0.kind == 61))] H fun _ H=>q_e ?_)))
  rcases csplit hr with ⟨c52,hr⟩|⟨c52,hr⟩
  rotate_left
  ·refine q_F H c52 (W_skip ?_)
   obtain rfl:=sj hr
   exact ⟨rfl,H.to (env':=_) (fun _=>by kernel_rfl),K.keep [true]⟩
  refine q_T H c52 (W_seq (W_drw (q_g 7 [(2,.cptr ([keysV]) 0),(3,cN a0 0),(5,.ptr id1 0),(205,vS a0.name),(207,vS a0.other),(209,vI a0.n),(210,.ptr id1 1)] H fun _ H=>?_)))
  refine k_store (t:=9) (off:=1) (v:=vS a0.name) (cs':=[vI a0.kind,vS a0.name,vS (bs []),vI 0,vI 0,vI 0,vB false,vL tNode ([]:List Node) .nil,vI 0]) 0 [(2,.cptr ([keysV]) 0),(3,cN a0 0),(5,.ptr id1 0),(207,vS a0.other),(209,vI a0.n)] H K rfl (by kernel_rfl) (fun _=>by kernel_rfl) fun st K fr H=>q_g 1 [(2,.cptr ([keysV]) 0),(3,cN a0 0),(5,.ptr id1 0),(207,vS a0.other),(209,vI a0.n),(211,.ptr id1 2)] H fun _ H=>?_
  refine k_store (t:=9) (off:=2) (v:=vS a0.other) (cs':=[vI a0.kind,vS a0.name,vS a0.other,vI 0,vI 0,vI 0,vB false,vL tNode ([]:List Node) .nil,vI 0]) 0 [(2,.cptr ([keysV]) 0),(3,cN a0 0),(5,.ptr id1 0),(209,vI a0.n)] H K rfl (by kernel_rfl) (fun _=>by kernel_rfl) fun st K fr H=>q_g 1 [(2,.cptr ([keysV]) 0),(3,cN a0 0),(5,.ptr id1 0),(209,vI a0.n),(212,.ptr id1 3)] H fun _ H=>?_
  refine k_store (t:=3) (off:=3) (v:=vI a0.n) (cs':=[vI a0.kind,vS a0.name,vS a0.other,vI a0.n,vI 0,vI 0,vB false,vL tNode ([]:List Node) .nil,vI 0]) 0 [(2,.cptr ([keysV]) 0),(3,cN a0 0),(5,.ptr id1 0)] H K rfl (by kernel_rfl) (fun _=>by kernel_rfl) fun st K fr H=>q_e (q_d (W_reg (q_g 3 [(2,.cptr ([keysV]) 0),(3,cN a0 0),(5,.ptr id1 0),(213,.agg [keysV]),(215,vS a0.name)] H fun _ H=>?_)))
  obtain ⟨x53,hx53,hr⟩:=obind hr
  refine q_c (F157_R n a0.name x53 hx53) 0 [(2,.cptr ([keysV]) 0),(3,cN a0 0),(5,.ptr id1 0),(216,vB x53)] H fun _ H=>q_g 1 [(2,.cptr ([keysV]) 0),(3,cN a0 0),(5,.ptr id1 0),(217,vB x53)] H fun _ H=>?_
  rcases csplit hr with ⟨c54,hr⟩|⟨c54,hr⟩
  rotate_left
  ·rw [c54] at H
   refine q_g 16 [(3,cN a0 0),(5,.ptr id1 0),(6,vB false)] H fun _ H=>q_e ?_
   obtain rfl:=sj hr
   exact ⟨rfl,H.to (env':=_) (fun _=>by kernel_rfl),K.keep [true]⟩
  rw [c54] at H
  refine q_g 3 [(3,cN a0 0),(5,.ptr id1 0),(217,vB true),(218,.agg [keysV]),(220,vS a0.other)] H fun _ H=>?_
  obtain ⟨x55,hx55,hr⟩:=obind hr
  refine q_c (F155_R n a0.other x55 hx55) 0 [(3,cN a0 0),(5,.ptr id1 0),(217,vB true),(221,vB x55)] H fun _ H=>q_g 2 [(3,cN a0 0),(5,.ptr id1 0),(223,vB x55)] H fun _ H=>?_
  refine k_seg 9 [(3,cN a0 0),(5,.ptr id1 0),(232,vB (x55 && ((a0.n == 0) || (a0.n == 1))))] ?_ ?_
  ·cases hg56:x55
   ·rw [hg56] at H
    refine seg_go (m:=0) 9 [(3,cN a0 0),(5,.ptr id1 0),(232,vB false)] H (fun _ _=>by kernel_rfl) fun _ H=>?_
    exact seg_end (by (try simp only [hg56]); exact H.tq)
   ·rw [hg56] at H
    refine seg_go (m:=5) 4 [(3,cN a0 0),(5,.ptr id1 0),(223,vB true),(227,vB (a0.n == 0))] H (fun _ _=>by kernel_rfl) fun _ H=>?_
    cases hg57:(a0.n == 0)
    ·rw [hg57] at H
     refine seg_go (m:=0) 5 [(3,cN a0 0),(5,.ptr id1 0),(232,vB (a0.n == 1))] H (fun _ _=>by kernel_rfl) fun _ H=>?_
     exact seg_end (by (try simp only [hg56,hg57]); exact H.tq)
    ·rw [hg57] at H
     refine seg_go (m:=0) 5 [(3,cN a0 0),(5,.ptr id1 0),(232,vB true)] H (fun _ _=>by kernel_rfl) fun _ H=>?_
     exact seg_end (by (try simp only [hg56,hg57]); exact H.tq)
  intro fr H
  refine q_g 1 [(3,cN a0 0),(5,.ptr id1 0),(6,vB (x55 && ((a0.n == 0) || (a0.n == 1))))] H fun _ H=>q_e ?_
  obtain rfl:=sj hr
  exact ⟨rfl,H.to (env':=_) (fun _=>by kernel_rfl),K.keep [true]⟩
 rintro e fr st ⟨rfl,H,K⟩
 refine W_seq (W_reg (q_g 2 [(3,cN a0 0),(5,.ptr id1 0),(234,vB j58.1)] H fun _ H=>?_))
 rcases csplit hr with ⟨c59,hr⟩|⟨c59,hr⟩
 rotate_left
 ·rw [c59] at H
  refine q_g 42 [(4,vB false)] H fun _ H=>q_e (W_ret ?_)
  obtain rfl:=sj hr
  exact q_r [vB false] H K
 rw [c59] at H
 refine q_g 3 [(3,cN a0 0),(5,.ptr id1 0),(234,vB true),(236,vS a0.name),(237,.ptr id1 1)] H fun _ H=>?_
 refine k_load (t:=9) (off:=1) 0 [(3,cN a0 0),(5,.ptr id1 0),(234,vB true),(236,vS a0.name),(238,vS j58.2.1)] H K rfl (v:=vS j58.2.1) (by kernel_rfl) (fun _=>by kernel_rfl) fun _ H=>q_g 3 [(3,cN a0 0),(5,.ptr id1 0),(241,vB (strEq a0.name j58.2.1))] H fun _ H=>?_
 rcases csplit hr with ⟨c60,hr⟩|⟨c60,hr⟩
 rotate_left
 ·rw [c60] at H
  refine q_g 35 [(4,vB false)] H fun _ H=>q_e (W_ret ?_)
  obtain rfl:=sj hr
  exact q_r [vB false] H K
 rw [c60] at H
 refine q_g 3 [(3,cN a0 0),(5,.ptr id1 0),(241,vB true),(243,vS a0.other),(244,.ptr id1 2)] H fun _ H=>?_
 refine k_load (t:=9) (off:=2) 0 [(3,cN a0 0),(5,.ptr id1 0),(241,vB true),(243,vS a0.other),(245,vS j58.2.2.1)] H K rfl (v:=vS j58.2.2.1) (by kernel_rfl) (fun _=>by kernel_rfl) fun _ H=>q_g 3 [(3,cN a0 0),(5,.ptr id1 0),(248,vB (strEq a0.other j58.2.2.1))] H fun _ H=>?_
 rcases csplit hr with ⟨c61,hr⟩|⟨c61,hr⟩
 rotate_left
 ·rw [c61] at H
  refine q_g 28 [(4,vB false)] H fun _ H=>q_e (W_ret ?_)
  obtain rfl:=sj hr
  exact q_r [vB false] H K
 rw [c61] at H
 refine q_g 3 [(3,cN a0 0),(5,.ptr id1 0),(248,vB true),(250,vI a0.n),(251,.ptr id1 3)] H fun _ H=>?_
 refine k_load (t:=3) (off:=3) 0 [(3,cN a0 0),(5,.ptr id1 0),(248,vB true),(250,vI a0.n),(252,vI j58.2.2.2.1)] H K rfl (v:=vI j58.2.2.2.1) (by kernel_rfl) (fun _=>by kernel_rfl) fun _ H=>q_g 3 [(3,cN a0 0),(5,.ptr id1 0),(255,vB (a0.n == j58.2.2.2.1))] H fun _ H=>?_
 rcases csplit hr with ⟨c62,hr⟩|⟨c62,hr⟩
 rotate_left
 ·rw [c62] at H
  refine q_g 21 [(4,vB false)] H fun _ H=>q_e (W_ret ?_)
  obtain rfl:=sj hr
  exact q_r [vB false] H K
 rw [c62] at H
 refine q_g 3 [(3,cN a0 0),(5,.ptr id1 0),(255,vB true),(257,vI a0.len),(258,.ptr id1 4)] H fun _ H=>?_
 refine k_load (t:=3) (off:=4) 0 [(3,cN a0 0),(5,.ptr id1 0),(255,vB true),(257,vI a0.len),(259,vI j58.2.2.2.2.1)] H K rfl (v:=vI j58.2.2.2.2.1) (by kernel_rfl) (fun _=>by kernel_rfl) fun _ H=>q_g 3 [(3,cN a0 0),(5,.ptr id1 0),(262,vB (a0.len == j58.2.2.2.2.1))] H fun _ H=>?_
 rcases csplit hr with ⟨c63,hr⟩|⟨c63,hr⟩
 rotate_left
 ·rw [c63] at H
  refine q_g 14 [(4,vB false)] H fun _ H=>q_e (W_ret ?_)
  obtain rfl:=sj hr
  exact q_r [vB false] H K
 rw [c63] at H
 refine q_g 3 [(3,cN a0 0),(5,.ptr id1 0),(262,vB true),(264,vI a0.init),(265,.ptr id1 5)] H fun _ H=>?_
 refine k_load (t:=3) (off:=5) 0 [(3,cN a0 0),(5,.ptr id1 0),(262,vB true),(264,vI a0.init),(266,vI j58.2.2.2.2.2.1)] H K rfl (v:=vI j58.2.2.2.2.2.1) (by kernel_rfl) (fun _=>by kernel_rfl) fun _ H=>q_g 3 [(3,cN a0 0),(5,.ptr id1 0),(269,vB (a0.init == j58.2.2.2.2.2.1))] H fun _ H=>?_
 rcases csplit hr with ⟨c64,hr⟩|⟨c64,hr⟩
 rotate_left
 ·rw [c64] at H
  refine q_g 7 [(4,vB false)] H fun _ H=>q_e (W_ret ?_)
  obtain rfl:=sj hr
  exact q_r [vB false] H K
 rw [c64] at H
 refine q_g 3 [(269,vB true),(271,vB a0.ghost),(272,.ptr id1 6)] H fun _ H=>?_
 refine k_load (t:=4) (off:=6) 0 [(269,vB true),(271,vB a0.ghost),(273,vB j58.2.2.2.2.2.2)] H K rfl (v:=vB j58.2.2.2.2.2.2) (by kernel_rfl) (fun _=>by kernel_rfl) fun _ H=>q_g 3 [(4,vB (a0.ghost == j58.2.2.2.2.2.2))] H fun _ H=>q_e (W_ret ?_)
 obtain rfl:=sj hr
 exact q_r [vB (a0.ghost == j58.2.2.2.2.2.2)] H K
def F158 (n:Nat) (a0:List Node) (a1:List Pred):Option Bool := bif (a0.length:Int) != (a1.length:Int) then (some false) else ((iter (σ:=Int) (ρ:=Unit ⊕ Unit) (fun s2=>bif decide (s2 < (a0.length:Int)) then ((idxL a0 s2).bind fun x4 => (idxL a1 s2).bind fun x6 => (x6.p x4).bind fun x7 => bif !x7 then (some (.inr (.inl ()))) else (some (.inl (w64 (s2 + 1))))) else (some (.inr (.inr ())))) n (0:Int)).bind fun r9=>match r9 with | .inl _=>some false | .inr _=>some true)
theorem F158_R (n:Nat) (a0:List Node) (a1:List Pred) (r:Bool) (hr:F158 n a0 a1 = some r) {st:St} {p0 p1:Spare}:R Tryz.prog AN 158 [vL tNode a0 p0,vL tPred a1 p1] st (.ret (vB r)) st:=by
 unfold F158 at hr
 refine R_pureX [vL tNode a0 .shut,vL tPred a1 .shut] [(0,vL tNode a0 .shut),(1,vL tPred a1 .shut)] (by kernel_rfl) Tryz.func158 rfl (by kernel_rfl) (by simp only [strip,stripL,stripL_ET,Option.bind_some,Option.map_some]) rfl fun fr st H K=>W_seq (W_reg (q_g 1 [(0,vL tNode a0 .shut),(1,vL tPred a1 .shut)] H fun _ H=>q_e (W_seq (W_seq (W_reg (q_g 1 [(0,vL tNode a0 .shut),(1,vL tPred a1 .shut),(7,vL tNode a0 .shut)] H fun _ H=>?_))))))
 refine q_v (.len 22 (vL tNode a0 .shut)) [(0,vL tNode a0 .shut),(1,vL tPred a1 .shut),(8,vI (a0.length:Int))] H (run_len tNode (by kernel_rfl)) fun _ H=>q_g 1 [(0,vL tNode a0 .shut),(1,vL tPred a1 .shut),(8,vI (a0.length:Int)),(9,vL tPred a1 .shut)] H fun _ H=>?_
 refine q_v (.len 167 (vL tPred a1 .shut)) [(0,vL tNode a0 .shut),(1,vL tPred a1 .shut),(8,vI (a0.length:Int)),(10,vI (a1.length:Int))] H (run_len tPred (by kernel_rfl)) fun _ H=>q_g 1 [(0,vL tNode a0 .shut),(1,vL tPred a1 .shut),(11,vB ((a0.length:Int) != (a1.length:Int)))] H fun _ H=>q_e ?_
 rcases csplit hr with ⟨c1,hr⟩|⟨c1,hr⟩
 ·refine q_T H c1 (W_seq (W_reg (q_g 1 [(4,vB false)] H fun _ H=>q_e (W_ret ?_))))
  obtain rfl:=sj hr
  exact q_r [vB false] H K
 refine q_F H c1 (W_skip (W_seq (W_seq (W_reg (q_g 1 [(1,vL tPred a1 .shut),(12,vL tNode a0 .shut)] H fun _ H=>?_)))))
 refine q_v (.len 22 (vL tNode a0 .shut)) [(1,vL tPred a1 .shut),(12,vL tNode a0 .shut),(13,vI (a0.length:Int))] H (run_len tNode (by kernel_rfl)) fun _ H=>q_g 1 [(1,vL tPred a1 .shut),(12,vL tNode a0 .shut),(13,vI (a0.length:Int)),(14,vI 0)] H fun _ H=>q_e (W_block ?_)
 obtain ⟨r9,hr9,hr⟩:=obind hr
 refine W_iter hr9 (fun (s2:Int) fr st=>Rd fr [(1,vL tPred a1 .shut),(12,vL tNode a0 .shut),(13,vI (a0.length:Int)),(14,vI s2)]∧HL st []) (fun (r9:Unit ⊕ Unit) e fr st=>match r9 with | .inl r9a=>(e = .ret∧Rd fr [(4,vB false)]∧HL st []) | .inr r9b=>(e = .exit 0∧Rd fr []∧HL st [])) ⟨H.tq,K.keep []⟩ ?_ ?_
 ·intro s2 fr st r hi hr
  obtain ⟨H,K⟩:=hi
  refine W_seq (W_reg (q_g 1 [(1,vL tPred a1 .shut),(12,vL tNode a0 .shut),(13,vI (a0.length:Int)),(14,vI s2),(15,vB (decide (s2 < (a0.length:Int))))] H fun _ H=>q_e (W_seq ?_)))
  rcases csplit hr with ⟨c3,hr⟩|⟨c3,hr⟩
  rotate_left
  ·refine q_F H c3 ?_
   refine W_exit ?_
   obtain rfl:=sj hr
   exact ⟨by simp,⟨rfl,H.tq,K.keep []⟩⟩
  refine q_T H c3 (W_skip (W_seq (W_block (W_seq (W_reg (q_g 1 [(1,vL tPred a1 .shut),(12,vL tNode a0 .shut),(13,vI (a0.length:Int)),(14,vI s2),(16,vI s2)] H fun _ H=>?_))))))
  obtain ⟨x4,hx4,hr⟩:=obind hr
  refine q_v (.indexAddr 22 (vL tNode a0 .shut) (vI s2)) [(1,vL tPred a1 .shut),(12,vL tNode a0 .shut),(13,vI (a0.length:Int)),(14,vI s2),(16,vI s2),(17,cN x4 0)] H (run_idxL tNode (by kernel_rfl) hx4) fun _ H=>q_g 1 [(1,vL tPred a1 .shut),(12,vL tNode a0 .shut),(13,vI (a0.length:Int)),(14,vI s2),(16,vI s2),(18,aN x4)] H fun _ H=>?_
  refine k_alloc (t:=24) (cs:=[vI 0,vS (bs []),vS (bs []),vI 0,vI 0,vI 0,vB false,vL tNode ([]:List Node) .nil,vI 0]) (fun id5=>[(1,vL tPred a1 .shut),(6,.ptr id5 0),(12,vL tNode a0 .shut),(13,vI (a0.length:Int)),(14,vI s2),(16,vI s2),(18,aN x4)]) H K (by kernel_rfl) (fun _ _=>by kernel_rfl) fun id5 st K fr H=>q_g 1 [(1,vL tPred a1 .shut),(5,vI s2),(6,.ptr id5 0),(12,vL tNode a0 .shut),(13,vI (a0.length:Int)),(14,vI s2),(18,aN x4)] H fun _ H=>?_
  refine k_store (t:=24) (off:=0) (v:=aN x4) (cs':=[vI x4.kind,vS x4.name,vS x4.other,vI x4.n,vI x4.len,vI x4.init,vB x4.ghost,kN x4,vI x4.pos]) 0 [(1,vL tPred a1 .shut),(5,vI s2),(6,.ptr id5 0),(12,vL tNode a0 .shut),(13,vI (a0.length:Int)),(14,vI s2)] H K rfl (by kernel_rfl) (fun _=>by kernel_rfl) fun st K fr H=>q_e (W_seq (W_drw (q_g 2 [(1,vL tPred a1 .shut),(6,.ptr id5 0),(12,vL tNode a0 .shut),(13,vI (a0.length:Int)),(14,vI s2),(19,vL tPred a1 .shut),(20,vI s2)] H fun _ H=>?_)))
  obtain ⟨x6,hx6,hr⟩:=obind hr
  refine q_v (.indexAddr 167 (vL tPred a1 .shut) (vI s2)) [(1,vL tPred a1 .shut),(6,.ptr id5 0),(12,vL tNode a0 .shut),(13,vI (a0.length:Int)),(14,vI s2),(21,.cptr ([.fn x6.g x6.a x6.b]) 0)] H (run_idxL tPred (by kernel_rfl) hx6) fun _ H=>q_g 1 [(1,vL tPred a1 .shut),(6,.ptr id5 0),(12,vL tNode a0 .shut),(13,vI (a0.length:Int)),(14,vI s2),(22,.fn x6.g x6.a x6.b)] H fun _ H=>?_
  refine k_load (t:=24) (off:=0) 0 [(1,vL tPred a1 .shut),(12,vL tNode a0 .shut),(13,vI (a0.length:Int)),(14,vI s2),(22,.fn x6.g x6.a x6.b),(23,aN x4)] H K rfl (v:=aN x4) (by kernel_rfl) (fun _=>by kernel_rfl) fun _ H=>?_
  obtain ⟨x7,hx7,hr⟩:=obind hr
  refine k_callP (x6.ok x4 x7 _ .shut hx7) x6.calm [(1,vL tPred a1 .shut),(12,vL tNode a0 .shut),(13,vI (a0.length:Int)),(14,vI s2),(24,vB x7)] H (fun _=>by kernel_rfl) fun _ H=>q_g 1 [(1,vL tPred a1 .shut),(12,vL tNode a0 .shut),(13,vI (a0.length:Int)),(14,vI s2),(25,vB !x7)] H fun _ H=>q_e (q_d ?_)
  rcases csplit hr with ⟨c8,hr⟩|⟨c8,hr⟩
  ·refine q_T H c8 (W_seq (W_reg (q_g 1 [(4,vB false)] H fun _ H=>q_e (W_ret ?_))))
   obtain rfl:=sj hr
   exact ⟨by simp,⟨rfl,H.tq,K.keep [false]⟩⟩
  refine q_F H c8 (W_skip (W_reg (q_g 2 [(1,vL tPred a1 .shut),(12,vL tNode a0 .shut),(13,vI (a0.length:Int)),(14,vI (w64 (s2 + 1)))] H fun _ H=>q_e ?_)))
  obtain rfl:=sj hr
  exact ⟨rfl,⟨H.tq,K.keep [false]⟩⟩
 rcases r9 with r9a | r9b
 ·rintro e fr st ⟨rfl,H,K⟩
  obtain rfl:=sj hr
  exact q_r [vB false] H K
 rintro e fr st ⟨rfl,H,K⟩
 refine W_seq (W_reg (q_g 1 [(4,vB true)] H fun _ H=>q_e (W_ret ?_)))
 obtain rfl:=sj hr
 exact q_r [vB true] H K
def F197 (a0:Node) (a1:Int):Option Bool := some (a0.kind == a1)
theorem F197_R (a0:Node) (a1:Int) (r:Bool) (hr:F197 a0 a1 = some r) {st:St} {p0:Spare}:R Tryz.prog AN 197 [.agg (cNode p0 a0),.cptr ([vI a1]) 0] st (.ret (vB r)) st:=by
 unfold F197 at hr
 refine R_pureX [aN a0,.cptr ([vI a1]) 0] [(0,aN a0),(1,.cptr ([vI a1]) 0)] (by kernel_rfl) Tryz.func197 rfl (by kernel_rfl) (by simp only [strip,stripL,stripL_cNode,Option.bind_some,Option.map_some]) rfl fun fr st H K=>W_seq (W_reg (q_g 2 [(1,.cptr ([vI a1]) 0),(2,cN a0 0)] H fun _ H=>q_e (W_seq (W_reg (q_g 5 [(3,vB (a0.kind == a1))] H fun _ H=>q_e (W_ret ?_))))))
 obtain rfl:=sj hr
 exact q_r [vB (a0.kind == a1)] H K
def F160 (n:Nat) (a0:List Node):Option Bool := (iter (σ:=Int) (ρ:=Unit ⊕ Unit) (fun s1=>bif decide (s1 < (a0.length:Int)) then ((idxL a0 s1).bind fun x3 => (F62 x3).bind fun x5 => bif !x5 then (some (.inr (.inl ()))) else (bif (Int.tmod s1 2) == 0 then (bif x3.kind != 2 then (some (.inr (.inl ()))) else (some (.inl (w64 (s1 + 1))))) else (some (.inl (w64 (s1 + 1)))))) else (some (.inr (.inr ())))) n (0:Int)).bind fun r9=>match r9 with | .inl _=>some false | .inr _=>some ((Int.tmod (a0.length:Int) 2) == 0)
theorem F160_R (n:Nat) (a0:List Node) (r:Bool) (hr:F160 n a0 = some r) {st:St} {p0:Spare}:R Tryz.prog AN 160 [vL tNode a0 p0] st (.ret (vB r)) st:=by
 unfold F160 at hr
 refine R_pureX [vL tNode a0 .shut] [(0,vL tNode a0 .shut)] (by kernel_rfl) Tryz.func160 rfl (by kernel_rfl) (by simp only [strip,stripL,stripL_ET,Option.bind_some,Option.map_some]) rfl fun fr st H K=>W_seq (W_reg (q_g 1 [(0,vL tNode a0 .shut)] H fun _ H=>q_e (W_seq (W_seq (W_reg (q_g 1 [(0,vL tNode a0 .shut),(5,vL tNode a0 .shut)] H fun _ H=>?_))))))
 refine q_v (.len 22 (vL tNode a0 .shut)) [(0,vL tNode a0 .shut),(5,vL tNode a0 .shut),(6,vI (a0.length:Int))] H (run_len tNode (by kernel_rfl)) fun _ H=>q_g 1 [(0,vL tNode a0 .shut),(5,vL tNode a0 .shut),(6,vI (a0.length:Int)),(7,vI 0)] H fun _ H=>q_e (W_block ?_)
 obtain ⟨r9,hr9,hr⟩:=obind hr
 refine W_iter hr9 (fun (s1:Int) fr st=>Rd fr [(0,vL tNode a0 .shut),(5,vL tNode a0 .shut),(6,vI (a0.length:Int)),(7,vI s1)]∧HL st []) (fun (r9:Unit ⊕ Unit) e fr st=>match r9 with | .inl r9a=>(e = .ret∧Rd fr [(2,vB false)]∧HL st []) | .inr r9b=>(e = .exit 0∧Rd fr [(0,vL tNode a0 .shut)]∧HL st [])) ⟨H.tq,K.keep []⟩ ?_ ?_
 ·intro s1 fr st r hi hr
  obtain ⟨H,K⟩:=hi
  refine W_seq (W_reg (q_g 1 [(0,vL tNode a0 .shut),(5,vL tNode a0 .shut),(6,vI (a0.length:Int)),(7,vI s1),(8,vB (decide (s1 < (a0.length:Int))))] H fun _ H=>q_e (W_seq ?_)))
  rcases csplit hr with ⟨c2,hr⟩|⟨c2,hr⟩
  rotate_left
  ·refine q_F H c2 ?_
   refine W_exit ?_
   obtain rfl:=sj hr
   exact ⟨by simp,⟨rfl,H.tq,K.keep []⟩⟩
  refine q_T H c2 (W_skip (W_seq (W_block (W_seq (W_reg (q_g 1 [(0,vL tNode a0 .shut),(5,vL tNode a0 .shut),(6,vI (a0.length:Int)),(7,vI s1),(9,vI s1)] H fun _ H=>?_))))))
  obtain ⟨x3,hx3,hr⟩:=obind hr
  refine q_v (.indexAddr 22 (vL tNode a0 .shut) (vI s1)) [(0,vL tNode a0 .shut),(5,vL tNode a0 .shut),(6,vI (a0.length:Int)),(7,vI s1),(9,vI s1),(10,cN x3 0)] H (run_idxL tNode (by kernel_rfl) hx3) fun _ H=>q_g 1 [(0,vL tNode a0 .shut),(5,vL tNode a0 .shut),(6,vI (a0.length:Int)),(7,vI s1),(9,vI s1),(11,aN x3)] H fun _ H=>?_
  refine k_alloc (t:=24) (cs:=[vI 0,vS (bs []),vS (bs []),vI 0,vI 0,vI 0,vB false,vL tNode ([]:List Node) .nil,vI 0]) (fun id4=>[(0,vL tNode a0 .shut),(4,.ptr id4 0),(5,vL tNode a0 .shut),(6,vI (a0.length:Int)),(7,vI s1),(9,vI s1),(11,aN x3)]) H K (by kernel_rfl) (fun _ _=>by kernel_rfl) fun id4 st K fr H=>q_g 1 [(0,vL tNode a0 .shut),(3,vI s1),(4,.ptr id4 0),(5,vL tNode a0 .shut),(6,vI (a0.length:Int)),(7,vI s1),(11,aN x3)] H fun _ H=>?_
  refine k_store (t:=24) (off:=0) (v:=aN x3) (cs':=[vI x3.kind,vS x3.name,vS x3.other,vI x3.n,vI x3.len,vI x3.init,vB x3.ghost,kN x3,vI x3.pos]) 0 [(0,vL tNode a0 .shut),(3,vI s1),(4,.ptr id4 0),(5,vL tNode a0 .shut),(6,vI (a0.length:Int)),(7,vI s1)] H K rfl (by kernel_rfl) (fun _=>by kernel_rfl) fun st K fr H=>q_e (W_seq (W_reg ?_))
  refine k_load (t:=24) (off:=0) 0 [(0,vL tNode a0 .shut),(3,vI s1),(4,.ptr id4 0),(5,vL tNode a0 .shut),(6,vI (a0.length:Int)),(7,vI s1),(12,aN x3)] H K rfl (v:=aN x3) (by kernel_rfl) (fun _=>by kernel_rfl) fun _ H=>?_
  obtain ⟨x5,hx5,hr⟩:=obind hr
  refine q_c (F62_R  x3 x5 hx5 (p0:=.shut)) 0 [(0,vL tNode a0 .shut),(3,vI s1),(4,.ptr id4 0),(5,vL tNode a0 .shut),(6,vI (a0.length:Int)),(7,vI s1),(13,vB x5)] H fun _ H=>q_g 2 [(0,vL tNode a0 .shut),(3,vI s1),(4,.ptr id4 0),(5,vL tNode a0 .shut),(6,vI (a0.length:Int)),(7,vI s1),(15,vB !x5)] H fun _ H=>?_
  rcases csplit hr with ⟨c6,hr⟩|⟨c6,hr⟩
  ·rw [c6] at H
   refine q_g 9 [(0,vL tNode a0 .shut),(5,vL tNode a0 .shut),(6,vI (a0.length:Int)),(7,vI s1),(24,vB true)] H fun _ H=>q_e (q_T H rfl (W_seq (W_reg (q_g 1 [(2,vB false)] H fun _ H=>q_e (W_ret ?_)))))
   obtain rfl:=sj hr
   exact ⟨by simp,⟨rfl,H.tq,K.keep [false]⟩⟩
  rw [c6] at H
  refine q_g 4 [(0,vL tNode a0 .shut),(4,.ptr id4 0),(5,vL tNode a0 .shut),(6,vI (a0.length:Int)),(7,vI s1),(15,vB false),(19,vB ((Int.tmod s1 2) == 0))] H fun _ H=>?_
  rcases csplit hr with ⟨c7,hr⟩|⟨c7,hr⟩
  rotate_left
  ·rw [c7] at H
   refine q_g 5 [(0,vL tNode a0 .shut),(5,vL tNode a0 .shut),(6,vI (a0.length:Int)),(7,vI s1),(24,vB false)] H fun _ H=>q_e (q_F H rfl (W_skip (W_reg (q_g 2 [(0,vL tNode a0 .shut),(5,vL tNode a0 .shut),(6,vI (a0.length:Int)),(7,vI (w64 (s1 + 1)))] H fun _ H=>q_e ?_))))
   obtain rfl:=sj hr
   exact ⟨rfl,⟨H.tq,K.keep [false]⟩⟩
  rw [c7] at H
  refine q_g 1 [(0,vL tNode a0 .shut),(5,vL tNode a0 .shut),(6,vI (a0.length:Int)),(7,vI s1),(15,vB false),(19,vB true),(20,.ptr id4 0)] H fun _ H=>?_
  refine k_load (t:=3) (off:=0) 0 [(0,vL tNode a0 .shut),(5,vL tNode a0 .shut),(6,vI (a0.length:Int)),(7,vI s1),(15,vB false),(19,vB true),(21,vI x3.kind)] H K rfl (v:=vI x3.kind) (by kernel_rfl) (fun _=>by kernel_rfl) fun _ H=>q_g 3 [(0,vL tNode a0 .shut),(5,vL tNode a0 .shut),(6,vI (a0.length:Int)),(7,vI s1),(24,vB (x3.kind != 2))] H fun _ H=>q_e ?_
  rcases csplit hr with ⟨c8,hr⟩|⟨c8,hr⟩
  ·refine q_T H c8 (W_seq (W_reg (q_g 1 [(2,vB false)] H fun _ H=>q_e (W_ret ?_))))
   obtain rfl:=sj hr
   exact ⟨by simp,⟨rfl,H.tq,K.keep [false]⟩⟩
  refine q_F H c8 (W_skip (W_reg (q_g 2 [(0,vL tNode a0 .shut),(5,vL tNode a0 .shut),(6,vI (a0.length:Int)),(7,vI (w64 (s1 + 1)))] H fun _ H=>q_e ?_)))
  obtain rfl:=sj hr
  exact ⟨rfl,⟨H.tq,K.keep [false]⟩⟩
 rcases r9 with r9a | r9b
 ·rintro e fr st ⟨rfl,H,K⟩
  obtain rfl:=sj hr
  exact q_r [vB false] H K
 rintro e fr st ⟨rfl,H,K⟩
 refine W_seq (W_reg (q_g 1 [(26,vL tNode a0 .shut)] H fun _ H=>?_))
 refine q_v (.len 22 (vL tNode a0 .shut)) [(27,vI (a0.length:Int))] H (run_len tNode (by kernel_rfl)) fun _ H=>q_g 3 [(2,vB ((Int.tmod (a0.length:Int) 2) == 0))] H fun _ H=>q_e (W_ret ?_)
 obtain rfl:=sj hr
 exact q_r [vB ((Int.tmod (a0.length:Int) 2) == 0)] H K
def F161 (a0:Node):Option Bool := some (a0.kind == 63)
theorem F161_R (a0:Node) (r:Bool) (hr:F161 a0 = some r) {st:St} {p0:Spare}:R Tryz.prog AN 161 [.agg (cNode p0 a0)] st (.ret (vB r)) st:=by
 unfold F161 at hr
 refine R_pureX [aN a0] [(0,aN a0)] (by kernel_rfl) Tryz.func161 rfl (by kernel_rfl) (by simp only [strip,stripL,stripL_cNode,Option.bind_some,Option.map_some]) rfl fun fr st H K=>W_seq (W_reg (q_g 2 [(1,cN a0 0)] H fun _ H=>q_e (W_seq (W_reg (q_g 4 [(2,vB (a0.kind == 63))] H fun _ H=>q_e (W_ret ?_))))))
 obtain rfl:=sj hr
 exact q_r [vB (a0.kind == 63)] H K
def F198 (a0:Node):Option Bool := (F62 a0).bind fun x1 => bif x1 then (some true) else ((F161 a0).bind fun x3 => some x3)
theorem F198_R (a0:Node) (r:Bool) (hr:F198 a0 = some r) {st:St} {p0:Spare}:R Tryz.prog AN 198 [.agg (cNode p0 a0),.cptr ([.fn 62 [] []]) 0,.cptr ([.fn 161 [] []]) 0] st (.ret (vB r)) st:=by
 unfold F198 at hr
 refine R_pureX [aN a0,.cptr ([.fn 62 [] []]) 0,.cptr ([.fn 161 [] []]) 0] [(0,aN a0),(1,.cptr ([.fn 62 [] []]) 0),(2,.cptr ([.fn 161 [] []]) 0)] (by kernel_rfl) Tryz.func198 rfl (by kernel_rfl) (by simp only [strip,stripL,stripL_cNode,Option.bind_some,Option.map_some]) rfl fun fr st H K=>W_seq (W_reg (q_g 2 [(1,.cptr ([.fn 62 [] []]) 0),(2,.cptr ([.fn 161 [] []]) 0),(3,cN a0 0)] H fun _ H=>q_e (W_seq (W_reg (q_g 2 [(2,.cptr ([.fn 161 [] []]) 0),(3,cN a0 0),(5,.fn 62 [] []),(6,aN a0)] H fun _ H=>?_)))))
 obtain ⟨x1,hx1,hr⟩:=obind hr
 refine q_c (F62_R  a0 x1 hx1 (p0:=.shut)) 0 [(2,.cptr ([.fn 161 [] []]) 0),(3,cN a0 0),(7,vB x1)] H fun _ H=>q_g 1 [(2,.cptr ([.fn 161 [] []]) 0),(3,cN a0 0),(8,vB x1)] H fun _ H=>?_
 rcases csplit hr with ⟨c2,hr⟩|⟨c2,hr⟩
 ·rw [c2] at H
  refine q_g 5 [(4,vB true)] H fun _ H=>q_e (W_ret ?_)
  obtain rfl:=sj hr
  exact q_r [vB true] H K
 rw [c2] at H
 refine q_g 2 [(8,vB false),(9,.fn 161 [] []),(10,aN a0)] H fun _ H=>?_
 obtain ⟨x3,hx3,hr⟩:=obind hr
 refine q_c (F161_R  a0 x3 hx3 (p0:=.shut)) 0 [(8,vB false),(11,vB x3)] H fun _ H=>q_g 2 [(4,vB x3)] H fun _ H=>q_e (W_ret ?_)
 obtain rfl:=sj hr
 exact q_r [vB x3] H K
def F99_1 (n:Nat) (a0:List Node):Option Bool := (iter (σ:=Int) (ρ:=Unit ⊕ Unit) (fun s1=>bif decide (s1 < (a0.length:Int)) then ((idxL a0 s1).bind fun x3 => (F62 x3).bind fun x5 => bif !x5 then (some (.inr (.inl ()))) else (some (.inl (w64 (s1 + 1))))) else (some (.inr (.inr ())))) n (0:Int)).bind fun r7=>match r7 with | .inl _=>some false | .inr _=>some true
theorem F99_1_R (n:Nat) (a0:List Node) (r:Bool) (hr:F99_1 n a0 = some r) {st:St} {p0:Spare}:R Tryz.prog AN 99 [vL tNode a0 p0,.fn 62 [] []] st (.ret (vB r)) st:=by
 unfold F99_1 at hr
 refine R_pureX [vL tNode a0 .shut,.fn 62 [] []] [(0,vL tNode a0 .shut),(1,.fn 62 [] [])] (by kernel_rfl) Tryz.func99 rfl (by kernel_rfl) (by simp only [strip,stripL,stripL_ET,Option.bind_some,Option.map_some]) rfl fun fr st H K=>W_seq (W_reg (q_g 1 [(0,vL tNode a0 .shut),(1,.fn 62 [] [])] H fun _ H=>q_e (W_seq (W_seq (W_reg (q_g 1 [(1,.fn 62 [] []),(7,vL tNode a0 .shut)] H fun _ H=>?_))))))
 refine q_v (.len 22 (vL tNode a0 .shut)) [(1,.fn 62 [] []),(7,vL tNode a0 .shut),(8,vI (a0.length:Int))] H (run_len tNode (by kernel_rfl)) fun _ H=>q_g 1 [(1,.fn 62 [] []),(7,vL tNode a0 .shut),(8,vI (a0.length:Int)),(9,vI 0)] H fun _ H=>q_e (W_block ?_)
 obtain ⟨r7,hr7,hr⟩:=obind hr
 refine W_iter hr7 (fun (s1:Int) fr st=>Rd fr [(1,.fn 62 [] []),(7,vL tNode a0 .shut),(8,vI (a0.length:Int)),(9,vI s1)]∧HL st []) (fun (r7:Unit ⊕ Unit) e fr st=>match r7 with | .inl r7a=>(e = .ret∧Rd fr [(4,vB false)]∧HL st []) | .inr r7b=>(e = .exit 0∧Rd fr []∧HL st [])) ⟨H.tq,K.keep []⟩ ?_ ?_
 ·intro s1 fr st r hi hr
  obtain ⟨H,K⟩:=hi
  refine W_seq (W_reg (q_g 1 [(1,.fn 62 [] []),(7,vL tNode a0 .shut),(8,vI (a0.length:Int)),(9,vI s1),(10,vB (decide (s1 < (a0.length:Int))))] H fun _ H=>q_e (W_seq ?_)))
  rcases csplit hr with ⟨c2,hr⟩|⟨c2,hr⟩
  rotate_left
  ·refine q_F H c2 ?_
   refine W_exit ?_
   obtain rfl:=sj hr
   exact ⟨by simp,⟨rfl,H.tq,K.keep []⟩⟩
  refine q_T H c2 (W_skip (W_seq (W_block (W_seq (W_reg ?_)))))
  obtain ⟨x3,hx3,hr⟩:=obind hr
  refine q_v (.indexAddr 22 (vL tNode a0 .shut) (vI s1)) [(1,.fn 62 [] []),(7,vL tNode a0 .shut),(8,vI (a0.length:Int)),(9,vI s1),(11,cN x3 0)] H (run_idxL tNode (by kernel_rfl) hx3) fun _ H=>q_g 1 [(1,.fn 62 [] []),(7,vL tNode a0 .shut),(8,vI (a0.length:Int)),(9,vI s1),(12,aN x3)] H fun _ H=>?_
  refine k_alloc (t:=24) (cs:=[vI 0,vS (bs []),vS (bs []),vI 0,vI 0,vI 0,vB false,vL tNode ([]:List Node) .nil,vI 0]) (fun id4=>[(1,.fn 62 [] []),(6,.ptr id4 0),(7,vL tNode a0 .shut),(8,vI (a0.length:Int)),(9,vI s1),(12,aN x3)]) H K (by kernel_rfl) (fun _ _=>by kernel_rfl) fun id4 st K fr H=>?_
  refine k_store (t:=24) (off:=0) (v:=aN x3) (cs':=[vI x3.kind,vS x3.name,vS x3.other,vI x3.n,vI x3.len,vI x3.init,vB x3.ghost,kN x3,vI x3.pos]) 0 [(1,.fn 62 [] []),(6,.ptr id4 0),(7,vL tNode a0 .shut),(8,vI (a0.length:Int)),(9,vI s1)] H K rfl (by kernel_rfl) (fun _=>by kernel_rfl) fun st K fr H=>q_e (W_seq (W_reg (q_g 1 [(1,.fn 62 [] []),(6,.ptr id4 0),(7,vL tNode a0 .shut),(8,vI (a0.length:Int)),(9,vI s1),(13,.fn 62 [] [])] H fun _ H=>?_)))
  refine k_load (t:=24) (off:=0) 0 [(1,.fn 62 [] []),(7,vL tNode a0 .shut),(8,vI (a0.length:Int)),(9,vI s1),(13,.fn 62 [] []),(14,aN x3)] H K rfl (v:=aN x3) (by kernel_rfl) (fun _=>by kernel_rfl) fun _ H=>?_
  obtain ⟨x5,hx5,hr⟩:=obind hr
  refine q_c (F62_R  x3 x5 hx5 (p0:=.shut)) 0 [(1,.fn 62 [] []),(7,vL tNode a0 .shut),(8,vI (a0.length:Int)),(9,vI s1),(15,vB x5)] H fun _ H=>q_g 1 [(1,.fn 62 [] []),(7,vL tNode a0 .shut),(8,vI (a0.length:Int)),(9,vI s1),(16,vB !x5)] H fun _ H=>q_e ?_
  rcases csplit hr with ⟨c6,hr⟩|⟨c6,hr⟩
  ·refine q_T H c6 (W_seq (W_reg (q_g 1 [(4,vB false)] H fun _ H=>q_e (W_ret ?_))))
   obtain rfl:=sj hr
   exact ⟨by simp,⟨rfl,H.tq,K.keep [false]⟩⟩
  refine q_F H c6 (W_skip (W_reg (q_g 2 [(1,.fn 62 [] []),(7,vL tNode a0 .shut),(8,vI (a0.length:Int)),(9,vI (w64 (s1 + 1)))] H fun _ H=>q_e ?_)))
  obtain rfl:=sj hr
  exact ⟨rfl,⟨H.tq,K.keep [false]⟩⟩
 rcases r7 with r7a | r7b
 ·rintro e fr st ⟨rfl,H,K⟩
  obtain rfl:=sj hr
  exact q_r [vB false] H K
 rintro e fr st ⟨rfl,H,K⟩
 refine W_seq (W_reg (q_g 1 [(4,vB true)] H fun _ H=>q_e (W_ret ?_)))
 obtain rfl:=sj hr
 exact q_r [vB true] H K
def F163 (a0:Node):Option Bool := some (((decide (20≤a0.kind)) && (decide (a0.kind≤35))) && (a0.kind != 34))
theorem F163_R (a0:Node) (r:Bool) (hr:F163 a0 = some r) {st:St} {p0:Spare}:R Tryz.prog AN 163 [.agg (cNode p0 a0)] st (.ret (vB r)) st:=by
 unfold F163 at hr
 refine R_pureX [aN a0] [(0,aN a0)] (by kernel_rfl) Tryz.func163 rfl (by kernel_rfl) (by simp only [strip,stripL,stripL_cNode,Option.bind_some,Option.map_some]) rfl fun fr st H K=>W_seq (W_reg (q_g 2 [(1,cN a0 0)] H fun _ H=>q_e (W_seq (W_reg (q_g 4 [(1,cN a0 0),(6,vB (decide (20≤a0.kind)))] H fun _ H=>?_)))))
 refine k_g 4 [(1,cN a0 0),(10,vB ((decide (20≤a0.kind)) && (decide (a0.kind≤35))))] H (fun _ _=>by generalize (decide (20≤a0.kind)) = b0; cases b0 <;> kernel_rfl) fun _ H=>q_g 1 [(1,cN a0 0),(11,vB ((decide (20≤a0.kind)) && (decide (a0.kind≤35))))] H fun _ H=>?_
 refine k_g 4 [(15,vB (((decide (20≤a0.kind)) && (decide (a0.kind≤35))) && (a0.kind != 34)))] H (fun _ _=>by generalize ((decide (20≤a0.kind)) && (decide (a0.kind≤35))) = b0; cases b0 <;> kernel_rfl) fun _ H=>q_g 1 [(2,vB (((decide (20≤a0.kind)) && (decide (a0.kind≤35))) && (a0.kind != 34)))] H fun _ H=>q_e (W_ret ?_)
 obtain rfl:=sj hr
 exact q_r [vB (((decide (20≤a0.kind)) && (decide (a0.kind≤35))) && (a0.kind != 34))] H K
def F99_2 (n:Nat) (a0:List Node):Option Bool := (iter (σ:=Int) (ρ:=Unit ⊕ Unit) (fun s1=>bif decide (s1 < (a0.length:Int)) then ((idxL a0 s1).bind fun x3 => (F163 x3).bind fun x5 => bif !x5 then (some (.inr (.inl ()))) else (some (.inl (w64 (s1 + 1))))) else (some (.inr (.inr ())))) n (0:Int)).bind fun r7=>match r7 with | .inl _=>some false | .inr _=>some true
theorem F99_2_R (n:Nat) (a0:List Node) (r:Bool) (hr:F99_2 n a0 = some r) {st:St} {p0:Spare}:R Tryz.prog AN 99 [vL tNode a0 p0,.fn 163 [] []] st (.ret (vB r)) st:=by
 unfold F99_2 at hr
 refine R_pureX [vL tNode a0 .shut,.fn 163 [] []] [(0,vL tNode a0 .shut),(1,.fn 163 [] [])] (by kernel_rfl) Tryz.func99 rfl (by kernel_rfl) (by simp only [strip,stripL,stripL_ET,Option.bind_some,Option.map_some]) rfl fun fr st H K=>W_seq (W_reg (q_g 1 [(0,vL tNode a0 .shut),(1,.fn 163 [] [])] H fun _ H=>q_e (W_seq (W_seq (W_reg (q_g 1 [(1,.fn 163 [] []),(7,vL tNode a0 .shut)] H fun _ H=>?_))))))
 refine q_v (.len 22 (vL tNode a0 .shut)) [(1,.fn 163 [] []),(7,vL tNode a0 .shut),(8,vI (a0.length:Int))] H (run_len tNode (by kernel_rfl)) fun _ H=>q_g 1 [(1,.fn 163 [] []),(7,vL tNode a0 .shut),(8,vI (a0.length:Int)),(9,vI 0)] H fun _ H=>q_e (W_block ?_)
 obtain ⟨r7,hr7,hr⟩:=obind hr
 refine W_iter hr7 (fun (s1:Int) fr st=>Rd fr [(1,.fn 163 [] []),(7,vL tNode a0 .shut),(8,vI (a0.length:Int)),(9,vI s1)]∧HL st []) (fun (r7:Unit ⊕ Unit) e fr st=>match r7 with | .inl r7a=>(e = .ret∧Rd fr [(4,vB false)]∧HL st []) | .inr r7b=>(e = .exit 0∧Rd fr []∧HL st [])) ⟨H.tq,K.keep []⟩ ?_ ?_
 ·intro s1 fr st r hi hr
  obtain ⟨H,K⟩:=hi
  refine W_seq (W_reg (q_g 1 [(1,.fn 163 [] []),(7,vL tNode a0 .shut),(8,vI (a0.length:Int)),(9,vI s1),(10,vB (decide (s1 < (a0.length:Int))))] H fun _ H=>q_e (W_seq ?_)))
  rcases csplit hr with ⟨c2,hr⟩|⟨c2,hr⟩
  rotate_left
  ·refine q_F H c2 ?_
   refine W_exit ?_
   obtain rfl:=sj hr
   exact ⟨by simp,⟨rfl,H.tq,K.keep []⟩⟩
  refine q_T H c2 (W_skip (W_seq (W_block (W_seq (W_reg ?_)))))
  obtain ⟨x3,hx3,hr⟩:=obind hr
  refine q_v (.indexAddr 22 (vL tNode a0 .shut) (vI s1)) [(1,.fn 163 [] []),(7,vL tNode a0 .shut),(8,vI (a0.length:Int)),(9,vI s1),(11,cN x3 0)] H (run_idxL tNode (by kernel_rfl) hx3) fun _ H=>q_g 1 [(1,.fn 163 [] []),(7,vL tNode a0 .shut),(8,vI (a0.length:Int)),(9,vI s1),(12,aN x3)] H fun _ H=>?_
  refine k_alloc (t:=24) (cs:=[vI 0,vS (bs []),vS (bs []),vI 0,vI 0,vI 0,vB false,vL tNode ([]:List Node) .nil,vI 0]) (fun id4=>[(1,.fn 163 [] []),(6,.ptr id4 0),(7,vL tNode a0 .shut),(8,vI (a0.length:Int)),(9,vI s1),(12,aN x3)]) H K (by kernel_rfl) (fun _ _=>by kernel_rfl) fun id4 st K fr H=>?_
  refine k_store (t:=24) (off:=0) (v:=aN x3) (cs':=[vI x3.kind,vS x3.name,vS x3.other,vI x3.n,vI x3.len,vI x3.init,vB x3.ghost,kN x3,vI x3.pos]) 0 [(1,.fn 163 [] []),(6,.ptr id4 0),(7,vL tNode a0 .shut),(8,vI (a0.length:Int)),(9,vI s1)] H K rfl (by kernel_rfl) (fun _=>by kernel_rfl) fun st K fr H=>q_e (W_seq (W_reg (q_g 1 [(1,.fn 163 [] []),(6,.ptr id4 0),(7,vL tNode a0 .shut),(8,vI (a0.length:Int)),(9,vI s1),(13,.fn 163 [] [])] H fun _ H=>?_)))
  refine k_load (t:=24) (off:=0) 0 [(1,.fn 163 [] []),(7,vL tNode a0 .shut),(8,vI (a0.length:Int)),(9,vI s1),(13,.fn 163 [] []),(14,aN x3)] H K rfl (v:=aN x3) (by kernel_rfl) (fun _=>by kernel_rfl) fun _ H=>?_
  obtain ⟨x5,hx5,hr⟩:=obind hr
  refine q_c (F163_R  x3 x5 hx5 (p0:=.shut)) 0 [(1,.fn 163 [] []),(7,vL tNode a0 .shut),(8,vI (a0.length:Int)),(9,vI s1),(15,vB x5)] H fun _ H=>q_g 1 [(1,.fn 163 [] []),(7,vL tNode a0 .shut),(8,vI (a0.length:Int)),(9,vI s1),(16,vB !x5)] H fun _ H=>q_e ?_
  rcases csplit hr with ⟨c6,hr⟩|⟨c6,hr⟩
  ·refine q_T H c6 (W_seq (W_reg (q_g 1 [(4,vB false)] H fun _ H=>q_e (W_ret ?_))))
   obtain rfl:=sj hr
   exact ⟨by simp,⟨rfl,H.tq,K.keep [false]⟩⟩
  refine q_F H c6 (W_skip (W_reg (q_g 2 [(1,.fn 163 [] []),(7,vL tNode a0 .shut),(8,vI (a0.length:Int)),(9,vI (w64 (s1 + 1)))] H fun _ H=>q_e ?_)))
  obtain rfl:=sj hr
  exact ⟨rfl,⟨H.tq,K.keep [false]⟩⟩
 rcases r7 with r7a | r7b
 ·rintro e fr st ⟨rfl,H,K⟩
  obtain rfl:=sj hr
  exact q_r [vB false] H K
 rintro e fr st ⟨rfl,H,K⟩
 refine W_seq (W_reg (q_g 1 [(4,vB true)] H fun _ H=>q_e (W_ret ?_)))
 obtain rfl:=sj hr
 exact q_r [vB true] H K
def F99_3 (n:Nat) (a0:List Node) (a1:Int):Option Bool := (iter (σ:=Int) (ρ:=Unit ⊕ Unit) (fun s1=>bif decide (s1 < (a0.length:Int)) then ((idxL a0 s1).bind fun x3 => (F197 x3 a1).bind fun x5 => bif !x5 then (some (.inr (.inl ()))) else (some (.inl (w64 (s1 + 1))))) else (some (.inr (.inr ())))) n (0:Int)).bind fun r7=>match r7 with | .inl _=>some false | .inr _=>some true
theorem F99_3_R (n:Nat) (a0:List Node) (a1:Int) (r:Bool) (hr:F99_3 n a0 a1 = some r) {st:St} {p0:Spare}:R Tryz.prog AN 99 [vL tNode a0 p0,.fn 197 [] [.cptr ([vI a1]) 0]] st (.ret (vB r)) st:=by
 unfold F99_3 at hr
 refine R_pureX [vL tNode a0 .shut,.fn 197 [] [.cptr ([vI a1]) 0]] [(0,vL tNode a0 .shut),(1,.fn 197 [] [.cptr ([vI a1]) 0])] (by kernel_rfl) Tryz.func99 rfl (by kernel_rfl) (by simp only [strip,stripL,stripL_ET,Option.bind_some,Option.map_some]) rfl fun fr st H K=>W_seq (W_reg (q_g 1 [(0,vL tNode a0 .shut),(1,.fn 197 [] [.cptr ([vI a1]) 0])] H fun _ H=>q_e (W_seq (W_seq (W_reg (q_g 1 [(1,.fn 197 [] [.cptr ([vI a1]) 0]),(7,vL tNode a0 .shut)] H fun _ H=>?_))))))
 refine q_v (.len 22 (vL tNode a0 .shut)) [(1,.fn 197 [] [.cptr ([vI a1]) 0]),(7,vL tNode a0 .shut),(8,vI (a0.length:Int))] H (run_len tNode (by kernel_rfl)) fun _ H=>q_g 1 [(1,.fn 197 [] [.cptr ([vI a1]) 0]),(7,vL tNode a0 .shut),(8,vI (a0.length:Int)),(9,vI 0)] H fun _ H=>q_e (W_block ?_)
 obtain ⟨r7,hr7,hr⟩:=obind hr
 refine W_iter hr7 (fun (s1:Int) fr st=>Rd fr [(1,.fn 197 [] [.cptr ([vI a1]) 0]),(7,vL tNode a0 .shut),(8,vI (a0.length:Int)),(9,vI s1)]∧HL st []) (fun (r7:Unit ⊕ Unit) e fr st=>match r7 with | .inl r7a=>(e = .ret∧Rd fr [(4,vB false)]∧HL st []) | .inr r7b=>(e = .exit 0∧Rd fr []∧HL st [])) ⟨H.tq,K.keep []⟩ ?_ ?_
 ·intro s1 fr st r hi hr
  obtain ⟨H,K⟩:=hi
  refine W_seq (W_reg (q_g 1 [(1,.fn 197 [] [.cptr ([vI a1]) 0]),(7,vL tNode a0 .shut),(8,vI (a0.length:Int)),(9,vI s1),(10,vB (decide (s1 < (a0.length:Int))))] H fun _ H=>q_e (W_seq ?_)))
  rcases csplit hr with ⟨c2,hr⟩|⟨c2,hr⟩
  rotate_left
  ·refine q_F H c2 ?_
   refine W_exit ?_
   obtain rfl:=sj hr
   exact ⟨by simp,⟨rfl,H.tq,K.keep []⟩⟩
  refine q_T H c2 (W_skip (W_seq (W_block (W_seq (W_reg ?_)))))
  obtain ⟨x3,hx3,hr⟩:=obind hr
  refine q_v (.indexAddr 22 (vL tNode a0 .shut) (vI s1)) [(1,.fn 197 [] [.cptr ([vI a1]) 0]),(7,vL tNode a0 .shut),(8,vI (a0.length:Int)),(9,vI s1),(11,cN x3 0)] H (run_idxL tNode (by kernel_rfl) hx3) fun _ H=>q_g 1 [(1,.fn 197 [] [.cptr ([vI a1]) 0]),(7,vL tNode a0 .shut),(8,vI (a0.length:Int)),(9,vI s1),(12,aN x3)] H fun _ H=>?_
  refine k_alloc (t:=24) (cs:=[vI 0,vS (bs []),vS (bs []),vI 0,vI 0,vI 0,vB false,vL tNode ([]:List Node) .nil,vI 0]) (fun id4=>[(1,.fn 197 [] [.cptr ([vI a1]) 0]),(6,.ptr id4 0),(7,vL tNode a0 .shut),(8,vI (a0.length:Int)),(9,vI s1),(12,aN x3)]) H K (by kernel_rfl) (fun _ _=>by kernel_rfl) fun id4 st K fr H=>?_
  refine k_store (t:=24) (off:=0) (v:=aN x3) (cs':=[vI x3.kind,vS x3.name,vS x3.other,vI x3.n,vI x3.len,vI x3.init,vB x3.ghost,kN x3,vI x3.pos]) 0 [(1,.fn 197 [] [.cptr ([vI a1]) 0]),(6,.ptr id4 0),(7,vL tNode a0 .shut),(8,vI (a0.length:Int)),(9,vI s1)] H K rfl (by kernel_rfl) (fun _=>by kernel_rfl) fun st K fr H=>q_e (W_seq (W_reg (q_g 1 [(1,.fn 197 [] [.cptr ([vI a1]) 0]),(6,.ptr id4 0),(7,vL tNode a0 .shut),(8,vI (a0.length:Int)),(9,vI s1),(13,.fn 197 [] [.cptr ([vI a1]) 0])] H fun _ H=>?_)))
  refine k_load (t:=24) (off:=0) 0 [(1,.fn 197 [] [.cptr ([vI a1]) 0]),(7,vL tNode a0 .shut),(8,vI (a0.length:Int)),(9,vI s1),(13,.fn 197 [] [.cptr ([vI a1]) 0]),(14,aN x3)] H K rfl (v:=aN x3) (by kernel_rfl) (fun _=>by kernel_rfl) fun _ H=>?_
  obtain ⟨x5,hx5,hr⟩:=obind hr
  refine q_c (F197_R  x3 a1 x5 hx5 (p0:=.shut)) 0 [(1,.fn 197 [] [.cptr ([vI a1]) 0]),(7,vL tNode a0 .shut),(8,vI (a0.length:Int)),(9,vI s1),(15,vB x5)] H fun _ H=>q_g 1 [(1,.fn 197 [] [.cptr ([vI a1]) 0]),(7,vL tNode a0 .shut),(8,vI (a0.length:Int)),(9,vI s1),(16,vB !x5)] H fun _ H=>q_e ?_
  rcases csplit hr with ⟨c6,hr⟩|⟨c6,hr⟩
  ·refine q_T H c6 (W_seq (W_reg (q_g 1 [(4,vB false)] H fun _ H=>q_e (W_ret ?_))))
   obtain rfl:=sj hr
   exact ⟨by simp,⟨rfl,H.tq,K.keep [false]⟩⟩
  refine q_F H c6 (W_skip (W_reg (q_g 2 [(1,.fn 197 [] [.cptr ([vI a1]) 0]),(7,vL tNode a0 .shut),(8,vI (a0.length:Int)),(9,vI (w64 (s1 + 1)))] H fun _ H=>q_e ?_)))
  obtain rfl:=sj hr
  exact ⟨rfl,⟨H.tq,K.keep [false]⟩⟩
 rcases r7 with r7a | r7b
 ·rintro e fr st ⟨rfl,H,K⟩
  obtain rfl:=sj hr
  exact q_r [vB false] H K
 rintro e fr st ⟨rfl,H,K⟩
 refine W_seq (W_reg (q_g 1 [(4,vB true)] H fun _ H=>q_e (W_ret ?_)))
 obtain rfl:=sj hr
 exact q_r [vB true] H K
def F164 (a0:Node):Option Bool := bif a0.kind == 2 then (some ((a0.kids.length:Int) == 0)) else (some false)
theorem F164_R (a0:Node) (r:Bool) (hr:F164 a0 = some r) {st:St} {p0:Spare}:R Tryz.prog AN 164 [.agg (cNode p0 a0)] st (.ret (vB r)) st:=by
 unfold F164 at hr
 refine R_pureX [aN a0] [(0,aN a0)] (by kernel_rfl) Tryz.func164 rfl (by kernel_rfl) (by simp only [strip,stripL,stripL_cNode,Option.bind_some,Option.map_some]) rfl fun fr st H K=>W_seq (W_reg (q_g 2 [(1,cN a0 0)] H fun _ H=>q_e (W_seq (W_reg (q_g 4 [(1,cN a0 0),(6,vB (a0.kind == 2))] H fun _ H=>?_)))))
 rcases csplit hr with ⟨c1,hr⟩|⟨c1,hr⟩
 rotate_left
 ·rw [c1] at H
  refine q_g 6 [(2,vB false)] H fun _ H=>q_e (W_ret ?_)
  obtain rfl:=sj hr
  exact q_r [vB false] H K
 rw [c1] at H
 refine q_g 2 [(6,vB true),(8,kN a0)] H fun _ H=>?_
 refine q_v (.len 22 (kN a0)) [(6,vB true),(9,vI (a0.kids.length:Int))] H (run_len tNode (by kernel_rfl)) fun _ H=>q_g 3 [(2,vB ((a0.kids.length:Int) == 0))] H fun _ H=>q_e (W_ret ?_)
 obtain rfl:=sj hr
 exact q_r [vB ((a0.kids.length:Int) == 0)] H K
def F99_4 (n:Nat) (a0:List Node):Option Bool := (iter (σ:=Int) (ρ:=Unit ⊕ Unit) (fun s1=>bif decide (s1 < (a0.length:Int)) then ((idxL a0 s1).bind fun x3 => (F164 x3).bind fun x5 => bif !x5 then (some (.inr (.inl ()))) else (some (.inl (w64 (s1 + 1))))) else (some (.inr (.inr ())))) n (0:Int)).bind fun r7=>match r7 with | .inl _=>some false | .inr _=>some true
theorem F99_4_R (n:Nat) (a0:List Node) (r:Bool) (hr:F99_4 n a0 = some r) {st:St} {p0:Spare}:R Tryz.prog AN 99 [vL tNode a0 p0,.fn 164 [] []] st (.ret (vB r)) st:=by
 unfold F99_4 at hr
 refine R_pureX [vL tNode a0 .shut,.fn 164 [] []] [(0,vL tNode a0 .shut),(1,.fn 164 [] [])] (by kernel_rfl) Tryz.func99 rfl (by kernel_rfl) (by simp only [strip,stripL,stripL_ET,Option.bind_some,Option.map_some]) rfl fun fr st H K=>W_seq (W_reg (q_g 1 [(0,vL tNode a0 .shut),(1,.fn 164 [] [])] H fun _ H=>q_e (W_seq (W_seq (W_reg (q_g 1 [(1,.fn 164 [] []),(7,vL tNode a0 .shut)] H fun _ H=>?_))))))
 refine q_v (.len 22 (vL tNode a0 .shut)) [(1,.fn 164 [] []),(7,vL tNode a0 .shut),(8,vI (a0.length:Int))] H (run_len tNode (by kernel_rfl)) fun _ H=>q_g 1 [(1,.fn 164 [] []),(7,vL tNode a0 .shut),(8,vI (a0.length:Int)),(9,vI 0)] H fun _ H=>q_e (W_block ?_)
 obtain ⟨r7,hr7,hr⟩:=obind hr
 refine W_iter hr7 (fun (s1:Int) fr st=>Rd fr [(1,.fn 164 [] []),(7,vL tNode a0 .shut),(8,vI (a0.length:Int)),(9,vI s1)]∧HL st []) (fun (r7:Unit ⊕ Unit) e fr st=>match r7 with | .inl r7a=>(e = .ret∧Rd fr [(4,vB false)]∧HL st []) | .inr r7b=>(e = .exit 0∧Rd fr []∧HL st [])) ⟨H.tq,K.keep []⟩ ?_ ?_
 ·intro s1 fr st r hi hr
  obtain ⟨H,K⟩:=hi
  refine W_seq (W_reg (q_g 1 [(1,.fn 164 [] []),(7,vL tNode a0 .shut),(8,vI (a0.length:Int)),(9,vI s1),(10,vB (decide (s1 < (a0.length:Int))))] H fun _ H=>q_e (W_seq ?_)))
  rcases csplit hr with ⟨c2,hr⟩|⟨c2,hr⟩
  rotate_left
  ·refine q_F H c2 ?_
   refine W_exit ?_
   obtain rfl:=sj hr
   exact ⟨by simp,⟨rfl,H.tq,K.keep []⟩⟩
  refine q_T H c2 (W_skip (W_seq (W_block (W_seq (W_reg ?_)))))
  obtain ⟨x3,hx3,hr⟩:=obind hr
  refine q_v (.indexAddr 22 (vL tNode a0 .shut) (vI s1)) [(1,.fn 164 [] []),(7,vL tNode a0 .shut),(8,vI (a0.length:Int)),(9,vI s1),(11,cN x3 0)] H (run_idxL tNode (by kernel_rfl) hx3) fun _ H=>q_g 1 [(1,.fn 164 [] []),(7,vL tNode a0 .shut),(8,vI (a0.length:Int)),(9,vI s1),(12,aN x3)] H fun _ H=>?_
  refine k_alloc (t:=24) (cs:=[vI 0,vS (bs []),vS (bs []),vI 0,vI 0,vI 0,vB false,vL tNode ([]:List Node) .nil,vI 0]) (fun id4=>[(1,.fn 164 [] []),(6,.ptr id4 0),(7,vL tNode a0 .shut),(8,vI (a0.length:Int)),(9,vI s1),(12,aN x3)]) H K (by kernel_rfl) (fun _ _=>by kernel_rfl) fun id4 st K fr H=>?_
  refine k_store (t:=24) (off:=0) (v:=aN x3) (cs':=[vI x3.kind,vS x3.name,vS x3.other,vI x3.n,vI x3.len,vI x3.init,vB x3.ghost,kN x3,vI x3.pos]) 0 [(1,.fn 164 [] []),(6,.ptr id4 0),(7,vL tNode a0 .shut),(8,vI (a0.length:Int)),(9,vI s1)] H K rfl (by kernel_rfl) (fun _=>by kernel_rfl) fun st K fr H=>q_e (W_seq (W_reg (q_g 1 [(1,.fn 164 [] []),(6,.ptr id4 0),(7,vL tNode a0 .shut),(8,vI (a0.length:Int)),(9,vI s1),(13,.fn 164 [] [])] H fun _ H=>?_)))
  refine k_load (t:=24) (off:=0) 0 [(1,.fn 164 [] []),(7,vL tNode a0 .shut),(8,vI (a0.length:Int)),(9,vI s1),(13,.fn 164 [] []),(14,aN x3)] H K rfl (v:=aN x3) (by kernel_rfl) (fun _=>by kernel_rfl) fun _ H=>?_
  obtain ⟨x5,hx5,hr⟩:=obind hr
  refine q_c (F164_R  x3 x5 hx5 (p0:=.shut)) 0 [(1,.fn 164 [] []),(7,vL tNode a0 .shut),(8,vI (a0.length:Int)),(9,vI s1),(15,vB x5)] H fun _ H=>q_g 1 [(1,.fn 164 [] []),(7,vL tNode a0 .shut),(8,vI (a0.length:Int)),(9,vI s1),(16,vB !x5)] H fun _ H=>q_e ?_
  rcases csplit hr with ⟨c6,hr⟩|⟨c6,hr⟩
  ·refine q_T H c6 (W_seq (W_reg (q_g 1 [(4,vB false)] H fun _ H=>q_e (W_ret ?_))))
   obtain rfl:=sj hr
   exact ⟨by simp,⟨rfl,H.tq,K.keep [false]⟩⟩
  refine q_F H c6 (W_skip (W_reg (q_g 2 [(1,.fn 164 [] []),(7,vL tNode a0 .shut),(8,vI (a0.length:Int)),(9,vI (w64 (s1 + 1)))] H fun _ H=>q_e ?_)))
  obtain rfl:=sj hr
  exact ⟨rfl,⟨H.tq,K.keep [false]⟩⟩
 rcases r7 with r7a | r7b
 ·rintro e fr st ⟨rfl,H,K⟩
  obtain rfl:=sj hr
  exact q_r [vB false] H K
 rintro e fr st ⟨rfl,H,K⟩
 refine W_seq (W_reg (q_g 1 [(4,vB true)] H fun _ H=>q_e (W_ret ?_)))
 obtain rfl:=sj hr
 exact q_r [vB true] H K
def F165 (a0:Node):Option Bool := bif a0.kind == 51 then (bif a0.kind == 51 then (some true) else (some false)) else (bif a0.kind == 50 then (bif a0.kind == 50 then (some true) else (some false)) else (bif a0.kind == 53 then (bif a0.kind == 53 then (some true) else (some false)) else (bif a0.kind == 54 then (bif a0.kind == 54 then (some true) else (some false)) else (bif a0.kind == 55 then (bif a0.kind == 55 then (some true) else (some false)) else (bif a0.kind == 56 then (bif a0.kind == 56 then (some true) else (some false)) else (bif a0.kind == 57 then (some true) else (some false)))))))
theorem F165_R (a0:Node) (r:Bool) (hr:F165 a0 = some r) {st:St} {p0:Spare}:R Tryz.prog AN 165 [.agg (cNode p0 a0)] st (.ret (vB r)) st:=by
 unfold F165 at hr
 refine R_pureX [aN a0] [(0,aN a0)] (by kernel_rfl) Tryz.func165 rfl (by kernel_rfl) (by simp only [strip,stripL,stripL_cNode,Option.bind_some,Option.map_some]) rfl fun fr st H K=>W_seq (W_reg (q_g 2 [(1,cN a0 0)] H fun _ H=>q_e (W_seq (W_seq (W_reg (q_g 2 [(4,vI a0.kind)] H fun _ H=>q_e (W_block (W_seq (W_seq (W_reg (q_g 2 [(4,vI a0.kind),(5,vB (a0.kind == 51))] H fun _ H=>q_e ?_)))))))))))
 rcases csplit hr with ⟨c1,hr⟩|⟨c1,hr⟩
 ·refine q_T H c1 (W_skip ?_)
  rcases csplit hr with ⟨c7,hr⟩|⟨c7,hr⟩
  ·refine q_T H c7 (W_seq (W_reg (q_g 1 [(2,vB true)] H fun _ H=>q_e (W_ret ?_))))
   obtain rfl:=sj hr
   exact q_r [vB true] H K
  refine q_F H c7 (W_skip (W_seq (W_reg (q_g 1 [(2,vB false)] H fun _ H=>q_e (W_ret ?_)))))
  obtain rfl:=sj hr
  exact q_r [vB false] H K
 refine q_F H c1 (W_seq (W_reg (q_g 2 [(4,vI a0.kind),(5,vB (a0.kind == 50))] H fun _ H=>q_e ?_)))
 rcases csplit hr with ⟨c2,hr⟩|⟨c2,hr⟩
 ·refine q_T H c2 (W_skip ?_)
  rcases csplit hr with ⟨c8,hr⟩|⟨c8,hr⟩
  ·refine q_T H c8 (W_seq (W_reg (q_g 1 [(2,vB true)] H fun _ H=>q_e (W_ret ?_))))
   obtain rfl:=sj hr
   exact q_r [vB true] H K
  refine q_F H c8 (W_skip (W_seq (W_reg (q_g 1 [(2,vB false)] H fun _ H=>q_e (W_ret ?_)))))
  obtain rfl:=sj hr
  exact q_r [vB false] H K
 refine q_F H c2 (W_seq (W_reg (q_g 2 [(4,vI a0.kind),(5,vB (a0.kind == 53))] H fun _ H=>q_e ?_)))
 rcases csplit hr with ⟨c3,hr⟩|⟨c3,hr⟩
 ·refine q_T H c3 (W_skip ?_)
  rcases csplit hr with ⟨c9,hr⟩|⟨c9,hr⟩
  ·refine q_T H c9 (W_seq (W_reg (q_g 1 [(2,vB true)] H fun _ H=>q_e (W_ret ?_))))
   obtain rfl:=sj hr
   exact q_r [vB true] H K
  refine q_F H c9 (W_skip (W_seq (W_reg (q_g 1 [(2,vB false)] H fun _ H=>q_e (W_ret ?_)))))
  obtain rfl:=sj hr
  exact q_r [vB false] H K
 refine q_F H c3 (W_seq (W_reg (q_g 2 [(4,vI a0.kind),(5,vB (a0.kind == 54))] H fun _ H=>q_e ?_)))
 rcases csplit hr with ⟨c4,hr⟩|⟨c4,hr⟩
 ·refine q_T H c4 (W_skip ?_)
  rcases csplit hr with ⟨c10,hr⟩|⟨c10,hr⟩
  ·refine q_T H c10 (W_seq (W_reg (q_g 1 [(2,vB true)] H fun _ H=>q_e (W_ret ?_))))
   obtain rfl:=sj hr
   exact q_r [vB true] H K
  refine q_F H c10 (W_skip (W_seq (W_reg (q_g 1 [(2,vB false)] H fun _ H=>q_e (W_ret ?_)))))
  obtain rfl:=sj hr
  exact q_r [vB false] H K
 refine q_F H c4 (W_seq (W_reg (q_g 2 [(4,vI a0.kind),(5,vB (a0.kind == 55))] H fun _ H=>q_e ?_)))
 rcases csplit hr with ⟨c5,hr⟩|⟨c5,hr⟩
 ·refine q_T H c5 (W_skip ?_)
  rcases csplit hr with ⟨c11,hr⟩|⟨c11,hr⟩
  ·refine q_T H c11 (W_seq (W_reg (q_g 1 [(2,vB true)] H fun _ H=>q_e (W_ret ?_))))
   obtain rfl:=sj hr
   exact q_r [vB true] H K
  refine q_F H c11 (W_skip (W_seq (W_reg (q_g 1 [(2,vB false)] H fun _ H=>q_e (W_ret ?_)))))
  obtain rfl:=sj hr
  exact q_r [vB false] H K
 refine q_F H c5 (W_seq (W_reg (q_g 2 [(4,vI a0.kind),(5,vB (a0.kind == 56))] H fun _ H=>q_e ?_)))
 rcases csplit hr with ⟨c6,hr⟩|⟨c6,hr⟩
 ·refine q_T H c6 (W_skip ?_)
  rcases csplit hr with ⟨c12,hr⟩|⟨c12,hr⟩
  ·refine q_T H c12 (W_seq (W_reg (q_g 1 [(2,vB true)] H fun _ H=>q_e (W_ret ?_))))
   obtain rfl:=sj hr
   exact q_r [vB true] H K
  refine q_F H c12 (W_skip (W_seq (W_reg (q_g 1 [(2,vB false)] H fun _ H=>q_e (W_ret ?_)))))
  obtain rfl:=sj hr
  exact q_r [vB false] H K
 refine q_F H c6 (W_reg (q_g 2 [(5,vB (a0.kind == 57))] H fun _ H=>q_e ?_))
 rcases csplit hr with ⟨c13,hr⟩|⟨c13,hr⟩
 ·refine q_T H c13 (W_seq (W_reg (q_g 1 [(2,vB true)] H fun _ H=>q_e (W_ret ?_))))
  obtain rfl:=sj hr
  exact q_r [vB true] H K
 refine q_F H c13 (W_skip (W_seq (W_reg (q_g 1 [(2,vB false)] H fun _ H=>q_e (W_ret ?_)))))
 obtain rfl:=sj hr
 exact q_r [vB false] H K
def F99_5 (n:Nat) (a0:List Node):Option Bool := (iter (σ:=Int) (ρ:=Unit ⊕ Unit) (fun s1=>bif decide (s1 < (a0.length:Int)) then ((idxL a0 s1).bind fun x3 => (F165 x3).bind fun x5 => bif !x5 then (some (.inr (.inl ()))) else (some (.inl (w64 (s1 + 1))))) else (some (.inr (.inr ())))) n (0:Int)).bind fun r7=>match r7 with | .inl _=>some false | .inr _=>some true
theorem F99_5_R (n:Nat) (a0:List Node) (r:Bool) (hr:F99_5 n a0 = some r) {st:St} {p0:Spare}:R Tryz.prog AN 99 [vL tNode a0 p0,.fn 165 [] []] st (.ret (vB r)) st:=by
 unfold F99_5 at hr
 refine R_pureX [vL tNode a0 .shut,.fn 165 [] []] [(0,vL tNode a0 .shut),(1,.fn 165 [] [])] (by kernel_rfl) Tryz.func99 rfl (by kernel_rfl) (by simp only [strip,stripL,stripL_ET,Option.bind_some,Option.map_some]) rfl fun fr st H K=>W_seq (W_reg (q_g 1 [(0,vL tNode a0 .shut),(1,.fn 165 [] [])] H fun _ H=>q_e (W_seq (W_seq (W_reg (q_g 1 [(1,.fn 165 [] []),(7,vL tNode a0 .shut)] H fun _ H=>?_))))))
 refine q_v (.len 22 (vL tNode a0 .shut)) [(1,.fn 165 [] []),(7,vL tNode a0 .shut),(8,vI (a0.length:Int))] H (run_len tNode (by kernel_rfl)) fun _ H=>q_g 1 [(1,.fn 165 [] []),(7,vL tNode a0 .shut),(8,vI (a0.length:Int)),(9,vI 0)] H fun _ H=>q_e (W_block ?_)
 obtain ⟨r7,hr7,hr⟩:=obind hr
 refine W_iter hr7 (fun (s1:Int) fr st=>Rd fr [(1,.fn 165 [] []),(7,vL tNode a0 .shut),(8,vI (a0.length:Int)),(9,vI s1)]∧HL st []) (fun (r7:Unit ⊕ Unit) e fr st=>match r7 with | .inl r7a=>(e = .ret∧Rd fr [(4,vB false)]∧HL st []) | .inr r7b=>(e = .exit 0∧Rd fr []∧HL st [])) ⟨H.tq,K.keep []⟩ ?_ ?_
 ·intro s1 fr st r hi hr
  obtain ⟨H,K⟩:=hi
  refine W_seq (W_reg (q_g 1 [(1,.fn 165 [] []),(7,vL tNode a0 .shut),(8,vI (a0.length:Int)),(9,vI s1),(10,vB (decide (s1 < (a0.length:Int))))] H fun _ H=>q_e (W_seq ?_)))
  rcases csplit hr with ⟨c2,hr⟩|⟨c2,hr⟩
  rotate_left
  ·refine q_F H c2 ?_
   refine W_exit ?_
   obtain rfl:=sj hr
   exact ⟨by simp,⟨rfl,H.tq,K.keep []⟩⟩
  refine q_T H c2 (W_skip (W_seq (W_block (W_seq (W_reg ?_)))))
  obtain ⟨x3,hx3,hr⟩:=obind hr
  refine q_v (.indexAddr 22 (vL tNode a0 .shut) (vI s1)) [(1,.fn 165 [] []),(7,vL tNode a0 .shut),(8,vI (a0.length:Int)),(9,vI s1),(11,cN x3 0)] H (run_idxL tNode (by kernel_rfl) hx3) fun _ H=>q_g 1 [(1,.fn 165 [] []),(7,vL tNode a0 .shut),(8,vI (a0.length:Int)),(9,vI s1),(12,aN x3)] H fun _ H=>?_
  refine k_alloc (t:=24) (cs:=[vI 0,vS (bs []),vS (bs []),vI 0,vI 0,vI 0,vB false,vL tNode ([]:List Node) .nil,vI 0]) (fun id4=>[(1,.fn 165 [] []),(6,.ptr id4 0),(7,vL tNode a0 .shut),(8,vI (a0.length:Int)),(9,vI s1),(12,aN x3)]) H K (by kernel_rfl) (fun _ _=>by kernel_rfl) fun id4 st K fr H=>?_
  refine k_store (t:=24) (off:=0) (v:=aN x3) (cs':=[vI x3.kind,vS x3.name,vS x3.other,vI x3.n,vI x3.len,vI x3.init,vB x3.ghost,kN x3,vI x3.pos]) 0 [(1,.fn 165 [] []),(6,.ptr id4 0),(7,vL tNode a0 .shut),(8,vI (a0.length:Int)),(9,vI s1)] H K rfl (by kernel_rfl) (fun _=>by kernel_rfl) fun st K fr H=>q_e (W_seq (W_reg (q_g 1 [(1,.fn 165 [] []),(6,.ptr id4 0),(7,vL tNode a0 .shut),(8,vI (a0.length:Int)),(9,vI s1),(13,.fn 165 [] [])] H fun _ H=>?_)))
  refine k_load (t:=24) (off:=0) 0 [(1,.fn 165 [] []),(7,vL tNode a0 .shut),(8,vI (a0.length:Int)),(9,vI s1),(13,.fn 165 [] []),(14,aN x3)] H K rfl (v:=aN x3) (by kernel_rfl) (fun _=>by kernel_rfl) fun _ H=>?_
  obtain ⟨x5,hx5,hr⟩:=obind hr
  refine q_c (F165_R  x3 x5 hx5 (p0:=.shut)) 0 [(1,.fn 165 [] []),(7,vL tNode a0 .shut),(8,vI (a0.length:Int)),(9,vI s1),(15,vB x5)] H fun _ H=>q_g 1 [(1,.fn 165 [] []),(7,vL tNode a0 .shut),(8,vI (a0.length:Int)),(9,vI s1),(16,vB !x5)] H fun _ H=>q_e ?_
  rcases csplit hr with ⟨c6,hr⟩|⟨c6,hr⟩
  ·refine q_T H c6 (W_seq (W_reg (q_g 1 [(4,vB false)] H fun _ H=>q_e (W_ret ?_))))
   obtain rfl:=sj hr
   exact ⟨by simp,⟨rfl,H.tq,K.keep [false]⟩⟩
  refine q_F H c6 (W_skip (W_reg (q_g 2 [(1,.fn 165 [] []),(7,vL tNode a0 .shut),(8,vI (a0.length:Int)),(9,vI (w64 (s1 + 1)))] H fun _ H=>q_e ?_)))
  obtain rfl:=sj hr
  exact ⟨rfl,⟨H.tq,K.keep [false]⟩⟩
 rcases r7 with r7a | r7b
 ·rintro e fr st ⟨rfl,H,K⟩
  obtain rfl:=sj hr
  exact q_r [vB false] H K
 rintro e fr st ⟨rfl,H,K⟩
 refine W_seq (W_reg (q_g 1 [(4,vB true)] H fun _ H=>q_e (W_ret ?_)))
 obtain rfl:=sj hr
 exact q_r [vB true] H K
def F166 (a0:Node):Option Bool := some ((a0.kind == 60) || (a0.kind == 61))
theorem F166_R (a0:Node) (r:Bool) (hr:F166 a0 = some r) {st:St} {p0:Spare}:R Tryz.prog AN 166 [.agg (cNode p0 a0)] st (.ret (vB r)) st:=by
 unfold F166 at hr
 refine R_pureX [aN a0] [(0,aN a0)] (by kernel_rfl) Tryz.func166 rfl (by kernel_rfl) (by simp only [strip,stripL,stripL_cNode,Option.bind_some,Option.map_some]) rfl fun fr st H K=>W_seq (W_reg (q_g 2 [(1,cN a0 0)] H fun _ H=>q_e (W_seq (W_reg (q_g 4 [(1,cN a0 0),(6,vB (a0.kind == 60))] H fun _ H=>?_)))))
 refine k_g 4 [(10,vB ((a0.kind == 60) || (a0.kind == 61)))] H (fun _ _=>by generalize (a0.kind == 60) = b0; cases b0 <;> kernel_rfl) fun _ H=>q_g 1 [(2,vB ((a0.kind == 60) || (a0.kind == 61)))] H fun _ H=>q_e (W_ret ?_)
 obtain rfl:=sj hr
 exact q_r [vB ((a0.kind == 60) || (a0.kind == 61))] H K
def F99_6 (n:Nat) (a0:List Node):Option Bool := (iter (σ:=Int) (ρ:=Unit ⊕ Unit) (fun s1=>bif decide (s1 < (a0.length:Int)) then ((idxL a0 s1).bind fun x3 => (F166 x3).bind fun x5 => bif !x5 then (some (.inr (.inl ()))) else (some (.inl (w64 (s1 + 1))))) else (some (.inr (.inr ())))) n (0:Int)).bind fun r7=>match r7 with | .inl _=>some false | .inr _=>some true
theorem F99_6_R (n:Nat) (a0:List Node) (r:Bool) (hr:F99_6 n a0 = some r) {st:St} {p0:Spare}:R Tryz.prog AN 99 [vL tNode a0 p0,.fn 166 [] []] st (.ret (vB r)) st:=by
 unfold F99_6 at hr
 refine R_pureX [vL tNode a0 .shut,.fn 166 [] []] [(0,vL tNode a0 .shut),(1,.fn 166 [] [])] (by kernel_rfl) Tryz.func99 rfl (by kernel_rfl) (by simp only [strip,stripL,stripL_ET,Option.bind_some,Option.map_some]) rfl fun fr st H K=>W_seq (W_reg (q_g 1 [(0,vL tNode a0 .shut),(1,.fn 166 [] [])] H fun _ H=>q_e (W_seq (W_seq (W_reg (q_g 1 [(1,.fn 166 [] []),(7,vL tNode a0 .shut)] H fun _ H=>?_))))))
 refine q_v (.len 22 (vL tNode a0 .shut)) [(1,.fn 166 [] []),(7,vL tNode a0 .shut),(8,vI (a0.length:Int))] H (run_len tNode (by kernel_rfl)) fun _ H=>q_g 1 [(1,.fn 166 [] []),(7,vL tNode a0 .shut),(8,vI (a0.length:Int)),(9,vI 0)] H fun _ H=>q_e (W_block ?_)
 obtain ⟨r7,hr7,hr⟩:=obind hr
 refine W_iter hr7 (fun (s1:Int) fr st=>Rd fr [(1,.fn 166 [] []),(7,vL tNode a0 .shut),(8,vI (a0.length:Int)),(9,vI s1)]∧HL st []) (fun (r7:Unit ⊕ Unit) e fr st=>match r7 with | .inl r7a=>(e = .ret∧Rd fr [(4,vB false)]∧HL st []) | .inr r7b=>(e = .exit 0∧Rd fr []∧HL st [])) ⟨H.tq,K.keep []⟩ ?_ ?_
 ·intro s1 fr st r hi hr
  obtain ⟨H,K⟩:=hi
  refine W_seq (W_reg (q_g 1 [(1,.fn 166 [] []),(7,vL tNode a0 .shut),(8,vI (a0.length:Int)),(9,vI s1),(10,vB (decide (s1 < (a0.length:Int))))] H fun _ H=>q_e (W_seq ?_)))
  rcases csplit hr with ⟨c2,hr⟩|⟨c2,hr⟩
  rotate_left
  ·refine q_F H c2 ?_
   refine W_exit ?_
   obtain rfl:=sj hr
   exact ⟨by simp,⟨rfl,H.tq,K.keep []⟩⟩
  refine q_T H c2 (W_skip (W_seq (W_block (W_seq (W_reg ?_)))))
  obtain ⟨x3,hx3,hr⟩:=obind hr
  refine q_v (.indexAddr 22 (vL tNode a0 .shut) (vI s1)) [(1,.fn 166 [] []),(7,vL tNode a0 .shut),(8,vI (a0.length:Int)),(9,vI s1),(11,cN x3 0)] H (run_idxL tNode (by kernel_rfl) hx3) fun _ H=>q_g 1 [(1,.fn 166 [] []),(7,vL tNode a0 .shut),(8,vI (a0.length:Int)),(9,vI s1),(12,aN x3)] H fun _ H=>?_
  refine k_alloc (t:=24) (cs:=[vI 0,vS (bs []),vS (bs []),vI 0,vI 0,vI 0,vB false,vL tNode ([]:List Node) .nil,vI 0]) (fun id4=>[(1,.fn 166 [] []),(6,.ptr id4 0),(7,vL tNode a0 .shut),(8,vI (a0.length:Int)),(9,vI s1),(12,aN x3)]) H K (by kernel_rfl) (fun _ _=>by kernel_rfl) fun id4 st K fr H=>?_
  refine k_store (t:=24) (off:=0) (v:=aN x3) (cs':=[vI x3.kind,vS x3.name,vS x3.other,vI x3.n,vI x3.len,vI x3.init,vB x3.ghost,kN x3,vI x3.pos]) 0 [(1,.fn 166 [] []),(6,.ptr id4 0),(7,vL tNode a0 .shut),(8,vI (a0.length:Int)),(9,vI s1)] H K rfl (by kernel_rfl) (fun _=>by kernel_rfl) fun st K fr H=>q_e (W_seq (W_reg (q_g 1 [(1,.fn 166 [] []),(6,.ptr id4 0),(7,vL tNode a0 .shut),(8,vI (a0.length:Int)),(9,vI s1),(13,.fn 166 [] [])] H fun _ H=>?_)))
  refine k_load (t:=24) (off:=0) 0 [(1,.fn 166 [] []),(7,vL tNode a0 .shut),(8,vI (a0.length:Int)),(9,vI s1),(13,.fn 166 [] []),(14,aN x3)] H K rfl (v:=aN x3) (by kernel_rfl) (fun _=>by kernel_rfl) fun _ H=>?_
  obtain ⟨x5,hx5,hr⟩:=obind hr
  refine q_c (F166_R  x3 x5 hx5 (p0:=.shut)) 0 [(1,.fn 166 [] []),(7,vL tNode a0 .shut),(8,vI (a0.length:Int)),(9,vI s1),(15,vB x5)] H fun _ H=>q_g 1 [(1,.fn 166 [] []),(7,vL tNode a0 .shut),(8,vI (a0.length:Int)),(9,vI s1),(16,vB !x5)] H fun _ H=>q_e ?_
  rcases csplit hr with ⟨c6,hr⟩|⟨c6,hr⟩
  ·refine q_T H c6 (W_seq (W_reg (q_g 1 [(4,vB false)] H fun _ H=>q_e (W_ret ?_))))
   obtain rfl:=sj hr
   exact ⟨by simp,⟨rfl,H.tq,K.keep [false]⟩⟩
  refine q_F H c6 (W_skip (W_reg (q_g 2 [(1,.fn 166 [] []),(7,vL tNode a0 .shut),(8,vI (a0.length:Int)),(9,vI (w64 (s1 + 1)))] H fun _ H=>q_e ?_)))
  obtain rfl:=sj hr
  exact ⟨rfl,⟨H.tq,K.keep [false]⟩⟩
 rcases r7 with r7a | r7b
 ·rintro e fr st ⟨rfl,H,K⟩
  obtain rfl:=sj hr
  exact q_r [vB false] H K
 rintro e fr st ⟨rfl,H,K⟩
 refine W_seq (W_reg (q_g 1 [(4,vB true)] H fun _ H=>q_e (W_ret ?_)))
 obtain rfl:=sj hr
 exact q_r [vB true] H K
def PF98_0:Pred:=⟨62,[],[],fun y=>F62 y,fun _=>⟨by kernel_rfl,by kernel_rfl⟩,by kernel_rfl,fun y r st sp h=>F62_R  y r h⟩
def PF98_1:Pred:=⟨197,[],[.cptr ([vI 2]) 0],fun y=>F197 y (2:Int),fun _=>⟨by kernel_rfl,by kernel_rfl⟩,by kernel_rfl,fun y r st sp h=>F197_R  y (2:Int) r h⟩
def PF98_2:Pred:=⟨62,[],[],fun y=>F62 y,fun _=>⟨by kernel_rfl,by kernel_rfl⟩,by kernel_rfl,fun y r st sp h=>F62_R  y r h⟩
def PF98_3:Pred:=⟨62,[],[],fun y=>F62 y,fun _=>⟨by kernel_rfl,by kernel_rfl⟩,by kernel_rfl,fun y r st sp h=>F62_R  y r h⟩
def PF98_4:Pred:=⟨62,[],[],fun y=>F62 y,fun _=>⟨by kernel_rfl,by kernel_rfl⟩,by kernel_rfl,fun y r st sp h=>F62_R  y r h⟩
def PF98_5:Pred:=⟨62,[],[],fun y=>F62 y,fun _=>⟨by kernel_rfl,by kernel_rfl⟩,by kernel_rfl,fun y r st sp h=>F62_R  y r h⟩
def PF98_6:Pred:=⟨62,[],[],fun y=>F62 y,fun _=>⟨by kernel_rfl,by kernel_rfl⟩,by kernel_rfl,fun y r st sp h=>F62_R  y r h⟩
def PF98_7:Pred:=⟨62,[],[],fun y=>F62 y,fun _=>⟨by kernel_rfl,by kernel_rfl⟩,by kernel_rfl,fun y r st sp h=>F62_R  y r h⟩
def PF98_8:Pred:=⟨197,[],[.cptr ([vI 2]) 0],fun y=>F197 y (2:Int),fun _=>⟨by kernel_rfl,by kernel_rfl⟩,by kernel_rfl,fun y r st sp h=>F197_R  y (2:Int) r h⟩
def PF98_9:Pred:=⟨62,[],[],fun y=>F62 y,fun _=>⟨by kernel_rfl,by kernel_rfl⟩,by kernel_rfl,fun y r st sp h=>F62_R  y r h⟩
def PF98_10:Pred:=⟨62,[],[],fun y=>F62 y,fun _=>⟨by kernel_rfl,by kernel_rfl⟩,by kernel_rfl,fun y r st sp h=>F62_R  y r h⟩
def PF98_11:Pred:=⟨197,[],[.cptr ([vI 2]) 0],fun y=>F197 y (2:Int),fun _=>⟨by kernel_rfl,by kernel_rfl⟩,by kernel_rfl,fun y r st sp h=>F197_R  y (2:Int) r h⟩
def PF98_12:Pred:=⟨62,[],[],fun y=>F62 y,fun _=>⟨by kernel_rfl,by kernel_rfl⟩,by kernel_rfl,fun y r st sp h=>F62_R  y r h⟩
def PF98_13:Pred:=⟨197,[],[.cptr ([vI 34]) 0],fun y=>F197 y (34:Int),fun _=>⟨by kernel_rfl,by kernel_rfl⟩,by kernel_rfl,fun y r st sp h=>F197_R  y (34:Int) r h⟩
def PF98_14:Pred:=⟨197,[],[.cptr ([vI 34]) 0],fun y=>F197 y (34:Int),fun _=>⟨by kernel_rfl,by kernel_rfl⟩,by kernel_rfl,fun y r st sp h=>F197_R  y (34:Int) r h⟩
def PF98_15:Pred:=⟨62,[],[],fun y=>F62 y,fun _=>⟨by kernel_rfl,by kernel_rfl⟩,by kernel_rfl,fun y r st sp h=>F62_R  y r h⟩
def PF98_16:Pred:=⟨198,[],[.cptr ([.fn 62 [] []]) 0,.cptr ([.fn 161 [] []]) 0],fun y=>F198 y,fun _=>⟨by kernel_rfl,by kernel_rfl⟩,by kernel_rfl,fun y r st sp h=>F198_R  y r h⟩
def PF98_17:Pred:=⟨197,[],[.cptr ([vI 34]) 0],fun y=>F197 y (34:Int),fun _=>⟨by kernel_rfl,by kernel_rfl⟩,by kernel_rfl,fun y r st sp h=>F197_R  y (34:Int) r h⟩
def F98 (n:Nat) (a0:Node):Option Bool := (bif a0.kind == 1 then (some (a0.kind == 1)) else (bif a0.kind == 26 then (some (a0.kind == 26)) else (bif a0.kind == 30 then (some (a0.kind == 30)) else (bif a0.kind == 24 then (some (a0.kind == 24)) else (bif a0.kind == 25 then (some (a0.kind == 25)) else (bif a0.kind == 27 then (some (a0.kind == 27)) else (bif a0.kind == 28 then (some (a0.kind == 28)) else (bif a0.kind == 35 then (some (a0.kind == 35)) else (bif a0.kind == 58 then (some (a0.kind == 58)) else (bif a0.kind == 52 then (some (a0.kind == 52)) else (bif a0.kind == 50 then (some (a0.kind == 50)) else (some (a0.kind == 63)))))))))))):Option (Bool)).bind fun j12 => bif j12 then (some ((a0.kids.length:Int) == 0)) else (bif a0.kind == 2 then (bif (a0.kids.length:Int) == 0 then (some true) else ((F158 n a0.kids ([(PF98_0 )]:List Pred)).bind fun x16 => some x16)) else (bif a0.kind == 3 then ((F158 n a0.kids ([(PF98_1 )]:List Pred)).bind fun x18 => some x18) else ((bif a0.kind == 4 then (some (a0.kind == 4)) else (bif a0.kind == 7 then (some (a0.kind == 7)) else (bif a0.kind == 8 then (some (a0.kind == 8)) else (bif a0.kind == 20 then (some (a0.kind == 20)) else (bif a0.kind == 29 then (some (a0.kind == 29)) else (bif a0.kind == 54 then (some (a0.kind == 54)) else (bif a0.kind == 55 then (some (a0.kind == 55)) else (some (a0.kind == 53)))))))):Option (Bool)).bind fun j26 => bif j26 then ((F158 n a0.kids ([(PF98_2 )]:List Pred)).bind fun x28 => some x28) else (bif a0.kind == 5 then ((F158 n a0.kids ([(PF98_3 ),(PF98_4 )]:List Pred)).bind fun x30 => some x30) else (bif a0.kind == 6 then ((F158 n a0.kids ([(PF98_5 ),(PF98_6 ),(PF98_7 )]:List Pred)).bind fun x32 => some x32) else (bif a0.kind == 21 then (bif decide (0 < (a0.kids.length:Int)) then ((F160 n a0.kids).bind fun x35 => some x35) else (some false)) else (bif a0.kind == 22 then (bif decide (0 < (a0.kids.length:Int)) then ((idxL a0.kids 0).bind fun x38 => (F62 x38).bind fun x39 => bif x39 then ((subL a0.kids 1 (a0.kids.length:Int)).bind fun x41 => (F160 n x41).bind fun x42 => some x42) else ((idxL a0.kids 0).bind fun x43 => (F161 x43).bind fun x44 => bif x44 then ((subL a0.kids 1 (a0.kids.length:Int)).bind fun x46 => (F160 n x46).bind fun x47 => some x47) else (some false))) else (some false)) else (bif a0.kind == 23 then (bif decide (4≤(a0.kids.length:Int)) then ((subL a0.kids 0 4).bind fun x50 => (F158 n x50 ([(PF98_8 ),(PF98_9 ),(PF98_10 ),(PF98_11 )]:List Pred)).bind fun x51 => bif x51 then ((subL a0.kids 4 (a0.kids.length:Int)).bind fun x53 => (F160 n x53).bind fun x54 => some x54) else (some false)) else (some false)) else (bif a0.kind == 31 then ((F158 n a0.kids ([(PF98_12 ),(PF98_13 ),(PF98_14 )]:List Pred)).bind fun x56 => some x56) else (bif a0.kind == 32 then ((F158 n a0.kids ([(PF98_15 ),(PF98_16 ),(PF98_17 )]:List Pred)).bind fun x58 => some x58) else (bif a0.kind == 33 then ((F99_1 n a0.kids).bind fun x60 => some x60) else (bif a0.kind == 34 then ((F99_2 n a0.kids).bind fun x62 => some x62) else (bif a0.kind == 51 then ((F99_3 n a0.kids (52:Int)).bind fun x64 => some x64) else (bif a0.kind == 56 then (bif decide (0 < (a0.kids.length:Int)) then ((F99_4 n a0.kids).bind fun x67 => some x67) else (some false)) else (bif a0.kind == 57 then (bif decide (0≤(w64 ((a0.kids.length:Int) - 1))) then ((idxL a0.kids (w64 ((a0.kids.length:Int) - 1))).bind fun x70 => bif x70.kind == 34 then ((subL a0.kids 0 (w64 ((a0.kids.length:Int) - 1))).bind fun x72 => (F99_3 n x72 (58:Int)).bind fun x73 => some x73) else (some false)) else (some false)) else (bif a0.kind == 60 then ((F99_5 n a0.kids).bind fun x75 => some x75) else (bif a0.kind == 61 then ((F99_3 n a0.kids (1:Int)).bind fun x77 => some x77) else (bif a0.kind == 62 then ((F99_6 n a0.kids).bind fun x79 => some x79) else (some false)))))))))))))))))))
theorem F98_R (n:Nat) (a0:Node) (r:Bool) (hr:F98 n a0 = some r) {st:St} {p0:Spare}:R Tryz.prog AN 98 [.agg [keysV],.agg (cNode p0 a0)] st (.ret (vB r)) st:=by
 unfold F98 at hr
 refine R_pureX [.agg [keysV],aN a0] [(0,.agg [keysV]),(1,aN a0)] (by kernel_rfl) Tryz.func98 rfl (by kernel_rfl) (by simp only [strip,stripL,strip_keysV,stripL_cNode,Option.bind_some,Option.map_some]) rfl fun fr st H K=>W_seq (W_reg (q_g 3 [(3,cN a0 0)] H fun _ H=>q_e (W_seq (W_reg (q_g 3 [(3,cN a0 0),(5,kN a0)] H fun _ H=>q_e (W_seq (W_seq (W_reg (q_g 2 [(5,kN a0),(10,vI a0.kind)] H fun _ H=>q_e (W_block (W_seq ?_)))))))))))
 obtain ⟨j12,hj12,hr⟩:=obind hr
 refine W_via (fun e fr st=>e = .normal∧Rd fr [(5,kN a0),(10,vI a0.kind),(11,vB j12)]∧HL st []) ?_ ?_
 ·replace hr:=hj12
  refine W_seq (W_reg (q_g 2 [(5,kN a0),(10,vI a0.kind),(11,vB (a0.kind == 1))] H fun _ H=>q_e ?_))
  rcases csplit hr with ⟨c1,hr⟩|⟨c1,hr⟩
  ·refine q_T H c1 (W_skip ?_)
   obtain rfl:=sj hr
   exact ⟨rfl,H.to (env':=_) (fun _=>by kernel_rfl),K.keep []⟩
  refine q_F H c1 (W_seq (W_reg (q_g 2 [(5,kN a0),(10,vI a0.kind),(11,vB (a0.kind == 26))] H fun _ H=>q_e ?_)))
  rcases csplit hr with ⟨c2,hr⟩|⟨c2,hr⟩
  ·refine q_T H c2 (W_skip ?_)
   obtain rfl:=sj hr
   exact ⟨rfl,H.to (env':=_) (fun _=>by kernel_rfl),K.keep []⟩
  refine q_F H c2 (W_seq (W_reg (q_g 2 [(5,kN a0),(10,vI a0.kind),(11,vB (a0.kind == 30))] H fun _ H=>q_e ?_)))
  rcases csplit hr with ⟨c3,hr⟩|⟨c3,hr⟩
  ·refine q_T H c3 (W_skip ?_)
   obtain rfl:=sj hr
   exact ⟨rfl,H.to (env':=_) (fun _=>by kernel_rfl),K.keep []⟩
  refine q_F H c3 (W_seq (W_reg (q_g 2 [(5,kN a0),(10,vI a0.kind),(11,vB (a0.kind == 24))] H fun _ H=>q_e ?_)))
  rcases csplit hr with ⟨c4,hr⟩|⟨c4,hr⟩
  ·refine q_T H c4 (W_skip ?_)
   obtain rfl:=sj hr
   exact ⟨rfl,H.to (env':=_) (fun _=>by kernel_rfl),K.keep []⟩
  refine q_F H c4 (W_seq (W_reg (q_g 2 [(5,kN a0),(10,vI a0.kind),(11,vB (a0.kind == 25))] H fun _ H=>q_e ?_)))
  rcases csplit hr with ⟨c5,hr⟩|⟨c5,hr⟩
  ·refine q_T H c5 (W_skip ?_)
   obtain rfl:=sj hr
   exact ⟨rfl,H.to (env':=_) (fun _=>by kernel_rfl),K.keep []⟩
  refine q_F H c5 (W_seq (W_reg (q_g 2 [(5,kN a0),(10,vI a0.kind),(11,vB (a0.kind == 27))] H fun _ H=>q_e ?_)))
  rcases csplit hr with ⟨c6,hr⟩|⟨c6,hr⟩
  ·refine q_T H c6 (W_skip ?_)
   obtain rfl:=sj hr
   exact ⟨rfl,H.to (env':=_) (fun _=>by kernel_rfl),K.keep []⟩
  refine q_F H c6 (W_seq (W_reg (q_g 2 [(5,kN a0),(10,vI a0.kind),(11,vB (a0.kind == 28))] H fun _ H=>q_e ?_)))
  rcases csplit hr with ⟨c7,hr⟩|⟨c7,hr⟩
  ·refine q_T H c7 (W_skip ?_)
   obtain rfl:=sj hr
   exact ⟨rfl,H.to (env':=_) (fun _=>by kernel_rfl),K.keep []⟩
  refine q_F H c7 (W_seq (W_reg (q_g 2 [(5,kN a0),(10,vI a0.kind),(11,vB (a0.kind == 35))] H fun _ H=>q_e ?_)))
  rcases csplit hr with ⟨c8,hr⟩|⟨c8,hr⟩
  ·refine q_T H c8 (W_skip ?_)
   obtain rfl:=sj hr
   exact ⟨rfl,H.to (env':=_) (fun _=>by kernel_rfl),K.keep []⟩
  refine q_F H c8 (W_seq (W_reg (q_g 2 [(5,kN a0),(10,vI a0.kind),(11,vB (a0.kind == 58))] H fun _ H=>q_e ?_)))
  rcases csplit hr with ⟨c9,hr⟩|⟨c9,hr⟩
  ·refine q_T H c9 (W_skip ?_)
   obtain rfl:=sj hr
   exact ⟨rfl,H.to (env':=_) (fun _=>by kernel_rfl),K.keep []⟩
  refine q_F H c9 (W_seq (W_reg (q_g 2 [(5,kN a0),(10,vI a0.kind),(11,vB (a0.kind == 52))] H fun _ H=>q_e ?_)))
  rcases csplit hr with ⟨c10,hr⟩|⟨c10,hr⟩
  ·refine q_T H c10 (W_skip ?_)
   obtain rfl:=sj hr
   exact ⟨rfl,H.to (env':=_) (fun _=>by kernel_rfl),K.keep []⟩
  refine q_F H c10 (W_seq (W_reg (q_g 2 [(5,kN a0),(10,vI a0.kind),(11,vB (a0.kind == 50))] H fun _ H=>q_e ?_)))
  rcases csplit hr with ⟨c11,hr⟩|⟨c11,hr⟩
  ·refine q_T H c11 (W_skip ?_)
   obtain rfl:=sj hr
   exact ⟨rfl,H.to (env':=_) (fun _=>by kernel_rfl),K.keep []⟩
  refine q_F H c11 (W_reg (q_g 2 [(5,kN a0),(10,vI a0.kind),(11,vB (a0.kind == 63))] H fun _ H=>q_e ?_))
  obtain rfl:=sj hr
  exact ⟨rfl,H.to (env':=_) (fun _=>by kernel_rfl),K.keep []⟩
 rintro e fr st ⟨rfl,H,K⟩
 rcases csplit hr with ⟨c13,hr⟩|⟨c13,hr⟩
 ·refine q_T H c13 (W_seq (W_reg (q_g 1 [(24,kN a0)] H fun _ H=>?_)))
  refine q_v (.len 22 (kN a0)) [(25,vI (a0.kids.length:Int))] H (run_len tNode (by kernel_rfl)) fun _ H=>q_g 2 [(4,vB ((a0.kids.length:Int) == 0))] H fun _ H=>q_e (W_ret ?_)
  obtain rfl:=sj hr
  exact q_r [vB ((a0.kids.length:Int) == 0)] H K
 refine q_F H c13 (W_seq (W_reg (q_g 2 [(5,kN a0),(10,vI a0.kind),(27,vB (a0.kind == 2))] H fun _ H=>q_e ?_)))
 rcases csplit hr with ⟨c14,hr⟩|⟨c14,hr⟩
 ·refine q_T H c14 (W_seq (W_reg (q_g 1 [(5,kN a0),(29,kN a0)] H fun _ H=>?_)))
  refine q_v (.len 22 (kN a0)) [(5,kN a0),(30,vI (a0.kids.length:Int))] H (run_len tNode (by kernel_rfl)) fun _ H=>q_g 2 [(5,kN a0),(32,vB ((a0.kids.length:Int) == 0))] H fun _ H=>?_
  rcases csplit hr with ⟨c15,hr⟩|⟨c15,hr⟩
  ·rw [c15] at H
   refine q_g 5 [(4,vB true)] H fun _ H=>q_e (W_ret ?_)
   obtain rfl:=sj hr
   exact q_r [vB true] H K
  rw [c15] at H
  refine q_g 1 [(32,vB false),(33,kN a0)] H fun _ H=>?_
  refine q_v (.buildSlice 167 1 [(0,.fn (PF98_0 ).g (PF98_0 ).a (PF98_0 ).b)]) [(32,vB false),(33,kN a0),(34,vL tPred ([(PF98_0 )]:List Pred) .full)] H (run_bslice (v:=vL tPred ([(PF98_0 )]:List Pred) .full) (v0:=.slice [.fn (PF98_0 ).g (PF98_0 ).a (PF98_0 ).b] .full) (by kernel_rfl) (rfl)) fun _ H=>?_
  obtain ⟨x16,hx16,hr⟩:=obind hr
  refine q_c (F158_R n a0.kids ([(PF98_0 )]:List Pred) x16 hx16 (p0:=.shut) (p1:=.full)) 0 [(32,vB false),(35,vB x16)] H fun _ H=>q_g 2 [(4,vB x16)] H fun _ H=>q_e (W_ret ?_)
  obtain rfl:=sj hr
  exact q_r [vB x16] H K
 refine q_F H c14 (W_seq (W_reg (q_g 2 [(5,kN a0),(10,vI a0.kind),(37,vB (a0.kind == 3))] H fun _ H=>q_e ?_)))
 rcases csplit hr with ⟨c17,hr⟩|⟨c17,hr⟩
 ·refine q_T H c17 (W_seq (W_reg (q_g 1 [(39,kN a0)] H fun _ H=>?_)))
  refine q_c (⟨20,by kernel_rfl⟩:R Tryz.prog AN 159 [vI 2] st (.ret (.fn 197 [] [.cptr ([vI 2]) 0])) st) 0 [(39,kN a0),(40,.fn 197 [] [.cptr ([vI 2]) 0])] H fun _ H=>?_
  refine q_v (.buildSlice 167 1 [(0,.fn (PF98_1 ).g (PF98_1 ).a (PF98_1 ).b)]) [(39,kN a0),(41,vL tPred ([(PF98_1 )]:List Pred) .full)] H (run_bslice (v:=vL tPred ([(PF98_1 )]:List Pred) .full) (v0:=.slice [.fn (PF98_1 ).g (PF98_1 ).a (PF98_1 ).b] .full) (by kernel_rfl) (rfl)) fun _ H=>?_
  obtain ⟨x18,hx18,hr⟩:=obind hr
  refine q_c (F158_R n a0.kids ([(PF98_1 )]:List Pred) x18 hx18 (p0:=.shut) (p1:=.full)) 0 [(42,vB x18)] H fun _ H=>q_g 1 [(4,vB x18)] H fun _ H=>q_e (W_ret ?_)
  obtain rfl:=sj hr
  exact q_r [vB x18] H K
 refine q_F H c17 (W_seq ?_)
 obtain ⟨j26,hj26,hr⟩:=obind hr
 refine W_via (fun e fr st=>e = .normal∧Rd fr [(5,kN a0),(10,vI a0.kind),(43,vB j26)]∧HL st []) ?_ ?_
 ·replace hr:=hj26
  refine W_seq (W_reg (q_g 2 [(5,kN a0),(10,vI a0.kind),(43,vB (a0.kind == 4))] H fun _ H=>q_e ?_))
  rcases csplit hr with ⟨c19,hr⟩|⟨c19,hr⟩
  ·refine q_T H c19 (W_skip ?_)
   obtain rfl:=sj hr
   exact ⟨rfl,H.to (env':=_) (fun _=>by kernel_rfl),K.keep []⟩
  refine q_F H c19 (W_seq (W_reg (q_g 2 [(5,kN a0),(10,vI a0.kind),(43,vB (a0.kind == 7))] H fun _ H=>q_e ?_)))
  rcases csplit hr with ⟨c20,hr⟩|⟨c20,hr⟩
  ·refine q_T H c20 (W_skip ?_)
   obtain rfl:=sj hr
   exact ⟨rfl,H.to (env':=_) (fun _=>by kernel_rfl),K.keep []⟩
  refine q_F H c20 (W_seq (W_reg (q_g 2 [(5,kN a0),(10,vI a0.kind),(43,vB (a0.kind == 8))] H fun _ H=>q_e ?_)))
  rcases csplit hr with ⟨c21,hr⟩|⟨c21,hr⟩
  ·refine q_T H c21 (W_skip ?_)
   obtain rfl:=sj hr
   exact ⟨rfl,H.to (env':=_) (fun _=>by kernel_rfl),K.keep []⟩
  refine q_F H c21 (W_seq (W_reg (q_g 2 [(5,kN a0),(10,vI a0.kind),(43,vB (a0.kind == 20))] H fun _ H=>q_e ?_)))
  rcases csplit hr with ⟨c22,hr⟩|⟨c22,hr⟩
  ·refine q_T H c22 (W_skip ?_)
   obtain rfl:=sj hr
   exact ⟨rfl,H.to (env':=_) (fun _=>by kernel_rfl),K.keep []⟩
  refine q_F H c22 (W_seq (W_reg (q_g 2 [(5,kN a0),(10,vI a0.kind),(43,vB (a0.kind == 29))] H fun _ H=>q_e ?_)))
  rcases csplit hr with ⟨c23,hr⟩|⟨c23,hr⟩
  ·refine q_T H c23 (W_skip ?_)
   obtain rfl:=sj hr
   exact ⟨rfl,H.to (env':=_) (fun _=>by kernel_rfl),K.keep []⟩
  refine q_F H c23 (W_seq (W_reg (q_g 2 [(5,kN a0),(10,vI a0.kind),(43,vB (a0.kind == 54))] H fun _ H=>q_e ?_)))
  rcases csplit hr with ⟨c24,hr⟩|⟨c24,hr⟩
  ·refine q_T H c24 (W_skip ?_)
   obtain rfl:=sj hr
   exact ⟨rfl,H.to (env':=_) (fun _=>by kernel_rfl),K.keep []⟩
  refine q_F H c24 (W_seq (W_reg (q_g 2 [(5,kN a0),(10,vI a0.kind),(43,vB (a0.kind == 55))] H fun _ H=>q_e ?_)))
  rcases csplit hr with ⟨c25,hr⟩|⟨c25,hr⟩
  ·refine q_T H c25 (W_skip ?_)
   obtain rfl:=sj hr
   exact ⟨rfl,H.to (env':=_) (fun _=>by kernel_rfl),K.keep []⟩
  refine q_F H c25 (W_reg (q_g 2 [(5,kN a0),(10,vI a0.kind),(43,vB (a0.kind == 53))] H fun _ H=>q_e ?_))
  obtain rfl:=sj hr
  exact ⟨rfl,H.to (env':=_) (fun _=>by kernel_rfl),K.keep []⟩
 rintro e fr st ⟨rfl,H,K⟩
 rcases csplit hr with ⟨c27,hr⟩|⟨c27,hr⟩
 ·refine q_T H c27 (W_seq (W_reg (q_g 1 [(52,kN a0)] H fun _ H=>?_)))
  refine q_v (.buildSlice 167 1 [(0,.fn (PF98_2 ).g (PF98_2 ).a (PF98_2 ).b)]) [(52,kN a0),(53,vL tPred ([(PF98_2 )]:List Pred) .full)] H (run_bslice (v:=vL tPred ([(PF98_2 )]:List Pred) .full) (v0:=.slice [.fn (PF98_2 ).g (PF98_2 ).a (PF98_2 ).b] .full) (by kernel_rfl) (rfl)) fun _ H=>?_
  obtain ⟨x28,hx28,hr⟩:=obind hr
  refine q_c (F158_R n a0.kids ([(PF98_2 )]:List Pred) x28 hx28 (p0:=.shut) (p1:=.full)) 0 [(54,vB x28)] H fun _ H=>q_g 1 [(4,vB x28)] H fun _ H=>q_e (W_ret ?_)
  obtain rfl:=sj hr
  exact q_r [vB x28] H K
 refine q_F H c27 (W_seq (W_reg (q_g 2 [(5,kN a0),(10,vI a0.kind),(55,vB (a0.kind == 5))] H fun _ H=>q_e ?_)))
 rcases csplit hr with ⟨c29,hr⟩|⟨c29,hr⟩
 ·refine q_T H c29 (W_seq (W_reg (q_g 1 [(57,kN a0)] H fun _ H=>?_)))
  refine q_v (.buildSlice 167 2 [(0,.fn (PF98_3 ).g (PF98_3 ).a (PF98_3 ).b),(1,.fn (PF98_4 ).g (PF98_4 ).a (PF98_4 ).b)]) [(57,kN a0),(58,vL tPred ([(PF98_3 ),(PF98_4 )]:List Pred) .full)] H (run_bslice (v:=vL tPred ([(PF98_3 ),(PF98_4 )]:List Pred) .full) (v0:=.slice [.fn (PF98_3 ).g (PF98_3 ).a (PF98_3 ).b,.fn (PF98_4 ).g (PF98_4 ).a (PF98_4 ).b] .full) (by kernel_rfl) (rfl)) fun _ H=>?_
  obtain ⟨x30,hx30,hr⟩:=obind hr
  refine q_c (F158_R n a0.kids ([(PF98_3 ),(PF98_4 )]:List Pred) x30 hx30 (p0:=.shut) (p1:=.full)) 0 [(59,vB x30)] H fun _ H=>q_g 1 [(4,vB x30)] H fun _ H=>q_e (W_ret ?_)
  obtain rfl:=sj hr
  exact q_r [vB x30] H K
 refine q_F H c29 (W_seq (W_reg (q_g 2 [(5,kN a0),(10,vI a0.kind),(60,vB (a0.kind == 6))] H fun _ H=>q_e ?_)))
 rcases csplit hr with ⟨c31,hr⟩|⟨c31,hr⟩
 ·refine q_T H c31 (W_seq (W_reg (q_g 1 [(62,kN a0)] H fun _ H=>?_)))
  refine q_v (.buildSlice 167 3 [(0,.fn (PF98_5 ).g (PF98_5 ).a (PF98_5 ).b),(1,.fn (PF98_6 ).g (PF98_6 ).a (PF98_6 ).b),(2,.fn (PF98_7 ).g (PF98_7 ).a (PF98_7 ).b)]) [(62,kN a0),(63,vL tPred ([(PF98_5 ),(PF98_6 ),(PF98_7 )]:List Pred) .full)] H (run_bslice (v:=vL tPred ([(PF98_5 ),(PF98_6 ),(PF98_7 )]:List Pred) .full) (v0:=.slice [.fn (PF98_5 ).g (PF98_5 ).a (PF98_5 ).b,.fn (PF98_6 ).g (PF98_6 ).a (PF98_6 ).b,.fn (PF98_7 ).g (PF98_7 ).a (PF98_7 ).b] .full) (by kernel_rfl) (rfl)) fun _ H=>?_
  obtain ⟨x32,hx32,hr⟩:=obind hr
  refine q_c (F158_R n a0.kids ([(PF98_5 ),(PF98_6 ),(PF98_7 )]:List Pred) x32 hx32 (p0:=.shut) (p1:=.full)) 0 [(64,vB x32)] H fun _ H=>q_g 1 [(4,vB x32)] H fun _ H=>q_e (W_ret ?_)
  obtain rfl:=sj hr
  exact q_r [vB x32] H K
 refine q_F H c31 (W_seq (W_reg (q_g 2 [(5,kN a0),(10,vI a0.kind),(65,vB (a0.kind == 21))] H fun _ H=>q_e ?_)))
 rcases csplit hr with ⟨c33,hr⟩|⟨c33,hr⟩
 ·refine q_T H c33 (W_seq (W_reg (q_g 1 [(5,kN a0),(67,kN a0)] H fun _ H=>?_)))
  refine q_v (.len 22 (kN a0)) [(5,kN a0),(68,vI (a0.kids.length:Int))] H (run_len tNode (by kernel_rfl)) fun _ H=>q_g 2 [(5,kN a0),(70,vB (decide (0 < (a0.kids.length:Int))))] H fun _ H=>?_
  rcases csplit hr with ⟨c34,hr⟩|⟨c34,hr⟩
  rotate_left
  ·rw [c34] at H
   refine q_g 4 [(4,vB false)] H fun _ H=>q_e (W_ret ?_)
   obtain rfl:=sj hr
   exact q_r [vB false] H K
  rw [c34] at H
  refine q_g 1 [(70,vB true),(71,kN a0)] H fun _ H=>?_
  obtain ⟨x35,hx35,hr⟩:=obind hr
  refine q_c (F160_R n a0.kids x35 hx35 (p0:=.shut)) 0 [(70,vB true),(72,vB x35)] H fun _ H=>q_g 2 [(4,vB x35)] H fun _ H=>q_e (W_ret ?_)
  obtain rfl:=sj hr
  exact q_r [vB x35] H K
 refine q_F H c33 (W_seq (W_reg (q_g 2 [(5,kN a0),(10,vI a0.kind),(74,vB (a0.kind == 22))] H fun _ H=>q_e ?_)))
 rcases csplit hr with ⟨c36,hr⟩|⟨c36,hr⟩
 ·refine q_T H c36 (W_seq (W_reg (q_g 1 [(5,kN a0),(76,kN a0)] H fun _ H=>?_)))
  refine q_v (.len 22 (kN a0)) [(5,kN a0),(77,vI (a0.kids.length:Int))] H (run_len tNode (by kernel_rfl)) fun _ H=>q_g 2 [(5,kN a0),(79,vB (decide (0 < (a0.kids.length:Int))))] H fun _ H=>?_
  rcases csplit hr with ⟨c37,hr⟩|⟨c37,hr⟩
  rotate_left
  ·rw [c37] at H
   refine q_g 17 [(4,vB false)] H fun _ H=>q_e (W_ret ?_)
   obtain rfl:=sj hr
   exact q_r [vB false] H K
  rw [c37] at H
  refine q_g 1 [(5,kN a0),(79,vB true),(80,kN a0)] H fun _ H=>?_
  obtain ⟨x38,hx38,hr⟩:=obind hr
  refine q_v (.indexAddr 22 (kN a0) (vI 0)) [(5,kN a0),(79,vB true),(81,cN x38 0)] H (run_idxL tNode (by kernel_rfl) hx38) fun _ H=>q_g 1 [(5,kN a0),(79,vB true),(82,aN x38)] H fun _ H=>?_
  obtain ⟨x39,hx39,hr⟩:=obind hr
  refine q_c (F62_R  x38 x39 hx39 (p0:=.shut)) 0 [(5,kN a0),(79,vB true),(83,vB x39)] H fun _ H=>q_g 1 [(5,kN a0),(79,vB true),(84,vB x39)] H fun _ H=>?_
  rcases csplit hr with ⟨c40,hr⟩|⟨c40,hr⟩
  ·rw [c40] at H
   refine q_g 8 [(91,vB true),(92,kN a0)] H fun _ H=>?_
   obtain ⟨x41,hx41,hr⟩:=obind hr
   refine q_v (.slice 22 (kN a0) (some (vI 1)) none) [(91,vB true),(93,vL tNode x41 .shut)] H (run_subL_lo tNode (by kernel_rfl) hx41) fun _ H=>?_
   obtain ⟨x42,hx42,hr⟩:=obind hr
   refine q_c (F160_R n x41 x42 hx42 (p0:=.shut)) 0 [(91,vB true),(94,vB x42)] H fun _ H=>q_g 2 [(4,vB x42)] H fun _ H=>q_e (W_ret ?_)
   obtain rfl:=sj hr
   exact q_r [vB x42] H K
  rw [c40] at H
  refine q_g 1 [(5,kN a0),(79,vB true),(84,vB false),(85,kN a0)] H fun _ H=>?_
  obtain ⟨x43,hx43,hr⟩:=obind hr
  refine q_v (.indexAddr 22 (kN a0) (vI 0)) [(5,kN a0),(79,vB true),(84,vB false),(86,cN x43 0)] H (run_idxL tNode (by kernel_rfl) hx43) fun _ H=>q_g 1 [(5,kN a0),(79,vB true),(84,vB false),(87,aN x43)] H fun _ H=>?_
  obtain ⟨x44,hx44,hr⟩:=obind hr
  refine q_c (F161_R  x43 x44 hx44 (p0:=.shut)) 0 [(5,kN a0),(79,vB true),(84,vB false),(88,vB x44)] H fun _ H=>q_g 3 [(5,kN a0),(91,vB x44)] H fun _ H=>?_
  rcases csplit hr with ⟨c45,hr⟩|⟨c45,hr⟩
  rotate_left
  ·rw [c45] at H
   refine q_g 5 [(4,vB false)] H fun _ H=>q_e (W_ret ?_)
   obtain rfl:=sj hr
   exact q_r [vB false] H K
  rw [c45] at H
  refine q_g 1 [(91,vB true),(92,kN a0)] H fun _ H=>?_
  obtain ⟨x46,hx46,hr⟩:=obind hr
  refine q_v (.slice 22 (kN a0) (some (vI 1)) none) [(91,vB true),(93,vL tNode x46 .shut)] H (run_subL_lo tNode (by kernel_rfl) hx46) fun _ H=>?_
  obtain ⟨x47,hx47,hr⟩:=obind hr
  refine q_c (F160_R n x46 x47 hx47 (p0:=.shut)) 0 [(91,vB true),(94,vB x47)] H fun _ H=>q_g 2 [(4,vB x47)] H fun _ H=>q_e (W_ret ?_)
  obtain rfl:=sj hr
  exact q_r [vB x47] H K
 refine q_F H c36 (W_seq (W_reg (q_g 2 [(5,kN a0),(10,vI a0.kind),(96,vB (a0.kind == 23))] H fun _ H=>q_e ?_)))
 rcases csplit hr with ⟨c48,hr⟩|⟨c48,hr⟩
 ·refine q_T H c48 (W_seq (W_drw (q_g 1 [(5,kN a0),(98,kN a0)] H fun _ H=>?_)))
  refine q_v (.len 22 (kN a0)) [(5,kN a0),(99,vI (a0.kids.length:Int))] H (run_len tNode (by kernel_rfl)) fun _ H=>q_g 2 [(5,kN a0),(101,vB (decide (4≤(a0.kids.length:Int))))] H fun _ H=>?_
  rcases csplit hr with ⟨c49,hr⟩|⟨c49,hr⟩
  rotate_left
  ·rw [c49] at H
   refine q_g 13 [(4,vB false)] H fun _ H=>q_e (q_d (W_ret ?_))
   obtain rfl:=sj hr
   exact q_r [vB false] H K
  rw [c49] at H
  refine q_g 1 [(5,kN a0),(101,vB true),(102,kN a0)] H fun _ H=>?_
  obtain ⟨x50,hx50,hr⟩:=obind hr
  refine q_v (.slice 22 (kN a0) none (some (vI 4))) [(5,kN a0),(101,vB true),(103,vL tNode x50 .shut)] H (run_subL_hi tNode (by kernel_rfl) hx50) fun _ H=>?_
  refine q_c (⟨20,by kernel_rfl⟩:R Tryz.prog AN 159 [vI 2] st (.ret (.fn 197 [] [.cptr ([vI 2]) 0])) st) 0 [(5,kN a0),(101,vB true),(103,vL tNode x50 .shut),(104,.fn 197 [] [.cptr ([vI 2]) 0])] H fun _ H=>?_
  refine q_c (⟨20,by kernel_rfl⟩:R Tryz.prog AN 159 [vI 2] st (.ret (.fn 197 [] [.cptr ([vI 2]) 0])) st) 0 [(5,kN a0),(101,vB true),(103,vL tNode x50 .shut),(104,.fn 197 [] [.cptr ([vI 2]) 0]),(105,.fn 197 [] [.cptr ([vI 2]) 0])] H fun _ H=>?_
  refine q_v (.buildSlice 167 4 [(0,.fn (PF98_8 ).g (PF98_8 ).a (PF98_8 ).b),(1,.fn (PF98_9 ).g (PF98_9 ).a (PF98_9 ).b),(2,.fn (PF98_10 ).g (PF98_10 ).a (PF98_10 ).b),(3,.fn (PF98_11 ).g (PF98_11 ).a (PF98_11 ).b)]) [(5,kN a0),(101,vB true),(103,vL tNode x50 .shut),(106,vL tPred ([(PF98_8 ),(PF98_9 ),(PF98_10 ),(PF98_11 )]:List Pred) .full)] H (run_bslice (v:=vL tPred ([(PF98_8 ),(PF98_9 ),(PF98_10 ),(PF98_11 )]:List Pred) .full) (v0:=.slice [.fn (PF98_8 ).g (PF98_8 ).a (PF98_8 ).b,.fn (PF98_9 ).g (PF98_9 ).a (PF98_9 ).b,.fn (PF98_10 ).g (PF98_10 ).a (PF98_10 ).b,.fn (PF98_11 ).g (PF98_11 ).a (PF98_11 ).b] .full) (by kernel_rfl) (rfl)) fun _ H=>?_
  obtain ⟨x51,hx51,hr⟩:=obind hr
  refine q_c (F158_R n x50 ([(PF98_8 ),(PF98_9 ),(PF98_10 ),(PF98_11 )]:List Pred) x51 hx51 (p0:=.shut) (p1:=.full)) 0 [(5,kN a0),(101,vB true),(107,vB x51)] H fun _ H=>q_g 2 [(5,kN a0),(109,vB x51)] H fun _ H=>?_
  rcases csplit hr with ⟨c52,hr⟩|⟨c52,hr⟩
  rotate_left
  ·rw [c52] at H
   refine q_g 5 [(4,vB false)] H fun _ H=>q_e (q_d (W_ret ?_))
   obtain rfl:=sj hr
   exact q_r [vB false] H K
  rw [c52] at H
  refine q_g 1 [(109,vB true),(110,kN a0)] H fun _ H=>?_
  obtain ⟨x53,hx53,hr⟩:=obind hr
  refine q_v (.slice 22 (kN a0) (some (vI 4)) none) [(109,vB true),(111,vL tNode x53 .shut)] H (run_subL_lo tNode (by kernel_rfl) hx53) fun _ H=>?_
  obtain ⟨x54,hx54,hr⟩:=obind hr
  refine q_c (F160_R n x53 x54 hx54 (p0:=.shut)) 0 [(109,vB true),(112,vB x54)] H fun _ H=>q_g 2 [(4,vB x54)] H fun _ H=>q_e (q_d (W_ret ?_))
  obtain rfl:=sj hr
  exact q_r [vB x54] H K
 refine q_F H c48 (W_seq (W_reg (q_g 2 [(5,kN a0),(10,vI a0.kind),(114,vB (a0.kind == 31))] H fun _ H=>q_e ?_)))
 rcases csplit hr with ⟨c55,hr⟩|⟨c55,hr⟩
 ·refine q_T H c55 (W_seq (W_reg (q_g 1 [(116,kN a0)] H fun _ H=>?_)))
  refine q_c (⟨20,by kernel_rfl⟩:R Tryz.prog AN 159 [vI 34] st (.ret (.fn 197 [] [.cptr ([vI 34]) 0])) st) 0 [(116,kN a0),(117,.fn 197 [] [.cptr ([vI 34]) 0])] H fun _ H=>?_
  refine q_c (⟨20,by kernel_rfl⟩:R Tryz.prog AN 159 [vI 34] st (.ret (.fn 197 [] [.cptr ([vI 34]) 0])) st) 0 [(116,kN a0),(117,.fn 197 [] [.cptr ([vI 34]) 0]),(118,.fn 197 [] [.cptr ([vI 34]) 0])] H fun _ H=>?_
  refine q_v (.buildSlice 167 3 [(0,.fn (PF98_12 ).g (PF98_12 ).a (PF98_12 ).b),(1,.fn (PF98_13 ).g (PF98_13 ).a (PF98_13 ).b),(2,.fn (PF98_14 ).g (PF98_14 ).a (PF98_14 ).b)]) [(116,kN a0),(119,vL tPred ([(PF98_12 ),(PF98_13 ),(PF98_14 )]:List Pred) .full)] H (run_bslice (v:=vL tPred ([(PF98_12 ),(PF98_13 ),(PF98_14 )]:List Pred) .full) (v0:=.slice [.fn (PF98_12 ).g (PF98_12 ).a (PF98_12 ).b,.fn (PF98_13 ).g (PF98_13 ).a (PF98_13 ).b,.fn (PF98_14 ).g (PF98_14 ).a (PF98_14 ).b] .full) (by kernel_rfl) (rfl)) fun _ H=>?_
  obtain ⟨x56,hx56,hr⟩:=obind hr
  refine q_c (F158_R n a0.kids ([(PF98_12 ),(PF98_13 ),(PF98_14 )]:List Pred) x56 hx56 (p0:=.shut) (p1:=.full)) 0 [(120,vB x56)] H fun _ H=>q_g 1 [(4,vB x56)] H fun _ H=>q_e (W_ret ?_)
  obtain rfl:=sj hr
  exact q_r [vB x56] H K
 refine q_F H c55 (W_seq (W_reg (q_g 2 [(5,kN a0),(10,vI a0.kind),(121,vB (a0.kind == 32))] H fun _ H=>q_e ?_)))
 rcases csplit hr with ⟨c57,hr⟩|⟨c57,hr⟩
 ·refine q_T H c57 (W_seq (W_reg (q_g 1 [(123,kN a0)] H fun _ H=>?_)))
  refine q_c (⟨20,by kernel_rfl⟩:R Tryz.prog AN 162 [.fn 62 [] [],.fn 161 [] []] st (.ret (.fn 198 [] [.cptr ([.fn 62 [] []]) 0,.cptr ([.fn 161 [] []]) 0])) st) 0 [(123,kN a0),(124,.fn 198 [] [.cptr ([.fn 62 [] []]) 0,.cptr ([.fn 161 [] []]) 0])] H fun _ H=>?_
  refine q_c (⟨20,by kernel_rfl⟩:R Tryz.prog AN 159 [vI 34] st (.ret (.fn 197 [] [.cptr ([vI 34]) 0])) st) 0 [(123,kN a0),(124,.fn 198 [] [.cptr ([.fn 62 [] []]) 0,.cptr ([.fn 161 [] []]) 0]),(125,.fn 197 [] [.cptr ([vI 34]) 0])] H fun _ H=>?_
  refine q_v (.buildSlice 167 3 [(0,.fn (PF98_15 ).g (PF98_15 ).a (PF98_15 ).b),(1,.fn (PF98_16 ).g (PF98_16 ).a (PF98_16 ).b),(2,.fn (PF98_17 ).g (PF98_17 ).a (PF98_17 ).b)]) [(123,kN a0),(126,vL tPred ([(PF98_15 ),(PF98_16 ),(PF98_17 )]:List Pred) .full)] H (run_bslice (v:=vL tPred ([(PF98_15 ),(PF98_16 ),(PF98_17 )]:List Pred) .full) (v0:=.slice [.fn (PF98_15 ).g (PF98_15 ).a (PF98_15 ).b,.fn (PF98_16 ).g (PF98_16 ).a (PF98_16 ).b,.fn (PF98_17 ).g (PF98_17 ).a (PF98_17 ).b] .full) (by kernel_rfl) (rfl)) fun _ H=>?_
  obtain ⟨x58,hx58,hr⟩:=obind hr
  refine q_c (F158_R n a0.kids ([(PF98_15 ),(PF98_16 ),(PF98_17 )]:List Pred) x58 hx58 (p0:=.shut) (p1:=.full)) 0 [(127,vB x58)] H fun _ H=>q_g 1 [(4,vB x58)] H fun _ H=>q_e (W_ret ?_)
  obtain rfl:=sj hr
  exact q_r [vB x58] H K
 refine q_F H c57 (W_seq (W_reg (q_g 2 [(5,kN a0),(10,vI a0.kind),(128,vB (a0.kind == 33))] H fun _ H=>q_e ?_)))
 rcases csplit hr with ⟨c59,hr⟩|⟨c59,hr⟩
 ·refine q_T H c59 (W_seq (W_reg (q_g 1 [(130,kN a0)] H fun _ H=>?_)))
  obtain ⟨x60,hx60,hr⟩:=obind hr
  refine q_c (F99_1_R n a0.kids x60 hx60 (p0:=.shut)) 0 [(131,vB x60)] H fun _ H=>q_g 1 [(4,vB x60)] H fun _ H=>q_e (W_ret ?_)
  obtain rfl:=sj hr
  exact q_r [vB x60] H K
 refine q_F H c59 (W_seq (W_reg (q_g 2 [(5,kN a0),(10,vI a0.kind),(132,vB (a0.kind == 34))] H fun _ H=>q_e ?_)))
 rcases csplit hr with ⟨c61,hr⟩|⟨c61,hr⟩
 ·refine q_T H c61 (W_seq (W_reg (q_g 1 [(134,kN a0)] H fun _ H=>?_)))
  obtain ⟨x62,hx62,hr⟩:=obind hr
  refine q_c (F99_2_R n a0.kids x62 hx62 (p0:=.shut)) 0 [(135,vB x62)] H fun _ H=>q_g 1 [(4,vB x62)] H fun _ H=>q_e (W_ret ?_)
  obtain rfl:=sj hr
  exact q_r [vB x62] H K
 refine q_F H c61 (W_seq (W_reg (q_g 2 [(5,kN a0),(10,vI a0.kind),(136,vB (a0.kind == 51))] H fun _ H=>q_e ?_)))
 rcases csplit hr with ⟨c63,hr⟩|⟨c63,hr⟩
 ·refine q_T H c63 (W_seq (W_reg (q_g 1 [(138,kN a0)] H fun _ H=>?_)))
  refine q_c (⟨20,by kernel_rfl⟩:R Tryz.prog AN 159 [vI 52] st (.ret (.fn 197 [] [.cptr ([vI 52]) 0])) st) 0 [(138,kN a0),(139,.fn 197 [] [.cptr ([vI 52]) 0])] H fun _ H=>?_
  obtain ⟨x64,hx64,hr⟩:=obind hr
  refine q_c (F99_3_R n a0.kids (52:Int) x64 hx64 (p0:=.shut)) 0 [(140,vB x64)] H fun _ H=>q_g 1 [(4,vB x64)] H fun _ H=>q_e (W_ret ?_)
  obtain rfl:=sj hr
  exact q_r [vB x64] H K
 refine q_F H c63 (W_seq (W_reg (q_g 2 [(5,kN a0),(10,vI a0.kind),(141,vB (a0.kind == 56))] H fun _ H=>q_e ?_)))
 rcases csplit hr with ⟨c65,hr⟩|⟨c65,hr⟩
 ·refine q_T H c65 (W_seq (W_reg (q_g 1 [(5,kN a0),(143,kN a0)] H fun _ H=>?_)))
  refine q_v (.len 22 (kN a0)) [(5,kN a0),(144,vI (a0.kids.length:Int))] H (run_len tNode (by kernel_rfl)) fun _ H=>q_g 2 [(5,kN a0),(146,vB (decide (0 < (a0.kids.length:Int))))] H fun _ H=>?_
  rcases csplit hr with ⟨c66,hr⟩|⟨c66,hr⟩
  rotate_left
  ·rw [c66] at H
   refine q_g 4 [(4,vB false)] H fun _ H=>q_e (W_ret ?_)
   obtain rfl:=sj hr
   exact q_r [vB false] H K
  rw [c66] at H
  refine q_g 1 [(146,vB true),(147,kN a0)] H fun _ H=>?_
  obtain ⟨x67,hx67,hr⟩:=obind hr
  refine q_c (F99_4_R n a0.kids x67 hx67 (p0:=.shut)) 0 [(146,vB true),(148,vB x67)] H fun _ H=>q_g 2 [(4,vB x67)] H fun _ H=>q_e (W_ret ?_)
  obtain rfl:=sj hr
  exact q_r [vB x67] H K
 refine q_F H c65 (W_seq (W_reg (q_g 2 [(5,kN a0),(10,vI a0.kind),(150,vB (a0.kind == 57))] H fun _ H=>q_e ?_)))
 rcases csplit hr with ⟨c68,hr⟩|⟨c68,hr⟩
 ·refine q_T H c68 (W_seq (W_reg (q_g 1 [(5,kN a0),(152,kN a0)] H fun _ H=>?_)))
  refine q_v (.len 22 (kN a0)) [(5,kN a0),(153,vI (a0.kids.length:Int))] H (run_len tNode (by kernel_rfl)) fun _ H=>q_g 2 [(5,kN a0),(6,vI (w64 ((a0.kids.length:Int) - 1)))] H fun _ H=>q_e (W_seq (W_drw (q_g 3 [(5,kN a0),(6,vI (w64 ((a0.kids.length:Int) - 1))),(157,vB (decide (0≤(w64 ((a0.kids.length:Int) - 1)))))] H fun _ H=>?_)))
  rcases csplit hr with ⟨c69,hr⟩|⟨c69,hr⟩
  rotate_left
  ·rw [c69] at H
   refine q_g 15 [(4,vB false)] H fun _ H=>q_e (q_d (W_ret ?_))
   obtain rfl:=sj hr
   exact q_r [vB false] H K
  rw [c69] at H
  refine q_g 2 [(5,kN a0),(6,vI (w64 ((a0.kids.length:Int) - 1))),(157,vB true),(158,kN a0),(159,vI (w64 ((a0.kids.length:Int) - 1)))] H fun _ H=>?_
  obtain ⟨x70,hx70,hr⟩:=obind hr
  refine q_v (.indexAddr 22 (kN a0) (vI (w64 ((a0.kids.length:Int) - 1)))) [(5,kN a0),(6,vI (w64 ((a0.kids.length:Int) - 1))),(157,vB true),(160,cN x70 0)] H (run_idxL tNode (by kernel_rfl) hx70) fun _ H=>q_g 5 [(5,kN a0),(6,vI (w64 ((a0.kids.length:Int) - 1))),(165,vB (x70.kind == 34))] H fun _ H=>?_
  rcases csplit hr with ⟨c71,hr⟩|⟨c71,hr⟩
  rotate_left
  ·rw [c71] at H
   refine q_g 7 [(4,vB false)] H fun _ H=>q_e (q_d (W_ret ?_))
   obtain rfl:=sj hr
   exact q_r [vB false] H K
  rw [c71] at H
  refine q_g 2 [(165,vB true),(166,kN a0),(167,vI (w64 ((a0.kids.length:Int) - 1)))] H fun _ H=>?_
  obtain ⟨x72,hx72,hr⟩:=obind hr
  refine q_v (.slice 22 (kN a0) none (some (vI (w64 ((a0.kids.length:Int) - 1))))) [(165,vB true),(168,vL tNode x72 .shut)] H (run_subL_hi tNode (by kernel_rfl) hx72) fun _ H=>?_
  refine q_c (⟨20,by kernel_rfl⟩:R Tryz.prog AN 159 [vI 58] st (.ret (.fn 197 [] [.cptr ([vI 58]) 0])) st) 0 [(165,vB true),(168,vL tNode x72 .shut),(169,.fn 197 [] [.cptr ([vI 58]) 0])] H fun _ H=>?_
  obtain ⟨x73,hx73,hr⟩:=obind hr
  refine q_c (F99_3_R n x72 (58:Int) x73 hx73 (p0:=.shut)) 0 [(165,vB true),(170,vB x73)] H fun _ H=>q_g 2 [(4,vB x73)] H fun _ H=>q_e (q_d (W_ret ?_))
  obtain rfl:=sj hr
  exact q_r [vB x73] H K
 refine q_F H c68 (W_seq (W_reg (q_g 2 [(5,kN a0),(10,vI a0.kind),(172,vB (a0.kind == 60))] H fun _ H=>q_e ?_)))
 rcases csplit hr with ⟨c74,hr⟩|⟨c74,hr⟩
 ·refine q_T H c74 (W_seq (W_reg (q_g 1 [(174,kN a0)] H fun _ H=>?_)))
  obtain ⟨x75,hx75,hr⟩:=obind hr
  refine q_c (F99_5_R n a0.kids x75 hx75 (p0:=.shut)) 0 [(175,vB x75)] H fun _ H=>q_g 1 [(4,vB x75)] H fun _ H=>q_e (W_ret ?_)
  obtain rfl:=sj hr
  exact q_r [vB x75] H K
 refine q_F H c74 (W_seq (W_reg (q_g 2 [(5,kN a0),(10,vI a0.kind),(176,vB (a0.kind == 61))] H fun _ H=>q_e ?_)))
 rcases csplit hr with ⟨c76,hr⟩|⟨c76,hr⟩
 ·refine q_T H c76 (W_seq (W_reg (q_g 1 [(178,kN a0)] H fun _ H=>?_)))
  refine q_c (⟨20,by kernel_rfl⟩:R Tryz.prog AN 159 [vI 1] st (.ret (.fn 197 [] [.cptr ([vI 1]) 0])) st) 0 [(178,kN a0),(179,.fn 197 [] [.cptr ([vI 1]) 0])] H fun _ H=>?_
  obtain ⟨x77,hx77,hr⟩:=obind hr
  refine q_c (F99_3_R n a0.kids (1:Int) x77 hx77 (p0:=.shut)) 0 [(180,vB x77)] H fun _ H=>q_g 1 [(4,vB x77)] H fun _ H=>q_e (W_ret ?_)
  obtain rfl:=sj hr
  exact q_r [vB x77] H K
 refine q_F H c76 (W_seq (W_reg (q_g 2 [(5,kN a0),(181,vB (a0.kind == 62))] H fun _ H=>q_e ?_)))
 rcases csplit hr with ⟨c78,hr⟩|⟨c78,hr⟩
 rotate_left
 ·refine q_F H c78 (W_skip (W_seq (W_reg (q_g 1 [(4,vB false)] H fun _ H=>q_e (W_ret ?_)))))
  obtain rfl:=sj hr
  exact q_r [vB false] H K
 refine q_T H c78 (W_seq (W_reg (q_g 1 [(183,kN a0)] H fun _ H=>?_)))
 obtain ⟨x79,hx79,hr⟩:=obind hr
 refine q_c (F99_6_R n a0.kids x79 hx79 (p0:=.shut)) 0 [(184,vB x79)] H fun _ H=>q_g 1 [(4,vB x79)] H fun _ H=>q_e (W_ret ?_)
 obtain rfl:=sj hr
 exact q_r [vB x79] H K
def F99_step (_:(List Node)→Option Bool) (F64:Node→Option Bool) (n:Nat) (a0:List Node):Option Bool := (iter (σ:=Int) (ρ:=Unit ⊕ Unit) (fun s1=>bif decide (s1 < (a0.length:Int)) then ((idxL a0 s1).bind fun x3 => (F64 x3).bind fun x5 => bif !x5 then (some (.inr (.inl ()))) else (some (.inl (w64 (s1 + 1))))) else (some (.inr (.inr ())))) n (0:Int)).bind fun r7=>match r7 with | .inl _=>some false | .inr _=>some true
def F64_step (F99:(List Node)→Option Bool) (_:Node→Option Bool) (n:Nat) (a0:Node):Option Bool := (F97 n a0).bind fun x1 => bif !x1 then (some false) else ((F98 n a0).bind fun x3 => bif !x3 then (some false) else ((F99 a0.kids).bind fun x5 => some x5))
mutual
def F99:Nat→(List Node)→Option Bool
 | 0,_=>none
 | n + 1,a0=>F99_step (F99 n) (F64 n) n a0
def F64:Nat→Node→Option Bool
 | 0,_=>none
 | n + 1,a0=>F64_step (F99 n) (F64 n) n a0
end
theorem F99_RR (n:Nat):(∀ (a0:List Node) (r:Bool),F99 n a0 = some r→∀ {st:St} {p0:Spare},R Tryz.prog AN 99 [vL tNode a0 p0,.fn 64 [.agg [keysV]] []] st (.ret (vB r)) st)∧(∀ (a0:Node) (r:Bool),F64 n a0 = some r→∀ {st:St} {p0:Spare},R Tryz.prog AN 64 [.agg [keysV],.agg (cNode p0 a0)] st (.ret (vB r)) st):=by
 induction n with
 | zero=>exact ⟨by intros; contradiction,by intros; contradiction⟩
 | succ n ih =>
  obtain ⟨ih_F99,ih_F64⟩:=ih
  refine ⟨?_,?_⟩
  ·intro a0 r hr st p0
   change F99_step (F99 n) (F64 n) n a0 = some r at hr
   unfold F99_step at hr
   refine R_pureX [vL tNode a0 .shut,.fn 64 [.agg [keysV]] []] [(0,vL tNode a0 .shut),(1,.fn 64 [.agg [keysV]] [])] (by kernel_rfl) Tryz.func99 rfl (by kernel_rfl) (by simp only [strip,stripL,strip_keysV,stripL_ET,Option.bind_some,Option.map_some]) rfl fun fr st H K=>W_seq (W_reg (q_g 1 [(0,vL tNode a0 .shut),(1,.fn 64 [.agg [keysV]] [])] H fun _ H=>q_e (W_seq (W_seq (W_reg (q_g 1 [(1,.fn 64 [.agg [keysV]] []),(7,vL tNode a0 .shut)] H fun _ H=>?_))))))
   refine q_v (.len 22 (vL tNode a0 .shut)) [(1,.fn 64 [.agg [keysV]] []),(7,vL tNode a0 .shut),(8,vI (a0.length:Int))] H (run_len tNode (by kernel_rfl)) fun _ H=>q_g 1 [(1,.fn 64 [.agg [keysV]] []),(7,vL tNode a0 .shut),(8,vI (a0.length:Int)),(9,vI 0)] H fun _ H=>q_e (W_block ?_)
   obtain ⟨r7,hr7,hr⟩:=obind hr
   refine W_iter hr7 (fun (s1:Int) fr st=>Rd fr [(1,.fn 64 [.agg [keysV]] []),(7,vL tNode a0 .shut),(8,vI (a0.length:Int)),(9,vI s1)]∧HL st []) (fun (r7:Unit ⊕ Unit) e fr st=>match r7 with | .inl r7a=>(e = .ret∧Rd fr [(4,vB false)]∧HL st []) | .inr r7b=>(e = .exit 0∧Rd fr []∧HL st [])) ⟨H.tq,K.keep []⟩ ?_ ?_
   ·intro s1 fr st r hi hr
    obtain ⟨H,K⟩:=hi
    refine W_seq (W_reg (q_g 1 [(1,.fn 64 [.agg [keysV]] []),(7,vL tNode a0 .shut),(8,vI (a0.length:Int)),(9,vI s1),(10,vB (decide (s1 < (a0.length:Int))))] H fun _ H=>q_e (W_seq ?_)))
    rcases csplit hr with ⟨c2,hr⟩|⟨c2,hr⟩
    rotate_left
    ·refine q_F H c2 ?_
     refine W_exit ?_
     obtain rfl:=sj hr
     exact ⟨by simp,⟨rfl,H.tq,K.keep []⟩⟩
    refine q_T H c2 (W_skip (W_seq (W_block (W_seq (W_reg ?_)))))
    obtain ⟨x3,hx3,hr⟩:=obind hr
    refine q_v (.indexAddr 22 (vL tNode a0 .shut) (vI s1)) [(1,.fn 64 [.agg [keysV]] []),(7,vL tNode a0 .shut),(8,vI (a0.length:Int)),(9,vI s1),(11,cN x3 0)] H (run_idxL tNode (by kernel_rfl) hx3) fun _ H=>q_g 1 [(1,.fn 64 [.agg [keysV]] []),(7,vL tNode a0 .shut),(8,vI (a0.length:Int)),(9,vI s1),(12,aN x3)] H fun _ H=>?_
    refine k_alloc (t:=24) (cs:=[vI 0,vS (bs []),vS (bs []),vI 0,vI 0,vI 0,vB false,vL tNode ([]:List Node) .nil,vI 0]) (fun id4=>[(1,.fn 64 [.agg [keysV]] []),(6,.ptr id4 0),(7,vL tNode a0 .shut),(8,vI (a0.length:Int)),(9,vI s1),(12,aN x3)]) H K (by kernel_rfl) (fun _ _=>by kernel_rfl) fun id4 st K fr H=>?_
    refine k_store (t:=24) (off:=0) (v:=aN x3) (cs':=[vI x3.kind,vS x3.name,vS x3.other,vI x3.n,vI x3.len,vI x3.init,vB x3.ghost,kN x3,vI x3.pos]) 0 [(1,.fn 64 [.agg [keysV]] []),(6,.ptr id4 0),(7,vL tNode a0 .shut),(8,vI (a0.length:Int)),(9,vI s1)] H K rfl (by kernel_rfl) (fun _=>by kernel_rfl) fun st K fr H=>q_e (W_seq (W_reg (q_g 1 [(1,.fn 64 [.agg [keysV]] []),(6,.ptr id4 0),(7,vL tNode a0 .shut),(8,vI (a0.length:Int)),(9,vI s1),(13,.fn 64 [.agg [keysV]] [])] H fun _ H=>?_)))
    refine k_load (t:=24) (off:=0) 0 [(1,.fn 64 [.agg [keysV]] []),(7,vL tNode a0 .shut),(8,vI (a0.length:Int)),(9,vI s1),(13,.fn 64 [.agg [keysV]] []),(14,aN x3)] H K rfl (v:=aN x3) (by kernel_rfl) (fun _=>by kernel_rfl) fun _ H=>?_
    obtain ⟨x5,hx5,hr⟩:=obind hr
    refine q_c (ih_F64 x3 x5 hx5 (p0:=.shut)) 0 [(1,.fn 64 [.agg [keysV]] []),(7,vL tNode a0 .shut),(8,vI (a0.length:Int)),(9,vI s1),(15,vB x5)] H fun _ H=>q_g 1 [(1,.fn 64 [.agg [keysV]] []),(7,vL tNode a0 .shut),(8,vI (a0.length:Int)),(9,vI s1),(16,vB !x5)] H fun _ H=>q_e ?_
    rcases csplit hr with ⟨c6,hr⟩|⟨c6,hr⟩
    ·refine q_T H c6 (W_seq (W_reg (q_g 1 [(4,vB false)] H fun _ H=>q_e (W_ret ?_))))
     obtain rfl:=sj hr
     exact ⟨by simp,⟨rfl,H.tq,K.keep [false]⟩⟩
    refine q_F H c6 (W_skip (W_reg (q_g 2 [(1,.fn 64 [.agg [keysV]] []),(7,vL tNode a0 .shut),(8,vI (a0.length:Int)),(9,vI (w64 (s1 + 1)))] H fun _ H=>q_e ?_)))
    obtain rfl:=sj hr
    exact ⟨rfl,⟨H.tq,K.keep [false]⟩⟩
   rcases r7 with r7a | r7b
   ·rintro e fr st ⟨rfl,H,K⟩
    obtain rfl:=sj hr
    exact q_r [vB false] H K
   rintro e fr st ⟨rfl,H,K⟩
   refine W_seq (W_reg (q_g 1 [(4,vB true)] H fun _ H=>q_e (W_ret ?_)))
   obtain rfl:=sj hr
   exact q_r [vB true] H K
  ·intro a0 r hr st p0
   change F64_step (F99 n) (F64 n) n a0 = some r at hr
   unfold F64_step at hr
   refine R_pureX [.agg [keysV],aN a0] [(0,.agg [keysV]),(1,aN a0)] (by kernel_rfl) Tryz.func64 rfl (by kernel_rfl) (by simp only [strip,stripL,strip_keysV,stripL_cNode,Option.bind_some,Option.map_some]) rfl fun fr st H K=>W_seq (W_reg (q_g 3 [(2,.cptr ([keysV]) 0),(3,cN a0 0)] H fun _ H=>q_e (W_seq (W_seq (W_reg (q_g 2 [(2,.cptr ([keysV]) 0),(3,cN a0 0),(5,.agg [keysV]),(6,aN a0)] H fun _ H=>?_))))))
   obtain ⟨x1,hx1,hr⟩:=obind hr
   refine q_c (F97_R n a0 x1 hx1 (p0:=.shut)) 0 [(2,.cptr ([keysV]) 0),(3,cN a0 0),(7,vB x1)] H fun _ H=>q_g 2 [(2,.cptr ([keysV]) 0),(3,cN a0 0),(9,vB !x1)] H fun _ H=>?_
   rcases csplit hr with ⟨c2,hr⟩|⟨c2,hr⟩
   ·rw [c2] at H
    refine q_g 5 [(2,.cptr ([keysV]) 0),(3,cN a0 0),(14,vB true)] H fun _ H=>q_e (q_T H rfl (W_seq (W_reg (q_g 1 [(4,vB false)] H fun _ H=>q_e (W_ret ?_)))))
    obtain rfl:=sj hr
    exact q_r [vB false] H K
   rw [c2] at H
   refine q_g 2 [(2,.cptr ([keysV]) 0),(3,cN a0 0),(9,vB false),(10,.agg [keysV]),(11,aN a0)] H fun _ H=>?_
   obtain ⟨x3,hx3,hr⟩:=obind hr
   refine q_c (F98_R n a0 x3 hx3 (p0:=.shut)) 0 [(2,.cptr ([keysV]) 0),(3,cN a0 0),(9,vB false),(12,vB x3)] H fun _ H=>q_g 2 [(2,.cptr ([keysV]) 0),(3,cN a0 0),(14,vB !x3)] H fun _ H=>q_e ?_
   rcases csplit hr with ⟨c4,hr⟩|⟨c4,hr⟩
   ·refine q_T H c4 (W_seq (W_reg (q_g 1 [(4,vB false)] H fun _ H=>q_e (W_ret ?_))))
    obtain rfl:=sj hr
    exact q_r [vB false] H K
   refine q_F H c4 (W_skip (W_seq (W_reg (q_g 4 [(16,kN a0),(18,.fn 64 [.agg [keysV]] [])] H fun _ H=>?_))))
   obtain ⟨x5,hx5,hr⟩:=obind hr
   refine q_c (ih_F99 a0.kids x5 hx5 (p0:=.shut)) 0 [(19,vB x5)] H fun _ H=>q_g 1 [(4,vB x5)] H fun _ H=>q_e (W_ret ?_)
   obtain rfl:=sj hr
   exact q_r [vB x5] H K
theorem F64_R (n:Nat) (a0:Node) (r:Bool) (hr:F64 n a0 = some r) {st:St} {p0:Spare}:R Tryz.prog AN 64 [.agg [keysV],.agg (cNode p0 a0)] st (.ret (vB r)) st:=(F99_RR n).2 a0 r hr
def F28 (n:Nat) (a0:Node):Option Bool := (bif a0.kind != 62 then ((F62 a0).bind fun x2 => bif !x2 then (some (.inl ())) else ((F59 n a0).bind fun x4 => bif !x4 then (some (.inl ())) else (some (.inr ())))) else ((F59 n a0).bind fun x5 => bif !x5 then (some (.inl ())) else (some (.inr ()))):Option (Unit ⊕ Unit)).bind fun j8=>match j8 with | .inl _=>some false | .inr _=>(F64 n a0).bind fun x10 => some x10
theorem F28_R (n:Nat) (a0:Node) (r:Bool) (hr:F28 n a0 = some r) {st:St} {p0:Spare}:R Tryz.prog AN 28 [.agg (cNode p0 a0)] st (.ret (vB r)) st:=by
 unfold F28 at hr
 refine R_pureX [aN a0] [(0,aN a0)] (by kernel_rfl) Tryz.func28 rfl (by kernel_rfl) (by simp only [strip,stripL,stripL_cNode,Option.bind_some,Option.map_some]) rfl fun fr st H K=>W_seq (W_reg (q_g 2 [(1,cN a0 0)] H fun _ H=>q_e (W_seq ?_)))
 obtain ⟨j8,hj8,hr⟩:=obind hr
 refine W_via (fun e fr st=>match j8 with | .inl j8a=>(e = .ret∧Rd fr [(2,vB false)]∧HL st []) | .inr j8b=>(e = .normal∧Rd fr [(1,cN a0 0)]∧HL st [])) ?_ ?_
 ·replace hr:=hj8
  refine W_seq (W_reg (q_g 4 [(1,cN a0 0),(7,vB (a0.kind != 62))] H fun _ H=>?_))
  rcases csplit hr with ⟨c1,hr⟩|⟨c1,hr⟩
  rotate_left
  ·rw [c1] at H
   refine q_g 6 [(1,cN a0 0),(12,vB false),(13,aN a0)] H fun _ H=>?_
   obtain ⟨x5,hx5,hr⟩:=obind hr
   refine q_c (F59_R n a0 x5 hx5 (p0:=.shut)) 0 [(1,cN a0 0),(12,vB false),(14,vB x5)] H fun _ H=>q_g 2 [(1,cN a0 0),(16,vB !x5)] H fun _ H=>q_e ?_
   rcases csplit hr with ⟨c7,hr⟩|⟨c7,hr⟩
   rotate_left
   ·refine q_F H c7 (W_skip ?_)
    obtain rfl:=sj hr
    exact ⟨rfl,H.to (env':=_) (fun _=>by kernel_rfl),K.keep []⟩
   refine q_T H c7 (W_seq (W_reg (q_g 1 [(2,vB false)] H fun _ H=>q_e (W_ret ?_))))
   obtain rfl:=sj hr
   exact ⟨rfl,H.to (env':=_) (fun _=>by kernel_rfl),K.keep []⟩
  rw [c1] at H
  refine q_g 1 [(1,cN a0 0),(7,vB true),(8,aN a0)] H fun _ H=>?_
  obtain ⟨x2,hx2,hr⟩:=obind hr
  refine q_c (F62_R  a0 x2 hx2 (p0:=.shut)) 0 [(1,cN a0 0),(7,vB true),(9,vB x2)] H fun _ H=>q_g 3 [(1,cN a0 0),(12,vB !x2)] H fun _ H=>?_
  rcases csplit hr with ⟨c3,hr⟩|⟨c3,hr⟩
  ·rw [c3] at H
   refine q_g 4 [(1,cN a0 0),(16,vB true)] H fun _ H=>q_e (q_T H rfl (W_seq (W_reg (q_g 1 [(2,vB false)] H fun _ H=>q_e (W_ret ?_)))))
   obtain rfl:=sj hr
   exact ⟨rfl,H.to (env':=_) (fun _=>by kernel_rfl),K.keep []⟩
  rw [c3] at H
  refine q_g 1 [(1,cN a0 0),(12,vB false),(13,aN a0)] H fun _ H=>?_
  obtain ⟨x4,hx4,hr⟩:=obind hr
  refine q_c (F59_R n a0 x4 hx4 (p0:=.shut)) 0 [(1,cN a0 0),(12,vB false),(14,vB x4)] H fun _ H=>q_g 2 [(1,cN a0 0),(16,vB !x4)] H fun _ H=>q_e ?_
  rcases csplit hr with ⟨c6,hr⟩|⟨c6,hr⟩
  rotate_left
  ·refine q_F H c6 (W_skip ?_)
   obtain rfl:=sj hr
   exact ⟨rfl,H.to (env':=_) (fun _=>by kernel_rfl),K.keep []⟩
  refine q_T H c6 (W_seq (W_reg (q_g 1 [(2,vB false)] H fun _ H=>q_e (W_ret ?_))))
  obtain rfl:=sj hr
  exact ⟨rfl,H.to (env':=_) (fun _=>by kernel_rfl),K.keep []⟩
 rcases j8 with j8a | j8b
 ·rintro e fr st ⟨rfl,H,K⟩
  obtain rfl:=sj hr
  exact q_r [vB false] H K
 rintro e fr st ⟨rfl,H,K⟩
 refine W_seq (W_reg ?_)
 refine q_c keyWords_R 0 [(1,cN a0 0),(17,keysV)] H fun _ H=>q_g 1 [(1,cN a0 0),(18,.agg [keysV])] H fun _ H=>?_
 refine k_alloc (t:=93) (cs:=[.sc (.map none)]) (fun id9=>[(1,cN a0 0),(3,.ptr id9 0),(18,.agg [keysV])]) H K (by kernel_rfl) (fun _ _=>by kernel_rfl) fun id9 st K fr H=>?_
 refine k_store (t:=93) (off:=0) (v:=.agg [keysV]) (cs':=[keysV]) 0 [(1,cN a0 0),(3,.ptr id9 0)] H K rfl (by kernel_rfl) (fun _=>by kernel_rfl) fun st K fr H=>q_e (W_seq (W_reg ?_))
 refine k_load (t:=93) (off:=0) 0 [(1,cN a0 0),(19,.agg [keysV])] H K rfl (v:=.agg [keysV]) (by kernel_rfl) (fun _=>by kernel_rfl) fun _ H=>q_g 1 [(19,.agg [keysV]),(20,aN a0)] H fun _ H=>?_
 obtain ⟨x10,hx10,hr⟩:=obind hr
 refine q_c (F64_R n a0 x10 hx10 (p0:=.shut)) 0 [(21,vB x10)] H fun _ H=>q_g 1 [(2,vB x10)] H fun _ H=>q_e (W_ret ?_)
 obtain rfl:=sj hr
 exact q_r [vB x10] H K
def F85 (n:Nat) (a0:List ByteArray):Option ByteArray := (iter (σ:=(List ByteArray) × Int) (ρ:=((List ByteArray))) (fun s1=>bif decide (s1.2 < (a0.length:Int)) then ((idxL a0 s1.2).bind fun x3 => bif !(strEq x3 (bs [])) then ((appL 16 s1.1 ([x3]:List ByteArray)).bind fun x5 => some (.inl (x5,w64 (s1.2 + 1)))) else (some (.inl (s1.1,w64 (s1.2 + 1))))) else (some (.inr s1.1))) n (([]:List ByteArray),(0:Int))).bind fun r7 => (joinF r7 (bs [32])).bind fun x8 => some x8
theorem F85_R (n:Nat) (a0:List ByteArray) (r:ByteArray) (hr:F85 n a0 = some r) {st:St} {p0:Spare}:R Tryz.prog AN 85 [vL tS a0 p0] st (.ret (vS r)) st:=by
 unfold F85 at hr
 refine R_pureX [vL tS a0 .shut] [(0,vL tS a0 .shut)] (by kernel_rfl) Tryz.func85 rfl (by kernel_rfl) (by simp only [strip,stripL,stripL_ET,Option.bind_some,Option.map_some]) rfl fun fr st H K=>W_seq (W_reg (q_g 1 [(0,vL tS a0 .shut)] H fun _ H=>q_e (W_seq (W_reg (q_g 1 [(0,vL tS a0 .shut),(3,vL tS ([]:List ByteArray) .nil)] H fun _ H=>q_e (W_seq (W_seq (W_reg (q_g 1 [(3,vL tS ([]:List ByteArray) .nil),(6,vL tS a0 .shut)] H fun _ H=>?_)))))))))
 refine q_v (.len 30 (vL tS a0 .shut)) [(3,vL tS ([]:List ByteArray) .nil),(6,vL tS a0 .shut),(7,vI (a0.length:Int))] H (run_len tS (by kernel_rfl)) fun _ H=>q_g 1 [(3,vL tS ([]:List ByteArray) .nil),(6,vL tS a0 .shut),(7,vI (a0.length:Int)),(8,vI 0)] H fun _ H=>q_e (W_block ?_)
 obtain ⟨r7,hr7,hr⟩:=obind hr
 refine W_iter hr7 (fun (s1:(List ByteArray) × Int) fr st=>∃ (s1sp0:Spare),Rd fr [(3,vL tS s1.1 s1sp0),(6,vL tS a0 .shut),(7,vI (a0.length:Int)),(8,vI s1.2)]∧HL st [.own s1sp0]) (fun (r7:((List ByteArray))) e fr st=>e = .exit 0∧∃ (r7sp0:Spare),Rd fr [(3,vL tS r7 r7sp0)]∧HL st [.own r7sp0]) ⟨.nil,H.tq,((K.keep []).nilo)⟩ ?_ ?_
 ·intro s1 fr st r hi hr
  obtain ⟨s1sp0,H,K⟩:=hi
  refine W_seq (W_reg (q_g 1 [(3,vL tS s1.1 s1sp0),(6,vL tS a0 .shut),(7,vI (a0.length:Int)),(8,vI s1.2),(9,vB (decide (s1.2 < (a0.length:Int))))] H fun _ H=>q_e (W_seq ?_)))
  rcases csplit hr with ⟨c2,hr⟩|⟨c2,hr⟩
  rotate_left
  ·refine q_F H c2 ?_
   refine W_exit ?_
   obtain rfl:=sj hr
   exact ⟨by simp,⟨rfl,s1sp0,H.tq,K.keep [true]⟩⟩
  refine q_T H c2 (W_skip (W_seq (W_block (W_seq (W_reg ?_)))))
  obtain ⟨x3,hx3,hr⟩:=obind hr
  refine q_v (.indexAddr 30 (vL tS a0 .shut) (vI s1.2)) [(3,vL tS s1.1 s1sp0),(6,vL tS a0 .shut),(7,vI (a0.length:Int)),(8,vI s1.2),(10,.cptr ([vS x3]) 0)] H (run_idxL tS (by kernel_rfl) hx3) fun _ H=>q_g 2 [(3,vL tS s1.1 s1sp0),(5,vS x3),(6,vL tS a0 .shut),(7,vI (a0.length:Int)),(8,vI s1.2)] H fun _ H=>q_e (W_seq (W_reg (q_g 2 [(3,vL tS s1.1 s1sp0),(5,vS x3),(6,vL tS a0 .shut),(7,vI (a0.length:Int)),(8,vI s1.2),(13,vB (!(strEq x3 (bs []))))] H fun _ H=>q_e ?_)))
  rcases csplit hr with ⟨c4,hr⟩|⟨c4,hr⟩
  rotate_left
  ·refine q_F H c4 (W_skip (W_reg (q_g 2 [(3,vL tS s1.1 s1sp0),(6,vL tS a0 .shut),(7,vI (a0.length:Int)),(8,vI (w64 (s1.2 + 1)))] H fun _ H=>q_e ?_)))
   obtain rfl:=sj hr
   exact ⟨rfl,⟨s1sp0,H.tq,K.keep [true]⟩⟩
  refine q_T H c4 (W_reg (q_g 2 [(6,vL tS a0 .shut),(7,vI (a0.length:Int)),(8,vI s1.2),(14,vL tS s1.1 s1sp0),(15,vS x3)] H fun _ H=>?_))
  refine q_v (.buildSlice 30 1 [(0,vS x3)]) [(6,vL tS a0 .shut),(7,vI (a0.length:Int)),(8,vI s1.2),(14,vL tS s1.1 s1sp0),(16,vL tS ([x3]:List ByteArray) .full)] H (run_bslice (v:=vL tS ([x3]:List ByteArray) .full) (v0:=.slice [vS x3] .full) (by kernel_rfl) (rfl)) fun _ H=>?_
  obtain ⟨x5,hx5,hr⟩:=obind hr
  refine k_app tS hx5 (t:=30) (t2:=30) (sp2:=.full) 0 (fun sp6=>[(6,vL tS a0 .shut),(7,vI (a0.length:Int)),(8,vI s1.2),(17,vL tS x5 sp6)]) H K rfl (by kernel_rfl) (fun _ _=>by kernel_rfl) fun sp6 st K fr H=>q_g 1 [(3,vL tS x5 sp6),(6,vL tS a0 .shut),(7,vI (a0.length:Int)),(8,vI s1.2)] H fun _ H=>q_e (W_reg (q_g 2 [(3,vL tS x5 sp6),(6,vL tS a0 .shut),(7,vI (a0.length:Int)),(8,vI (w64 (s1.2 + 1)))] H fun _ H=>q_e ?_))
  obtain rfl:=sj hr
  exact ⟨rfl,⟨sp6,H.tq,K.keep [true]⟩⟩
 rintro e fr st ⟨rfl,r7sp0,H,K⟩
 refine W_seq (W_reg (q_g 1 [(19,vL tS r7 r7sp0)] H fun _ H=>?_))
 obtain ⟨x8,hx8,hr⟩:=obind hr
 refine q_c (join_R r7 (bs [32]) x8 hx8 (sp:=r7sp0)) 0 [(20,vS x8)] H fun _ H=>q_g 1 [(2,vS x8)] H fun _ H=>q_e (W_ret ?_)
 obtain rfl:=sj hr
 exact q_r [vS x8] H K
def F184 (a0:ByteArray) (_:Bool) (a2:List UInt8) (a3:Int):Option (Int × Bool × (List UInt8) × Int) := (wrS a2 a0).bind fun x1 => some ((a0.size:Int),true,x1,a3)
theorem F184_R (a0:ByteArray) (a1:Bool) (a2:List UInt8) (a3:Int) (r:Int × Bool × (List UInt8) × Int) (hr:F184 a0 a1 a2 a3 = some r) {st:St} {rs:List Res} {i0:Nat} {p0:Spare} (K:HL st (.ownB 5 p0 a2 :: .obj i0 (.cells 77 [addrA i0 a1,vL tY a2 p0,vI a3]) :: rs)):∃ (q0:Spare) (st':St),R Tryz.prog AN 184 [.ptr i0 0,vS a0] st (.ret (.tuple [vI r.1,.sc .nilIface])) st'∧HL st' (.ownB 5 q0 r.2.2.1 :: .obj i0 (.cells 77 [addrA i0 r.2.1,vL tY r.2.2.1 q0,vI r.2.2.2]) :: rs):=by
 unfold F184 at hr
 suffices h:∃ v st',R Tryz.prog AN 184 [.ptr i0 0,vS a0] st (.ret v) st'∧(∃ (q0:Spare),v = (.tuple [vI r.1,.sc .nilIface])∧HL st' (.ownB 5 q0 r.2.2.1 :: .obj i0 (.cells 77 [addrA i0 r.2.1,vL tY r.2.2.1 q0,vI r.2.2.2]) :: rs)) by
  obtain ⟨v,st',hR,q0,rfl,K⟩:=h
  exact ⟨q0,st',hR,K⟩
 refine R_bodyX (Post:=fun v st=>∃ (q0:Spare),v = (.tuple [vI r.1,.sc .nilIface])∧HL st (.ownB 5 q0 r.2.2.1 :: .obj i0 (.cells 77 [addrA i0 r.2.1,vL tY r.2.2.1 q0,vI r.2.2.2]) :: rs)) [(0,.ptr i0 0),(1,vS a0)] (by kernel_rfl) Tryz.func184 rfl (by kernel_rfl) rfl fun _ H=>W_seq (W_reg (q_g 2 [(0,.ptr i0 0),(1,vS a0)] H fun _ H=>q_e (W_seq (W_reg (q_g 1 [(0,.ptr i0 0),(1,vS a0),(6,.ptr i0 0)] H fun _ H=>?_)))))
 obtain ⟨st,hR,K⟩:=copyCheck_R (K.front 1 rfl)
 refine q_c hR 2 [(0,.ptr i0 0),(1,vS a0)] H fun _ H=>q_e (W_seq (W_reg (q_g 4 [(1,vS a0),(8,.ptr i0 0),(11,.ptr i0 1)] H fun _ H=>?_)))
 refine k_load (t:=55) (off:=1) 0 [(1,vS a0),(8,.ptr i0 0),(12,vL tY a2 p0)] H K rfl (v:=vL tY a2 p0) (by kernel_rfl) (fun _=>by kernel_rfl) fun _ H=>q_g 1 [(1,vS a0),(8,.ptr i0 0),(12,vL tY a2 p0),(13,vS a0)] H fun _ H=>?_
 obtain ⟨x1,hx1,hr⟩:=obind hr
 refine k_appS hx1 (t:=55) (t2:=9) 1 (fun sp2=>[(1,vS a0),(8,.ptr i0 0),(14,vL tY x1 sp2)]) H K rfl (by kernel_rfl) (by kernel_rfl) (by kernel_rfl) (fun _ _=>by kernel_rfl) fun sp2 st K fr H=>q_g 2 [(1,vS a0),(14,vL tY x1 sp2),(16,.ptr i0 1)] H fun _ H=>?_
 refine k_store (t:=55) (off:=1) (v:=vL tY x1 sp2) (cs':=[addrA i0 true,vL tY x1 sp2,vI a3]) 0 [(1,vS a0)] H K rfl (by kernel_rfl) (fun _=>by kernel_rfl) fun st K fr H=>q_e (W_seq (W_reg (q_g 4 [(4,vI (a0.size:Int)),(5,.sc .nilIface)] H fun _ H=>q_e (W_ret ?_))))
 obtain rfl:=sj hr
 show endsB _ Tryz.f184 _ .ret _ _
 refine e_retB [vI (a0.size:Int),.sc .nilIface] H K (fun _=>resT (by kernel_rfl) (resT (by kernel_rfl) resN)) ?_
 exact ⟨sp2,rfl,(((K.keep [true,true]).front 0 rfl).front 1 rfl)⟩
def F127 (n:Nat) (a0:List ByteArray) (a1:Bool) (a2:List UInt8) (a3:Int):Option (Bool × (List UInt8) × Int) := (repeatF (bs [32,32]) a3).bind fun x1 => (F184 x1 a1 a2 a3).bind fun x2 => (F85 n a0).bind fun x4 => (F184 x4 x2.2.1 x2.2.2.1 x2.2.2.2).bind fun x5 => (F184 (bs [10]) x5.2.1 x5.2.2.1 x5.2.2.2).bind fun x7 => some (x7.2.1,x7.2.2.1,x7.2.2.2)
theorem F127_R (n:Nat) (a0:List ByteArray) (a1:Bool) (a2:List UInt8) (a3:Int) (r:Bool × (List UInt8) × Int) (hr:F127 n a0 a1 a2 a3 = some r) {st:St} {rs:List Res} {i0:Nat} {p0 p1:Spare} (K:HL st (.own p0 :: .ownB 5 p1 a2 :: .obj i0 (.cells 77 [addrA i0 a1,vL tY a2 p1,vI a3]) :: rs)):∃ (q0:Spare) (st':St),R Tryz.prog AN 127 [.ptr i0 0,vL tS a0 p0] st (.ret (.tuple [])) st'∧HL st' (.ownB 5 q0 r.2.1 :: .obj i0 (.cells 77 [addrA i0 r.1,vL tY r.2.1 q0,vI r.2.2]) :: rs):=by
 unfold F127 at hr
 suffices h:∃ v st',R Tryz.prog AN 127 [.ptr i0 0,vL tS a0 p0] st (.ret v) st'∧(∃ (q0:Spare),v = (.tuple [])∧HL st' (.ownB 5 q0 r.2.1 :: .obj i0 (.cells 77 [addrA i0 r.1,vL tY r.2.1 q0,vI r.2.2]) :: rs)) by
  obtain ⟨v,st',hR,q0,rfl,K⟩:=h
  exact ⟨q0,st',hR,K⟩
 refine R_bodyX (Post:=fun v st=>∃ (q0:Spare),v = (.tuple [])∧HL st (.ownB 5 q0 r.2.1 :: .obj i0 (.cells 77 [addrA i0 r.1,vL tY r.2.1 q0,vI r.2.2]) :: rs)) [(0,.ptr i0 0),(1,vL tS a0 p0)] (by kernel_rfl) Tryz.func127 rfl (by kernel_rfl) rfl fun _ H=>W_seq (W_drw (q_g 6 [(0,.ptr i0 0),(1,vL tS a0 p0),(6,.ptr i0 0),(9,.ptr i0 2)] H fun _ H=>?_))
 refine k_load (t:=3) (off:=2) 2 [(0,.ptr i0 0),(1,vL tS a0 p0),(6,.ptr i0 0),(10,vI a3)] H K rfl (v:=vI a3) (by kernel_rfl) (fun _=>by kernel_rfl) fun _ H=>?_
 obtain ⟨x1,hx1,hr⟩:=obind hr
 refine q_c (repeat_R (bs [32,32]) a3 x1 hx1) 0 [(0,.ptr i0 0),(1,vL tS a0 p0),(6,.ptr i0 0),(11,vS x1)] H fun _ H=>?_
 obtain ⟨x2,hx2,hr⟩:=obind hr
 obtain ⟨sp3,st,hR,K⟩:=F184_R  x1 a1 a2 a3 x2 hx2 (i0:=i0) (p0:=p1) ((K.front 2 rfl).front 2 rfl)
 refine q_c hR 2 [(0,.ptr i0 0),(1,vL tS a0 p0)] H fun _ H=>q_e (q_d (W_seq (W_drw (q_g 4 [(0,.ptr i0 0),(15,.ptr i0 0),(16,vL tS a0 p0)] H fun _ H=>?_))))
 obtain ⟨x4,hx4,hr⟩:=obind hr
 refine q_c (F85_R n a0 x4 hx4 (p0:=p0)) 0 [(0,.ptr i0 0),(15,.ptr i0 0),(17,vS x4)] H fun _ H=>?_
 obtain ⟨x5,hx5,hr⟩:=obind hr
 obtain ⟨sp6,st,hR,K⟩:=F184_R  x4 x2.2.1 x2.2.2.1 x2.2.2.2 x5 hx5 (i0:=i0) (p0:=sp3) ((K.front 1 rfl).front 1 rfl)
 refine q_c hR 2 [(0,.ptr i0 0)] H fun _ H=>q_e (q_d (W_reg (q_g 3 [(21,.ptr i0 0)] H fun _ H=>?_)))
 obtain ⟨x7,hx7,hr⟩:=obind hr
 obtain ⟨sp8,st,hR,K⟩:=F184_R  (bs [10]) x5.2.1 x5.2.2.1 x5.2.2.2 x7 hx7 (i0:=i0) (p0:=sp6) ((K.front 1 rfl).front 1 rfl)
 refine q_c hR 2 [] H fun _ H=>q_e ?_
 obtain rfl:=sj hr
 show endsB _ Tryz.f127 _ .normal _ _
 refine e_normalB [] H K (fun _=>resN) ?_
 exact ⟨sp8,rfl,(K.keep [true,true,false])⟩
def F125 (n:Nat) (a0:Node):Option ByteArray := (itoaF a0.n).bind fun x1 => (F85 n ([a0.name,(bs [58]),x1]:List ByteArray)).bind fun x2 => some x2
theorem F125_R (n:Nat) (a0:Node) (r:ByteArray) (hr:F125 n a0 = some r) {st:St} {p0:Spare}:R Tryz.prog AN 125 [.agg (cNode p0 a0)] st (.ret (vS r)) st:=by
 unfold F125 at hr
 refine R_pureX [aN a0] [(0,aN a0)] (by kernel_rfl) Tryz.func125 rfl (by kernel_rfl) (by simp only [strip,stripL,stripL_cNode,Option.bind_some,Option.map_some]) rfl fun fr st H K=>W_seq (W_reg (q_g 2 [(1,cN a0 0)] H fun _ H=>q_e (W_seq (W_drw (q_g 4 [(4,vS a0.name),(6,vI a0.n)] H fun _ H=>?_)))))
 obtain ⟨x1,hx1,hr⟩:=obind hr
 refine q_c (itoa_R a0.n x1 hx1) 0 [(4,vS a0.name),(7,vS x1)] H fun _ H=>?_
 refine q_v (.buildSlice 30 3 [(0,vS a0.name),(1,vS (bs [58])),(2,vS x1)]) [(8,vL tS ([a0.name,(bs [58]),x1]:List ByteArray) .full)] H (run_bslice (v:=vL tS ([a0.name,(bs [58]),x1]:List ByteArray) .full) (v0:=.slice [vS a0.name,vS (bs [58]),vS x1] .full) (by kernel_rfl) (rfl)) fun _ H=>?_
 obtain ⟨x2,hx2,hr⟩:=obind hr
 refine q_c (F85_R n ([a0.name,(bs [58]),x1]:List ByteArray) x2 hx2 (p0:=.full)) 0 [(9,vS x2)] H fun _ H=>q_g 1 [(2,vS x2)] H fun _ H=>q_e (q_d (W_ret ?_))
 obtain rfl:=sj hr
 exact q_r [vS x2] H K
def F124 (n:Nat) (a0:List Node):Option ByteArray := (iter (σ:=(List ByteArray) × Int) (ρ:=((List ByteArray))) (fun s1=>bif decide (s1.2 < (a0.length:Int)) then ((idxL a0 s1.2).bind fun x3 => (F125 n x3).bind fun x5 => (appL 16 s1.1 ([x5]:List ByteArray)).bind fun x6 => some (.inl (x6,w64 (s1.2 + 1)))) else (some (.inr s1.1))) n (([]:List ByteArray),(0:Int))).bind fun r8 => (joinF r8 (bs [44,32])).bind fun x9 => some x9
theorem F124_R (n:Nat) (a0:List Node) (r:ByteArray) (hr:F124 n a0 = some r) {st:St} {p0:Spare}:R Tryz.prog AN 124 [vL tNode a0 p0,.fn 125 [] []] st (.ret (vS r)) st:=by
 unfold F124 at hr
 refine R_pureX [vL tNode a0 .shut,.fn 125 [] []] [(0,vL tNode a0 .shut),(1,.fn 125 [] [])] (by kernel_rfl) Tryz.func124 rfl (by kernel_rfl) (by simp only [strip,stripL,stripL_ET,Option.bind_some,Option.map_some]) rfl fun fr st H K=>W_seq (W_reg (q_g 1 [(0,vL tNode a0 .shut),(1,.fn 125 [] [])] H fun _ H=>q_e (W_seq (W_reg (q_g 1 [(0,vL tNode a0 .shut),(1,.fn 125 [] []),(5,vL tS ([]:List ByteArray) .nil)] H fun _ H=>q_e (W_seq (W_seq (W_reg (q_g 1 [(1,.fn 125 [] []),(5,vL tS ([]:List ByteArray) .nil),(8,vL tNode a0 .shut)] H fun _ H=>?_)))))))))
 refine q_v (.len 22 (vL tNode a0 .shut)) [(1,.fn 125 [] []),(5,vL tS ([]:List ByteArray) .nil),(8,vL tNode a0 .shut),(9,vI (a0.length:Int))] H (run_len tNode (by kernel_rfl)) fun _ H=>q_g 1 [(1,.fn 125 [] []),(5,vL tS ([]:List ByteArray) .nil),(8,vL tNode a0 .shut),(9,vI (a0.length:Int)),(10,vI 0)] H fun _ H=>q_e (W_block ?_)
 obtain ⟨r8,hr8,hr⟩:=obind hr
 refine W_iter hr8 (fun (s1:(List ByteArray) × Int) fr st=>∃ (s1sp0:Spare),Rd fr [(1,.fn 125 [] []),(5,vL tS s1.1 s1sp0),(8,vL tNode a0 .shut),(9,vI (a0.length:Int)),(10,vI s1.2)]∧HL st [.own s1sp0]) (fun (r8:((List ByteArray))) e fr st=>e = .exit 0∧∃ (r8sp0:Spare),Rd fr [(5,vL tS r8 r8sp0)]∧HL st [.own r8sp0]) ⟨.nil,H.tq,((K.keep []).nilo)⟩ ?_ ?_
 ·intro s1 fr st r hi hr
  obtain ⟨s1sp0,H,K⟩:=hi
  refine W_seq (W_reg (q_g 1 [(1,.fn 125 [] []),(5,vL tS s1.1 s1sp0),(8,vL tNode a0 .shut),(9,vI (a0.length:Int)),(10,vI s1.2),(11,vB (decide (s1.2 < (a0.length:Int))))] H fun _ H=>q_e (W_seq ?_)))
  rcases csplit hr with ⟨c2,hr⟩|⟨c2,hr⟩
  rotate_left
  ·refine q_F H c2 ?_
   refine W_exit ?_
   obtain rfl:=sj hr
   exact ⟨by simp,⟨rfl,s1sp0,H.tq,K.keep [true]⟩⟩
  refine q_T H c2 (W_skip (W_seq (W_block (W_seq (W_reg ?_)))))
  obtain ⟨x3,hx3,hr⟩:=obind hr
  refine q_v (.indexAddr 22 (vL tNode a0 .shut) (vI s1.2)) [(1,.fn 125 [] []),(5,vL tS s1.1 s1sp0),(8,vL tNode a0 .shut),(9,vI (a0.length:Int)),(10,vI s1.2),(12,cN x3 0)] H (run_idxL tNode (by kernel_rfl) hx3) fun _ H=>q_g 1 [(1,.fn 125 [] []),(5,vL tS s1.1 s1sp0),(8,vL tNode a0 .shut),(9,vI (a0.length:Int)),(10,vI s1.2),(13,aN x3)] H fun _ H=>?_
  refine k_alloc (t:=24) (cs:=[vI 0,vS (bs []),vS (bs []),vI 0,vI 0,vI 0,vB false,vL tNode ([]:List Node) .nil,vI 0]) (fun id4=>[(1,.fn 125 [] []),(5,vL tS s1.1 s1sp0),(7,.ptr id4 0),(8,vL tNode a0 .shut),(9,vI (a0.length:Int)),(10,vI s1.2),(13,aN x3)]) H K (by kernel_rfl) (fun _ _=>by kernel_rfl) fun id4 st K fr H=>?_
  refine k_store (t:=24) (off:=0) (v:=aN x3) (cs':=[vI x3.kind,vS x3.name,vS x3.other,vI x3.n,vI x3.len,vI x3.init,vB x3.ghost,kN x3,vI x3.pos]) 0 [(1,.fn 125 [] []),(5,vL tS s1.1 s1sp0),(7,.ptr id4 0),(8,vL tNode a0 .shut),(9,vI (a0.length:Int)),(10,vI s1.2)] H K rfl (by kernel_rfl) (fun _=>by kernel_rfl) fun st K fr H=>q_e (W_reg (q_g 2 [(1,.fn 125 [] []),(7,.ptr id4 0),(8,vL tNode a0 .shut),(9,vI (a0.length:Int)),(10,vI s1.2),(14,vL tS s1.1 s1sp0),(15,.fn 125 [] [])] H fun _ H=>?_))
  refine k_load (t:=24) (off:=0) 0 [(1,.fn 125 [] []),(8,vL tNode a0 .shut),(9,vI (a0.length:Int)),(10,vI s1.2),(14,vL tS s1.1 s1sp0),(15,.fn 125 [] []),(16,aN x3)] H K rfl (v:=aN x3) (by kernel_rfl) (fun _=>by kernel_rfl) fun _ H=>?_
  obtain ⟨x5,hx5,hr⟩:=obind hr
  refine q_c (F125_R n x3 x5 hx5 (p0:=.shut)) 0 [(1,.fn 125 [] []),(8,vL tNode a0 .shut),(9,vI (a0.length:Int)),(10,vI s1.2),(14,vL tS s1.1 s1sp0),(17,vS x5)] H fun _ H=>?_
  refine q_v (.buildSlice 30 1 [(0,vS x5)]) [(1,.fn 125 [] []),(8,vL tNode a0 .shut),(9,vI (a0.length:Int)),(10,vI s1.2),(14,vL tS s1.1 s1sp0),(18,vL tS ([x5]:List ByteArray) .full)] H (run_bslice (v:=vL tS ([x5]:List ByteArray) .full) (v0:=.slice [vS x5] .full) (by kernel_rfl) (rfl)) fun _ H=>?_
  obtain ⟨x6,hx6,hr⟩:=obind hr
  refine k_app tS hx6 (t:=30) (t2:=30) (sp2:=.full) 1 (fun sp7=>[(1,.fn 125 [] []),(8,vL tNode a0 .shut),(9,vI (a0.length:Int)),(10,vI s1.2),(19,vL tS x6 sp7)]) H K rfl (by kernel_rfl) (fun _ _=>by kernel_rfl) fun sp7 st K fr H=>q_g 1 [(1,.fn 125 [] []),(5,vL tS x6 sp7),(8,vL tNode a0 .shut),(9,vI (a0.length:Int)),(10,vI s1.2)] H fun _ H=>q_e (W_reg (q_g 2 [(1,.fn 125 [] []),(5,vL tS x6 sp7),(8,vL tNode a0 .shut),(9,vI (a0.length:Int)),(10,vI (w64 (s1.2 + 1)))] H fun _ H=>q_e ?_))
  obtain rfl:=sj hr
  exact ⟨rfl,⟨sp7,H.tq,K.keep [false,true]⟩⟩
 rintro e fr st ⟨rfl,r8sp0,H,K⟩
 refine W_seq (W_reg (q_g 1 [(21,vL tS r8 r8sp0)] H fun _ H=>?_))
 obtain ⟨x9,hx9,hr⟩:=obind hr
 refine q_c (join_R r8 (bs [44,32]) x9 hx9 (sp:=r8sp0)) 0 [(22,vS x9)] H fun _ H=>q_g 1 [(4,vS x9)] H fun _ H=>q_e (W_ret ?_)
 obtain rfl:=sj hr
 exact q_r [vS x9] H K
def F82 (a0:List ByteArray):Option ByteArray := (joinF a0 (bs [])).bind fun x1 => some x1
theorem F82_R (a0:List ByteArray) (r:ByteArray) (hr:F82 a0 = some r) {st:St} {p0:Spare}:R Tryz.prog AN 82 [vL tS a0 p0] st (.ret (vS r)) st:=by
 unfold F82 at hr
 refine R_pureX [vL tS a0 .shut] [(0,vL tS a0 .shut)] (by kernel_rfl) Tryz.func82 rfl (by kernel_rfl) (by simp only [strip,stripL,stripL_ET,Option.bind_some,Option.map_some]) rfl fun fr st H K=>W_seq (W_reg (q_g 1 [(0,vL tS a0 .shut)] H fun _ H=>q_e (W_seq (W_reg (q_g 1 [(3,vL tS a0 .shut)] H fun _ H=>?_)))))
 obtain ⟨x1,hx1,hr⟩:=obind hr
 refine q_c (join_R a0 (bs []) x1 hx1 (sp:=.shut)) 0 [(4,vS x1)] H fun _ H=>q_g 1 [(2,vS x1)] H fun _ H=>q_e (W_ret ?_)
 obtain rfl:=sj hr
 exact q_r [vS x1] H K
def F126 (n:Nat) (a0:Bool) (a1:List ByteArray):Option ByteArray := bif !a0 then (some (bs [])) else ((F85 n a1).bind fun x2 => some x2)
theorem F126_R (n:Nat) (a0:Bool) (a1:List ByteArray) (r:ByteArray) (hr:F126 n a0 a1 = some r) {st:St} {p0:Spare}:R Tryz.prog AN 126 [vB a0,vL tS a1 p0] st (.ret (vS r)) st:=by
 unfold F126 at hr
 refine R_pureX [vB a0,vL tS a1 .shut] [(0,vB a0),(1,vL tS a1 .shut)] (by kernel_rfl) Tryz.func126 rfl (by kernel_rfl) (by simp only [strip,stripL,stripL_ET,Option.bind_some,Option.map_some]) rfl fun fr st H K=>W_seq (W_reg (q_g 1 [(0,vB a0),(1,vL tS a1 .shut)] H fun _ H=>q_e (W_seq (W_seq (W_reg (q_g 2 [(1,vL tS a1 .shut),(6,vB !a0)] H fun _ H=>q_e ?_))))))
 rcases csplit hr with ⟨c1,hr⟩|⟨c1,hr⟩
 ·refine q_T H c1 (W_seq (W_reg (q_g 1 [(4,vS (bs []))] H fun _ H=>q_e (W_ret ?_))))
  obtain rfl:=sj hr
  exact q_r [vS (bs [])] H K
 refine q_F H c1 (W_skip (W_seq (W_reg (q_g 1 [(7,vL tS a1 .shut)] H fun _ H=>?_))))
 obtain ⟨x2,hx2,hr⟩:=obind hr
 refine q_c (F85_R n a1 x2 hx2 (p0:=.shut)) 0 [(8,vS x2)] H fun _ H=>q_g 1 [(4,vS x2)] H fun _ H=>q_e (W_ret ?_)
 obtain rfl:=sj hr
 exact q_r [vS x2] H K
def F84 (n:Nat) (a0:ByteArray):Option (ByteArray × Int × Int × Int) := (iter (σ:=Int) (ρ:=(ByteArray × Int × Int × Int) ⊕ Unit) (fun s2=>bif decide (s2 < 13) then ((idxL ruleTab s2).bind fun x4 => bif strEq x4.1 a0 then (some (.inr (.inl (x4.1,x4.2.1,x4.2.2.1,x4.2.2.2)))) else (some (.inl (w64 (s2 + 1))))) else (some (.inr (.inr ())))) n (0:Int)).bind fun r7=>match r7 with | .inl r7a=>some (r7a.1,r7a.2.1,r7a.2.2.1,r7a.2.2.2) | .inr _=>some ((bs []),(0:Int),(0:Int),(0:Int))
theorem F84_R (n:Nat) (a0:ByteArray) (r:ByteArray × Int × Int × Int) (hr:F84 n a0 = some r) {st:St}:R Tryz.prog AN 84 [vS a0] st (.ret (.agg [vS r.1,vI r.2.1,vI r.2.2.1,vI r.2.2.2])) st:=by
 unfold F84 at hr
 refine pK [vS a0] [(0,vS a0)] Tryz.func84 rfl fun fr st H K=>W_seq (W_reg ?_)
 refine k_alloc (t:=113) (cs:=[vS (bs []),vI 0,vI 0,vI 0]) (fun id1=>[(0,vS a0),(2,.ptr id1 0)]) H K (by kernel_rfl) (fun _ _=>by kernel_rfl) fun id1 st K fr H=>q_e (W_seq (W_seq (W_reg (q_g 2 [(0,vS a0),(2,.ptr id1 0),(5,.agg ruleCells),(6,vI 0)] H fun _ H=>q_e (W_block ?_)))))
 obtain ⟨r7,hr7,hr⟩:=obind hr
 refine W_iter hr7 (fun (s2:Int) fr st=>Rd fr [(0,vS a0),(2,.ptr id1 0),(5,.agg ruleCells),(6,vI s2)]∧HL st [.obj id1 (.cells 113 [vS (bs []),vI 0,vI 0,vI 0])]) (fun (r7:(ByteArray × Int × Int × Int) ⊕ Unit) e fr st=>match r7 with | .inl r7a=>(e = .ret∧Rd fr [(2,.ptr id1 0)]∧HL st [.obj id1 (.cells 113 [vS r7a.1,vI r7a.2.1,vI r7a.2.2.1,vI r7a.2.2.2])]) | .inr r7b=>(e = .exit 0∧Rd fr [(2,.ptr id1 0)]∧HL st [.obj id1 (.cells 113 [vS (bs []),vI 0,vI 0,vI 0])])) ⟨H.tq,K.keep [true]⟩ ?_ ?_
 ·intro s2 fr st r hi hr
  obtain ⟨H,K⟩:=hi
  refine W_seq (W_reg (q_g 1 [(0,vS a0),(2,.ptr id1 0),(5,.agg ruleCells),(6,vI s2),(7,vB (decide (s2 < 13)))] H fun _ H=>q_e (W_seq ?_)))
  rcases csplit hr with ⟨c3,hr⟩|⟨c3,hr⟩
  rotate_left
  ·refine q_F H c3 ?_
   refine W_exit ?_
   obtain rfl:=sj hr
   exact ⟨by simp,⟨rfl,H.tq,K.keep [true]⟩⟩
  refine q_T H c3 (W_skip (W_seq (W_block (W_seq (W_reg ?_)))))
  obtain ⟨x4,hx4,hr⟩:=obind hr
  refine q_v (.index 140 (.agg ruleCells) (vI s2)) [(0,vS a0),(2,.ptr id1 0),(5,.agg ruleCells),(6,vI s2),(8,.agg [vS x4.1,vI x4.2.1,vI x4.2.2.1,vI x4.2.2.2])] H (run_rule hx4) fun _ H=>?_
  refine k_alloc (t:=113) (cs:=[vS (bs []),vI 0,vI 0,vI 0]) (fun id5=>[(0,vS a0),(2,.ptr id1 0),(4,.ptr id5 0),(5,.agg ruleCells),(6,vI s2),(8,.agg [vS x4.1,vI x4.2.1,vI x4.2.2.1,vI x4.2.2.2])]) H K (by kernel_rfl) (fun _ _=>by kernel_rfl) fun id5 st K fr H=>?_
  refine k_store (t:=113) (off:=0) (v:=.agg [vS x4.1,vI x4.2.1,vI x4.2.2.1,vI x4.2.2.2]) (cs':=[vS x4.1,vI x4.2.1,vI x4.2.2.1,vI x4.2.2.2]) 0 [(0,vS a0),(2,.ptr id1 0),(4,.ptr id5 0),(5,.agg ruleCells),(6,vI s2)] H K rfl (by kernel_rfl) (fun _=>by kernel_rfl) fun st K fr H=>q_e (W_seq (W_reg (q_g 1 [(0,vS a0),(2,.ptr id1 0),(4,.ptr id5 0),(5,.agg ruleCells),(6,vI s2),(9,.ptr id5 0)] H fun _ H=>?_)))
  refine k_load (t:=9) (off:=0) 0 [(0,vS a0),(2,.ptr id1 0),(4,.ptr id5 0),(5,.agg ruleCells),(6,vI s2),(10,vS x4.1)] H K rfl (v:=vS x4.1) (by kernel_rfl) (fun _=>by kernel_rfl) fun _ H=>q_g 2 [(0,vS a0),(2,.ptr id1 0),(4,.ptr id5 0),(5,.agg ruleCells),(6,vI s2),(12,vB (strEq x4.1 a0))] H fun _ H=>q_e ?_
  rcases csplit hr with ⟨c6,hr⟩|⟨c6,hr⟩
  rotate_left
  ·refine q_F H c6 (W_skip (W_reg (q_g 2 [(0,vS a0),(2,.ptr id1 0),(5,.agg ruleCells),(6,vI (w64 (s2 + 1)))] H fun _ H=>q_e ?_)))
   obtain rfl:=sj hr
   exact ⟨rfl,⟨H.tq,K.keep [false,true]⟩⟩
  refine q_T H c6 (W_seq (W_reg ?_))
  refine k_load (t:=113) (off:=0) 0 [(2,.ptr id1 0),(13,.agg [vS x4.1,vI x4.2.1,vI x4.2.2.1,vI x4.2.2.2])] H K rfl (v:=.agg [vS x4.1,vI x4.2.1,vI x4.2.2.1,vI x4.2.2.2]) (by kernel_rfl) (fun _=>by kernel_rfl) fun _ H=>?_
  refine k_store (t:=113) (off:=0) (v:=.agg [vS x4.1,vI x4.2.1,vI x4.2.2.1,vI x4.2.2.2]) (cs':=[vS x4.1,vI x4.2.1,vI x4.2.2.1,vI x4.2.2.2]) 1 [(2,.ptr id1 0)] H K rfl (by kernel_rfl) (fun _=>by kernel_rfl) fun st K fr H=>q_e (W_ret ?_)
  obtain rfl:=sj hr
  exact ⟨by simp,⟨rfl,H.tq,K.keep [false,true]⟩⟩
 rcases r7 with r7a | r7b
 ·rintro e fr st ⟨rfl,H,K⟩
  obtain rfl:=sj hr
  exact e_ret [.agg [vS r7a.1,vI r7a.2.1,vI r7a.2.2.1,vI r7a.2.2.2]] H K (fun _=>resC id1 0 113 [vS r7a.1,vI r7a.2.1,vI r7a.2.2.1,vI r7a.2.2.2] 0 (by kernel_rfl) rfl (by kernel_rfl) resN) (fun _=>by kernel_rfl)
 rintro e fr st ⟨rfl,H,K⟩
 refine W_seq (W_reg (q_g 1 [(2,.ptr id1 0),(15,.agg [vS (bs []),vI 0,vI 0,vI 0])] H fun _ H=>?_))
 refine k_store (t:=113) (off:=0) (v:=.agg [vS (bs []),vI 0,vI 0,vI 0]) (cs':=[vS (bs []),vI 0,vI 0,vI 0]) 0 [(2,.ptr id1 0)] H K rfl (by kernel_rfl) (fun _=>by kernel_rfl) fun st K fr H=>q_e (W_ret ?_)
 obtain rfl:=sj hr
 exact e_ret [.agg [vS (bs []),vI 0,vI 0,vI 0]] H K (fun _=>resC id1 0 113 [vS (bs []),vI 0,vI 0,vI 0] 0 (by kernel_rfl) rfl (by kernel_rfl) resN) (fun _=>by kernel_rfl)
def F134 (n:Nat) (a0:Node):Option Int := (bif a0.kind == 7 then (some (a0.kind == 7)) else (some (a0.kind == 8)):Option (Bool)).bind fun j2 => bif j2 then (some (0:Int)) else (bif a0.kind == 6 then (some (1:Int)) else (bif a0.kind == 5 then ((F84 n a0.name).bind fun x6 => some x6.2.1) else (bif a0.kind == 4 then (some (11:Int)) else (some (12:Int)))))
theorem F134_R (n:Nat) (a0:Node) (r:Int) (hr:F134 n a0 = some r) {st:St} {p0:Spare}:R Tryz.prog AN 134 [.agg (cNode p0 a0)] st (.ret (vI r)) st:=by
 unfold F134 at hr
 refine R_pureX [aN a0] [(0,aN a0)] (by kernel_rfl) Tryz.func134 rfl (by kernel_rfl) (by simp only [strip,stripL,stripL_cNode,Option.bind_some,Option.map_some]) rfl fun fr st H K=>W_seq (W_reg (q_g 2 [(1,cN a0 0)] H fun _ H=>q_e (W_seq (W_seq (W_reg (q_g 2 [(1,cN a0 0),(4,vI a0.kind)] H fun _ H=>q_e (W_block (W_seq ?_))))))))
 obtain ⟨j2,hj2,hr⟩:=obind hr
 refine W_via (fun e fr st=>e = .normal∧Rd fr [(1,cN a0 0),(4,vI a0.kind),(5,vB j2)]∧HL st []) ?_ ?_
 ·replace hr:=hj2
  refine W_seq (W_reg (q_g 2 [(1,cN a0 0),(4,vI a0.kind),(5,vB (a0.kind == 7))] H fun _ H=>q_e ?_))
  rcases csplit hr with ⟨c1,hr⟩|⟨c1,hr⟩
  ·refine q_T H c1 (W_skip ?_)
   obtain rfl:=sj hr
   exact ⟨rfl,H.to (env':=_) (fun _=>by kernel_rfl),K.keep []⟩
  refine q_F H c1 (W_reg (q_g 2 [(1,cN a0 0),(4,vI a0.kind),(5,vB (a0.kind == 8))] H fun _ H=>q_e ?_))
  obtain rfl:=sj hr
  exact ⟨rfl,H.to (env':=_) (fun _=>by kernel_rfl),K.keep []⟩
 rintro e fr st ⟨rfl,H,K⟩
 rcases csplit hr with ⟨c3,hr⟩|⟨c3,hr⟩
 ·refine q_T H c3 (W_seq (W_reg (q_g 1 [(2,vI 0)] H fun _ H=>q_e (W_ret ?_))))
  obtain rfl:=sj hr
  exact q_r [vI 0] H K
 refine q_F H c3 (W_seq (W_reg (q_g 2 [(1,cN a0 0),(4,vI a0.kind),(8,vB (a0.kind == 6))] H fun _ H=>q_e ?_)))
 rcases csplit hr with ⟨c4,hr⟩|⟨c4,hr⟩
 ·refine q_T H c4 (W_seq (W_reg (q_g 1 [(2,vI 1)] H fun _ H=>q_e (W_ret ?_))))
  obtain rfl:=sj hr
  exact q_r [vI 1] H K
 refine q_F H c4 (W_seq (W_reg (q_g 2 [(1,cN a0 0),(4,vI a0.kind),(10,vB (a0.kind == 5))] H fun _ H=>q_e ?_)))
 rcases csplit hr with ⟨c5,hr⟩|⟨c5,hr⟩
 ·refine q_T H c5 (W_seq (W_reg (q_g 2 [(13,vS a0.name)] H fun _ H=>?_)))
  obtain ⟨x6,hx6,hr⟩:=obind hr
  refine q_c (F84_R n a0.name x6 hx6) 0 [(14,.agg [vS x6.1,vI x6.2.1,vI x6.2.2.1,vI x6.2.2.2])] H fun _ H=>q_g 2 [(2,vI x6.2.1)] H fun _ H=>q_e (W_ret ?_)
  obtain rfl:=sj hr
  exact q_r [vI x6.2.1] H K
 refine q_F H c5 (W_seq (W_reg (q_g 2 [(16,vB (a0.kind == 4))] H fun _ H=>q_e ?_)))
 rcases csplit hr with ⟨c7,hr⟩|⟨c7,hr⟩
 ·refine q_T H c7 (W_seq (W_reg (q_g 1 [(2,vI 11)] H fun _ H=>q_e (W_ret ?_))))
  obtain rfl:=sj hr
  exact q_r [vI 11] H K
 refine q_F H c7 (W_skip (W_seq (W_reg (q_g 1 [(2,vI 12)] H fun _ H=>q_e (W_ret ?_)))))
 obtain rfl:=sj hr
 exact q_r [vI 12] H K
end Go.Proofs.YtbecjgckobhmpaaGreatDoor
