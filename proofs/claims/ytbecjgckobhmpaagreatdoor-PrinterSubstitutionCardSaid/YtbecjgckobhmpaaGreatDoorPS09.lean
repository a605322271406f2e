/-
  Proved here: a part of what the claim needs (texts YGS1 of the prover's own).
-/
import Derived.Test.YtbecjgckobhmpaaGreatDoorPS08
namespace Go.Proofs.YtbecjgckobhmpaaGreatDoor
open Go Go.AM Go.Proofs
set_option maxRecDepth 100000
set_option maxHeartbeats 4000000
def F53 (n:Nat) (a0:Node):Option (ByteArray × Int) := (F31 n a0).bind fun x1 => bif !x1 || (a0.kind == 62) then (some ((bs []),(1:Int))) else ((F80 n a0).bind fun x3 => (F78 n x3).bind fun x4 => some (x4.1,x4.2))
theorem F53_R (n:Nat) (a0:Node) (r:ByteArray × Int) (hr:F53 n a0 = some r) {st:St} {p0:Spare}:R Tryz.prog AN 53 [.agg (cNode p0 a0)] st (.ret (.tuple [vS r.1,vI r.2])) st:=by
 unfold F53 at hr
 refine R_pureX [aN a0] [(0,aN a0)] (by kernel_rfl) Tryz.func53 rfl (by kernel_rfl) (by simp only [strip,stripL,stripL_cNode,Option.bind_some,Option.map_some]) rfl fun fr st H K=>W_seq (W_reg (q_g 3 [(1,cN a0 0)] H fun _ H=>q_e (W_seq (W_reg (q_g 1 [(1,cN a0 0),(5,aN a0)] H fun _ H=>?_)))))
 obtain ⟨x1,hx1,hr⟩:=obind hr
 refine q_c (F31_R n a0 x1 hx1 (p0:=.shut)) 0 [(1,cN a0 0),(6,vB x1)] H fun _ H=>q_g 1 [(1,cN a0 0),(4,vB x1)] H fun _ H=>q_e (W_seq (W_seq (W_reg (q_g 3 [(1,cN a0 0),(9,vB !x1)] H fun _ H=>?_))))
 refine k_g 4 [(1,cN a0 0),(13,vB (!x1 || (a0.kind == 62)))] H (fun _ _=>by generalize (!x1) = b0; cases b0 <;> kernel_rfl) fun _ H=>q_e ?_
 rcases csplit hr with ⟨c2,hr⟩|⟨c2,hr⟩
 ·refine q_T H c2 (W_seq (W_reg (q_g 2 [(2,vS (bs [])),(3,vI 1)] H fun _ H=>q_e (W_ret ?_))))
  obtain rfl:=sj hr
  exact e_ret [vS (bs []),vI 1] H K (fun _=>resT (by kernel_rfl) (resT (by kernel_rfl) resN)) (fun _=>by kernel_rfl)
 refine q_F H c2 (W_skip (W_seq (W_reg (q_g 1 [(14,aN a0)] H fun _ H=>?_))))
 obtain ⟨x3,hx3,hr⟩:=obind hr
 refine q_c (F80_R n a0 x3 hx3 (p0:=.shut)) 0 [(15,vS x3)] H fun _ H=>?_
 obtain ⟨x4,hx4,hr⟩:=obind hr
 refine q_c (F78_R n x3 x4 hx4) 0 [(16,.tuple [vS x4.1,vI x4.2])] H fun _ H=>q_g 4 [(2,vS x4.1),(3,vI x4.2)] H fun _ H=>q_e (W_ret ?_)
 obtain rfl:=sj hr
 exact e_ret [vS x4.1,vI x4.2] H K (fun _=>resT (by kernel_rfl) (resT (by kernel_rfl) resN)) (fun _=>by kernel_rfl)
def F21 (n:Nat) (a0:Node):Option Bool := (F45 n a0 (120:Int)).bind fun x1 => bif !x1 then (some false) else ((F53 n a0).bind fun x3 => some (x3.2 == 0))
theorem F21_R (n:Nat) (a0:Node) (r:Bool) (hr:F21 n a0 = some r) {st:St} {p0:Spare}:R Tryz.prog AN 21 [.agg (cNode p0 a0)] st (.ret (vB r)) st:=by
 unfold F21 at hr
 refine R_pureX [aN a0] [(0,aN a0)] (by kernel_rfl) Tryz.func21 rfl (by kernel_rfl) (by simp only [strip,stripL,stripL_cNode,Option.bind_some,Option.map_some]) rfl fun fr st H K=>W_seq (W_reg (q_g 2 [(1,cN a0 0)] H fun _ H=>q_e (W_seq (W_seq (W_reg (q_g 1 [(1,cN a0 0),(5,aN a0)] H fun _ H=>?_))))))
 obtain ⟨x1,hx1,hr⟩:=obind hr
 refine q_c (F45_R n a0 (120:Int) x1 hx1 (p0:=.shut)) 0 [(1,cN a0 0),(6,vB x1)] H fun _ H=>q_g 1 [(1,cN a0 0),(7,vB !x1)] H fun _ H=>q_e ?_
 rcases csplit hr with ⟨c2,hr⟩|⟨c2,hr⟩
 ·refine q_T H c2 (W_seq (W_reg (q_g 1 [(2,vB false)] H fun _ H=>q_e (W_ret ?_))))
  obtain rfl:=sj hr
  exact q_r [vB false] H K
 refine q_F H c2 (W_skip (W_seq (W_reg (q_g 1 [(9,aN a0)] H fun _ H=>?_))))
 obtain ⟨x3,hx3,hr⟩:=obind hr
 refine q_c (F53_R n a0 x3 hx3 (p0:=.shut)) 0 [(10,.tuple [vS x3.1,vI x3.2])] H fun _ H=>q_g 5 [(4,vI x3.2)] H fun _ H=>q_e (W_seq (W_reg (q_g 3 [(2,vB (x3.2 == 0))] H fun _ H=>q_e (W_ret ?_))))
 obtain rfl:=sj hr
 exact q_r [vB (x3.2 == 0)] H K
def F22_step (F22:Node→Int→Int→Option (Node × Node)) (_:Nat) (a0:Node) (a1:Int) (a2:Int):Option (Node × Node) := bif ((a0.kind == 3) || ((a0.kids.length:Int) == 0)) || ((Int.tmod a1 4) == 0) then (some ((Node.mk 1 (bs []) (bs []) a2 0 0 false ([]:List Node) 0),a0)) else ((remI (w64 (IntKind.u16.wrap (Int.tdiv a1 4))) (a0.kids.length:Int)).bind fun x4 => (idxL a0.kids x4).bind fun x5 => (F22 x5 (IntKind.u16.wrap (Int.tdiv a1 8)) a2).bind fun x6 => (newL 104 a0.kids).bind fun x10 => (idxL x10 x4).bind fun _ => (setL x10 x4 x6.1).bind fun x13 => some ((Node.mk a0.kind a0.name a0.other a0.n a0.len a0.init a0.ghost x13 a0.pos),x6.2))
def F22:Nat→Node→Int→Int→Option (Node × Node)
 | 0,_,_,_=>none
 | n + 1,a0,a1,a2=>F22_step (F22 n) n a0 a1 a2
theorem F22_RR (n:Nat):(∀ (a0:Node) (a1:Int) (a2:Int) (r:Node × Node),F22 n a0 a1 a2 = some r→∀ {st:St} {p0:Spare},R Tryz.prog AN 22 [.agg (cNode p0 a0),.sc (.int .u16 a1),vI a2] st (.ret (.tuple [aN r.1,aN r.2])) st):=by
 induction n with
 | zero=>(intros; contradiction)
 | succ n ih =>
  have ih_F22:=@ih; clear ih
  intro a0 a1 a2 r hr st p0
  change F22_step (F22 n) n a0 a1 a2 = some r at hr
  unfold F22_step at hr
  refine R_pureX [aN a0,.sc (.int .u16 a1),vI a2] [(0,aN a0),(1,.sc (.int .u16 a1)),(2,vI a2)] (by kernel_rfl) Tryz.func22 rfl (by kernel_rfl) (by simp only [strip,stripL,stripL_cNode,Option.bind_some,Option.map_some]) rfl fun fr st H K=>W_seq (W_reg (q_g 1 [(1,.sc (.int .u16 a1)),(2,vI a2),(3,cN a0 0)] H fun _ H=>?_))
  refine k_alloc (t:=24) (cs:=[vI 0,vS (bs []),vS (bs []),vI 0,vI 0,vI 0,vB false,vL tNode ([]:List Node) .nil,vI 0]) (fun id1=>[(1,.sc (.int .u16 a1)),(2,vI a2),(3,cN a0 0),(6,.ptr id1 0)]) H K (by kernel_rfl) (fun _ _=>by kernel_rfl) fun id1 st K fr H=>?_
  refine k_alloc (t:=24) (cs:=[vI 0,vS (bs []),vS (bs []),vI 0,vI 0,vI 0,vB false,vL tNode ([]:List Node) .nil,vI 0]) (fun id2=>[(1,.sc (.int .u16 a1)),(2,vI a2),(3,cN a0 0),(6,.ptr id1 0),(7,.ptr id2 0)]) H K (by kernel_rfl) (fun _ _=>by kernel_rfl) fun id2 st K fr H=>q_e (W_seq (W_reg (q_g 2 [(1,.sc (.int .u16 a1)),(2,vI a2),(3,cN a0 0),(6,.ptr id1 0),(7,.ptr id2 0),(14,kN a0)] H fun _ H=>?_)))
  refine q_v (.len 22 (kN a0)) [(1,.sc (.int .u16 a1)),(2,vI a2),(3,cN a0 0),(6,.ptr id1 0),(7,.ptr id2 0),(15,vI (a0.kids.length:Int))] H (run_len tNode (by kernel_rfl)) fun _ H=>q_g 1 [(1,.sc (.int .u16 a1)),(2,vI a2),(3,cN a0 0),(6,.ptr id1 0),(7,.ptr id2 0),(8,vI (a0.kids.length:Int))] H fun _ H=>q_e (W_seq (W_seq (W_reg (q_g 4 [(1,.sc (.int .u16 a1)),(2,vI a2),(3,cN a0 0),(6,.ptr id1 0),(7,.ptr id2 0),(8,vI (a0.kids.length:Int)),(19,vB (a0.kind == 3))] H fun _ H=>?_))))
  refine k_g 3 [(1,.sc (.int .u16 a1)),(2,vI a2),(3,cN a0 0),(6,.ptr id1 0),(7,.ptr id2 0),(8,vI (a0.kids.length:Int)),(22,vB ((a0.kind == 3) || ((a0.kids.length:Int) == 0)))] H (fun _ _=>by generalize (a0.kind == 3) = b0; cases b0 <;> kernel_rfl) fun _ H=>q_g 1 [(1,.sc (.int .u16 a1)),(2,vI a2),(3,cN a0 0),(6,.ptr id1 0),(7,.ptr id2 0),(8,vI (a0.kids.length:Int)),(23,vB ((a0.kind == 3) || ((a0.kids.length:Int) == 0)))] H fun _ H=>?_
  refine k_g 4 [(1,.sc (.int .u16 a1)),(2,vI a2),(3,cN a0 0),(6,.ptr id1 0),(7,.ptr id2 0),(8,vI (a0.kids.length:Int)),(27,vB (((a0.kind == 3) || ((a0.kids.length:Int) == 0)) || ((Int.tmod a1 4) == 0)))] H (fun _ _=>by generalize ((a0.kind == 3) || ((a0.kids.length:Int) == 0)) = b0; cases b0 <;> kernel_rfl) fun _ H=>q_e ?_
  rcases csplit hr with ⟨c3,hr⟩|⟨c3,hr⟩
  ·refine q_T H c3 (W_seq (W_drw (q_g 3 [(6,.ptr id1 0),(7,.ptr id2 0),(29,.agg [vI 1,vS (bs []),vS (bs []),vI a2,vI 0,vI 0,vB false,vL tNode ([]:List Node) .nil,vI 0]),(30,aN a0)] H fun _ H=>?_)))
   refine k_store (t:=24) (off:=0) (v:=.agg [vI 1,vS (bs []),vS (bs []),vI a2,vI 0,vI 0,vB false,vL tNode ([]:List Node) .nil,vI 0]) (cs':=[vI 1,vS (bs []),vS (bs []),vI a2,vI 0,vI 0,vB false,vL tNode ([]:List Node) .nil,vI 0]) 1 [(6,.ptr id1 0),(7,.ptr id2 0),(30,aN a0)] H K rfl (by kernel_rfl) (fun _=>by kernel_rfl) fun st K fr H=>?_
   refine k_store (t:=24) (off:=0) (v:=aN a0) (cs':=[vI a0.kind,vS a0.name,vS a0.other,vI a0.n,vI a0.len,vI a0.init,vB a0.ghost,kN a0,vI a0.pos]) 0 [(6,.ptr id1 0),(7,.ptr id2 0)] H K rfl (by kernel_rfl) (fun _=>by kernel_rfl) fun st K fr H=>q_e (q_d (W_ret ?_))
   obtain rfl:=sj hr
   exact e_ret [.agg [vI 1,vS (bs []),vS (bs []),vI a2,vI 0,vI 0,vB false,vL tNode ([]:List Node) .shut,vI 0],aN a0] H K (fun _=>resC id1 0 24 [vI 1,vS (bs []),vS (bs []),vI a2,vI 0,vI 0,vB false,vL tNode ([]:List Node) .nil,vI 0] 1 (by kernel_rfl) rfl (by kernel_rfl) (resC id2 0 24 [vI a0.kind,vS a0.name,vS a0.other,vI a0.n,vI a0.len,vI a0.init,vB a0.ghost,kN a0,vI a0.pos] 0 (by kernel_rfl) rfl (by kernel_rfl) resN)) (fun _=>by simp only [strip,stripL,stripL_cNode,stripL_ET,Option.bind_some,Option.map_some,oneOf] <;> rfl)
  refine q_F H c3 (W_skip (W_seq (W_reg (q_g 4 [(1,.sc (.int .u16 a1)),(2,vI a2),(3,cN a0 0),(6,.ptr id1 0),(7,.ptr id2 0),(33,vI (w64 (IntKind.u16.wrap (Int.tdiv a1 4)))),(34,vI (a0.kids.length:Int))] H fun _ H=>?_))))
  obtain ⟨x4,hx4,hr⟩:=obind hr
  refine q_v (.bin .rem 3 (.tmp 33) (.tmp 34) (vI (w64 (IntKind.u16.wrap (Int.tdiv a1 4)))) (vI (a0.kids.length:Int))) [(1,.sc (.int .u16 a1)),(2,vI a2),(3,cN a0 0),(6,.ptr id1 0),(7,.ptr id2 0),(35,vI x4)] H (run_rem hx4) fun _ H=>q_g 1 [(1,.sc (.int .u16 a1)),(2,vI a2),(3,cN a0 0),(6,.ptr id1 0),(7,.ptr id2 0),(9,vI x4)] H fun _ H=>q_e (W_seq (W_reg (q_g 3 [(1,.sc (.int .u16 a1)),(2,vI a2),(3,cN a0 0),(6,.ptr id1 0),(7,.ptr id2 0),(9,vI x4),(38,kN a0),(39,vI x4)] H fun _ H=>?_)))
  obtain ⟨x5,hx5,hr⟩:=obind hr
  refine q_v (.indexAddr 22 (kN a0) (vI x4)) [(1,.sc (.int .u16 a1)),(2,vI a2),(3,cN a0 0),(6,.ptr id1 0),(7,.ptr id2 0),(9,vI x4),(40,cN x5 0)] H (run_idxL tNode (by kernel_rfl) hx5) fun _ H=>q_g 4 [(3,cN a0 0),(6,.ptr id1 0),(7,.ptr id2 0),(9,vI x4),(41,aN x5),(43,.sc (.int .u16 (IntKind.u16.wrap (Int.tdiv a1 8)))),(44,vI a2)] H fun _ H=>?_
  obtain ⟨x6,hx6,hr⟩:=obind hr
  refine q_c (ih_F22 x5 (IntKind.u16.wrap (Int.tdiv a1 8)) a2 x6 hx6 (p0:=.shut)) 0 [(3,cN a0 0),(6,.ptr id1 0),(7,.ptr id2 0),(9,vI x4),(45,.tuple [aN x6.1,aN x6.2])] H fun _ H=>q_g 3 [(3,cN a0 0),(6,.ptr id1 0),(7,.ptr id2 0),(9,vI x4),(46,aN x6.1),(47,aN x6.2)] H fun _ H=>?_
  refine k_alloc (t:=24) (cs:=[vI 0,vS (bs []),vS (bs []),vI 0,vI 0,vI 0,vB false,vL tNode ([]:List Node) .nil,vI 0]) (fun id7=>[(3,cN a0 0),(6,.ptr id1 0),(7,.ptr id2 0),(9,vI x4),(10,.ptr id7 0),(46,aN x6.1),(47,aN x6.2)]) H K (by kernel_rfl) (fun _ _=>by kernel_rfl) fun id7 st K fr H=>?_
  refine k_alloc (t:=24) (cs:=[vI 0,vS (bs []),vS (bs []),vI 0,vI 0,vI 0,vB false,vL tNode ([]:List Node) .nil,vI 0]) (fun id8=>[(3,cN a0 0),(6,.ptr id1 0),(7,.ptr id2 0),(9,vI x4),(10,.ptr id7 0),(11,.ptr id8 0),(46,aN x6.1),(47,aN x6.2)]) H K (by kernel_rfl) (fun _ _=>by kernel_rfl) fun id8 st K fr H=>?_
  refine k_store (t:=24) (off:=0) (v:=aN x6.1) (cs':=[vI x6.1.kind,vS x6.1.name,vS x6.1.other,vI x6.1.n,vI x6.1.len,vI x6.1.init,vB x6.1.ghost,vL tNode x6.1.kids .shut,vI x6.1.pos]) 1 [(3,cN a0 0),(6,.ptr id1 0),(7,.ptr id2 0),(9,vI x4),(10,.ptr id7 0),(11,.ptr id8 0),(47,aN x6.2)] H K rfl (by kernel_rfl) (fun _=>by kernel_rfl) fun st K fr H=>?_
  refine k_store (t:=24) (off:=0) (v:=aN x6.2) (cs':=[vI x6.2.kind,vS x6.2.name,vS x6.2.other,vI x6.2.n,vI x6.2.len,vI x6.2.init,vB x6.2.ghost,vL tNode x6.2.kids .shut,vI x6.2.pos]) 0 [(3,cN a0 0),(6,.ptr id1 0),(7,.ptr id2 0),(9,vI x4),(10,.ptr id7 0),(11,.ptr id8 0)] H K rfl (by kernel_rfl) (fun _=>by kernel_rfl) fun st K fr H=>q_e (W_seq (W_reg (q_g 1 [(3,cN a0 0),(6,.ptr id1 0),(7,.ptr id2 0),(9,vI x4),(10,.ptr id7 0),(11,.ptr id8 0),(48,aN a0)] H fun _ H=>?_)))
  refine k_alloc (t:=24) (cs:=[vI 0,vS (bs []),vS (bs []),vI 0,vI 0,vI 0,vB false,vL tNode ([]:List Node) .nil,vI 0]) (fun id9=>[(3,cN a0 0),(6,.ptr id1 0),(7,.ptr id2 0),(9,vI x4),(10,.ptr id7 0),(11,.ptr id8 0),(12,.ptr id9 0),(48,aN a0)]) H K (by kernel_rfl) (fun _ _=>by kernel_rfl) fun id9 st K fr H=>?_
  refine k_store (t:=24) (off:=0) (v:=aN a0) (cs':=[vI a0.kind,vS a0.name,vS a0.other,vI a0.n,vI a0.len,vI a0.init,vB a0.ghost,kN a0,vI a0.pos]) 0 [(3,cN a0 0),(6,.ptr id1 0),(7,.ptr id2 0),(9,vI x4),(10,.ptr id7 0),(11,.ptr id8 0),(12,.ptr id9 0)] H K rfl (by kernel_rfl) (fun _=>by kernel_rfl) fun st K fr H=>q_e (W_seq (W_reg ?_))
  refine q_v (.buildSlice 22 0 []) [(3,cN a0 0),(6,.ptr id1 0),(7,.ptr id2 0),(9,vI x4),(10,.ptr id7 0),(11,.ptr id8 0),(12,.ptr id9 0),(49,vL tNode ([]:List Node) .full)] H (run_bslice (v:=vL tNode ([]:List Node) .full) (v0:=.slice [] .full) (by kernel_rfl) (by simp only [List.map,vL] <;> rfl)) fun _ H=>q_g 2 [(6,.ptr id1 0),(7,.ptr id2 0),(9,vI x4),(10,.ptr id7 0),(11,.ptr id8 0),(12,.ptr id9 0),(49,vL tNode ([]:List Node) .full),(51,kN a0)] H fun _ H=>?_
  obtain ⟨x10,hx10,hr⟩:=obind hr
  refine k_appO tNode eNode_eq (e:=24) (t:=22) (t2:=22) (sp2:=.shut) hx10 (fun id11=>[(6,.ptr id1 0),(7,.ptr id2 0),(9,vI x4),(10,.ptr id7 0),(11,.ptr id8 0),(12,.ptr id9 0),(52,.arr id11 x10.length 9)]) H K (by kernel_rfl) (by kernel_rfl) (fun _ _=>by kernel_rfl) fun id11 st K fr H=>q_g 1 [(6,.ptr id1 0),(7,.ptr id2 0),(9,vI x4),(10,.ptr id7 0),(11,.ptr id8 0),(12,.ptr id9 0),(52,.arr id11 x10.length 9),(53,.ptr id9 7)] H fun _ H=>?_
  refine k_store (t:=22) (off:=7) (v:=.arr id11 x10.length 9) (cs':=[vI a0.kind,vS a0.name,vS a0.other,vI a0.n,vI a0.len,vI a0.init,vB a0.ghost,.arr id11 x10.length 9,vI a0.pos]) 1 [(6,.ptr id1 0),(7,.ptr id2 0),(9,vI x4),(10,.ptr id7 0),(11,.ptr id8 0),(12,.ptr id9 0)] H K rfl (by kernel_rfl) (fun _=>by kernel_rfl) fun st K fr H=>q_e (W_seq (W_reg (q_g 1 [(6,.ptr id1 0),(7,.ptr id2 0),(9,vI x4),(10,.ptr id7 0),(11,.ptr id8 0),(12,.ptr id9 0),(54,.ptr id9 7)] H fun _ H=>?_)))
  refine k_load (t:=22) (off:=7) 1 [(6,.ptr id1 0),(7,.ptr id2 0),(9,vI x4),(10,.ptr id7 0),(11,.ptr id8 0),(12,.ptr id9 0),(55,.arr id11 x10.length 9)] H K rfl (v:=.arr id11 x10.length 9) (by kernel_rfl) (fun _=>by kernel_rfl) fun _ H=>q_g 1 [(6,.ptr id1 0),(7,.ptr id2 0),(10,.ptr id7 0),(11,.ptr id8 0),(12,.ptr id9 0),(55,.arr id11 x10.length 9),(56,vI x4)] H fun _ H=>?_
  refine k_load (t:=24) (off:=0) 3 [(6,.ptr id1 0),(7,.ptr id2 0),(11,.ptr id8 0),(12,.ptr id9 0),(55,.arr id11 x10.length 9),(56,vI x4),(57,aN x6.1)] H K rfl (v:=aN x6.1) (by kernel_rfl) (fun _=>by kernel_rfl) fun _ H=>?_
  obtain ⟨x12,hx12,hr⟩:=obind hr
  refine q_v (.indexAddr 22 (.arr id11 x10.length 9) (vI x4)) [(6,.ptr id1 0),(7,.ptr id2 0),(11,.ptr id8 0),(12,.ptr id9 0),(57,aN x6.1),(58,.ptr id11 (x4.toNat * 9))] H (run_idxO (by kernel_rfl) (idxL_b hx12).1 (idxL_b hx12).2) fun _ H=>?_
  obtain ⟨x13,hx13,hr⟩:=obind hr
  refine k_storeO tNode (t:=24) (v:=aN x6.1) hx13 0 [(6,.ptr id1 0),(7,.ptr id2 0),(11,.ptr id8 0),(12,.ptr id9 0)] H K rfl rfl (by kernel_rfl) (fun _=>by kernel_rfl) fun st K fr H=>q_e (W_seq (W_drw ?_))
  refine k_load (t:=24) (off:=0) 1 [(6,.ptr id1 0),(7,.ptr id2 0),(11,.ptr id8 0),(59,.agg [vI a0.kind,vS a0.name,vS a0.other,vI a0.n,vI a0.len,vI a0.init,vB a0.ghost,.arr id11 x10.length 9,vI a0.pos])] H K rfl (v:=.agg [vI a0.kind,vS a0.name,vS a0.other,vI a0.n,vI a0.len,vI a0.init,vB a0.ghost,.arr id11 x10.length 9,vI a0.pos]) (by kernel_rfl) (fun _=>by kernel_rfl) fun _ H=>?_
  refine k_load (t:=24) (off:=0) 2 [(6,.ptr id1 0),(7,.ptr id2 0),(59,.agg [vI a0.kind,vS a0.name,vS a0.other,vI a0.n,vI a0.len,vI a0.init,vB a0.ghost,.arr id11 x10.length 9,vI a0.pos]),(60,aN x6.2)] H K rfl (v:=aN x6.2) (by kernel_rfl) (fun _=>by kernel_rfl) fun _ H=>?_
  refine k_store (t:=24) (off:=0) (v:=.agg [vI a0.kind,vS a0.name,vS a0.other,vI a0.n,vI a0.len,vI a0.init,vB a0.ghost,.arr id11 x10.length 9,vI a0.pos]) (cs':=[vI a0.kind,vS a0.name,vS a0.other,vI a0.n,vI a0.len,vI a0.init,vB a0.ghost,.arr id11 x10.length 9,vI a0.pos]) 5 [(6,.ptr id1 0),(7,.ptr id2 0),(60,aN x6.2)] H K rfl (by kernel_rfl) (fun _=>by kernel_rfl) fun st K fr H=>?_
  refine k_store (t:=24) (off:=0) (v:=aN x6.2) (cs':=[vI x6.2.kind,vS x6.2.name,vS x6.2.other,vI x6.2.n,vI x6.2.len,vI x6.2.init,vB x6.2.ghost,vL tNode x6.2.kids .shut,vI x6.2.pos]) 4 [(6,.ptr id1 0),(7,.ptr id2 0)] H K rfl (by kernel_rfl) (fun _=>by kernel_rfl) fun st K fr H=>q_e (q_dI K [.look (some 1),.look (some 2),.put 5,.put 4] (W_ret ?_))
  obtain rfl:=sj hr
  exact e_retO [.agg [vI a0.kind,vS a0.name,vS a0.other,vI a0.n,vI a0.len,vI a0.init,vB a0.ghost,.arr id11 x10.length 9,vI a0.pos],aN x6.2] H K (fun _=>resC id1 0 24 [vI a0.kind,vS a0.name,vS a0.other,vI a0.n,vI a0.len,vI a0.init,vB a0.ghost,.arr id11 x10.length 9,vI a0.pos] 5 (by kernel_rfl) rfl (by kernel_rfl) (resC id2 0 24 [vI x6.2.kind,vS x6.2.name,vS x6.2.other,vI x6.2.n,vI x6.2.len,vI x6.2.init,vB x6.2.ghost,vL tNode x6.2.kids .shut,vI x6.2.pos] 4 (by kernel_rfl) rfl (by kernel_rfl) resN)) (fun st K=>strip_row K hx13 (by simp) a0 x6.2)
theorem F22_R (n:Nat) (a0:Node) (a1:Int) (a2:Int) (r:Node × Node) (hr:F22 n a0 a1 a2 = some r) {st:St} {p0:Spare}:R Tryz.prog AN 22 [.agg (cNode p0 a0),.sc (.int .u16 a1),vI a2] st (.ret (.tuple [aN r.1,aN r.2])) st:=(F22_RR n) a0 a1 a2 r hr
def F5 (n:Nat) (a0:Node) (a1:Int):Option Bool := (F17 n ).bind fun x1 => (F21 n a0).bind fun x4 => bif !x4 then (some x1) else ((F22 n a0 a1 (987654321:Int)).bind fun x6 => (F21 n x6.1).bind fun x7 => bif !x7 then (some x1) else ((F23 n a0).bind fun x9 => (F23 n x6.1).bind fun x10 => bif x10.2 != 0 then (some false) else ((F23 n x6.2).bind fun x12 => bif x12.2 != 0 then (some false) else ((iter (σ:=Int) (ρ:=Unit ⊕ Unit) (fun s14=>bif decide ((w64 (s14 + 9))≤(x10.1.size:Int)) then ((subS x10.1 s14 (w64 (s14 + 9))).bind fun x16 => bif strEq x16 (bs [57,56,55,54,53,52,51,50,49]) then ((subS x10.1 0 s14).bind fun x18 => (catS x18 x12.1).bind fun x19 => (subS x10.1 (w64 (s14 + 9)) (x10.1.size:Int)).bind fun x20 => (catS x19 x20).bind fun x21 => bif strEq x21 x9.1 then (some (.inr (.inl ()))) else ((subS x10.1 0 s14).bind fun x23 => (catS x23 (bs [40])).bind fun x24 => (catS x24 x12.1).bind fun x25 => (catS x25 (bs [41])).bind fun x26 => (subS x10.1 (w64 (s14 + 9)) (x10.1.size:Int)).bind fun x27 => (catS x26 x27).bind fun x28 => bif strEq x28 x9.1 then (some (.inr (.inl ()))) else (some (.inl (w64 (s14 + 1)))))) else (some (.inl (w64 (s14 + 1))))) else (some (.inr (.inr ())))) n (0:Int)).bind fun r30=>match r30 with | .inl _=>some x1 | .inr _=>some false))))
theorem F5_R (n:Nat) (a0:Node) (a1:Int) (r:Bool) (hr:F5 n a0 a1 = some r) {st:St} {p0:Spare}:R Tryz.prog AN 5 [.agg (cNode p0 a0),.sc (.int .u16 a1)] st (.ret (vB r)) st:=by
 unfold F5 at hr
 refine R_pureX [aN a0,.sc (.int .u16 a1)] [(0,aN a0),(1,.sc (.int .u16 a1))] (by kernel_rfl) Tryz.func5 rfl (by kernel_rfl) (by simp only [strip,stripL,stripL_cNode,Option.bind_some,Option.map_some]) rfl fun fr st H K=>W_seq (W_reg (q_g 2 [(1,.sc (.int .u16 a1)),(2,cN a0 0)] H fun _ H=>q_e (W_seq (W_reg ?_))))
 obtain ⟨x1,hx1,hr⟩:=obind hr
 refine q_c (F17_R n  x1 hx1) 0 [(1,.sc (.int .u16 a1)),(2,cN a0 0),(15,vB x1)] H fun _ H=>q_g 1 [(1,.sc (.int .u16 a1)),(2,cN a0 0),(5,vB x1)] H fun _ H=>q_e (W_seq (W_reg (q_g 2 [(1,.sc (.int .u16 a1)),(2,cN a0 0),(5,vB x1),(16,.agg [vI 0,vS (bs []),vS (bs []),vI 0,vI 0,vI 0,vB false,vL tNode ([]:List Node) .nil,vI 0]),(17,.agg [vI 0,vS (bs []),vS (bs []),vI 0,vI 0,vI 0,vB false,vL tNode ([]:List Node) .nil,vI 0])] H fun _ H=>?_)))
 refine k_alloc (t:=24) (cs:=[vI 0,vS (bs []),vS (bs []),vI 0,vI 0,vI 0,vB false,vL tNode ([]:List Node) .nil,vI 0]) (fun id2=>[(1,.sc (.int .u16 a1)),(2,cN a0 0),(5,vB x1),(6,.ptr id2 0),(16,.agg [vI 0,vS (bs []),vS (bs []),vI 0,vI 0,vI 0,vB false,vL tNode ([]:List Node) .nil,vI 0]),(17,.agg [vI 0,vS (bs []),vS (bs []),vI 0,vI 0,vI 0,vB false,vL tNode ([]:List Node) .nil,vI 0])]) H K (by kernel_rfl) (fun _ _=>by kernel_rfl) fun id2 st K fr H=>?_
 refine k_alloc (t:=24) (cs:=[vI 0,vS (bs []),vS (bs []),vI 0,vI 0,vI 0,vB false,vL tNode ([]:List Node) .nil,vI 0]) (fun id3=>[(1,.sc (.int .u16 a1)),(2,cN a0 0),(5,vB x1),(6,.ptr id2 0),(7,.ptr id3 0),(16,.agg [vI 0,vS (bs []),vS (bs []),vI 0,vI 0,vI 0,vB false,vL tNode ([]:List Node) .nil,vI 0]),(17,.agg [vI 0,vS (bs []),vS (bs []),vI 0,vI 0,vI 0,vB false,vL tNode ([]:List Node) .nil,vI 0])]) H K (by kernel_rfl) (fun _ _=>by kernel_rfl) fun id3 st K fr H=>?_
 refine k_store (t:=24) (off:=0) (v:=.agg [vI 0,vS (bs []),vS (bs []),vI 0,vI 0,vI 0,vB false,vL tNode ([]:List Node) .nil,vI 0]) (cs':=[vI 0,vS (bs []),vS (bs []),vI 0,vI 0,vI 0,vB false,vL tNode ([]:List Node) .nil,vI 0]) 1 [(1,.sc (.int .u16 a1)),(2,cN a0 0),(5,vB x1),(6,.ptr id2 0),(7,.ptr id3 0),(17,.agg [vI 0,vS (bs []),vS (bs []),vI 0,vI 0,vI 0,vB false,vL tNode ([]:List Node) .nil,vI 0])] H K rfl (by kernel_rfl) (fun _=>by kernel_rfl) fun st K fr H=>?_
 refine k_store (t:=24) (off:=0) (v:=.agg [vI 0,vS (bs []),vS (bs []),vI 0,vI 0,vI 0,vB false,vL tNode ([]:List Node) .nil,vI 0]) (cs':=[vI 0,vS (bs []),vS (bs []),vI 0,vI 0,vI 0,vB false,vL tNode ([]:List Node) .nil,vI 0]) 0 [(1,.sc (.int .u16 a1)),(2,cN a0 0),(5,vB x1),(6,.ptr id2 0),(7,.ptr id3 0)] H K rfl (by kernel_rfl) (fun _=>by kernel_rfl) fun st K fr H=>q_e (W_seq (W_seq (W_reg (q_g 1 [(1,.sc (.int .u16 a1)),(2,cN a0 0),(5,vB x1),(6,.ptr id2 0),(7,.ptr id3 0),(18,aN a0)] H fun _ H=>?_))))
 obtain ⟨x4,hx4,hr⟩:=obind hr
 refine q_c (F21_R n a0 x4 hx4 (p0:=.shut)) 0 [(1,.sc (.int .u16 a1)),(2,cN a0 0),(5,vB x1),(6,.ptr id2 0),(7,.ptr id3 0),(19,vB x4)] H fun _ H=>q_g 1 [(1,.sc (.int .u16 a1)),(2,cN a0 0),(5,vB x1),(6,.ptr id2 0),(7,.ptr id3 0),(20,vB !x4)] H fun _ H=>q_e ?_
 rcases csplit hr with ⟨c5,hr⟩|⟨c5,hr⟩
 ·refine q_T H c5 (W_seq (W_reg (q_g 2 [(4,vB x1)] H fun _ H=>q_e (W_ret ?_))))
  obtain rfl:=sj hr
  exact q_r [vB x1] H K
 refine q_F H c5 (W_skip (W_seq (W_reg (q_g 2 [(2,cN a0 0),(5,vB x1),(6,.ptr id2 0),(7,.ptr id3 0),(23,aN a0),(24,.sc (.int .u16 a1))] H fun _ H=>?_))))
 obtain ⟨x6,hx6,hr⟩:=obind hr
 refine q_c (F22_R n a0 a1 (987654321:Int) x6 hx6 (p0:=.shut)) 0 [(2,cN a0 0),(5,vB x1),(6,.ptr id2 0),(7,.ptr id3 0),(25,.tuple [aN x6.1,aN x6.2])] H fun _ H=>q_g 3 [(2,cN a0 0),(5,vB x1),(6,.ptr id2 0),(7,.ptr id3 0),(26,aN x6.1),(27,aN x6.2)] H fun _ H=>?_
 refine k_store (t:=24) (off:=0) (v:=aN x6.1) (cs':=[vI x6.1.kind,vS x6.1.name,vS x6.1.other,vI x6.1.n,vI x6.1.len,vI x6.1.init,vB x6.1.ghost,vL tNode x6.1.kids .shut,vI x6.1.pos]) 1 [(2,cN a0 0),(5,vB x1),(6,.ptr id2 0),(7,.ptr id3 0),(27,aN x6.2)] H K rfl (by kernel_rfl) (fun _=>by kernel_rfl) fun st K fr H=>?_
 refine k_store (t:=24) (off:=0) (v:=aN x6.2) (cs':=[vI x6.2.kind,vS x6.2.name,vS x6.2.other,vI x6.2.n,vI x6.2.len,vI x6.2.init,vB x6.2.ghost,vL tNode x6.2.kids .shut,vI x6.2.pos]) 0 [(2,cN a0 0),(5,vB x1),(6,.ptr id2 0),(7,.ptr id3 0)] H K rfl (by kernel_rfl) (fun _=>by kernel_rfl) fun st K fr H=>q_e (W_seq (W_seq (W_reg ?_)))
 refine k_load (t:=24) (off:=0) 1 [(2,cN a0 0),(5,vB x1),(6,.ptr id2 0),(7,.ptr id3 0),(28,aN x6.1)] H K rfl (v:=aN x6.1) (by kernel_rfl) (fun _=>by kernel_rfl) fun _ H=>?_
 obtain ⟨x7,hx7,hr⟩:=obind hr
 refine q_c (F21_R n x6.1 x7 hx7 (p0:=.shut)) 0 [(2,cN a0 0),(5,vB x1),(6,.ptr id2 0),(7,.ptr id3 0),(29,vB x7)] H fun _ H=>q_g 1 [(2,cN a0 0),(5,vB x1),(6,.ptr id2 0),(7,.ptr id3 0),(30,vB !x7)] H fun _ H=>q_e ?_
 rcases csplit hr with ⟨c8,hr⟩|⟨c8,hr⟩
 ·refine q_T H c8 (W_seq (W_reg (q_g 2 [(4,vB x1)] H fun _ H=>q_e (W_ret ?_))))
  obtain rfl:=sj hr
  exact q_r [vB x1] H K
 refine q_F H c8 (W_skip (W_seq (W_reg (q_g 1 [(5,vB x1),(6,.ptr id2 0),(7,.ptr id3 0),(33,aN a0)] H fun _ H=>?_))))
 obtain ⟨x9,hx9,hr⟩:=obind hr
 refine q_c (F23_R n a0 x9 hx9 (p0:=.shut)) 0 [(5,vB x1),(6,.ptr id2 0),(7,.ptr id3 0),(34,.tuple [vS x9.1,vI x9.2])] H fun _ H=>q_g 5 [(5,vB x1),(6,.ptr id2 0),(7,.ptr id3 0),(8,vS x9.1)] H fun _ H=>q_e (W_seq (W_reg ?_))
 refine k_load (t:=24) (off:=0) 1 [(5,vB x1),(7,.ptr id3 0),(8,vS x9.1),(38,aN x6.1)] H K rfl (v:=aN x6.1) (by kernel_rfl) (fun _=>by kernel_rfl) fun _ H=>?_
 obtain ⟨x10,hx10,hr⟩:=obind hr
 refine q_c (F23_R n x6.1 x10 hx10 (p0:=.shut)) 0 [(5,vB x1),(7,.ptr id3 0),(8,vS x9.1),(39,.tuple [vS x10.1,vI x10.2])] H fun _ H=>q_g 5 [(5,vB x1),(7,.ptr id3 0),(8,vS x9.1),(10,vS x10.1),(11,vI x10.2)] H fun _ H=>q_e (W_seq (W_seq (W_reg (q_g 2 [(5,vB x1),(7,.ptr id3 0),(8,vS x9.1),(10,vS x10.1),(43,vB (x10.2 != 0))] H fun _ H=>q_e ?_))))
 rcases csplit hr with ⟨c11,hr⟩|⟨c11,hr⟩
 ·refine q_T H c11 (W_seq (W_reg (q_g 1 [(4,vB false)] H fun _ H=>q_e (W_ret ?_))))
  obtain rfl:=sj hr
  exact q_r [vB false] H K
 refine q_F H c11 (W_skip (W_seq (W_reg ?_)))
 refine k_load (t:=24) (off:=0) 0 [(5,vB x1),(8,vS x9.1),(10,vS x10.1),(45,aN x6.2)] H K rfl (v:=aN x6.2) (by kernel_rfl) (fun _=>by kernel_rfl) fun _ H=>?_
 obtain ⟨x12,hx12,hr⟩:=obind hr
 refine q_c (F23_R n x6.2 x12 hx12 (p0:=.shut)) 0 [(5,vB x1),(8,vS x9.1),(10,vS x10.1),(46,.tuple [vS x12.1,vI x12.2])] H fun _ H=>q_g 5 [(5,vB x1),(8,vS x9.1),(10,vS x10.1),(12,vS x12.1),(13,vI x12.2)] H fun _ H=>q_e (W_seq (W_seq (W_reg (q_g 2 [(5,vB x1),(8,vS x9.1),(10,vS x10.1),(12,vS x12.1),(50,vB (x12.2 != 0))] H fun _ H=>q_e ?_))))
 rcases csplit hr with ⟨c13,hr⟩|⟨c13,hr⟩
 ·refine q_T H c13 (W_seq (W_reg (q_g 1 [(4,vB false)] H fun _ H=>q_e (W_ret ?_))))
  obtain rfl:=sj hr
  exact q_r [vB false] H K
 refine q_F H c13 (W_skip (W_seq (W_seq (W_reg (q_g 1 [(5,vB x1),(8,vS x9.1),(10,vS x10.1),(12,vS x12.1),(14,vI 0)] H fun _ H=>q_e (W_block ?_))))))
 obtain ⟨r30,hr30,hr⟩:=obind hr
 refine W_iter hr30 (fun (s14:Int) fr st=>Rd fr [(5,vB x1),(8,vS x9.1),(10,vS x10.1),(12,vS x12.1),(14,vI s14)]∧HL st []) (fun (r30:Unit ⊕ Unit) e fr st=>match r30 with | .inl r30a=>(e = .ret∧Rd fr [(4,vB x1)]∧HL st []) | .inr r30b=>(e = .exit 0∧Rd fr []∧HL st [])) ⟨H.tq,K.keep [false,false]⟩ ?_ ?_
 ·intro s14 fr st r hi hr
  obtain ⟨H,K⟩:=hi
  refine W_seq (W_seq (W_reg (q_g 5 [(5,vB x1),(8,vS x9.1),(10,vS x10.1),(12,vS x12.1),(14,vI s14),(55,vB (decide ((w64 (s14 + 9))≤(x10.1.size:Int))))] H fun _ H=>q_e ?_)))
  rcases csplit hr with ⟨c15,hr⟩|⟨c15,hr⟩
  rotate_left
  ·refine q_F H c15 ?_
   refine W_exit ?_
   obtain rfl:=sj hr
   exact ⟨by simp,⟨rfl,H.tq,K.keep []⟩⟩
  refine q_T H c15 (W_skip (W_seq (W_block (W_seq (W_drw (q_g 4 [(5,vB x1),(8,vS x9.1),(10,vS x10.1),(12,vS x12.1),(14,vI s14),(58,vS x10.1),(59,vI s14),(61,vI (w64 (s14 + 9)))] H fun _ H=>?_))))))
  obtain ⟨x16,hx16,hr⟩:=obind hr
  refine q_v (.slice 9 (vS x10.1) (some (vI s14)) (some (vI (w64 (s14 + 9))))) [(5,vB x1),(8,vS x9.1),(10,vS x10.1),(12,vS x12.1),(14,vI s14),(62,vS x16)] H (run_subS (by kernel_rfl) hx16) fun _ H=>q_g 2 [(5,vB x1),(8,vS x9.1),(10,vS x10.1),(12,vS x12.1),(14,vI s14),(64,vB (strEq x16 (bs [57,56,55,54,53,52,51,50,49])))] H fun _ H=>?_
  rcases csplit hr with ⟨c17,hr⟩|⟨c17,hr⟩
  rotate_left
  ·rw [c17] at H
   refine q_g 29 [(5,vB x1),(8,vS x9.1),(10,vS x10.1),(12,vS x12.1),(14,vI s14),(93,vB false)] H fun _ H=>q_e (q_d (q_F H rfl (W_skip (W_reg (q_g 3 [(5,vB x1),(8,vS x9.1),(10,vS x10.1),(12,vS x12.1),(14,vI (w64 (s14 + 1)))] H fun _ H=>q_e ?_)))))
   obtain rfl:=sj hr
   exact ⟨rfl,⟨H.tq,K.keep []⟩⟩
  rw [c17] at H
  refine q_g 2 [(5,vB x1),(8,vS x9.1),(10,vS x10.1),(12,vS x12.1),(14,vI s14),(64,vB true),(65,vS x10.1),(66,vI s14)] H fun _ H=>?_
  obtain ⟨x18,hx18,hr⟩:=obind hr
  refine q_v (.slice 9 (vS x10.1) none (some (vI s14))) [(5,vB x1),(8,vS x9.1),(10,vS x10.1),(12,vS x12.1),(14,vI s14),(64,vB true),(67,vS x18)] H (run_subS_hi (by kernel_rfl) hx18) fun _ H=>q_g 1 [(5,vB x1),(8,vS x9.1),(10,vS x10.1),(12,vS x12.1),(14,vI s14),(64,vB true),(67,vS x18),(68,vS x12.1)] H fun _ H=>?_
  obtain ⟨x19,hx19,hr⟩:=obind hr
  refine q_v (.bin .add 9 (.tmp 67) (.tmp 68) (vS x18) (vS x12.1)) [(5,vB x1),(8,vS x9.1),(10,vS x10.1),(12,vS x12.1),(14,vI s14),(64,vB true),(69,vS x19)] H (run_cat hx19) fun _ H=>q_g 3 [(5,vB x1),(8,vS x9.1),(10,vS x10.1),(12,vS x12.1),(14,vI s14),(64,vB true),(69,vS x19),(70,vS x10.1),(72,vI (w64 (s14 + 9)))] H fun _ H=>?_
  obtain ⟨x20,hx20,hr⟩:=obind hr
  refine q_v (.slice 9 (vS x10.1) (some (vI (w64 (s14 + 9)))) none) [(5,vB x1),(8,vS x9.1),(10,vS x10.1),(12,vS x12.1),(14,vI s14),(64,vB true),(69,vS x19),(73,vS x20)] H (run_subS_lo (by kernel_rfl) hx20) fun _ H=>?_
  obtain ⟨x21,hx21,hr⟩:=obind hr
  refine q_v (.bin .add 9 (.tmp 69) (.tmp 73) (vS x19) (vS x20)) [(5,vB x1),(8,vS x9.1),(10,vS x10.1),(12,vS x12.1),(14,vI s14),(64,vB true),(74,vS x21)] H (run_cat hx21) fun _ H=>q_g 3 [(5,vB x1),(8,vS x9.1),(10,vS x10.1),(12,vS x12.1),(14,vI s14),(64,vB true),(77,vB (strEq x21 x9.1))] H fun _ H=>?_
  rcases csplit hr with ⟨c22,hr⟩|⟨c22,hr⟩
  ·rw [c22] at H
   refine q_g 16 [(5,vB x1),(8,vS x9.1),(10,vS x10.1),(12,vS x12.1),(14,vI s14),(93,vB true)] H fun _ H=>q_e (q_d (q_T H rfl (W_seq (W_reg (q_g 2 [(4,vB x1)] H fun _ H=>q_e (W_ret ?_))))))
   obtain rfl:=sj hr
   exact ⟨by simp,⟨rfl,H.tq,K.keep []⟩⟩
  rw [c22] at H
  refine q_g 2 [(5,vB x1),(8,vS x9.1),(10,vS x10.1),(12,vS x12.1),(14,vI s14),(64,vB true),(77,vB false),(78,vS x10.1),(79,vI s14)] H fun _ H=>?_
  obtain ⟨x23,hx23,hr⟩:=obind hr
  refine q_v (.slice 9 (vS x10.1) none (some (vI s14))) [(5,vB x1),(8,vS x9.1),(10,vS x10.1),(12,vS x12.1),(14,vI s14),(64,vB true),(77,vB false),(80,vS x23)] H (run_subS_hi (by kernel_rfl) hx23) fun _ H=>?_
  obtain ⟨x24,hx24,hr⟩:=obind hr
  refine q_v (.bin .add 9 (.tmp 80) (.const (.string (bs [40]))) (vS x23) (vS (bs [40]))) [(5,vB x1),(8,vS x9.1),(10,vS x10.1),(12,vS x12.1),(14,vI s14),(64,vB true),(77,vB false),(81,vS x24)] H (run_cat hx24) fun _ H=>q_g 1 [(5,vB x1),(8,vS x9.1),(10,vS x10.1),(12,vS x12.1),(14,vI s14),(64,vB true),(77,vB false),(81,vS x24),(82,vS x12.1)] H fun _ H=>?_
  obtain ⟨x25,hx25,hr⟩:=obind hr
  refine q_v (.bin .add 9 (.tmp 81) (.tmp 82) (vS x24) (vS x12.1)) [(5,vB x1),(8,vS x9.1),(10,vS x10.1),(12,vS x12.1),(14,vI s14),(64,vB true),(77,vB false),(83,vS x25)] H (run_cat hx25) fun _ H=>?_
  obtain ⟨x26,hx26,hr⟩:=obind hr
  refine q_v (.bin .add 9 (.tmp 83) (.const (.string (bs [41]))) (vS x25) (vS (bs [41]))) [(5,vB x1),(8,vS x9.1),(10,vS x10.1),(12,vS x12.1),(14,vI s14),(64,vB true),(77,vB false),(84,vS x26)] H (run_cat hx26) fun _ H=>q_g 3 [(5,vB x1),(8,vS x9.1),(10,vS x10.1),(12,vS x12.1),(14,vI s14),(64,vB true),(77,vB false),(84,vS x26),(85,vS x10.1),(87,vI (w64 (s14 + 9)))] H fun _ H=>?_
  obtain ⟨x27,hx27,hr⟩:=obind hr
  refine q_v (.slice 9 (vS x10.1) (some (vI (w64 (s14 + 9)))) none) [(5,vB x1),(8,vS x9.1),(10,vS x10.1),(12,vS x12.1),(14,vI s14),(64,vB true),(77,vB false),(84,vS x26),(88,vS x27)] H (run_subS_lo (by kernel_rfl) hx27) fun _ H=>?_
  obtain ⟨x28,hx28,hr⟩:=obind hr
  refine q_v (.bin .add 9 (.tmp 84) (.tmp 88) (vS x26) (vS x27)) [(5,vB x1),(8,vS x9.1),(10,vS x10.1),(12,vS x12.1),(14,vI s14),(64,vB true),(77,vB false),(89,vS x28)] H (run_cat hx28) fun _ H=>q_g 4 [(5,vB x1),(8,vS x9.1),(10,vS x10.1),(12,vS x12.1),(14,vI s14),(93,vB (strEq x28 x9.1))] H fun _ H=>q_e (q_d ?_)
  rcases csplit hr with ⟨c29,hr⟩|⟨c29,hr⟩
  ·refine q_T H c29 (W_seq (W_reg (q_g 2 [(4,vB x1)] H fun _ H=>q_e (W_ret ?_))))
   obtain rfl:=sj hr
   exact ⟨by simp,⟨rfl,H.tq,K.keep []⟩⟩
  refine q_F H c29 (W_skip (W_reg (q_g 3 [(5,vB x1),(8,vS x9.1),(10,vS x10.1),(12,vS x12.1),(14,vI (w64 (s14 + 1)))] H fun _ H=>q_e ?_)))
  obtain rfl:=sj hr
  exact ⟨rfl,⟨H.tq,K.keep []⟩⟩
 rcases r30 with r30a | r30b
 ·rintro e fr st ⟨rfl,H,K⟩
  obtain rfl:=sj hr
  exact q_r [vB x1] H K
 rintro e fr st ⟨rfl,H,K⟩
 refine W_seq (W_reg (q_g 1 [(4,vB false)] H fun _ H=>q_e (W_ret ?_)))
 obtain rfl:=sj hr
 exact q_r [vB false] H K
end Go.Proofs.YtbecjgckobhmpaaGreatDoor
