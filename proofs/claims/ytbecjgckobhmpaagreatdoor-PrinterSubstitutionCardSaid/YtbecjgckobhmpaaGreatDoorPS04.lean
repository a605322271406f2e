/-
  Proved here: a part of what the claim needs (texts YG2 of the prover's own).
-/
import Derived.Test.YtbecjgckobhmpaaGreatDoorPS03
namespace Go.Proofs.YtbecjgckobhmpaaGreatDoor
open Go Go.AM Go.Proofs
set_option maxRecDepth 100000
set_option maxHeartbeats 4000000
def F83_step (_:Node→Int→Option ByteArray) (F54:Node→Option ByteArray) (n:Nat) (a0:Node) (a1:Int):Option ByteArray := (F134 n a0).bind fun x1 => bif decide (x1 < a1) then ((F54 a0).bind fun x3 => (F82 ([(bs [40]),x3,(bs [41])]:List ByteArray)).bind fun x4 => some x4) else ((F54 a0).bind fun x5 => some x5)
def F54_step (F83:Node→Int→Option ByteArray) (_:Node→Option ByteArray) (n:Nat) (a0:Node):Option ByteArray := (bif a0.kind == 1 then ((itoaF a0.n).bind fun x9 => some (.inl x9)) else (bif a0.kind == 2 then (bif (a0.kids.length:Int) == 0 then (some (.inl a0.name)) else ((idxL a0.kids 0).bind fun x11 => (F83 x11 (0:Int)).bind fun x12 => (F82 ([a0.name,(bs [91]),x12,(bs [93])]:List ByteArray)).bind fun x13 => some (.inl x13))) else (bif a0.kind == 3 then ((idxL a0.kids 0).bind fun x14 => (F83 x14 (0:Int)).bind fun x15 => (F82 ([(bs [111,108,100,40]),x15,(bs [41])]:List ByteArray)).bind fun x16 => some (.inl x16)) else (bif a0.kind == 4 then ((idxL a0.kids 0).bind fun x17 => (F83 x17 (11:Int)).bind fun x18 => (F82 ([(bs [33]),x18]:List ByteArray)).bind fun x19 => some (.inl x19)) else (bif a0.kind == 5 then ((F84 n a0.name).bind fun x20 => (idxL a0.kids 0).bind fun x22 => (F83 x22 x20.2.2.1).bind fun x23 => (idxL a0.kids 1).bind fun x24 => (F83 x24 x20.2.2.2).bind fun x25 => (F85 n ([x23,a0.name,x25]:List ByteArray)).bind fun x26 => some (.inl x26)) else (bif a0.kind == 6 then ((idxL a0.kids 0).bind fun x27 => (F83 x27 (2:Int)).bind fun x28 => (idxL a0.kids 1).bind fun x29 => (F83 x29 (1:Int)).bind fun x30 => (idxL a0.kids 2).bind fun x31 => (F83 x31 (1:Int)).bind fun x32 => (F85 n ([x28,(bs [63]),x30,(bs [58]),x32]:List ByteArray)).bind fun x33 => some (.inl x33)) else (bif a0.kind == 7 then (some (.inr (.inl (bs [97,108,108])))) else (bif a0.kind == 8 then (some (.inr (.inl (bs [115,111,109,101])))) else (some (.inr (.inr ())))))))))):Option (ByteArray ⊕ ByteArray ⊕ Unit)).bind fun j34=>match j34 with | .inl j34a=>some j34a | .inr (.inl j34b)=>(itoaF a0.n).bind fun x35 => (idxL a0.kids 0).bind fun x36 => (F83 x36 (0:Int)).bind fun x37 => (F85 n ([j34b,a0.name,(bs [60]),x35,(bs [58]),x37]:List ByteArray)).bind fun x38 => some x38 | .inr (.inr _)=>some (bs [])
mutual
def F83:Nat→Node→Int→Option ByteArray
 | 0,_,_=>none
 | n + 1,a0,a1=>F83_step (F83 n) (F54 n) n a0 a1
def F54:Nat→Node→Option ByteArray
 | 0,_=>none
 | n + 1,a0=>F54_step (F83 n) (F54 n) n a0
end
theorem F83_RR (n:Nat):(∀ (a0:Node) (a1:Int) (r:ByteArray),F83 n a0 a1 = some r→∀ {st:St} {p0:Spare},R Tryz.prog AN 83 [.agg (cNode p0 a0),vI a1] st (.ret (vS r)) st)∧(∀ (a0:Node) (r:ByteArray),F54 n a0 = some r→∀ {st:St} {p0:Spare},R Tryz.prog AN 54 [.agg (cNode p0 a0)] st (.ret (vS r)) st):=by
 induction n with
 | zero=>exact ⟨by intros; contradiction,by intros; contradiction⟩
 | succ n ih =>
  obtain ⟨ih_F83,ih_F54⟩:=ih
  refine ⟨?_,?_⟩
  ·intro a0 a1 r hr st p0
   change F83_step (F83 n) (F54 n) n a0 a1 = some r at hr
   unfold F83_step at hr
   refine R_pureX [aN a0,vI a1] [(0,aN a0),(1,vI a1)] (by kernel_rfl) Tryz.func83 rfl (by kernel_rfl) (by simp only [strip,stripL,stripL_cNode,Option.bind_some,Option.map_some]) rfl fun fr st H K=>W_seq (W_reg (q_g 2 [(1,vI a1),(2,cN a0 0)] H fun _ H=>q_e (W_seq (W_seq (W_reg (q_g 1 [(1,vI a1),(2,cN a0 0),(5,aN a0)] H fun _ H=>?_))))))
   obtain ⟨x1,hx1,hr⟩:=obind hr
   refine q_c (F134_R n a0 x1 hx1 (p0:=.shut)) 0 [(1,vI a1),(2,cN a0 0),(6,vI x1)] H fun _ H=>q_g 2 [(2,cN a0 0),(8,vB (decide (x1 < a1)))] H fun _ H=>q_e ?_
   rcases csplit hr with ⟨c2,hr⟩|⟨c2,hr⟩
   rotate_left
   ·refine q_F H c2 (W_skip (W_seq (W_reg (q_g 1 [(13,aN a0)] H fun _ H=>?_))))
    obtain ⟨x5,hx5,hr⟩:=obind hr
    refine q_c (ih_F54 a0 x5 hx5 (p0:=.shut)) 0 [(14,vS x5)] H fun _ H=>q_g 1 [(4,vS x5)] H fun _ H=>q_e (W_ret ?_)
    obtain rfl:=sj hr
    exact q_r [vS x5] H K
   refine q_T H c2 (W_seq (W_reg (q_g 1 [(9,aN a0)] H fun _ H=>?_)))
   obtain ⟨x3,hx3,hr⟩:=obind hr
   refine q_c (ih_F54 a0 x3 hx3 (p0:=.shut)) 0 [(10,vS x3)] H fun _ H=>?_
   refine q_v (.buildSlice 30 3 [(0,vS (bs [40])),(1,vS x3),(2,vS (bs [41]))]) [(11,vL tS ([(bs [40]),x3,(bs [41])]:List ByteArray) .full)] H (run_bslice (v:=vL tS ([(bs [40]),x3,(bs [41])]:List ByteArray) .full) (v0:=.slice [vS (bs [40]),vS x3,vS (bs [41])] .full) (by kernel_rfl) (rfl)) fun _ H=>?_
   obtain ⟨x4,hx4,hr⟩:=obind hr
   refine q_c (F82_R  ([(bs [40]),x3,(bs [41])]:List ByteArray) x4 hx4 (p0:=.full)) 0 [(12,vS x4)] H fun _ H=>q_g 1 [(4,vS x4)] H fun _ H=>q_e (W_ret ?_)
   obtain rfl:=sj hr
   exact q_r [vS x4] H K
  ·intro a0 r hr st p0
   change F54_step (F83 n) (F54 n) n a0 = some r at hr
   unfold F54_step at hr
   refine R_pureX [aN a0] [(0,aN a0)] (by kernel_rfl) Tryz.func54 rfl (by kernel_rfl) (by simp only [strip,stripL,stripL_cNode,Option.bind_some,Option.map_some]) rfl fun fr st H K=>W_seq (W_reg (q_g 2 [(1,cN a0 0)] H fun _ H=>q_e (W_seq (W_reg (q_g 1 [(1,cN a0 0),(3,vS (bs [115,111,109,101]))] H fun _ H=>q_e (W_seq (W_seq (W_reg (q_g 2 [(1,cN a0 0),(3,vS (bs [115,111,109,101])),(6,vI a0.kind)] H fun _ H=>q_e (W_block (W_seq ?_)))))))))))
   obtain ⟨j34,hj34,hr⟩:=obind hr
   refine W_via (fun e fr st=>match j34 with | .inl j34a=>(e = .ret∧Rd fr [(2,vS j34a)]∧HL st []) | .inr (.inl j34b)=>(e = .normal∧Rd fr [(1,cN a0 0),(3,vS j34b)]∧HL st []) | .inr (.inr j34c)=>(e = .exit 0∧Rd fr []∧HL st [])) ?_ ?_
   ·replace hr:=hj34
    refine W_block (W_seq (W_block (W_seq (W_block (W_seq (W_block (W_seq (W_block (W_seq (W_block (W_seq (W_block (W_seq (W_block (W_seq (W_seq (W_seq (W_reg (q_g 2 [(1,cN a0 0),(3,vS (bs [115,111,109,101])),(6,vI a0.kind),(7,vB (a0.kind == 1))] H fun _ H=>q_e ?_)))))))))))))))))))
    rcases csplit hr with ⟨c1,hr⟩|⟨c1,hr⟩
    ·refine q_T H c1 ?_
     refine W_exit (W_seq (W_seq (W_reg (q_g 2 [(24,vI a0.n)] H fun _ H=>?_))))
     obtain ⟨x9,hx9,hr⟩:=obind hr
     refine q_c (itoa_R a0.n x9 hx9) 0 [(25,vS x9)] H fun _ H=>q_g 1 [(2,vS x9)] H fun _ H=>q_e (W_ret ?_)
     obtain rfl:=sj hr
     exact ⟨rfl,H.to (env':=_) (fun _=>by kernel_rfl),K.keep []⟩
    refine q_F H c1 (W_skip (W_seq (W_seq (W_reg (q_g 2 [(1,cN a0 0),(3,vS (bs [115,111,109,101])),(6,vI a0.kind),(9,vB (a0.kind == 2))] H fun _ H=>q_e ?_)))))
    rcases csplit hr with ⟨c2,hr⟩|⟨c2,hr⟩
    ·refine q_T H c2 ?_
     refine W_exit (W_seq (W_seq (W_seq (W_reg (q_g 2 [(1,cN a0 0),(27,kN a0)] H fun _ H=>?_)))))
     refine q_v (.len 22 (kN a0)) [(1,cN a0 0),(28,vI (a0.kids.length:Int))] H (run_len tNode (by kernel_rfl)) fun _ H=>q_g 1 [(1,cN a0 0),(29,vB ((a0.kids.length:Int) == 0))] H fun _ H=>q_e ?_
     rcases csplit hr with ⟨c10,hr⟩|⟨c10,hr⟩
     ·refine q_T H c10 (W_seq (W_reg (q_g 3 [(2,vS a0.name)] H fun _ H=>q_e (W_ret ?_))))
      obtain rfl:=sj hr
      exact ⟨rfl,H.to (env':=_) (fun _=>by kernel_rfl),K.keep []⟩
     refine q_F H c10 (W_skip (W_seq (W_drw (q_g 4 [(33,vS a0.name),(35,kN a0)] H fun _ H=>?_))))
     obtain ⟨x11,hx11,hr⟩:=obind hr
     refine q_v (.indexAddr 22 (kN a0) (vI 0)) [(33,vS a0.name),(36,cN x11 0)] H (run_idxL tNode (by kernel_rfl) hx11) fun _ H=>q_g 1 [(33,vS a0.name),(37,aN x11)] H fun _ H=>?_
     obtain ⟨x12,hx12,hr⟩:=obind hr
     refine q_c (ih_F83 x11 (0:Int) x12 hx12 (p0:=.shut)) 0 [(33,vS a0.name),(38,vS x12)] H fun _ H=>?_
     refine q_v (.buildSlice 30 4 [(0,vS a0.name),(1,vS (bs [91])),(2,vS x12),(3,vS (bs [93]))]) [(39,vL tS ([a0.name,(bs [91]),x12,(bs [93])]:List ByteArray) .full)] H (run_bslice (v:=vL tS ([a0.name,(bs [91]),x12,(bs [93])]:List ByteArray) .full) (v0:=.slice [vS a0.name,vS (bs [91]),vS x12,vS (bs [93])] .full) (by kernel_rfl) (rfl)) fun _ H=>?_
     obtain ⟨x13,hx13,hr⟩:=obind hr
     refine q_c (F82_R  ([a0.name,(bs [91]),x12,(bs [93])]:List ByteArray) x13 hx13 (p0:=.full)) 0 [(40,vS x13)] H fun _ H=>q_g 1 [(2,vS x13)] H fun _ H=>q_e (q_d (W_ret ?_))
     obtain rfl:=sj hr
     exact ⟨rfl,H.to (env':=_) (fun _=>by kernel_rfl),K.keep []⟩
    refine q_F H c2 (W_skip (W_seq (W_seq (W_reg (q_g 2 [(1,cN a0 0),(3,vS (bs [115,111,109,101])),(6,vI a0.kind),(11,vB (a0.kind == 3))] H fun _ H=>q_e ?_)))))
    rcases csplit hr with ⟨c3,hr⟩|⟨c3,hr⟩
    ·refine q_T H c3 ?_
     refine W_exit (W_seq (W_seq (W_reg (q_g 2 [(42,kN a0)] H fun _ H=>?_))))
     obtain ⟨x14,hx14,hr⟩:=obind hr
     refine q_v (.indexAddr 22 (kN a0) (vI 0)) [(43,cN x14 0)] H (run_idxL tNode (by kernel_rfl) hx14) fun _ H=>q_g 1 [(44,aN x14)] H fun _ H=>?_
     obtain ⟨x15,hx15,hr⟩:=obind hr
     refine q_c (ih_F83 x14 (0:Int) x15 hx15 (p0:=.shut)) 0 [(45,vS x15)] H fun _ H=>?_
     refine q_v (.buildSlice 30 3 [(0,vS (bs [111,108,100,40])),(1,vS x15),(2,vS (bs [41]))]) [(46,vL tS ([(bs [111,108,100,40]),x15,(bs [41])]:List ByteArray) .full)] H (run_bslice (v:=vL tS ([(bs [111,108,100,40]),x15,(bs [41])]:List ByteArray) .full) (v0:=.slice [vS (bs [111,108,100,40]),vS x15,vS (bs [41])] .full) (by kernel_rfl) (rfl)) fun _ H=>?_
     obtain ⟨x16,hx16,hr⟩:=obind hr
     refine q_c (F82_R  ([(bs [111,108,100,40]),x15,(bs [41])]:List ByteArray) x16 hx16 (p0:=.full)) 0 [(47,vS x16)] H fun _ H=>q_g 1 [(2,vS x16)] H fun _ H=>q_e (W_ret ?_)
     obtain rfl:=sj hr
     exact ⟨rfl,H.to (env':=_) (fun _=>by kernel_rfl),K.keep []⟩
    refine q_F H c3 (W_skip (W_seq (W_seq (W_reg (q_g 2 [(1,cN a0 0),(3,vS (bs [115,111,109,101])),(6,vI a0.kind),(13,vB (a0.kind == 4))] H fun _ H=>q_e ?_)))))
    rcases csplit hr with ⟨c4,hr⟩|⟨c4,hr⟩
    ·refine q_T H c4 ?_
     refine W_exit (W_seq (W_seq (W_reg (q_g 2 [(49,kN a0)] H fun _ H=>?_))))
     obtain ⟨x17,hx17,hr⟩:=obind hr
     refine q_v (.indexAddr 22 (kN a0) (vI 0)) [(50,cN x17 0)] H (run_idxL tNode (by kernel_rfl) hx17) fun _ H=>q_g 1 [(51,aN x17)] H fun _ H=>?_
     obtain ⟨x18,hx18,hr⟩:=obind hr
     refine q_c (ih_F83 x17 (11:Int) x18 hx18 (p0:=.shut)) 0 [(52,vS x18)] H fun _ H=>?_
     refine q_v (.buildSlice 30 2 [(0,vS (bs [33])),(1,vS x18)]) [(53,vL tS ([(bs [33]),x18]:List ByteArray) .full)] H (run_bslice (v:=vL tS ([(bs [33]),x18]:List ByteArray) .full) (v0:=.slice [vS (bs [33]),vS x18] .full) (by kernel_rfl) (rfl)) fun _ H=>?_
     obtain ⟨x19,hx19,hr⟩:=obind hr
     refine q_c (F82_R  ([(bs [33]),x18]:List ByteArray) x19 hx19 (p0:=.full)) 0 [(54,vS x19)] H fun _ H=>q_g 1 [(2,vS x19)] H fun _ H=>q_e (W_ret ?_)
     obtain rfl:=sj hr
     exact ⟨rfl,H.to (env':=_) (fun _=>by kernel_rfl),K.keep []⟩
    refine q_F H c4 (W_skip (W_seq (W_seq (W_reg (q_g 2 [(1,cN a0 0),(3,vS (bs [115,111,109,101])),(6,vI a0.kind),(15,vB (a0.kind == 5))] H fun _ H=>q_e ?_)))))
    rcases csplit hr with ⟨c5,hr⟩|⟨c5,hr⟩
    ·refine q_T H c5 ?_
     refine W_exit (W_seq (W_seq (W_reg (q_g 2 [(1,cN a0 0),(56,vS a0.name)] H fun _ H=>?_))))
     obtain ⟨x20,hx20,hr⟩:=obind hr
     refine q_c (F84_R n a0.name x20 hx20) 0 [(1,cN a0 0),(57,.agg [vS x20.1,vI x20.2.1,vI x20.2.2.1,vI x20.2.2.2])] H fun _ H=>?_
     refine k_alloc (t:=113) (cs:=[vS (bs []),vI 0,vI 0,vI 0]) (fun id21=>[(1,cN a0 0),(4,.ptr id21 0),(57,.agg [vS x20.1,vI x20.2.1,vI x20.2.2.1,vI x20.2.2.2])]) H K (by kernel_rfl) (fun _ _=>by kernel_rfl) fun id21 st K fr H=>?_
     refine k_store (t:=113) (off:=0) (v:=.agg [vS x20.1,vI x20.2.1,vI x20.2.2.1,vI x20.2.2.2]) (cs':=[vS x20.1,vI x20.2.1,vI x20.2.2.1,vI x20.2.2.2]) 0 [(1,cN a0 0),(4,.ptr id21 0)] H K rfl (by kernel_rfl) (fun _=>by kernel_rfl) fun st K fr H=>q_e (W_seq (W_drw (q_g 2 [(1,cN a0 0),(4,.ptr id21 0),(59,kN a0)] H fun _ H=>?_)))
     obtain ⟨x22,hx22,hr⟩:=obind hr
     refine q_v (.indexAddr 22 (kN a0) (vI 0)) [(1,cN a0 0),(4,.ptr id21 0),(60,cN x22 0)] H (run_idxL tNode (by kernel_rfl) hx22) fun _ H=>q_g 2 [(1,cN a0 0),(4,.ptr id21 0),(61,aN x22),(62,.ptr id21 2)] H fun _ H=>?_
     refine k_load (t:=3) (off:=2) 0 [(1,cN a0 0),(4,.ptr id21 0),(61,aN x22),(63,vI x20.2.2.1)] H K rfl (v:=vI x20.2.2.1) (by kernel_rfl) (fun _=>by kernel_rfl) fun _ H=>?_
     obtain ⟨x23,hx23,hr⟩:=obind hr
     refine q_c (ih_F83 x22 x20.2.2.1 x23 hx23 (p0:=.shut)) 0 [(1,cN a0 0),(4,.ptr id21 0),(64,vS x23)] H fun _ H=>q_g 4 [(4,.ptr id21 0),(64,vS x23),(66,vS a0.name),(68,kN a0)] H fun _ H=>?_
     obtain ⟨x24,hx24,hr⟩:=obind hr
     refine q_v (.indexAddr 22 (kN a0) (vI 1)) [(4,.ptr id21 0),(64,vS x23),(66,vS a0.name),(69,cN x24 0)] H (run_idxL tNode (by kernel_rfl) hx24) fun _ H=>q_g 2 [(64,vS x23),(66,vS a0.name),(70,aN x24),(71,.ptr id21 3)] H fun _ H=>?_
     refine k_load (t:=3) (off:=3) 0 [(64,vS x23),(66,vS a0.name),(70,aN x24),(72,vI x20.2.2.2)] H K rfl (v:=vI x20.2.2.2) (by kernel_rfl) (fun _=>by kernel_rfl) fun _ H=>?_
     obtain ⟨x25,hx25,hr⟩:=obind hr
     refine q_c (ih_F83 x24 x20.2.2.2 x25 hx25 (p0:=.shut)) 0 [(64,vS x23),(66,vS a0.name),(73,vS x25)] H fun _ H=>?_
     refine q_v (.buildSlice 30 3 [(0,vS x23),(1,vS a0.name),(2,vS x25)]) [(74,vL tS ([x23,a0.name,x25]:List ByteArray) .full)] H (run_bslice (v:=vL tS ([x23,a0.name,x25]:List ByteArray) .full) (v0:=.slice [vS x23,vS a0.name,vS x25] .full) (by kernel_rfl) (rfl)) fun _ H=>?_
     obtain ⟨x26,hx26,hr⟩:=obind hr
     refine q_c (F85_R n ([x23,a0.name,x25]:List ByteArray) x26 hx26 (p0:=.full)) 0 [(75,vS x26)] H fun _ H=>q_g 1 [(2,vS x26)] H fun _ H=>q_e (q_d (W_ret ?_))
     obtain rfl:=sj hr
     exact ⟨rfl,H.to (env':=_) (fun _=>by kernel_rfl),K.keep [false]⟩
    refine q_F H c5 (W_skip (W_seq (W_seq (W_reg (q_g 2 [(1,cN a0 0),(3,vS (bs [115,111,109,101])),(6,vI a0.kind),(17,vB (a0.kind == 6))] H fun _ H=>q_e ?_)))))
    rcases csplit hr with ⟨c6,hr⟩|⟨c6,hr⟩
    rotate_left
    ·refine q_F H c6 (W_skip (W_seq (W_seq (W_reg (q_g 2 [(1,cN a0 0),(3,vS (bs [115,111,109,101])),(6,vI a0.kind),(19,vB (a0.kind == 7))] H fun _ H=>q_e ?_)))))
     rcases csplit hr with ⟨c7,hr⟩|⟨c7,hr⟩
     ·refine q_T H c7 ?_
      refine W_exit (W_reg (q_g 1 [(1,cN a0 0),(3,vS (bs [97,108,108]))] H fun _ H=>q_e ?_))
      obtain rfl:=sj hr
      exact ⟨rfl,H.to (env':=_) (fun _=>by kernel_rfl),K.keep []⟩
     refine q_F H c7 (W_skip (W_seq (W_reg (q_g 2 [(1,cN a0 0),(3,vS (bs [115,111,109,101])),(21,vB (a0.kind == 8))] H fun _ H=>q_e ?_))))
     rcases csplit hr with ⟨c8,hr⟩|⟨c8,hr⟩
     ·refine q_T H c8 ?_
      refine W_exit ?_
      obtain rfl:=sj hr
      exact ⟨rfl,H.to (env':=_) (fun _=>by kernel_rfl),K.keep []⟩
     refine q_F H c8 (W_skip ?_)
     refine W_exit ?_
     obtain rfl:=sj hr
     exact ⟨rfl,H.to (env':=_) (fun _=>by kernel_rfl),K.keep []⟩
    refine q_T H c6 ?_
    refine W_exit (W_seq (W_seq (W_drw (q_g 2 [(1,cN a0 0),(77,kN a0)] H fun _ H=>?_))))
    obtain ⟨x27,hx27,hr⟩:=obind hr
    refine q_v (.indexAddr 22 (kN a0) (vI 0)) [(1,cN a0 0),(78,cN x27 0)] H (run_idxL tNode (by kernel_rfl) hx27) fun _ H=>q_g 1 [(1,cN a0 0),(79,aN x27)] H fun _ H=>?_
    obtain ⟨x28,hx28,hr⟩:=obind hr
    refine q_c (ih_F83 x27 (2:Int) x28 hx28 (p0:=.shut)) 0 [(1,cN a0 0),(80,vS x28)] H fun _ H=>q_g 2 [(1,cN a0 0),(80,vS x28),(82,kN a0)] H fun _ H=>?_
    obtain ⟨x29,hx29,hr⟩:=obind hr
    refine q_v (.indexAddr 22 (kN a0) (vI 1)) [(1,cN a0 0),(80,vS x28),(83,cN x29 0)] H (run_idxL tNode (by kernel_rfl) hx29) fun _ H=>q_g 1 [(1,cN a0 0),(80,vS x28),(84,aN x29)] H fun _ H=>?_
    obtain ⟨x30,hx30,hr⟩:=obind hr
    refine q_c (ih_F83 x29 (1:Int) x30 hx30 (p0:=.shut)) 0 [(1,cN a0 0),(80,vS x28),(85,vS x30)] H fun _ H=>q_g 2 [(80,vS x28),(85,vS x30),(87,kN a0)] H fun _ H=>?_
    obtain ⟨x31,hx31,hr⟩:=obind hr
    refine q_v (.indexAddr 22 (kN a0) (vI 2)) [(80,vS x28),(85,vS x30),(88,cN x31 0)] H (run_idxL tNode (by kernel_rfl) hx31) fun _ H=>q_g 1 [(80,vS x28),(85,vS x30),(89,aN x31)] H fun _ H=>?_
    obtain ⟨x32,hx32,hr⟩:=obind hr
    refine q_c (ih_F83 x31 (1:Int) x32 hx32 (p0:=.shut)) 0 [(80,vS x28),(85,vS x30),(90,vS x32)] H fun _ H=>?_
    refine q_v (.buildSlice 30 5 [(0,vS x28),(1,vS (bs [63])),(2,vS x30),(3,vS (bs [58])),(4,vS x32)]) [(91,vL tS ([x28,(bs [63]),x30,(bs [58]),x32]:List ByteArray) .full)] H (run_bslice (v:=vL tS ([x28,(bs [63]),x30,(bs [58]),x32]:List ByteArray) .full) (v0:=.slice [vS x28,vS (bs [63]),vS x30,vS (bs [58]),vS x32] .full) (by kernel_rfl) (rfl)) fun _ H=>?_
    obtain ⟨x33,hx33,hr⟩:=obind hr
    refine q_c (F85_R n ([x28,(bs [63]),x30,(bs [58]),x32]:List ByteArray) x33 hx33 (p0:=.full)) 0 [(92,vS x33)] H fun _ H=>q_g 1 [(2,vS x33)] H fun _ H=>q_e (q_d (W_ret ?_))
    obtain rfl:=sj hr
    exact ⟨rfl,H.to (env':=_) (fun _=>by kernel_rfl),K.keep []⟩
   rcases j34 with j34a | (j34b | j34c)
   ·rintro e fr st ⟨rfl,H,K⟩
    obtain rfl:=sj hr
    exact q_r [vS j34a] H K
   ·rintro e fr st ⟨rfl,H,K⟩
    refine W_seq (W_seq (W_drw (q_g 5 [(1,cN a0 0),(93,vS j34b),(95,vS a0.name),(97,vI a0.n)] H fun _ H=>?_)))
    obtain ⟨x35,hx35,hr⟩:=obind hr
    refine q_c (itoa_R a0.n x35 hx35) 0 [(1,cN a0 0),(93,vS j34b),(95,vS a0.name),(98,vS x35)] H fun _ H=>q_g 2 [(93,vS j34b),(95,vS a0.name),(98,vS x35),(100,kN a0)] H fun _ H=>?_
    obtain ⟨x36,hx36,hr⟩:=obind hr
    refine q_v (.indexAddr 22 (kN a0) (vI 0)) [(93,vS j34b),(95,vS a0.name),(98,vS x35),(101,cN x36 0)] H (run_idxL tNode (by kernel_rfl) hx36) fun _ H=>q_g 1 [(93,vS j34b),(95,vS a0.name),(98,vS x35),(102,aN x36)] H fun _ H=>?_
    obtain ⟨x37,hx37,hr⟩:=obind hr
    refine q_c (ih_F83 x36 (0:Int) x37 hx37 (p0:=.shut)) 0 [(93,vS j34b),(95,vS a0.name),(98,vS x35),(103,vS x37)] H fun _ H=>?_
    refine q_v (.buildSlice 30 6 [(0,vS j34b),(1,vS a0.name),(2,vS (bs [60])),(3,vS x35),(4,vS (bs [58])),(5,vS x37)]) [(104,vL tS ([j34b,a0.name,(bs [60]),x35,(bs [58]),x37]:List ByteArray) .full)] H (run_bslice (v:=vL tS ([j34b,a0.name,(bs [60]),x35,(bs [58]),x37]:List ByteArray) .full) (v0:=.slice [vS j34b,vS a0.name,vS (bs [60]),vS x35,vS (bs [58]),vS x37] .full) (by kernel_rfl) (rfl)) fun _ H=>?_
    obtain ⟨x38,hx38,hr⟩:=obind hr
    refine q_c (F85_R n ([j34b,a0.name,(bs [60]),x35,(bs [58]),x37]:List ByteArray) x38 hx38 (p0:=.full)) 0 [(105,vS x38)] H fun _ H=>q_g 1 [(2,vS x38)] H fun _ H=>q_e (q_d (W_ret ?_))
    obtain rfl:=sj hr
    exact q_r [vS x38] H K
   rintro e fr st ⟨rfl,H,K⟩
   refine W_seq (W_reg (q_g 1 [(2,vS (bs []))] H fun _ H=>q_e (W_ret ?_)))
   obtain rfl:=sj hr
   exact q_r [vS (bs [])] H K
theorem F54_R (n:Nat) (a0:Node) (r:ByteArray) (hr:F54 n a0 = some r) {st:St} {p0:Spare}:R Tryz.prog AN 54 [.agg (cNode p0 a0)] st (.ret (vS r)) st:=(F83_RR n).2 a0 r hr
def F124_1 (n:Nat) (a0:List Node):Option ByteArray := (iter (σ:=(List ByteArray) × Int) (ρ:=((List ByteArray))) (fun s1=>bif decide (s1.2 < (a0.length:Int)) then ((idxL a0 s1.2).bind fun x3 => (F54 n x3).bind fun x5 => (appL 16 s1.1 ([x5]:List ByteArray)).bind fun x6 => some (.inl (x6,w64 (s1.2 + 1)))) else (some (.inr s1.1))) n (([]:List ByteArray),(0:Int))).bind fun r8 => (joinF r8 (bs [44,32])).bind fun x9 => some x9
theorem F124_1_R (n:Nat) (a0:List Node) (r:ByteArray) (hr:F124_1 n a0 = some r) {st:St} {p0:Spare}:R Tryz.prog AN 124 [vL tNode a0 p0,.fn 54 [] []] st (.ret (vS r)) st:=by
 unfold F124_1 at hr
 refine R_pureX [vL tNode a0 .shut,.fn 54 [] []] [(0,vL tNode a0 .shut),(1,.fn 54 [] [])] (by kernel_rfl) Tryz.func124 rfl (by kernel_rfl) (by simp only [strip,stripL,stripL_ET,Option.bind_some,Option.map_some]) rfl fun fr st H K=>W_seq (W_reg (q_g 1 [(0,vL tNode a0 .shut),(1,.fn 54 [] [])] H fun _ H=>q_e (W_seq (W_reg (q_g 1 [(0,vL tNode a0 .shut),(1,.fn 54 [] []),(5,vL tS ([]:List ByteArray) .nil)] H fun _ H=>q_e (W_seq (W_seq (W_reg (q_g 1 [(1,.fn 54 [] []),(5,vL tS ([]:List ByteArray) .nil),(8,vL tNode a0 .shut)] H fun _ H=>?_)))))))))
 refine q_v (.len 22 (vL tNode a0 .shut)) [(1,.fn 54 [] []),(5,vL tS ([]:List ByteArray) .nil),(8,vL tNode a0 .shut),(9,vI (a0.length:Int))] H (run_len tNode (by kernel_rfl)) fun _ H=>q_g 1 [(1,.fn 54 [] []),(5,vL tS ([]:List ByteArray) .nil),(8,vL tNode a0 .shut),(9,vI (a0.length:Int)),(10,vI 0)] H fun _ H=>q_e (W_block ?_)
 obtain ⟨r8,hr8,hr⟩:=obind hr
 refine W_iter hr8 (fun (s1:(List ByteArray) × Int) fr st=>∃ (s1sp0:Spare),Rd fr [(1,.fn 54 [] []),(5,vL tS s1.1 s1sp0),(8,vL tNode a0 .shut),(9,vI (a0.length:Int)),(10,vI s1.2)]∧HL st [.own s1sp0]) (fun (r8:((List ByteArray))) e fr st=>e = .exit 0∧∃ (r8sp0:Spare),Rd fr [(5,vL tS r8 r8sp0)]∧HL st [.own r8sp0]) ⟨.nil,H.tq,((K.keep []).nilo)⟩ ?_ ?_
 ·intro s1 fr st r hi hr
  obtain ⟨s1sp0,H,K⟩:=hi
  refine W_seq (W_reg (q_g 1 [(1,.fn 54 [] []),(5,vL tS s1.1 s1sp0),(8,vL tNode a0 .shut),(9,vI (a0.length:Int)),(10,vI s1.2),(11,vB (decide (s1.2 < (a0.length:Int))))] H fun _ H=>q_e (W_seq ?_)))
  rcases csplit hr with ⟨c2,hr⟩|⟨c2,hr⟩
  rotate_left
  ·refine q_F H c2 ?_
   refine W_exit ?_
   obtain rfl:=sj hr
   exact ⟨by simp,⟨rfl,s1sp0,H.tq,K.keep [true]⟩⟩
  refine q_T H c2 (W_skip (W_seq (W_block (W_seq (W_reg ?_)))))
  obtain ⟨x3,hx3,hr⟩:=obind hr
  refine q_v (.indexAddr 22 (vL tNode a0 .shut) (vI s1.2)) [(1,.fn 54 [] []),(5,vL tS s1.1 s1sp0),(8,vL tNode a0 .shut),(9,vI (a0.length:Int)),(10,vI s1.2),(12,cN x3 0)] H (run_idxL tNode (by kernel_rfl) hx3) fun _ H=>q_g 1 [(1,.fn 54 [] []),(5,vL tS s1.1 s1sp0),(8,vL tNode a0 .shut),(9,vI (a0.length:Int)),(10,vI s1.2),(13,aN x3)] H fun _ H=>?_
  refine k_alloc (t:=24) (cs:=[vI 0,vS (bs []),vS (bs []),vI 0,vI 0,vI 0,vB false,vL tNode ([]:List Node) .nil,vI 0]) (fun id4=>[(1,.fn 54 [] []),(5,vL tS s1.1 s1sp0),(7,.ptr id4 0),(8,vL tNode a0 .shut),(9,vI (a0.length:Int)),(10,vI s1.2),(13,aN x3)]) H K (by kernel_rfl) (fun _ _=>by kernel_rfl) fun id4 st K fr H=>?_
  refine k_store (t:=24) (off:=0) (v:=aN x3) (cs':=[vI x3.kind,vS x3.name,vS x3.other,vI x3.n,vI x3.len,vI x3.init,vB x3.ghost,kN x3,vI x3.pos]) 0 [(1,.fn 54 [] []),(5,vL tS s1.1 s1sp0),(7,.ptr id4 0),(8,vL tNode a0 .shut),(9,vI (a0.length:Int)),(10,vI s1.2)] H K rfl (by kernel_rfl) (fun _=>by kernel_rfl) fun st K fr H=>q_e (W_reg (q_g 2 [(1,.fn 54 [] []),(7,.ptr id4 0),(8,vL tNode a0 .shut),(9,vI (a0.length:Int)),(10,vI s1.2),(14,vL tS s1.1 s1sp0),(15,.fn 54 [] [])] H fun _ H=>?_))
  refine k_load (t:=24) (off:=0) 0 [(1,.fn 54 [] []),(8,vL tNode a0 .shut),(9,vI (a0.length:Int)),(10,vI s1.2),(14,vL tS s1.1 s1sp0),(15,.fn 54 [] []),(16,aN x3)] H K rfl (v:=aN x3) (by kernel_rfl) (fun _=>by kernel_rfl) fun _ H=>?_
  obtain ⟨x5,hx5,hr⟩:=obind hr
  refine q_c (F54_R n x3 x5 hx5 (p0:=.shut)) 0 [(1,.fn 54 [] []),(8,vL tNode a0 .shut),(9,vI (a0.length:Int)),(10,vI s1.2),(14,vL tS s1.1 s1sp0),(17,vS x5)] H fun _ H=>?_
  refine q_v (.buildSlice 30 1 [(0,vS x5)]) [(1,.fn 54 [] []),(8,vL tNode a0 .shut),(9,vI (a0.length:Int)),(10,vI s1.2),(14,vL tS s1.1 s1sp0),(18,vL tS ([x5]:List ByteArray) .full)] H (run_bslice (v:=vL tS ([x5]:List ByteArray) .full) (v0:=.slice [vS x5] .full) (by kernel_rfl) (rfl)) fun _ H=>?_
  obtain ⟨x6,hx6,hr⟩:=obind hr
  refine k_app tS hx6 (t:=30) (t2:=30) (sp2:=.full) 1 (fun sp7=>[(1,.fn 54 [] []),(8,vL tNode a0 .shut),(9,vI (a0.length:Int)),(10,vI s1.2),(19,vL tS x6 sp7)]) H K rfl (by kernel_rfl) (fun _ _=>by kernel_rfl) fun sp7 st K fr H=>q_g 1 [(1,.fn 54 [] []),(5,vL tS x6 sp7),(8,vL tNode a0 .shut),(9,vI (a0.length:Int)),(10,vI s1.2)] H fun _ H=>q_e (W_reg (q_g 2 [(1,.fn 54 [] []),(5,vL tS x6 sp7),(8,vL tNode a0 .shut),(9,vI (a0.length:Int)),(10,vI (w64 (s1.2 + 1)))] H fun _ H=>q_e ?_))
  obtain rfl:=sj hr
  exact ⟨rfl,⟨sp7,H.tq,K.keep [false,true]⟩⟩
 rintro e fr st ⟨rfl,r8sp0,H,K⟩
 refine W_seq (W_reg (q_g 1 [(21,vL tS r8 r8sp0)] H fun _ H=>?_))
 obtain ⟨x9,hx9,hr⟩:=obind hr
 refine q_c (join_R r8 (bs [44,32]) x9 hx9 (sp:=r8sp0)) 0 [(22,vS x9)] H fun _ H=>q_g 1 [(4,vS x9)] H fun _ H=>q_e (W_ret ?_)
 obtain rfl:=sj hr
 exact q_r [vS x9] H K
def F186 (n:Nat) (a0:Node):Option ByteArray := (bif a0.len != 0 then ((itoaF a0.len).bind fun x2 => (F82 ([a0.name,(bs [91]),x2,(bs [93])]:List ByteArray)).bind fun x3 => some x3) else (some a0.name):Option (ByteArray)).bind fun j4 => (bif strEq a0.other (bs []) then ((itoaF a0.n).bind fun x6 => some x6) else (some a0.other):Option (ByteArray)).bind fun j7 => (F126 n a0.ghost ([(bs [103,104,111,115,116])]:List ByteArray)).bind fun x8 => (itoaF a0.init).bind fun x9 => (F126 n (a0.init != 0) ([(bs [61]),x9]:List ByteArray)).bind fun x10 => (F85 n ([x8,(bs [115,104,97,114,101,100]),j4,(bs [58]),j7,x10]:List ByteArray)).bind fun x11 => some x11
theorem F186_R (n:Nat) (a0:Node) (r:ByteArray) (hr:F186 n a0 = some r) {st:St} {p0:Spare}:R Tryz.prog AN 186 [.agg (cNode p0 a0)] st (.ret (vS r)) st:=by
 unfold F186 at hr
 refine R_pureX [aN a0] [(0,aN a0)] (by kernel_rfl) Tryz.func186 rfl (by kernel_rfl) (by simp only [strip,stripL,stripL_cNode,Option.bind_some,Option.map_some]) rfl fun fr st H K=>W_seq (W_reg (q_g 2 [(1,cN a0 0)] H fun _ H=>q_e (W_seq (W_reg (q_g 3 [(1,cN a0 0),(3,vS a0.name)] H fun _ H=>q_e (W_seq ?_))))))
 obtain ⟨j4,hj4,hr⟩:=obind hr
 refine W_via (fun e fr st=>e = .normal∧Rd fr [(1,cN a0 0),(3,vS j4)]∧HL st []) ?_ ?_
 ·replace hr:=hj4
  refine W_seq (W_reg (q_g 3 [(1,cN a0 0),(3,vS a0.name),(9,vB (a0.len != 0))] H fun _ H=>q_e ?_))
  rcases csplit hr with ⟨c1,hr⟩|⟨c1,hr⟩
  rotate_left
  ·refine q_F H c1 (W_skip ?_)
   obtain rfl:=sj hr
   exact ⟨rfl,H.to (env':=_) (fun _=>by kernel_rfl),K.keep []⟩
  refine q_T H c1 (W_reg (q_g 3 [(1,cN a0 0),(10,vS a0.name),(12,vI a0.len)] H fun _ H=>?_))
  obtain ⟨x2,hx2,hr⟩:=obind hr
  refine q_c (itoa_R a0.len x2 hx2) 0 [(1,cN a0 0),(10,vS a0.name),(13,vS x2)] H fun _ H=>?_
  refine q_v (.buildSlice 30 4 [(0,vS a0.name),(1,vS (bs [91])),(2,vS x2),(3,vS (bs [93]))]) [(1,cN a0 0),(14,vL tS ([a0.name,(bs [91]),x2,(bs [93])]:List ByteArray) .full)] H (run_bslice (v:=vL tS ([a0.name,(bs [91]),x2,(bs [93])]:List ByteArray) .full) (v0:=.slice [vS a0.name,vS (bs [91]),vS x2,vS (bs [93])] .full) (by kernel_rfl) (rfl)) fun _ H=>?_
  obtain ⟨x3,hx3,hr⟩:=obind hr
  refine q_c (F82_R  ([a0.name,(bs [91]),x2,(bs [93])]:List ByteArray) x3 hx3 (p0:=.full)) 0 [(1,cN a0 0),(15,vS x3)] H fun _ H=>q_g 1 [(1,cN a0 0),(3,vS x3)] H fun _ H=>q_e ?_
  obtain rfl:=sj hr
  exact ⟨rfl,H.to (env':=_) (fun _=>by kernel_rfl),K.keep []⟩
 rintro e fr st ⟨rfl,H,K⟩
 refine W_seq (W_reg (q_g 3 [(1,cN a0 0),(3,vS j4),(4,vS a0.other)] H fun _ H=>q_e (W_seq ?_)))
 obtain ⟨j7,hj7,hr⟩:=obind hr
 refine W_via (fun e fr st=>e = .normal∧Rd fr [(1,cN a0 0),(3,vS j4),(4,vS j7)]∧HL st []) ?_ ?_
 ·replace hr:=hj7
  refine W_seq (W_reg (q_g 2 [(1,cN a0 0),(3,vS j4),(4,vS a0.other),(19,vB (strEq a0.other (bs [])))] H fun _ H=>q_e ?_))
  rcases csplit hr with ⟨c5,hr⟩|⟨c5,hr⟩
  rotate_left
  ·refine q_F H c5 (W_skip ?_)
   obtain rfl:=sj hr
   exact ⟨rfl,H.to (env':=_) (fun _=>by kernel_rfl),K.keep []⟩
  refine q_T H c5 (W_reg (q_g 2 [(1,cN a0 0),(3,vS j4),(21,vI a0.n)] H fun _ H=>?_))
  obtain ⟨x6,hx6,hr⟩:=obind hr
  refine q_c (itoa_R a0.n x6 hx6) 0 [(1,cN a0 0),(3,vS j4),(22,vS x6)] H fun _ H=>q_g 1 [(1,cN a0 0),(3,vS j4),(4,vS x6)] H fun _ H=>q_e ?_
  obtain rfl:=sj hr
  exact ⟨rfl,H.to (env':=_) (fun _=>by kernel_rfl),K.keep []⟩
 rintro e fr st ⟨rfl,H,K⟩
 refine W_seq (W_drw (q_g 2 [(1,cN a0 0),(3,vS j4),(4,vS j7),(24,vB a0.ghost)] H fun _ H=>?_))
 refine q_v (.buildSlice 30 1 [(0,vS (bs [103,104,111,115,116]))]) [(1,cN a0 0),(3,vS j4),(4,vS j7),(24,vB a0.ghost),(25,vL tS ([(bs [103,104,111,115,116])]:List ByteArray) .full)] H (run_bslice (v:=vL tS ([(bs [103,104,111,115,116])]:List ByteArray) .full) (v0:=.slice [vS (bs [103,104,111,115,116])] .full) (by kernel_rfl) (rfl)) fun _ H=>?_
 obtain ⟨x8,hx8,hr⟩:=obind hr
 refine q_c (F126_R n a0.ghost ([(bs [103,104,111,115,116])]:List ByteArray) x8 hx8 (p0:=.full)) 0 [(1,cN a0 0),(3,vS j4),(4,vS j7),(26,vS x8)] H fun _ H=>q_g 7 [(26,vS x8),(27,vS j4),(28,vS j7),(31,vB (a0.init != 0)),(33,vI a0.init)] H fun _ H=>?_
 obtain ⟨x9,hx9,hr⟩:=obind hr
 refine q_c (itoa_R a0.init x9 hx9) 0 [(26,vS x8),(27,vS j4),(28,vS j7),(31,vB (a0.init != 0)),(34,vS x9)] H fun _ H=>?_
 refine q_v (.buildSlice 30 2 [(0,vS (bs [61])),(1,vS x9)]) [(26,vS x8),(27,vS j4),(28,vS j7),(31,vB (a0.init != 0)),(35,vL tS ([(bs [61]),x9]:List ByteArray) .full)] H (run_bslice (v:=vL tS ([(bs [61]),x9]:List ByteArray) .full) (v0:=.slice [vS (bs [61]),vS x9] .full) (by kernel_rfl) (rfl)) fun _ H=>?_
 obtain ⟨x10,hx10,hr⟩:=obind hr
 refine q_c (F126_R n (a0.init != 0) ([(bs [61]),x9]:List ByteArray) x10 hx10 (p0:=.full)) 0 [(26,vS x8),(27,vS j4),(28,vS j7),(36,vS x10)] H fun _ H=>?_
 refine q_v (.buildSlice 30 6 [(0,vS x8),(1,vS (bs [115,104,97,114,101,100])),(2,vS j4),(3,vS (bs [58])),(4,vS j7),(5,vS x10)]) [(37,vL tS ([x8,(bs [115,104,97,114,101,100]),j4,(bs [58]),j7,x10]:List ByteArray) .full)] H (run_bslice (v:=vL tS ([x8,(bs [115,104,97,114,101,100]),j4,(bs [58]),j7,x10]:List ByteArray) .full) (v0:=.slice [vS x8,vS (bs [115,104,97,114,101,100]),vS j4,vS (bs [58]),vS j7,vS x10] .full) (by kernel_rfl) (rfl)) fun _ H=>?_
 obtain ⟨x11,hx11,hr⟩:=obind hr
 refine q_c (F85_R n ([x8,(bs [115,104,97,114,101,100]),j4,(bs [58]),j7,x10]:List ByteArray) x11 hx11 (p0:=.full)) 0 [(38,vS x11)] H fun _ H=>q_g 1 [(2,vS x11)] H fun _ H=>q_e (q_d (W_ret ?_))
 obtain rfl:=sj hr
 exact q_r [vS x11] H K
def F210 (n:Nat) (a0:List Node):Option ByteArray := (iter (σ:=(List ByteArray) × Int) (ρ:=((List ByteArray))) (fun s1=>bif decide ((w64 (s1.2 + 1)) < (a0.length:Int)) then ((idxL a0 s1.2).bind fun x3 => (F54 n x3).bind fun x4 => (idxL a0 (w64 (s1.2 + 1))).bind fun x5 => (F54 n x5).bind fun x6 => (F85 n ([x4,(bs [58,61]),x6]:List ByteArray)).bind fun x7 => (appL 16 s1.1 ([x7]:List ByteArray)).bind fun x8 => some (.inl (x8,w64 (s1.2 + 2)))) else (some (.inr s1.1))) n (([]:List ByteArray),(0:Int))).bind fun r10 => (joinF r10 (bs [44,32])).bind fun x11 => some x11
theorem F210_R (n:Nat) (a0:List Node) (r:ByteArray) (hr:F210 n a0 = some r) {st:St} {p0:Spare}:R Tryz.prog AN 210 [vL tNode a0 p0] st (.ret (vS r)) st:=by
 unfold F210 at hr
 refine R_pureX [vL tNode a0 .shut] [(0,vL tNode a0 .shut)] (by kernel_rfl) Tryz.func210 rfl (by kernel_rfl) (by simp only [strip,stripL,stripL_ET,Option.bind_some,Option.map_some]) rfl fun fr st H K=>W_seq (W_reg (q_g 1 [(0,vL tNode a0 .shut)] H fun _ H=>q_e (W_seq (W_reg (q_g 1 [(0,vL tNode a0 .shut),(3,vL tS ([]:List ByteArray) .nil)] H fun _ H=>q_e (W_seq (W_seq (W_reg (q_g 1 [(0,vL tNode a0 .shut),(3,vL tS ([]:List ByteArray) .nil),(4,vI 0)] H fun _ H=>q_e (W_block ?_))))))))))
 obtain ⟨r10,hr10,hr⟩:=obind hr
 refine W_iter hr10 (fun (s1:(List ByteArray) × Int) fr st=>∃ (s1sp0:Spare),Rd fr [(0,vL tNode a0 .shut),(3,vL tS s1.1 s1sp0),(4,vI s1.2)]∧HL st [.own s1sp0]) (fun (r10:((List ByteArray))) e fr st=>e = .exit 0∧∃ (r10sp0:Spare),Rd fr [(3,vL tS r10 r10sp0)]∧HL st [.own r10sp0]) ⟨.nil,H.tq,((K.keep []).nilo)⟩ ?_ ?_
 ·intro s1 fr st r hi hr
  obtain ⟨s1sp0,H,K⟩:=hi
  refine W_seq (W_seq (W_reg (q_g 3 [(0,vL tNode a0 .shut),(3,vL tS s1.1 s1sp0),(4,vI s1.2),(6,vI (w64 (s1.2 + 1))),(7,vL tNode a0 .shut)] H fun _ H=>?_)))
  refine q_v (.len 22 (vL tNode a0 .shut)) [(0,vL tNode a0 .shut),(3,vL tS s1.1 s1sp0),(4,vI s1.2),(6,vI (w64 (s1.2 + 1))),(8,vI (a0.length:Int))] H (run_len tNode (by kernel_rfl)) fun _ H=>q_g 1 [(0,vL tNode a0 .shut),(3,vL tS s1.1 s1sp0),(4,vI s1.2),(9,vB (decide ((w64 (s1.2 + 1)) < (a0.length:Int))))] H fun _ H=>q_e ?_
  rcases csplit hr with ⟨c2,hr⟩|⟨c2,hr⟩
  rotate_left
  ·refine q_F H c2 ?_
   refine W_exit ?_
   obtain rfl:=sj hr
   exact ⟨by simp,⟨rfl,s1sp0,H.tq,K.keep [true]⟩⟩
  refine q_T H c2 (W_skip (W_seq (W_block (W_drw (q_g 3 [(0,vL tNode a0 .shut),(4,vI s1.2),(12,vL tS s1.1 s1sp0),(13,vL tNode a0 .shut),(14,vI s1.2)] H fun _ H=>?_)))))
  obtain ⟨x3,hx3,hr⟩:=obind hr
  refine q_v (.indexAddr 22 (vL tNode a0 .shut) (vI s1.2)) [(0,vL tNode a0 .shut),(4,vI s1.2),(12,vL tS s1.1 s1sp0),(15,cN x3 0)] H (run_idxL tNode (by kernel_rfl) hx3) fun _ H=>q_g 1 [(0,vL tNode a0 .shut),(4,vI s1.2),(12,vL tS s1.1 s1sp0),(16,aN x3)] H fun _ H=>?_
  obtain ⟨x4,hx4,hr⟩:=obind hr
  refine q_c (F54_R n x3 x4 hx4 (p0:=.shut)) 0 [(0,vL tNode a0 .shut),(4,vI s1.2),(12,vL tS s1.1 s1sp0),(17,vS x4)] H fun _ H=>q_g 3 [(0,vL tNode a0 .shut),(4,vI s1.2),(12,vL tS s1.1 s1sp0),(17,vS x4),(18,vL tNode a0 .shut),(20,vI (w64 (s1.2 + 1)))] H fun _ H=>?_
  obtain ⟨x5,hx5,hr⟩:=obind hr
  refine q_v (.indexAddr 22 (vL tNode a0 .shut) (vI (w64 (s1.2 + 1)))) [(0,vL tNode a0 .shut),(4,vI s1.2),(12,vL tS s1.1 s1sp0),(17,vS x4),(21,cN x5 0)] H (run_idxL tNode (by kernel_rfl) hx5) fun _ H=>q_g 1 [(0,vL tNode a0 .shut),(4,vI s1.2),(12,vL tS s1.1 s1sp0),(17,vS x4),(22,aN x5)] H fun _ H=>?_
  obtain ⟨x6,hx6,hr⟩:=obind hr
  refine q_c (F54_R n x5 x6 hx6 (p0:=.shut)) 0 [(0,vL tNode a0 .shut),(4,vI s1.2),(12,vL tS s1.1 s1sp0),(17,vS x4),(23,vS x6)] H fun _ H=>?_
  refine q_v (.buildSlice 30 3 [(0,vS x4),(1,vS (bs [58,61])),(2,vS x6)]) [(0,vL tNode a0 .shut),(4,vI s1.2),(12,vL tS s1.1 s1sp0),(24,vL tS ([x4,(bs [58,61]),x6]:List ByteArray) .full)] H (run_bslice (v:=vL tS ([x4,(bs [58,61]),x6]:List ByteArray) .full) (v0:=.slice [vS x4,vS (bs [58,61]),vS x6] .full) (by kernel_rfl) (rfl)) fun _ H=>?_
  obtain ⟨x7,hx7,hr⟩:=obind hr
  refine q_c (F85_R n ([x4,(bs [58,61]),x6]:List ByteArray) x7 hx7 (p0:=.full)) 0 [(0,vL tNode a0 .shut),(4,vI s1.2),(12,vL tS s1.1 s1sp0),(25,vS x7)] H fun _ H=>?_
  refine q_v (.buildSlice 30 1 [(0,vS x7)]) [(0,vL tNode a0 .shut),(4,vI s1.2),(12,vL tS s1.1 s1sp0),(26,vL tS ([x7]:List ByteArray) .full)] H (run_bslice (v:=vL tS ([x7]:List ByteArray) .full) (v0:=.slice [vS x7] .full) (by kernel_rfl) (rfl)) fun _ H=>?_
  obtain ⟨x8,hx8,hr⟩:=obind hr
  refine k_app tS hx8 (t:=30) (t2:=30) (sp2:=.full) 0 (fun sp9=>[(0,vL tNode a0 .shut),(4,vI s1.2),(27,vL tS x8 sp9)]) H K rfl (by kernel_rfl) (fun _ _=>by kernel_rfl) fun sp9 st K fr H=>q_g 1 [(0,vL tNode a0 .shut),(3,vL tS x8 sp9),(4,vI s1.2)] H fun _ H=>q_e (q_d (W_reg (q_g 3 [(0,vL tNode a0 .shut),(3,vL tS x8 sp9),(4,vI (w64 (s1.2 + 2)))] H fun _ H=>q_e ?_)))
  obtain rfl:=sj hr
  exact ⟨rfl,⟨sp9,H.tq,K.keep [true]⟩⟩
 rintro e fr st ⟨rfl,r10sp0,H,K⟩
 refine W_seq (W_reg (q_g 1 [(28,vL tS r10 r10sp0)] H fun _ H=>?_))
 obtain ⟨x11,hx11,hr⟩:=obind hr
 refine q_c (join_R r10 (bs [44,32]) x11 hx11 (sp:=r10sp0)) 0 [(29,vS x11)] H fun _ H=>q_g 1 [(2,vS x11)] H fun _ H=>q_e (W_ret ?_)
 obtain rfl:=sj hr
 exact q_r [vS x11] H K
def F187 (n:Nat) (a0:Node):Option ByteArray := bif a0.kind == 20 then ((idxL a0.kids 0).bind fun x2 => (F54 n x2).bind fun x3 => (F85 n ([(bs [97,115,115,101,114,116]),x3]:List ByteArray)).bind fun x4 => some x4) else (bif a0.kind == 29 then ((idxL a0.kids 0).bind fun x6 => (F54 n x6).bind fun x7 => (F85 n ([(bs [97,119,97,105,116]),x7]:List ByteArray)).bind fun x8 => some x8) else (bif a0.kind == 26 then (some (bs [102,101,110,99,101])) else (bif a0.kind == 30 then (some (bs [115,107,105,112])) else (bif a0.kind == 21 then ((F126 n (a0.n == 1) ([(bs [114,101,108,101,97,115,101])]:List ByteArray)).bind fun x12 => (subL a0.kids 0 2).bind fun x13 => (F210 n x13).bind fun x14 => (subL a0.kids 2 (a0.kids.length:Int)).bind fun x15 => (F210 n x15).bind fun x16 => (F126 n (decide (2 < (a0.kids.length:Int))) ([(bs [119,105,116,104]),x16]:List ByteArray)).bind fun x17 => (F85 n ([x12,x14,x17]:List ByteArray)).bind fun x18 => some x18) else (bif a0.kind == 22 then ((subL a0.kids 1 (a0.kids.length:Int)).bind fun x20 => (F210 n x20).bind fun x21 => (idxL a0.kids 0).bind fun x22 => (idxL a0.kids 0).bind fun x23 => (F54 n x23).bind fun x24 => (F126 n (x22.kind != 63) ([(bs [119,104,101,110]),x24]:List ByteArray)).bind fun x25 => (F85 n ([(bs [97,116,111,109,105,99]),(bs [123]),x21,(bs [125]),x25]:List ByteArray)).bind fun x26 => some x26) else (bif a0.kind == 23 then ((subL a0.kids 0 3).bind fun x28 => (F124_1 n x28).bind fun x29 => (idxL a0.kids 3).bind fun x30 => (F54 n x30).bind fun x31 => (subL a0.kids 4 (a0.kids.length:Int)).bind fun x32 => (F210 n x32).bind fun x33 => (F126 n (decide (4 < (a0.kids.length:Int))) ([(bs [119,105,116,104]),x33]:List ByteArray)).bind fun x34 => (F85 n ([(bs [99,97,115]),x29,(bs [105,110,116,111]),x31,x34]:List ByteArray)).bind fun x35 => some x35) else (bif a0.kind == 24 then ((F85 n ([(bs [97,99,113,117,105,114,101]),a0.name]:List ByteArray)).bind fun x37 => some x37) else (bif a0.kind == 25 then ((F85 n ([(bs [102,114,101,101]),a0.name]:List ByteArray)).bind fun x39 => some x39) else (bif a0.kind == 27 then ((F85 n ([(bs [115,112,97,119,110]),a0.name]:List ByteArray)).bind fun x41 => some x41) else (bif a0.kind == 28 then ((F85 n ([(bs [106,111,105,110]),a0.name]:List ByteArray)).bind fun x43 => some x43) else (bif a0.kind == 33 then ((F124_1 n a0.kids).bind fun x45 => (F82 ([a0.name,(bs [40]),x45,(bs [41])]:List ByteArray)).bind fun x46 => (F85 n ([(bs [99,97,108,108]),x46]:List ByteArray)).bind fun x47 => some x47) else (some (bs [])))))))))))))
theorem F187_R (n:Nat) (a0:Node) (r:ByteArray) (hr:F187 n a0 = some r) {st:St} {p0:Spare}:R Tryz.prog AN 187 [.agg (cNode p0 a0)] st (.ret (vS r)) st:=by
 unfold F187 at hr
 refine R_pureX [aN a0] [(0,aN a0)] (by kernel_rfl) Tryz.func187 rfl (by kernel_rfl) (by simp only [strip,stripL,stripL_cNode,Option.bind_some,Option.map_some]) rfl fun fr st H K=>W_seq (W_reg (q_g 2 [(1,cN a0 0)] H fun _ H=>q_e (W_seq (W_reg (q_g 3 [(1,cN a0 0),(3,kN a0)] H fun _ H=>q_e (W_seq (W_seq (W_reg (q_g 2 [(1,cN a0 0),(3,kN a0),(7,vI a0.kind)] H fun _ H=>q_e (W_block (W_seq (W_reg (q_g 2 [(1,cN a0 0),(3,kN a0),(7,vI a0.kind),(8,vB (a0.kind == 20))] H fun _ H=>q_e ?_)))))))))))))
 rcases csplit hr with ⟨c1,hr⟩|⟨c1,hr⟩
 ·refine q_T H c1 (W_seq (W_reg (q_g 1 [(10,kN a0)] H fun _ H=>?_)))
  obtain ⟨x2,hx2,hr⟩:=obind hr
  refine q_v (.indexAddr 22 (kN a0) (vI 0)) [(11,cN x2 0)] H (run_idxL tNode (by kernel_rfl) hx2) fun _ H=>q_g 1 [(12,aN x2)] H fun _ H=>?_
  obtain ⟨x3,hx3,hr⟩:=obind hr
  refine q_c (F54_R n x2 x3 hx3 (p0:=.shut)) 0 [(13,vS x3)] H fun _ H=>?_
  refine q_v (.buildSlice 30 2 [(0,vS (bs [97,115,115,101,114,116])),(1,vS x3)]) [(14,vL tS ([(bs [97,115,115,101,114,116]),x3]:List ByteArray) .full)] H (run_bslice (v:=vL tS ([(bs [97,115,115,101,114,116]),x3]:List ByteArray) .full) (v0:=.slice [vS (bs [97,115,115,101,114,116]),vS x3] .full) (by kernel_rfl) (rfl)) fun _ H=>?_
  obtain ⟨x4,hx4,hr⟩:=obind hr
  refine q_c (F85_R n ([(bs [97,115,115,101,114,116]),x3]:List ByteArray) x4 hx4 (p0:=.full)) 0 [(15,vS x4)] H fun _ H=>q_g 1 [(2,vS x4)] H fun _ H=>q_e (W_ret ?_)
  obtain rfl:=sj hr
  exact q_r [vS x4] H K
 refine q_F H c1 (W_seq (W_reg (q_g 2 [(1,cN a0 0),(3,kN a0),(7,vI a0.kind),(16,vB (a0.kind == 29))] H fun _ H=>q_e ?_)))
 rcases csplit hr with ⟨c5,hr⟩|⟨c5,hr⟩
 ·refine q_T H c5 (W_seq (W_reg (q_g 1 [(18,kN a0)] H fun _ H=>?_)))
  obtain ⟨x6,hx6,hr⟩:=obind hr
  refine q_v (.indexAddr 22 (kN a0) (vI 0)) [(19,cN x6 0)] H (run_idxL tNode (by kernel_rfl) hx6) fun _ H=>q_g 1 [(20,aN x6)] H fun _ H=>?_
  obtain ⟨x7,hx7,hr⟩:=obind hr
  refine q_c (F54_R n x6 x7 hx7 (p0:=.shut)) 0 [(21,vS x7)] H fun _ H=>?_
  refine q_v (.buildSlice 30 2 [(0,vS (bs [97,119,97,105,116])),(1,vS x7)]) [(22,vL tS ([(bs [97,119,97,105,116]),x7]:List ByteArray) .full)] H (run_bslice (v:=vL tS ([(bs [97,119,97,105,116]),x7]:List ByteArray) .full) (v0:=.slice [vS (bs [97,119,97,105,116]),vS x7] .full) (by kernel_rfl) (rfl)) fun _ H=>?_
  obtain ⟨x8,hx8,hr⟩:=obind hr
  refine q_c (F85_R n ([(bs [97,119,97,105,116]),x7]:List ByteArray) x8 hx8 (p0:=.full)) 0 [(23,vS x8)] H fun _ H=>q_g 1 [(2,vS x8)] H fun _ H=>q_e (W_ret ?_)
  obtain rfl:=sj hr
  exact q_r [vS x8] H K
 refine q_F H c5 (W_seq (W_reg (q_g 2 [(1,cN a0 0),(3,kN a0),(7,vI a0.kind),(24,vB (a0.kind == 26))] H fun _ H=>q_e ?_)))
 rcases csplit hr with ⟨c9,hr⟩|⟨c9,hr⟩
 ·refine q_T H c9 (W_seq (W_reg (q_g 1 [(2,vS (bs [102,101,110,99,101]))] H fun _ H=>q_e (W_ret ?_))))
  obtain rfl:=sj hr
  exact q_r [vS (bs [102,101,110,99,101])] H K
 refine q_F H c9 (W_seq (W_reg (q_g 2 [(1,cN a0 0),(3,kN a0),(7,vI a0.kind),(26,vB (a0.kind == 30))] H fun _ H=>q_e ?_)))
 rcases csplit hr with ⟨c10,hr⟩|⟨c10,hr⟩
 ·refine q_T H c10 (W_seq (W_reg (q_g 1 [(2,vS (bs [115,107,105,112]))] H fun _ H=>q_e (W_ret ?_))))
  obtain rfl:=sj hr
  exact q_r [vS (bs [115,107,105,112])] H K
 refine q_F H c10 (W_seq (W_reg (q_g 2 [(1,cN a0 0),(3,kN a0),(7,vI a0.kind),(28,vB (a0.kind == 21))] H fun _ H=>q_e ?_)))
 rcases csplit hr with ⟨c11,hr⟩|⟨c11,hr⟩
 ·refine q_T H c11 (W_seq (W_drw (q_g 3 [(3,kN a0),(32,vB (a0.n == 1))] H fun _ H=>?_)))
  refine q_v (.buildSlice 30 1 [(0,vS (bs [114,101,108,101,97,115,101]))]) [(3,kN a0),(32,vB (a0.n == 1)),(33,vL tS ([(bs [114,101,108,101,97,115,101])]:List ByteArray) .full)] H (run_bslice (v:=vL tS ([(bs [114,101,108,101,97,115,101])]:List ByteArray) .full) (v0:=.slice [vS (bs [114,101,108,101,97,115,101])] .full) (by kernel_rfl) (rfl)) fun _ H=>?_
  obtain ⟨x12,hx12,hr⟩:=obind hr
  refine q_c (F126_R n (a0.n == 1) ([(bs [114,101,108,101,97,115,101])]:List ByteArray) x12 hx12 (p0:=.full)) 0 [(3,kN a0),(34,vS x12)] H fun _ H=>q_g 1 [(3,kN a0),(34,vS x12),(35,kN a0)] H fun _ H=>?_
  obtain ⟨x13,hx13,hr⟩:=obind hr
  refine q_v (.slice 22 (kN a0) none (some (vI 2))) [(3,kN a0),(34,vS x12),(36,vL tNode x13 .shut)] H (run_subL_hi tNode (by kernel_rfl) hx13) fun _ H=>?_
  obtain ⟨x14,hx14,hr⟩:=obind hr
  refine q_c (F210_R n x13 x14 hx14 (p0:=.shut)) 0 [(3,kN a0),(34,vS x12),(37,vS x14)] H fun _ H=>q_g 1 [(3,kN a0),(34,vS x12),(37,vS x14),(38,kN a0)] H fun _ H=>?_
  refine q_v (.len 22 (kN a0)) [(3,kN a0),(34,vS x12),(37,vS x14),(39,vI (a0.kids.length:Int))] H (run_len tNode (by kernel_rfl)) fun _ H=>q_g 2 [(34,vS x12),(37,vS x14),(40,vB (decide (2 < (a0.kids.length:Int)))),(41,kN a0)] H fun _ H=>?_
  obtain ⟨x15,hx15,hr⟩:=obind hr
  refine q_v (.slice 22 (kN a0) (some (vI 2)) none) [(34,vS x12),(37,vS x14),(40,vB (decide (2 < (a0.kids.length:Int)))),(42,vL tNode x15 .shut)] H (run_subL_lo tNode (by kernel_rfl) hx15) fun _ H=>?_
  obtain ⟨x16,hx16,hr⟩:=obind hr
  refine q_c (F210_R n x15 x16 hx16 (p0:=.shut)) 0 [(34,vS x12),(37,vS x14),(40,vB (decide (2 < (a0.kids.length:Int)))),(43,vS x16)] H fun _ H=>?_
  refine q_v (.buildSlice 30 2 [(0,vS (bs [119,105,116,104])),(1,vS x16)]) [(34,vS x12),(37,vS x14),(40,vB (decide (2 < (a0.kids.length:Int)))),(44,vL tS ([(bs [119,105,116,104]),x16]:List ByteArray) .full)] H (run_bslice (v:=vL tS ([(bs [119,105,116,104]),x16]:List ByteArray) .full) (v0:=.slice [vS (bs [119,105,116,104]),vS x16] .full) (by kernel_rfl) (rfl)) fun _ H=>?_
  obtain ⟨x17,hx17,hr⟩:=obind hr
  refine q_c (F126_R n (decide (2 < (a0.kids.length:Int))) ([(bs [119,105,116,104]),x16]:List ByteArray) x17 hx17 (p0:=.full)) 0 [(34,vS x12),(37,vS x14),(45,vS x17)] H fun _ H=>?_
  refine q_v (.buildSlice 30 3 [(0,vS x12),(1,vS x14),(2,vS x17)]) [(46,vL tS ([x12,x14,x17]:List ByteArray) .full)] H (run_bslice (v:=vL tS ([x12,x14,x17]:List ByteArray) .full) (v0:=.slice [vS x12,vS x14,vS x17] .full) (by kernel_rfl) (rfl)) fun _ H=>?_
  obtain ⟨x18,hx18,hr⟩:=obind hr
  refine q_c (F85_R n ([x12,x14,x17]:List ByteArray) x18 hx18 (p0:=.full)) 0 [(47,vS x18)] H fun _ H=>q_g 1 [(2,vS x18)] H fun _ H=>q_e (q_d (W_ret ?_))
  obtain rfl:=sj hr
  exact q_r [vS x18] H K
 refine q_F H c11 (W_seq (W_reg (q_g 2 [(1,cN a0 0),(3,kN a0),(7,vI a0.kind),(48,vB (a0.kind == 22))] H fun _ H=>q_e ?_)))
 rcases csplit hr with ⟨c19,hr⟩|⟨c19,hr⟩
 ·refine q_T H c19 (W_seq (W_drw (q_g 1 [(3,kN a0),(50,kN a0)] H fun _ H=>?_)))
  obtain ⟨x20,hx20,hr⟩:=obind hr
  refine q_v (.slice 22 (kN a0) (some (vI 1)) none) [(3,kN a0),(51,vL tNode x20 .shut)] H (run_subL_lo tNode (by kernel_rfl) hx20) fun _ H=>?_
  obtain ⟨x21,hx21,hr⟩:=obind hr
  refine q_c (F210_R n x20 x21 hx21 (p0:=.shut)) 0 [(3,kN a0),(52,vS x21)] H fun _ H=>q_g 1 [(3,kN a0),(52,vS x21),(53,kN a0)] H fun _ H=>?_
  obtain ⟨x22,hx22,hr⟩:=obind hr
  refine q_v (.indexAddr 22 (kN a0) (vI 0)) [(3,kN a0),(52,vS x21),(54,cN x22 0)] H (run_idxL tNode (by kernel_rfl) hx22) fun _ H=>q_g 4 [(52,vS x21),(57,vB (x22.kind != 63)),(58,kN a0)] H fun _ H=>?_
  obtain ⟨x23,hx23,hr⟩:=obind hr
  refine q_v (.indexAddr 22 (kN a0) (vI 0)) [(52,vS x21),(57,vB (x22.kind != 63)),(59,cN x23 0)] H (run_idxL tNode (by kernel_rfl) hx23) fun _ H=>q_g 1 [(52,vS x21),(57,vB (x22.kind != 63)),(60,aN x23)] H fun _ H=>?_
  obtain ⟨x24,hx24,hr⟩:=obind hr
  refine q_c (F54_R n x23 x24 hx24 (p0:=.shut)) 0 [(52,vS x21),(57,vB (x22.kind != 63)),(61,vS x24)] H fun _ H=>?_
  refine q_v (.buildSlice 30 2 [(0,vS (bs [119,104,101,110])),(1,vS x24)]) [(52,vS x21),(57,vB (x22.kind != 63)),(62,vL tS ([(bs [119,104,101,110]),x24]:List ByteArray) .full)] H (run_bslice (v:=vL tS ([(bs [119,104,101,110]),x24]:List ByteArray) .full) (v0:=.slice [vS (bs [119,104,101,110]),vS x24] .full) (by kernel_rfl) (rfl)) fun _ H=>?_
  obtain ⟨x25,hx25,hr⟩:=obind hr
  refine q_c (F126_R n (x22.kind != 63) ([(bs [119,104,101,110]),x24]:List ByteArray) x25 hx25 (p0:=.full)) 0 [(52,vS x21),(63,vS x25)] H fun _ H=>?_
  refine q_v (.buildSlice 30 5 [(0,vS (bs [97,116,111,109,105,99])),(1,vS (bs [123])),(2,vS x21),(3,vS (bs [125])),(4,vS x25)]) [(64,vL tS ([(bs [97,116,111,109,105,99]),(bs [123]),x21,(bs [125]),x25]:List ByteArray) .full)] H (run_bslice (v:=vL tS ([(bs [97,116,111,109,105,99]),(bs [123]),x21,(bs [125]),x25]:List ByteArray) .full) (v0:=.slice [vS (bs [97,116,111,109,105,99]),vS (bs [123]),vS x21,vS (bs [125]),vS x25] .full) (by kernel_rfl) (rfl)) fun _ H=>?_
  obtain ⟨x26,hx26,hr⟩:=obind hr
  refine q_c (F85_R n ([(bs [97,116,111,109,105,99]),(bs [123]),x21,(bs [125]),x25]:List ByteArray) x26 hx26 (p0:=.full)) 0 [(65,vS x26)] H fun _ H=>q_g 1 [(2,vS x26)] H fun _ H=>q_e (q_d (W_ret ?_))
  obtain rfl:=sj hr
  exact q_r [vS x26] H K
 refine q_F H c19 (W_seq (W_reg (q_g 2 [(1,cN a0 0),(3,kN a0),(7,vI a0.kind),(66,vB (a0.kind == 23))] H fun _ H=>q_e ?_)))
 rcases csplit hr with ⟨c27,hr⟩|⟨c27,hr⟩
 ·refine q_T H c27 (W_seq (W_drw (q_g 1 [(3,kN a0),(68,kN a0)] H fun _ H=>?_)))
  obtain ⟨x28,hx28,hr⟩:=obind hr
  refine q_v (.slice 22 (kN a0) none (some (vI 3))) [(3,kN a0),(69,vL tNode x28 .shut)] H (run_subL_hi tNode (by kernel_rfl) hx28) fun _ H=>?_
  obtain ⟨x29,hx29,hr⟩:=obind hr
  refine q_c (F124_1_R n x28 x29 hx29 (p0:=.shut)) 0 [(3,kN a0),(70,vS x29)] H fun _ H=>q_g 1 [(3,kN a0),(70,vS x29),(71,kN a0)] H fun _ H=>?_
  obtain ⟨x30,hx30,hr⟩:=obind hr
  refine q_v (.indexAddr 22 (kN a0) (vI 3)) [(3,kN a0),(70,vS x29),(72,cN x30 0)] H (run_idxL tNode (by kernel_rfl) hx30) fun _ H=>q_g 1 [(3,kN a0),(70,vS x29),(73,aN x30)] H fun _ H=>?_
  obtain ⟨x31,hx31,hr⟩:=obind hr
  refine q_c (F54_R n x30 x31 hx31 (p0:=.shut)) 0 [(3,kN a0),(70,vS x29),(74,vS x31)] H fun _ H=>q_g 1 [(3,kN a0),(70,vS x29),(74,vS x31),(75,kN a0)] H fun _ H=>?_
  refine q_v (.len 22 (kN a0)) [(3,kN a0),(70,vS x29),(74,vS x31),(76,vI (a0.kids.length:Int))] H (run_len tNode (by kernel_rfl)) fun _ H=>q_g 2 [(70,vS x29),(74,vS x31),(77,vB (decide (4 < (a0.kids.length:Int)))),(78,kN a0)] H fun _ H=>?_
  obtain ⟨x32,hx32,hr⟩:=obind hr
  refine q_v (.slice 22 (kN a0) (some (vI 4)) none) [(70,vS x29),(74,vS x31),(77,vB (decide (4 < (a0.kids.length:Int)))),(79,vL tNode x32 .shut)] H (run_subL_lo tNode (by kernel_rfl) hx32) fun _ H=>?_
  obtain ⟨x33,hx33,hr⟩:=obind hr
  refine q_c (F210_R n x32 x33 hx33 (p0:=.shut)) 0 [(70,vS x29),(74,vS x31),(77,vB (decide (4 < (a0.kids.length:Int)))),(80,vS x33)] H fun _ H=>?_
  refine q_v (.buildSlice 30 2 [(0,vS (bs [119,105,116,104])),(1,vS x33)]) [(70,vS x29),(74,vS x31),(77,vB (decide (4 < (a0.kids.length:Int)))),(81,vL tS ([(bs [119,105,116,104]),x33]:List ByteArray) .full)] H (run_bslice (v:=vL tS ([(bs [119,105,116,104]),x33]:List ByteArray) .full) (v0:=.slice [vS (bs [119,105,116,104]),vS x33] .full) (by kernel_rfl) (rfl)) fun _ H=>?_
  obtain ⟨x34,hx34,hr⟩:=obind hr
  refine q_c (F126_R n (decide (4 < (a0.kids.length:Int))) ([(bs [119,105,116,104]),x33]:List ByteArray) x34 hx34 (p0:=.full)) 0 [(70,vS x29),(74,vS x31),(82,vS x34)] H fun _ H=>?_
  refine q_v (.buildSlice 30 5 [(0,vS (bs [99,97,115])),(1,vS x29),(2,vS (bs [105,110,116,111])),(3,vS x31),(4,vS x34)]) [(83,vL tS ([(bs [99,97,115]),x29,(bs [105,110,116,111]),x31,x34]:List ByteArray) .full)] H (run_bslice (v:=vL tS ([(bs [99,97,115]),x29,(bs [105,110,116,111]),x31,x34]:List ByteArray) .full) (v0:=.slice [vS (bs [99,97,115]),vS x29,vS (bs [105,110,116,111]),vS x31,vS x34] .full) (by kernel_rfl) (rfl)) fun _ H=>?_
  obtain ⟨x35,hx35,hr⟩:=obind hr
  refine q_c (F85_R n ([(bs [99,97,115]),x29,(bs [105,110,116,111]),x31,x34]:List ByteArray) x35 hx35 (p0:=.full)) 0 [(84,vS x35)] H fun _ H=>q_g 1 [(2,vS x35)] H fun _ H=>q_e (q_d (W_ret ?_))
  obtain rfl:=sj hr
  exact q_r [vS x35] H K
 refine q_F H c27 (W_seq (W_reg (q_g 2 [(1,cN a0 0),(3,kN a0),(7,vI a0.kind),(85,vB (a0.kind == 24))] H fun _ H=>q_e ?_)))
 rcases csplit hr with ⟨c36,hr⟩|⟨c36,hr⟩
 ·refine q_T H c36 (W_seq (W_reg (q_g 2 [(88,vS a0.name)] H fun _ H=>?_)))
  refine q_v (.buildSlice 30 2 [(0,vS (bs [97,99,113,117,105,114,101])),(1,vS a0.name)]) [(89,vL tS ([(bs [97,99,113,117,105,114,101]),a0.name]:List ByteArray) .full)] H (run_bslice (v:=vL tS ([(bs [97,99,113,117,105,114,101]),a0.name]:List ByteArray) .full) (v0:=.slice [vS (bs [97,99,113,117,105,114,101]),vS a0.name] .full) (by kernel_rfl) (rfl)) fun _ H=>?_
  obtain ⟨x37,hx37,hr⟩:=obind hr
  refine q_c (F85_R n ([(bs [97,99,113,117,105,114,101]),a0.name]:List ByteArray) x37 hx37 (p0:=.full)) 0 [(90,vS x37)] H fun _ H=>q_g 1 [(2,vS x37)] H fun _ H=>q_e (W_ret ?_)
  obtain rfl:=sj hr
  exact q_r [vS x37] H K
 refine q_F H c36 (W_seq (W_reg (q_g 2 [(1,cN a0 0),(3,kN a0),(7,vI a0.kind),(91,vB (a0.kind == 25))] H fun _ H=>q_e ?_)))
 rcases csplit hr with ⟨c38,hr⟩|⟨c38,hr⟩
 ·refine q_T H c38 (W_seq (W_reg (q_g 2 [(94,vS a0.name)] H fun _ H=>?_)))
  refine q_v (.buildSlice 30 2 [(0,vS (bs [102,114,101,101])),(1,vS a0.name)]) [(95,vL tS ([(bs [102,114,101,101]),a0.name]:List ByteArray) .full)] H (run_bslice (v:=vL tS ([(bs [102,114,101,101]),a0.name]:List ByteArray) .full) (v0:=.slice [vS (bs [102,114,101,101]),vS a0.name] .full) (by kernel_rfl) (rfl)) fun _ H=>?_
  obtain ⟨x39,hx39,hr⟩:=obind hr
  refine q_c (F85_R n ([(bs [102,114,101,101]),a0.name]:List ByteArray) x39 hx39 (p0:=.full)) 0 [(96,vS x39)] H fun _ H=>q_g 1 [(2,vS x39)] H fun _ H=>q_e (W_ret ?_)
  obtain rfl:=sj hr
  exact q_r [vS x39] H K
 refine q_F H c38 (W_seq (W_reg (q_g 2 [(1,cN a0 0),(3,kN a0),(7,vI a0.kind),(97,vB (a0.kind == 27))] H fun _ H=>q_e ?_)))
 rcases csplit hr with ⟨c40,hr⟩|⟨c40,hr⟩
 ·refine q_T H c40 (W_seq (W_reg (q_g 2 [(100,vS a0.name)] H fun _ H=>?_)))
  refine q_v (.buildSlice 30 2 [(0,vS (bs [115,112,97,119,110])),(1,vS a0.name)]) [(101,vL tS ([(bs [115,112,97,119,110]),a0.name]:List ByteArray) .full)] H (run_bslice (v:=vL tS ([(bs [115,112,97,119,110]),a0.name]:List ByteArray) .full) (v0:=.slice [vS (bs [115,112,97,119,110]),vS a0.name] .full) (by kernel_rfl) (rfl)) fun _ H=>?_
  obtain ⟨x41,hx41,hr⟩:=obind hr
  refine q_c (F85_R n ([(bs [115,112,97,119,110]),a0.name]:List ByteArray) x41 hx41 (p0:=.full)) 0 [(102,vS x41)] H fun _ H=>q_g 1 [(2,vS x41)] H fun _ H=>q_e (W_ret ?_)
  obtain rfl:=sj hr
  exact q_r [vS x41] H K
 refine q_F H c40 (W_seq (W_reg (q_g 2 [(1,cN a0 0),(3,kN a0),(7,vI a0.kind),(103,vB (a0.kind == 28))] H fun _ H=>q_e ?_)))
 rcases csplit hr with ⟨c42,hr⟩|⟨c42,hr⟩
 ·refine q_T H c42 (W_seq (W_reg (q_g 2 [(106,vS a0.name)] H fun _ H=>?_)))
  refine q_v (.buildSlice 30 2 [(0,vS (bs [106,111,105,110])),(1,vS a0.name)]) [(107,vL tS ([(bs [106,111,105,110]),a0.name]:List ByteArray) .full)] H (run_bslice (v:=vL tS ([(bs [106,111,105,110]),a0.name]:List ByteArray) .full) (v0:=.slice [vS (bs [106,111,105,110]),vS a0.name] .full) (by kernel_rfl) (rfl)) fun _ H=>?_
  obtain ⟨x43,hx43,hr⟩:=obind hr
  refine q_c (F85_R n ([(bs [106,111,105,110]),a0.name]:List ByteArray) x43 hx43 (p0:=.full)) 0 [(108,vS x43)] H fun _ H=>q_g 1 [(2,vS x43)] H fun _ H=>q_e (W_ret ?_)
  obtain rfl:=sj hr
  exact q_r [vS x43] H K
 refine q_F H c42 (W_seq (W_reg (q_g 2 [(1,cN a0 0),(3,kN a0),(109,vB (a0.kind == 33))] H fun _ H=>q_e ?_)))
 rcases csplit hr with ⟨c44,hr⟩|⟨c44,hr⟩
 rotate_left
 ·refine q_F H c44 (W_skip (W_seq (W_reg (q_g 1 [(2,vS (bs []))] H fun _ H=>q_e (W_ret ?_)))))
  obtain rfl:=sj hr
  exact q_r [vS (bs [])] H K
 refine q_T H c44 (W_seq (W_drw (q_g 3 [(112,vS a0.name),(113,kN a0)] H fun _ H=>?_)))
 obtain ⟨x45,hx45,hr⟩:=obind hr
 refine q_c (F124_1_R n a0.kids x45 hx45 (p0:=.shut)) 0 [(112,vS a0.name),(114,vS x45)] H fun _ H=>?_
 refine q_v (.buildSlice 30 4 [(0,vS a0.name),(1,vS (bs [40])),(2,vS x45),(3,vS (bs [41]))]) [(115,vL tS ([a0.name,(bs [40]),x45,(bs [41])]:List ByteArray) .full)] H (run_bslice (v:=vL tS ([a0.name,(bs [40]),x45,(bs [41])]:List ByteArray) .full) (v0:=.slice [vS a0.name,vS (bs [40]),vS x45,vS (bs [41])] .full) (by kernel_rfl) (rfl)) fun _ H=>?_
 obtain ⟨x46,hx46,hr⟩:=obind hr
 refine q_c (F82_R  ([a0.name,(bs [40]),x45,(bs [41])]:List ByteArray) x46 hx46 (p0:=.full)) 0 [(116,vS x46)] H fun _ H=>?_
 refine q_v (.buildSlice 30 2 [(0,vS (bs [99,97,108,108])),(1,vS x46)]) [(117,vL tS ([(bs [99,97,108,108]),x46]:List ByteArray) .full)] H (run_bslice (v:=vL tS ([(bs [99,97,108,108]),x46]:List ByteArray) .full) (v0:=.slice [vS (bs [99,97,108,108]),vS x46] .full) (by kernel_rfl) (rfl)) fun _ H=>?_
 obtain ⟨x47,hx47,hr⟩:=obind hr
 refine q_c (F85_R n ([(bs [99,97,108,108]),x46]:List ByteArray) x47 hx47 (p0:=.full)) 0 [(118,vS x47)] H fun _ H=>q_g 1 [(2,vS x47)] H fun _ H=>q_e (q_d (W_ret ?_))
 obtain rfl:=sj hr
 exact q_r [vS x47] H K
def F129 (n:Nat) (a0:Node):Option ByteArray := bif a0.kind == 61 then ((F126 n (a0.n == 1) ([(bs [97,115,108,101,101,112])]:List ByteArray)).bind fun x2 => (F124_1 n a0.kids).bind fun x3 => (F82 ([a0.other,(bs [40]),x3,(bs [41])]:List ByteArray)).bind fun x4 => (F85 n ([x2,(bs [116,104,114,101,97,100]),a0.name,(bs [61]),x4]:List ByteArray)).bind fun x5 => some x5) else (bif a0.kind == 52 then ((F125 n a0).bind fun x7 => some x7) else (bif a0.kind == 50 then ((F186 n a0).bind fun x9 => some x9) else (bif a0.kind == 53 then ((idxL a0.kids 0).bind fun x11 => (F54 n x11).bind fun x12 => (F85 n ([(bs [108,111,99,107]),a0.name,(bs [105,110,118,97,114,105,97,110,116]),x12]:List ByteArray)).bind fun x13 => some x13) else (bif a0.kind == 54 then ((idxL a0.kids 0).bind fun x15 => (F54 n x15).bind fun x16 => (F85 n ([(bs [114,101,108,121]),x16]:List ByteArray)).bind fun x17 => some x17) else (bif a0.kind == 55 then ((idxL a0.kids 0).bind fun x19 => (F54 n x19).bind fun x20 => (F85 n ([(bs [103,117,97,114,97,110,116,101,101]),x20]:List ByteArray)).bind fun x21 => some x21) else (bif a0.kind == 56 then ((F124_1 n a0.kids).bind fun x23 => (F85 n ([(bs [102,114,97,109,101]),x23]:List ByteArray)).bind fun x24 => some x24) else (bif a0.kind == 35 then ((F126 n a0.ghost ([(bs [103,104,111,115,116])]:List ByteArray)).bind fun x26 => (F125 n a0).bind fun x27 => (F85 n ([x26,(bs [108,111,99,97,108]),x27]:List ByteArray)).bind fun x28 => some x28) else ((F187 n a0).bind fun x29 => some x29))))))))
theorem F129_R (n:Nat) (a0:Node) (r:ByteArray) (hr:F129 n a0 = some r) {st:St} {p0:Spare}:R Tryz.prog AN 129 [.agg (cNode p0 a0)] st (.ret (vS r)) st:=by
 unfold F129 at hr
 refine R_pureX [aN a0] [(0,aN a0)] (by kernel_rfl) Tryz.func129 rfl (by kernel_rfl) (by simp only [strip,stripL,stripL_cNode,Option.bind_some,Option.map_some]) rfl fun fr st H K=>W_seq (W_reg (q_g 2 [(1,cN a0 0)] H fun _ H=>q_e (W_seq (W_seq (W_reg (q_g 2 [(1,cN a0 0),(4,vI a0.kind)] H fun _ H=>q_e (W_block (W_seq (W_reg (q_g 2 [(1,cN a0 0),(4,vI a0.kind),(5,vB (a0.kind == 61))] H fun _ H=>q_e ?_))))))))))
 rcases csplit hr with ⟨c1,hr⟩|⟨c1,hr⟩
 ·refine q_T H c1 (W_seq (W_drw (q_g 3 [(1,cN a0 0),(9,vB (a0.n == 1))] H fun _ H=>?_)))
  refine q_v (.buildSlice 30 1 [(0,vS (bs [97,115,108,101,101,112]))]) [(1,cN a0 0),(9,vB (a0.n == 1)),(10,vL tS ([(bs [97,115,108,101,101,112])]:List ByteArray) .full)] H (run_bslice (v:=vL tS ([(bs [97,115,108,101,101,112])]:List ByteArray) .full) (v0:=.slice [vS (bs [97,115,108,101,101,112])] .full) (by kernel_rfl) (rfl)) fun _ H=>?_
  obtain ⟨x2,hx2,hr⟩:=obind hr
  refine q_c (F126_R n (a0.n == 1) ([(bs [97,115,108,101,101,112])]:List ByteArray) x2 hx2 (p0:=.full)) 0 [(1,cN a0 0),(11,vS x2)] H fun _ H=>q_g 6 [(11,vS x2),(13,vS a0.name),(15,vS a0.other),(17,kN a0)] H fun _ H=>?_
  obtain ⟨x3,hx3,hr⟩:=obind hr
  refine q_c (F124_1_R n a0.kids x3 hx3 (p0:=.shut)) 0 [(11,vS x2),(13,vS a0.name),(15,vS a0.other),(18,vS x3)] H fun _ H=>?_
  refine q_v (.buildSlice 30 4 [(0,vS a0.other),(1,vS (bs [40])),(2,vS x3),(3,vS (bs [41]))]) [(11,vS x2),(13,vS a0.name),(19,vL tS ([a0.other,(bs [40]),x3,(bs [41])]:List ByteArray) .full)] H (run_bslice (v:=vL tS ([a0.other,(bs [40]),x3,(bs [41])]:List ByteArray) .full) (v0:=.slice [vS a0.other,vS (bs [40]),vS x3,vS (bs [41])] .full) (by kernel_rfl) (rfl)) fun _ H=>?_
  obtain ⟨x4,hx4,hr⟩:=obind hr
  refine q_c (F82_R  ([a0.other,(bs [40]),x3,(bs [41])]:List ByteArray) x4 hx4 (p0:=.full)) 0 [(11,vS x2),(13,vS a0.name),(20,vS x4)] H fun _ H=>?_
  refine q_v (.buildSlice 30 5 [(0,vS x2),(1,vS (bs [116,104,114,101,97,100])),(2,vS a0.name),(3,vS (bs [61])),(4,vS x4)]) [(21,vL tS ([x2,(bs [116,104,114,101,97,100]),a0.name,(bs [61]),x4]:List ByteArray) .full)] H (run_bslice (v:=vL tS ([x2,(bs [116,104,114,101,97,100]),a0.name,(bs [61]),x4]:List ByteArray) .full) (v0:=.slice [vS x2,vS (bs [116,104,114,101,97,100]),vS a0.name,vS (bs [61]),vS x4] .full) (by kernel_rfl) (rfl)) fun _ H=>?_
  obtain ⟨x5,hx5,hr⟩:=obind hr
  refine q_c (F85_R n ([x2,(bs [116,104,114,101,97,100]),a0.name,(bs [61]),x4]:List ByteArray) x5 hx5 (p0:=.full)) 0 [(22,vS x5)] H fun _ H=>q_g 1 [(2,vS x5)] H fun _ H=>q_e (q_d (W_ret ?_))
  obtain rfl:=sj hr
  exact q_r [vS x5] H K
 refine q_F H c1 (W_seq (W_reg (q_g 2 [(1,cN a0 0),(4,vI a0.kind),(23,vB (a0.kind == 52))] H fun _ H=>q_e ?_)))
 rcases csplit hr with ⟨c6,hr⟩|⟨c6,hr⟩
 ·refine q_T H c6 (W_seq (W_reg (q_g 1 [(25,aN a0)] H fun _ H=>?_)))
  obtain ⟨x7,hx7,hr⟩:=obind hr
  refine q_c (F125_R n a0 x7 hx7 (p0:=.shut)) 0 [(26,vS x7)] H fun _ H=>q_g 1 [(2,vS x7)] H fun _ H=>q_e (W_ret ?_)
  obtain rfl:=sj hr
  exact q_r [vS x7] H K
 refine q_F H c6 (W_seq (W_reg (q_g 2 [(1,cN a0 0),(4,vI a0.kind),(27,vB (a0.kind == 50))] H fun _ H=>q_e ?_)))
 rcases csplit hr with ⟨c8,hr⟩|⟨c8,hr⟩
 ·refine q_T H c8 (W_seq (W_reg (q_g 1 [(29,aN a0)] H fun _ H=>?_)))
  obtain ⟨x9,hx9,hr⟩:=obind hr
  refine q_c (F186_R n a0 x9 hx9 (p0:=.shut)) 0 [(30,vS x9)] H fun _ H=>q_g 1 [(2,vS x9)] H fun _ H=>q_e (W_ret ?_)
  obtain rfl:=sj hr
  exact q_r [vS x9] H K
 refine q_F H c8 (W_seq (W_reg (q_g 2 [(1,cN a0 0),(4,vI a0.kind),(31,vB (a0.kind == 53))] H fun _ H=>q_e ?_)))
 rcases csplit hr with ⟨c10,hr⟩|⟨c10,hr⟩
 ·refine q_T H c10 (W_seq (W_drw (q_g 4 [(34,vS a0.name),(36,kN a0)] H fun _ H=>?_)))
  obtain ⟨x11,hx11,hr⟩:=obind hr
  refine q_v (.indexAddr 22 (kN a0) (vI 0)) [(34,vS a0.name),(37,cN x11 0)] H (run_idxL tNode (by kernel_rfl) hx11) fun _ H=>q_g 1 [(34,vS a0.name),(38,aN x11)] H fun _ H=>?_
  obtain ⟨x12,hx12,hr⟩:=obind hr
  refine q_c (F54_R n x11 x12 hx12 (p0:=.shut)) 0 [(34,vS a0.name),(39,vS x12)] H fun _ H=>?_
  refine q_v (.buildSlice 30 4 [(0,vS (bs [108,111,99,107])),(1,vS a0.name),(2,vS (bs [105,110,118,97,114,105,97,110,116])),(3,vS x12)]) [(40,vL tS ([(bs [108,111,99,107]),a0.name,(bs [105,110,118,97,114,105,97,110,116]),x12]:List ByteArray) .full)] H (run_bslice (v:=vL tS ([(bs [108,111,99,107]),a0.name,(bs [105,110,118,97,114,105,97,110,116]),x12]:List ByteArray) .full) (v0:=.slice [vS (bs [108,111,99,107]),vS a0.name,vS (bs [105,110,118,97,114,105,97,110,116]),vS x12] .full) (by kernel_rfl) (rfl)) fun _ H=>?_
  obtain ⟨x13,hx13,hr⟩:=obind hr
  refine q_c (F85_R n ([(bs [108,111,99,107]),a0.name,(bs [105,110,118,97,114,105,97,110,116]),x12]:List ByteArray) x13 hx13 (p0:=.full)) 0 [(41,vS x13)] H fun _ H=>q_g 1 [(2,vS x13)] H fun _ H=>q_e (q_d (W_ret ?_))
  obtain rfl:=sj hr
  exact q_r [vS x13] H K
 refine q_F H c10 (W_seq (W_reg (q_g 2 [(1,cN a0 0),(4,vI a0.kind),(42,vB (a0.kind == 54))] H fun _ H=>q_e ?_)))
 rcases csplit hr with ⟨c14,hr⟩|⟨c14,hr⟩
 ·refine q_T H c14 (W_seq (W_reg (q_g 2 [(45,kN a0)] H fun _ H=>?_)))
  obtain ⟨x15,hx15,hr⟩:=obind hr
  refine q_v (.indexAddr 22 (kN a0) (vI 0)) [(46,cN x15 0)] H (run_idxL tNode (by kernel_rfl) hx15) fun _ H=>q_g 1 [(47,aN x15)] H fun _ H=>?_
  obtain ⟨x16,hx16,hr⟩:=obind hr
  refine q_c (F54_R n x15 x16 hx16 (p0:=.shut)) 0 [(48,vS x16)] H fun _ H=>?_
  refine q_v (.buildSlice 30 2 [(0,vS (bs [114,101,108,121])),(1,vS x16)]) [(49,vL tS ([(bs [114,101,108,121]),x16]:List ByteArray) .full)] H (run_bslice (v:=vL tS ([(bs [114,101,108,121]),x16]:List ByteArray) .full) (v0:=.slice [vS (bs [114,101,108,121]),vS x16] .full) (by kernel_rfl) (rfl)) fun _ H=>?_
  obtain ⟨x17,hx17,hr⟩:=obind hr
  refine q_c (F85_R n ([(bs [114,101,108,121]),x16]:List ByteArray) x17 hx17 (p0:=.full)) 0 [(50,vS x17)] H fun _ H=>q_g 1 [(2,vS x17)] H fun _ H=>q_e (W_ret ?_)
  obtain rfl:=sj hr
  exact q_r [vS x17] H K
 refine q_F H c14 (W_seq (W_reg (q_g 2 [(1,cN a0 0),(4,vI a0.kind),(51,vB (a0.kind == 55))] H fun _ H=>q_e ?_)))
 rcases csplit hr with ⟨c18,hr⟩|⟨c18,hr⟩
 ·refine q_T H c18 (W_seq (W_reg (q_g 2 [(54,kN a0)] H fun _ H=>?_)))
  obtain ⟨x19,hx19,hr⟩:=obind hr
  refine q_v (.indexAddr 22 (kN a0) (vI 0)) [(55,cN x19 0)] H (run_idxL tNode (by kernel_rfl) hx19) fun _ H=>q_g 1 [(56,aN x19)] H fun _ H=>?_
  obtain ⟨x20,hx20,hr⟩:=obind hr
  refine q_c (F54_R n x19 x20 hx20 (p0:=.shut)) 0 [(57,vS x20)] H fun _ H=>?_
  refine q_v (.buildSlice 30 2 [(0,vS (bs [103,117,97,114,97,110,116,101,101])),(1,vS x20)]) [(58,vL tS ([(bs [103,117,97,114,97,110,116,101,101]),x20]:List ByteArray) .full)] H (run_bslice (v:=vL tS ([(bs [103,117,97,114,97,110,116,101,101]),x20]:List ByteArray) .full) (v0:=.slice [vS (bs [103,117,97,114,97,110,116,101,101]),vS x20] .full) (by kernel_rfl) (rfl)) fun _ H=>?_
  obtain ⟨x21,hx21,hr⟩:=obind hr
  refine q_c (F85_R n ([(bs [103,117,97,114,97,110,116,101,101]),x20]:List ByteArray) x21 hx21 (p0:=.full)) 0 [(59,vS x21)] H fun _ H=>q_g 1 [(2,vS x21)] H fun _ H=>q_e (W_ret ?_)
  obtain rfl:=sj hr
  exact q_r [vS x21] H K
 refine q_F H c18 (W_seq (W_reg (q_g 2 [(1,cN a0 0),(4,vI a0.kind),(60,vB (a0.kind == 56))] H fun _ H=>q_e ?_)))
 rcases csplit hr with ⟨c22,hr⟩|⟨c22,hr⟩
 ·refine q_T H c22 (W_seq (W_reg (q_g 2 [(63,kN a0)] H fun _ H=>?_)))
  obtain ⟨x23,hx23,hr⟩:=obind hr
  refine q_c (F124_1_R n a0.kids x23 hx23 (p0:=.shut)) 0 [(64,vS x23)] H fun _ H=>?_
  refine q_v (.buildSlice 30 2 [(0,vS (bs [102,114,97,109,101])),(1,vS x23)]) [(65,vL tS ([(bs [102,114,97,109,101]),x23]:List ByteArray) .full)] H (run_bslice (v:=vL tS ([(bs [102,114,97,109,101]),x23]:List ByteArray) .full) (v0:=.slice [vS (bs [102,114,97,109,101]),vS x23] .full) (by kernel_rfl) (rfl)) fun _ H=>?_
  obtain ⟨x24,hx24,hr⟩:=obind hr
  refine q_c (F85_R n ([(bs [102,114,97,109,101]),x23]:List ByteArray) x24 hx24 (p0:=.full)) 0 [(66,vS x24)] H fun _ H=>q_g 1 [(2,vS x24)] H fun _ H=>q_e (W_ret ?_)
  obtain rfl:=sj hr
  exact q_r [vS x24] H K
 refine q_F H c22 (W_seq (W_reg (q_g 2 [(1,cN a0 0),(67,vB (a0.kind == 35))] H fun _ H=>q_e ?_)))
 rcases csplit hr with ⟨c25,hr⟩|⟨c25,hr⟩
 rotate_left
 ·refine q_F H c25 (W_skip (W_seq (W_reg (q_g 1 [(77,aN a0)] H fun _ H=>?_))))
  obtain ⟨x29,hx29,hr⟩:=obind hr
  refine q_c (F187_R n a0 x29 hx29 (p0:=.shut)) 0 [(78,vS x29)] H fun _ H=>q_g 1 [(2,vS x29)] H fun _ H=>q_e (W_ret ?_)
  obtain rfl:=sj hr
  exact q_r [vS x29] H K
 refine q_T H c25 (W_seq (W_drw (q_g 2 [(1,cN a0 0),(70,vB a0.ghost)] H fun _ H=>?_)))
 refine q_v (.buildSlice 30 1 [(0,vS (bs [103,104,111,115,116]))]) [(1,cN a0 0),(70,vB a0.ghost),(71,vL tS ([(bs [103,104,111,115,116])]:List ByteArray) .full)] H (run_bslice (v:=vL tS ([(bs [103,104,111,115,116])]:List ByteArray) .full) (v0:=.slice [vS (bs [103,104,111,115,116])] .full) (by kernel_rfl) (rfl)) fun _ H=>?_
 obtain ⟨x26,hx26,hr⟩:=obind hr
 refine q_c (F126_R n a0.ghost ([(bs [103,104,111,115,116])]:List ByteArray) x26 hx26 (p0:=.full)) 0 [(1,cN a0 0),(72,vS x26)] H fun _ H=>q_g 1 [(72,vS x26),(73,aN a0)] H fun _ H=>?_
 obtain ⟨x27,hx27,hr⟩:=obind hr
 refine q_c (F125_R n a0 x27 hx27 (p0:=.shut)) 0 [(72,vS x26),(74,vS x27)] H fun _ H=>?_
 refine q_v (.buildSlice 30 3 [(0,vS x26),(1,vS (bs [108,111,99,97,108])),(2,vS x27)]) [(75,vL tS ([x26,(bs [108,111,99,97,108]),x27]:List ByteArray) .full)] H (run_bslice (v:=vL tS ([x26,(bs [108,111,99,97,108]),x27]:List ByteArray) .full) (v0:=.slice [vS x26,vS (bs [108,111,99,97,108]),vS x27] .full) (by kernel_rfl) (rfl)) fun _ H=>?_
 obtain ⟨x28,hx28,hr⟩:=obind hr
 refine q_c (F85_R n ([x26,(bs [108,111,99,97,108]),x27]:List ByteArray) x28 hx28 (p0:=.full)) 0 [(76,vS x28)] H fun _ H=>q_g 1 [(2,vS x28)] H fun _ H=>q_e (q_d (W_ret ?_))
 obtain rfl:=sj hr
 exact q_r [vS x28] H K
def F128_step (_:(List Node)→Bool→(List UInt8)→Int→Option (Bool × (List UInt8) × Int)) (_:(List Node)→(List ByteArray)→Bool→(List UInt8)→Int→Option (Bool × (List UInt8) × Int)) (_:Node→Bool→(List UInt8)→Int→Option (Bool × (List UInt8) × Int)) (F50:(List Node)→Bool→(List UInt8)→Int→Option (Bool × (List UInt8) × Int)) (_:Nat) (a0:List Node) (a1:Bool) (a2:List UInt8) (a3:Int):Option (Bool × (List UInt8) × Int) := (F50 a0 a1 a2 (w64 (a3 + 1))).bind fun x1 => some (x1.1,x1.2.1,w64 (x1.2.2 - 1))
def F123_step (F128:(List Node)→Bool→(List UInt8)→Int→Option (Bool × (List UInt8) × Int)) (_:(List Node)→(List ByteArray)→Bool→(List UInt8)→Int→Option (Bool × (List UInt8) × Int)) (_:Node→Bool→(List UInt8)→Int→Option (Bool × (List UInt8) × Int)) (_:(List Node)→Bool→(List UInt8)→Int→Option (Bool × (List UInt8) × Int)) (n:Nat) (a0:List Node) (a1:List ByteArray) (a2:Bool) (a3:List UInt8) (a4:Int):Option (Bool × (List UInt8) × Int) := (F85 n a1).bind fun x1 => (F127 n ([x1,(bs [123])]:List ByteArray) a2 a3 a4).bind fun x2 => (F128 a0 x2.1 x2.2.1 x2.2.2).bind fun x4 => (F127 n ([(bs [125])]:List ByteArray) x4.1 x4.2.1 x4.2.2).bind fun x6 => some (x6.1,x6.2.1,x6.2.2)
def F79_step (F128:(List Node)→Bool→(List UInt8)→Int→Option (Bool × (List UInt8) × Int)) (F123:(List Node)→(List ByteArray)→Bool→(List UInt8)→Int→Option (Bool × (List UInt8) × Int)) (_:Node→Bool→(List UInt8)→Int→Option (Bool × (List UInt8) × Int)) (_:(List Node)→Bool→(List UInt8)→Int→Option (Bool × (List UInt8) × Int)) (n:Nat) (a0:Node) (a1:Bool) (a2:List UInt8) (a3:Int):Option (Bool × (List UInt8) × Int) := bif a0.kind == 60 then ((F123 a0.kids ([(bs [109,111,100,117,108,101]),a0.name,(bs [111,119,110,101,114]),a0.other]:List ByteArray) a1 a2 a3).bind fun x2 => some (x2.1,x2.2.1,x2.2.2)) else (bif a0.kind == 51 then ((F123 a0.kids ([(bs [114,101,99,111,114,100]),a0.name]:List ByteArray) a1 a2 a3).bind fun x5 => some (x5.1,x5.2.1,x5.2.2)) else (bif a0.kind == 57 then ((subL a0.kids 0 (w64 ((a0.kids.length:Int) - 1))).bind fun x8 => (F124 n x8).bind fun x9 => (F82 ([a0.name,(bs [40]),x9,(bs [41])]:List ByteArray)).bind fun x10 => (idxL a0.kids (w64 ((a0.kids.length:Int) - 1))).bind fun x11 => (F126 n (!(strEq a0.other (bs []))) ([(bs [108,111,99,107,101,100]),a0.other]:List ByteArray)).bind fun x12 => (F123 x11.kids ([(bs [112,114,111,99]),x10,x12]:List ByteArray) a1 a2 a3).bind fun x13 => some (x13.1,x13.2.1,x13.2.2)) else (bif a0.kind == 31 then ((idxL a0.kids 0).bind fun x16 => (F54 n x16).bind fun x17 => (F127 n ([(bs [105,102]),x17,(bs [123])]:List ByteArray) a1 a2 a3).bind fun x18 => (idxL a0.kids 1).bind fun x20 => (F128 x20.kids x18.1 x18.2.1 x18.2.2).bind fun x21 => ((idxL a0.kids 2).bind fun x23 => bif decide (0 < (x23.kids.length:Int)) then ((F127 n ([(bs [125,32,101,108,115,101,32,123])]:List ByteArray) x21.1 x21.2.1 x21.2.2).bind fun x25 => (idxL a0.kids 2).bind fun x27 => (F128 x27.kids x25.1 x25.2.1 x25.2.2).bind fun x28 => some (x28.1,x28.2.1,x28.2.2)) else (some (x21.1,x21.2.1,x21.2.2)):Option ((Bool × (List UInt8) × Int))).bind fun j30 => (F127 n ([(bs [125])]:List ByteArray) j30.1 j30.2.1 j30.2.2).bind fun x31 => some (x31.1,x31.2.1,x31.2.2)) else (bif a0.kind == 32 then ((idxL a0.kids 1).bind fun x34 => (idxL a0.kids 2).bind fun x36 => (idxL a0.kids 0).bind fun x37 => (F54 n x37).bind fun x38 => (F54 n x34).bind fun x39 => (F126 n (x34.kind != 63) ([(bs [118,97,114,105,97,110,116]),x39]:List ByteArray)).bind fun x40 => (F123 x36.kids ([(bs [119,104,105,108,101]),x38,x40]:List ByteArray) a1 a2 a3).bind fun x41 => some (x41.1,x41.2.1,x41.2.2)) else ((F129 n a0).bind fun x43 => (F82 ([x43,(bs [59])]:List ByteArray)).bind fun x44 => (F127 n ([x44]:List ByteArray) a1 a2 a3).bind fun x45 => some (x45.1,x45.2.1,x45.2.2))))))
def F50_step (_:(List Node)→Bool→(List UInt8)→Int→Option (Bool × (List UInt8) × Int)) (_:(List Node)→(List ByteArray)→Bool→(List UInt8)→Int→Option (Bool × (List UInt8) × Int)) (F79:Node→Bool→(List UInt8)→Int→Option (Bool × (List UInt8) × Int)) (_:(List Node)→Bool→(List UInt8)→Int→Option (Bool × (List UInt8) × Int)) (n:Nat) (a0:List Node) (a1:Bool) (a2:List UInt8) (a3:Int):Option (Bool × (List UInt8) × Int) := (iter (σ:=Int × Bool × (List UInt8) × Int) (ρ:=(Bool × (List UInt8) × Int)) (fun s1=>bif decide (s1.1 < (a0.length:Int)) then ((idxL a0 s1.1).bind fun x3 => (F79 x3 s1.2.1 s1.2.2.1 s1.2.2.2).bind fun x5 => some (.inl (w64 (s1.1 + 1),x5.1,x5.2.1,x5.2.2))) else (some (.inr (s1.2.1,s1.2.2.1,s1.2.2.2)))) n ((0:Int),a1,a2,a3)).bind fun r7 => some (r7.1,r7.2.1,r7.2.2)
mutual
def F128:Nat→(List Node)→Bool→(List UInt8)→Int→Option (Bool × (List UInt8) × Int)
 | 0,_,_,_,_=>none
 | n + 1,a0,a1,a2,a3=>F128_step (F128 n) (F123 n) (F79 n) (F50 n) n a0 a1 a2 a3
def F123:Nat→(List Node)→(List ByteArray)→Bool→(List UInt8)→Int→Option (Bool × (List UInt8) × Int)
 | 0,_,_,_,_,_=>none
 | n + 1,a0,a1,a2,a3,a4=>F123_step (F128 n) (F123 n) (F79 n) (F50 n) n a0 a1 a2 a3 a4
def F79:Nat→Node→Bool→(List UInt8)→Int→Option (Bool × (List UInt8) × Int)
 | 0,_,_,_,_=>none
 | n + 1,a0,a1,a2,a3=>F79_step (F128 n) (F123 n) (F79 n) (F50 n) n a0 a1 a2 a3
def F50:Nat→(List Node)→Bool→(List UInt8)→Int→Option (Bool × (List UInt8) × Int)
 | 0,_,_,_,_=>none
 | n + 1,a0,a1,a2,a3=>F50_step (F128 n) (F123 n) (F79 n) (F50 n) n a0 a1 a2 a3
end
theorem F128_RR (n:Nat):(∀ (a0:List Node) (a1:Bool) (a2:List UInt8) (a3:Int) (r:Bool × (List UInt8) × Int),F128 n a0 a1 a2 a3 = some r→∀ {st:St} {rs:List Res} {i0:Nat} {p0 p1:Spare} (_:HL st (.ownB 5 p1 a2 :: .obj i0 (.cells 77 [addrA i0 a1,vL tY a2 p1,vI a3]) :: rs)),∃ (q0:Spare) (st':St),R Tryz.prog AN 128 [.ptr i0 0,vL tNode a0 p0] st (.ret (.tuple [])) st'∧HL st' (.ownB 5 q0 r.2.1 :: .obj i0 (.cells 77 [addrA i0 r.1,vL tY r.2.1 q0,vI r.2.2]) :: rs))∧(∀ (a0:List Node) (a1:List ByteArray) (a2:Bool) (a3:List UInt8) (a4:Int) (r:Bool × (List UInt8) × Int),F123 n a0 a1 a2 a3 a4 = some r→∀ {st:St} {rs:List Res} {i0:Nat} {p0 p1 p2:Spare} (_:HL st (.own p1 :: .ownB 5 p2 a3 :: .obj i0 (.cells 77 [addrA i0 a2,vL tY a3 p2,vI a4]) :: rs)),∃ (q0:Spare) (st':St),R Tryz.prog AN 123 [.ptr i0 0,vL tNode a0 p0,vL tS a1 p1] st (.ret (.tuple [])) st'∧HL st' (.ownB 5 q0 r.2.1 :: .obj i0 (.cells 77 [addrA i0 r.1,vL tY r.2.1 q0,vI r.2.2]) :: rs))∧(∀ (a0:Node) (a1:Bool) (a2:List UInt8) (a3:Int) (r:Bool × (List UInt8) × Int),F79 n a0 a1 a2 a3 = some r→∀ {st:St} {rs:List Res} {i0:Nat} {p0 p1:Spare} (_:HL st (.ownB 5 p1 a2 :: .obj i0 (.cells 77 [addrA i0 a1,vL tY a2 p1,vI a3]) :: rs)),∃ (q0:Spare) (st':St),R Tryz.prog AN 79 [.ptr i0 0,.agg (cNode p0 a0)] st (.ret (.tuple [])) st'∧HL st' (.ownB 5 q0 r.2.1 :: .obj i0 (.cells 77 [addrA i0 r.1,vL tY r.2.1 q0,vI r.2.2]) :: rs))∧(∀ (a0:List Node) (a1:Bool) (a2:List UInt8) (a3:Int) (r:Bool × (List UInt8) × Int),F50 n a0 a1 a2 a3 = some r→∀ {st:St} {rs:List Res} {i0:Nat} {p0 p1:Spare} (_:HL st (.ownB 5 p1 a2 :: .obj i0 (.cells 77 [addrA i0 a1,vL tY a2 p1,vI a3]) :: rs)),∃ (q0:Spare) (st':St),R Tryz.prog AN 50 [.ptr i0 0,vL tNode a0 p0] st (.ret (.tuple [])) st'∧HL st' (.ownB 5 q0 r.2.1 :: .obj i0 (.cells 77 [addrA i0 r.1,vL tY r.2.1 q0,vI r.2.2]) :: rs)):=by
 induction n with
 | zero=>exact ⟨by intros; contradiction,by intros; contradiction,by intros; contradiction,by intros; contradiction⟩
 | succ n ih =>
  obtain ⟨ih_F128,ih_F123,ih_F79,ih_F50⟩:=ih
  refine ⟨?_,?_,?_,?_⟩
  ·intro a0 a1 a2 a3 r hr st rs i0 p0 p1 K
   change F128_step (F128 n) (F123 n) (F79 n) (F50 n) n a0 a1 a2 a3 = some r at hr
   unfold F128_step at hr
   suffices h:∃ v st',R Tryz.prog AN 128 [.ptr i0 0,vL tNode a0 p0] st (.ret v) st'∧(∃ (q0:Spare),v = (.tuple [])∧HL st' (.ownB 5 q0 r.2.1 :: .obj i0 (.cells 77 [addrA i0 r.1,vL tY r.2.1 q0,vI r.2.2]) :: rs)) by
    obtain ⟨v,st',hR,q0,rfl,K⟩:=h
    exact ⟨q0,st',hR,K⟩
   refine R_bodyX (Post:=fun v st=>∃ (q0:Spare),v = (.tuple [])∧HL st (.ownB 5 q0 r.2.1 :: .obj i0 (.cells 77 [addrA i0 r.1,vL tY r.2.1 q0,vI r.2.2]) :: rs)) [(0,.ptr i0 0),(1,vL tNode a0 p0)] (by kernel_rfl) Tryz.func128 rfl (by kernel_rfl) rfl fun _ H=>W_seq (W_reg (q_g 3 [(0,.ptr i0 0),(1,vL tNode a0 p0),(4,.ptr i0 0),(6,.ptr i0 2)] H fun _ H=>?_))
   refine k_load (t:=3) (off:=2) 1 [(0,.ptr i0 0),(1,vL tNode a0 p0),(4,.ptr i0 0),(7,vI a3)] H K rfl (v:=vI a3) (by kernel_rfl) (fun _=>by kernel_rfl) fun _ H=>q_g 3 [(0,.ptr i0 0),(1,vL tNode a0 p0),(8,vI (w64 (a3 + 1))),(10,.ptr i0 2)] H fun _ H=>?_
   refine k_store (t:=3) (off:=2) (v:=vI (w64 (a3 + 1))) (cs':=[addrA i0 a1,vL tY a2 p1,vI (w64 (a3 + 1))]) 1 [(0,.ptr i0 0),(1,vL tNode a0 p0)] H K rfl (by kernel_rfl) (fun _=>by kernel_rfl) fun st K fr H=>q_e (W_seq (W_reg (q_g 2 [(0,.ptr i0 0),(11,.ptr i0 0),(12,vL tNode a0 p0)] H fun _ H=>?_)))
   obtain ⟨x1,hx1,hr⟩:=obind hr
   obtain ⟨sp2,st,hR,K⟩:=ih_F50 a0 a1 a2 (w64 (a3 + 1)) x1 hx1 (i0:=i0) (p0:=p0) (p1:=p1) ((K.front 1 rfl).front 1 rfl)
   refine q_c hR 2 [(0,.ptr i0 0)] H fun _ H=>q_e (W_reg (q_g 3 [(14,.ptr i0 0),(16,.ptr i0 2)] H fun _ H=>?_))
   refine k_load (t:=3) (off:=2) 1 [(14,.ptr i0 0),(17,vI x1.2.2)] H K rfl (v:=vI x1.2.2) (by kernel_rfl) (fun _=>by kernel_rfl) fun _ H=>q_g 3 [(18,vI (w64 (x1.2.2 - 1))),(20,.ptr i0 2)] H fun _ H=>?_
   refine k_store (t:=3) (off:=2) (v:=vI (w64 (x1.2.2 - 1))) (cs':=[addrA i0 x1.1,vL tY x1.2.1 sp2,vI (w64 (x1.2.2 - 1))]) 1 [] H K rfl (by kernel_rfl) (fun _=>by kernel_rfl) fun st K fr H=>q_e ?_
   obtain rfl:=sj hr
   show endsB _ Tryz.f128 _ .normal _ _
   refine e_normalB [] H K (fun _=>resN) ?_
   exact ⟨sp2,rfl,(K.keep [true,true])⟩
  ·intro a0 a1 a2 a3 a4 r hr st rs i0 p0 p1 p2 K
   change F123_step (F128 n) (F123 n) (F79 n) (F50 n) n a0 a1 a2 a3 a4 = some r at hr
   unfold F123_step at hr
   suffices h:∃ v st',R Tryz.prog AN 123 [.ptr i0 0,vL tNode a0 p0,vL tS a1 p1] st (.ret v) st'∧(∃ (q0:Spare),v = (.tuple [])∧HL st' (.ownB 5 q0 r.2.1 :: .obj i0 (.cells 77 [addrA i0 r.1,vL tY r.2.1 q0,vI r.2.2]) :: rs)) by
    obtain ⟨v,st',hR,q0,rfl,K⟩:=h
    exact ⟨q0,st',hR,K⟩
   refine R_bodyX (Post:=fun v st=>∃ (q0:Spare),v = (.tuple [])∧HL st (.ownB 5 q0 r.2.1 :: .obj i0 (.cells 77 [addrA i0 r.1,vL tY r.2.1 q0,vI r.2.2]) :: rs)) [(0,.ptr i0 0),(1,vL tNode a0 p0),(2,vL tS a1 p1)] (by kernel_rfl) Tryz.func123 rfl (by kernel_rfl) rfl fun _ H=>W_seq (W_reg (q_g 2 [(0,.ptr i0 0),(1,vL tNode a0 p0),(6,.ptr i0 0),(7,vL tS a1 p1)] H fun _ H=>?_))
   obtain ⟨x1,hx1,hr⟩:=obind hr
   refine q_c (F85_R n a1 x1 hx1 (p0:=p1)) 0 [(0,.ptr i0 0),(1,vL tNode a0 p0),(6,.ptr i0 0),(8,vS x1)] H fun _ H=>?_
   refine q_v (.buildSlice 30 2 [(0,vS x1),(1,vS (bs [123]))]) [(0,.ptr i0 0),(1,vL tNode a0 p0),(6,.ptr i0 0),(9,vL tS ([x1,(bs [123])]:List ByteArray) .full)] H (run_bslice (v:=vL tS ([x1,(bs [123])]:List ByteArray) .full) (v0:=.slice [vS x1,vS (bs [123])] .full) (by kernel_rfl) (rfl)) fun _ H=>?_
   obtain ⟨x2,hx2,hr⟩:=obind hr
   obtain ⟨sp3,st,hR,K⟩:=F127_R n ([x1,(bs [123])]:List ByteArray) a2 a3 a4 x2 hx2 (i0:=i0) (p0:=.full) (p1:=p2) ((((K.full).front 3 rfl).front 3 rfl).front 2 rfl)
   refine q_c hR 2 [(0,.ptr i0 0),(1,vL tNode a0 p0)] H fun _ H=>q_e (W_seq (W_reg (q_g 2 [(0,.ptr i0 0),(11,.ptr i0 0),(12,vL tNode a0 p0)] H fun _ H=>?_)))
   obtain ⟨x4,hx4,hr⟩:=obind hr
   obtain ⟨sp5,st,hR,K⟩:=ih_F128 a0 x2.1 x2.2.1 x2.2.2 x4 hx4 (i0:=i0) (p0:=p0) (p1:=sp3) ((K.front 1 rfl).front 1 rfl)
   refine q_c hR 2 [(0,.ptr i0 0)] H fun _ H=>q_e (W_reg (q_g 1 [(14,.ptr i0 0)] H fun _ H=>?_))
   refine q_v (.buildSlice 30 1 [(0,vS (bs [125]))]) [(14,.ptr i0 0),(15,vL tS ([(bs [125])]:List ByteArray) .full)] H (run_bslice (v:=vL tS ([(bs [125])]:List ByteArray) .full) (v0:=.slice [vS (bs [125])] .full) (by kernel_rfl) (rfl)) fun _ H=>?_
   obtain ⟨x6,hx6,hr⟩:=obind hr
   obtain ⟨sp7,st,hR,K⟩:=F127_R n ([(bs [125])]:List ByteArray) x4.1 x4.2.1 x4.2.2 x6 hx6 (i0:=i0) (p0:=.full) (p1:=sp5) ((((K.full).front 2 rfl).front 2 rfl).front 2 rfl)
   refine q_c hR 2 [] H fun _ H=>q_e ?_
   obtain rfl:=sj hr
   show endsB _ Tryz.f123 _ .normal _ _
   refine e_normalB [] H K (fun _=>resN) ?_
   exact ⟨sp7,rfl,(K.keep [true,true,false])⟩
  ·intro a0 a1 a2 a3 r hr st rs i0 p0 p1 K
   change F79_step (F128 n) (F123 n) (F79 n) (F50 n) n a0 a1 a2 a3 = some r at hr
   unfold F79_step at hr
   suffices h:∃ v st',R Tryz.prog AN 79 [.ptr i0 0,.agg (cNode p0 a0)] st (.ret v) st'∧(∃ (q0:Spare),v = (.tuple [])∧HL st' (.ownB 5 q0 r.2.1 :: .obj i0 (.cells 77 [addrA i0 r.1,vL tY r.2.1 q0,vI r.2.2]) :: rs)) by
    obtain ⟨v,st',hR,q0,rfl,K⟩:=h
    exact ⟨q0,st',hR,K⟩
   refine R_bodyX (Post:=fun v st=>∃ (q0:Spare),v = (.tuple [])∧HL st (.ownB 5 q0 r.2.1 :: .obj i0 (.cells 77 [addrA i0 r.1,vL tY r.2.1 q0,vI r.2.2]) :: rs)) [(0,.ptr i0 0),(1,.agg (cNode p0 a0))] (by kernel_rfl) Tryz.func79 rfl (by kernel_rfl) rfl fun _ H=>W_seq (W_reg (q_g 1 [(0,.ptr i0 0),(3,.cptr (cNode p0 a0) 0)] H fun _ H=>q_e (W_seq (W_reg (q_g 2 [(0,.ptr i0 0),(3,.cptr (cNode p0 a0) 0),(8,vI a0.kind)] H fun _ H=>q_e (W_block (W_seq (W_reg (q_g 2 [(0,.ptr i0 0),(3,.cptr (cNode p0 a0) 0),(8,vI a0.kind),(16,vB (a0.kind == 60))] H fun _ H=>q_e ?_)))))))))
   rcases csplit hr with ⟨c1,hr⟩|⟨c1,hr⟩
   ·refine q_T H c1 (W_reg (q_g 7 [(18,.ptr i0 0),(20,vL tNode a0.kids p0),(22,vS a0.name),(24,vS a0.other)] H fun _ H=>?_))
    refine q_v (.buildSlice 30 4 [(0,vS (bs [109,111,100,117,108,101])),(1,vS a0.name),(2,vS (bs [111,119,110,101,114])),(3,vS a0.other)]) [(18,.ptr i0 0),(20,vL tNode a0.kids p0),(25,vL tS ([(bs [109,111,100,117,108,101]),a0.name,(bs [111,119,110,101,114]),a0.other]:List ByteArray) .full)] H (run_bslice (v:=vL tS ([(bs [109,111,100,117,108,101]),a0.name,(bs [111,119,110,101,114]),a0.other]:List ByteArray) .full) (v0:=.slice [vS (bs [109,111,100,117,108,101]),vS a0.name,vS (bs [111,119,110,101,114]),vS a0.other] .full) (by kernel_rfl) (rfl)) fun _ H=>?_
    obtain ⟨x2,hx2,hr⟩:=obind hr
    obtain ⟨sp3,st,hR,K⟩:=ih_F123 a0.kids ([(bs [109,111,100,117,108,101]),a0.name,(bs [111,119,110,101,114]),a0.other]:List ByteArray) a1 a2 a3 x2 hx2 (i0:=i0) (p0:=p0) (p1:=.full) (p2:=p1) ((((K.full).front 2 rfl).front 2 rfl).front 2 rfl)
    refine q_c hR 2 [] H fun _ H=>q_e ?_
    obtain rfl:=sj hr
    show endsB _ Tryz.f79 _ .normal _ _
    refine e_normalB [] H K (fun _=>resN) ?_
    exact ⟨sp3,rfl,(K.keep [true,true])⟩
   refine q_F H c1 (W_seq (W_reg (q_g 2 [(0,.ptr i0 0),(3,.cptr (cNode p0 a0) 0),(8,vI a0.kind),(27,vB (a0.kind == 51))] H fun _ H=>q_e ?_)))
   rcases csplit hr with ⟨c4,hr⟩|⟨c4,hr⟩
   ·refine q_T H c4 (W_reg (q_g 5 [(29,.ptr i0 0),(31,vL tNode a0.kids p0),(33,vS a0.name)] H fun _ H=>?_))
    refine q_v (.buildSlice 30 2 [(0,vS (bs [114,101,99,111,114,100])),(1,vS a0.name)]) [(29,.ptr i0 0),(31,vL tNode a0.kids p0),(34,vL tS ([(bs [114,101,99,111,114,100]),a0.name]:List ByteArray) .full)] H (run_bslice (v:=vL tS ([(bs [114,101,99,111,114,100]),a0.name]:List ByteArray) .full) (v0:=.slice [vS (bs [114,101,99,111,114,100]),vS a0.name] .full) (by kernel_rfl) (rfl)) fun _ H=>?_
    obtain ⟨x5,hx5,hr⟩:=obind hr
    obtain ⟨sp6,st,hR,K⟩:=ih_F123 a0.kids ([(bs [114,101,99,111,114,100]),a0.name]:List ByteArray) a1 a2 a3 x5 hx5 (i0:=i0) (p0:=p0) (p1:=.full) (p2:=p1) ((((K.full).front 2 rfl).front 2 rfl).front 2 rfl)
    refine q_c hR 2 [] H fun _ H=>q_e ?_
    obtain rfl:=sj hr
    show endsB _ Tryz.f79 _ .normal _ _
    refine e_normalB [] H K (fun _=>resN) ?_
    exact ⟨sp6,rfl,(K.keep [true,true])⟩
   refine q_F H c4 (W_seq (W_reg (q_g 2 [(0,.ptr i0 0),(3,.cptr (cNode p0 a0) 0),(8,vI a0.kind),(36,vB (a0.kind == 57))] H fun _ H=>q_e ?_)))
   rcases csplit hr with ⟨c7,hr⟩|⟨c7,hr⟩
   ·refine q_T H c7 (W_seq (W_reg (q_g 2 [(0,.ptr i0 0),(3,.cptr (cNode p0 a0) 0),(39,vL tNode a0.kids p0)] H fun _ H=>?_)))
    refine q_v (.len 22 (vL tNode a0.kids p0)) [(0,.ptr i0 0),(3,.cptr (cNode p0 a0) 0),(40,vI (a0.kids.length:Int))] H (run_len tNode (by kernel_rfl)) fun _ H=>q_g 2 [(0,.ptr i0 0),(3,.cptr (cNode p0 a0) 0),(4,vI (w64 ((a0.kids.length:Int) - 1)))] H fun _ H=>q_e (W_seq (W_drw (q_g 5 [(0,.ptr i0 0),(3,.cptr (cNode p0 a0) 0),(4,vI (w64 ((a0.kids.length:Int) - 1))),(43,vS a0.name),(45,vL tNode a0.kids p0),(46,vI (w64 ((a0.kids.length:Int) - 1)))] H fun _ H=>?_)))
    obtain ⟨x8,hx8,hr⟩:=obind hr
    refine q_v (.slice 22 (vL tNode a0.kids p0) none (some (vI (w64 ((a0.kids.length:Int) - 1))))) [(0,.ptr i0 0),(3,.cptr (cNode p0 a0) 0),(4,vI (w64 ((a0.kids.length:Int) - 1))),(43,vS a0.name),(47,vL tNode x8 .shut)] H (run_subL_hi tNode (by kernel_rfl) hx8) fun _ H=>?_
    obtain ⟨x9,hx9,hr⟩:=obind hr
    refine q_c (F124_R n x8 x9 hx9 (p0:=.shut)) 0 [(0,.ptr i0 0),(3,.cptr (cNode p0 a0) 0),(4,vI (w64 ((a0.kids.length:Int) - 1))),(43,vS a0.name),(48,vS x9)] H fun _ H=>?_
    refine q_v (.buildSlice 30 4 [(0,vS a0.name),(1,vS (bs [40])),(2,vS x9),(3,vS (bs [41]))]) [(0,.ptr i0 0),(3,.cptr (cNode p0 a0) 0),(4,vI (w64 ((a0.kids.length:Int) - 1))),(49,vL tS ([a0.name,(bs [40]),x9,(bs [41])]:List ByteArray) .full)] H (run_bslice (v:=vL tS ([a0.name,(bs [40]),x9,(bs [41])]:List ByteArray) .full) (v0:=.slice [vS a0.name,vS (bs [40]),vS x9,vS (bs [41])] .full) (by kernel_rfl) (rfl)) fun _ H=>?_
    obtain ⟨x10,hx10,hr⟩:=obind hr
    refine q_c (F82_R  ([a0.name,(bs [40]),x9,(bs [41])]:List ByteArray) x10 hx10 (p0:=.full)) 0 [(0,.ptr i0 0),(3,.cptr (cNode p0 a0) 0),(4,vI (w64 ((a0.kids.length:Int) - 1))),(50,vS x10)] H fun _ H=>q_g 1 [(0,.ptr i0 0),(3,.cptr (cNode p0 a0) 0),(4,vI (w64 ((a0.kids.length:Int) - 1))),(5,vS x10)] H fun _ H=>q_e (q_d (W_drw (q_g 4 [(3,.cptr (cNode p0 a0) 0),(5,vS x10),(51,.ptr i0 0),(53,vL tNode a0.kids p0),(54,vI (w64 ((a0.kids.length:Int) - 1)))] H fun _ H=>?_)))
    obtain ⟨x11,hx11,hr⟩:=obind hr
    refine q_v (.indexAddr 22 (vL tNode a0.kids p0) (vI (w64 ((a0.kids.length:Int) - 1)))) [(3,.cptr (cNode p0 a0) 0),(5,vS x10),(51,.ptr i0 0),(55,cN x11 0)] H (run_idxL tNode (by kernel_rfl) hx11) fun _ H=>q_g 8 [(51,.ptr i0 0),(57,kN x11),(58,vS x10),(61,vB (!(strEq a0.other (bs [])))),(63,vS a0.other)] H fun _ H=>?_
    refine q_v (.buildSlice 30 2 [(0,vS (bs [108,111,99,107,101,100])),(1,vS a0.other)]) [(51,.ptr i0 0),(57,kN x11),(58,vS x10),(61,vB (!(strEq a0.other (bs [])))),(64,vL tS ([(bs [108,111,99,107,101,100]),a0.other]:List ByteArray) .full)] H (run_bslice (v:=vL tS ([(bs [108,111,99,107,101,100]),a0.other]:List ByteArray) .full) (v0:=.slice [vS (bs [108,111,99,107,101,100]),vS a0.other] .full) (by kernel_rfl) (rfl)) fun _ H=>?_
    obtain ⟨x12,hx12,hr⟩:=obind hr
    refine q_c (F126_R n (!(strEq a0.other (bs []))) ([(bs [108,111,99,107,101,100]),a0.other]:List ByteArray) x12 hx12 (p0:=.full)) 0 [(51,.ptr i0 0),(57,kN x11),(58,vS x10),(65,vS x12)] H fun _ H=>?_
    refine q_v (.buildSlice 30 3 [(0,vS (bs [112,114,111,99])),(1,vS x10),(2,vS x12)]) [(51,.ptr i0 0),(57,kN x11),(66,vL tS ([(bs [112,114,111,99]),x10,x12]:List ByteArray) .full)] H (run_bslice (v:=vL tS ([(bs [112,114,111,99]),x10,x12]:List ByteArray) .full) (v0:=.slice [vS (bs [112,114,111,99]),vS x10,vS x12] .full) (by kernel_rfl) (rfl)) fun _ H=>?_
    obtain ⟨x13,hx13,hr⟩:=obind hr
    obtain ⟨sp14,st,hR,K⟩:=ih_F123 x11.kids ([(bs [112,114,111,99]),x10,x12]:List ByteArray) a1 a2 a3 x13 hx13 (i0:=i0) (p0:=.shut) (p1:=.full) (p2:=p1) ((((K.full).front 2 rfl).front 2 rfl).front 2 rfl)
    refine q_c hR 2 [] H fun _ H=>q_e (q_d ?_)
    obtain rfl:=sj hr
    show endsB _ Tryz.f79 _ .normal _ _
    refine e_normalB [] H K (fun _=>resN) ?_
    exact ⟨sp14,rfl,(K.keep [true,true])⟩
   refine q_F H c7 (W_seq (W_reg (q_g 2 [(0,.ptr i0 0),(3,.cptr (cNode p0 a0) 0),(8,vI a0.kind),(68,vB (a0.kind == 31))] H fun _ H=>q_e ?_)))
   rcases csplit hr with ⟨c15,hr⟩|⟨c15,hr⟩
   rotate_left
   ·refine q_F H c15 (W_seq (W_reg (q_g 2 [(0,.ptr i0 0),(3,.cptr (cNode p0 a0) 0),(105,vB (a0.kind == 32))] H fun _ H=>q_e ?_)))
    rcases csplit hr with ⟨c33,hr⟩|⟨c33,hr⟩
    rotate_left
    ·refine q_F H c33 (W_reg (q_g 2 [(9,.ptr i0 0),(10,aN a0)] H fun _ H=>?_))
     obtain ⟨x43,hx43,hr⟩:=obind hr
     refine q_c (F129_R n a0 x43 hx43 (p0:=.shut)) 0 [(9,.ptr i0 0),(11,vS x43)] H fun _ H=>?_
     refine q_v (.buildSlice 30 2 [(0,vS x43),(1,vS (bs [59]))]) [(9,.ptr i0 0),(12,vL tS ([x43,(bs [59])]:List ByteArray) .full)] H (run_bslice (v:=vL tS ([x43,(bs [59])]:List ByteArray) .full) (v0:=.slice [vS x43,vS (bs [59])] .full) (by kernel_rfl) (rfl)) fun _ H=>?_
     obtain ⟨x44,hx44,hr⟩:=obind hr
     refine q_c (F82_R  ([x43,(bs [59])]:List ByteArray) x44 hx44 (p0:=.full)) 0 [(9,.ptr i0 0),(13,vS x44)] H fun _ H=>?_
     refine q_v (.buildSlice 30 1 [(0,vS x44)]) [(9,.ptr i0 0),(14,vL tS ([x44]:List ByteArray) .full)] H (run_bslice (v:=vL tS ([x44]:List ByteArray) .full) (v0:=.slice [vS x44] .full) (by kernel_rfl) (rfl)) fun _ H=>?_
     obtain ⟨x45,hx45,hr⟩:=obind hr
     obtain ⟨sp46,st,hR,K⟩:=F127_R n ([x44]:List ByteArray) a1 a2 a3 x45 hx45 (i0:=i0) (p0:=.full) (p1:=p1) ((((K.full).front 2 rfl).front 2 rfl).front 2 rfl)
     refine q_c hR 2 [] H fun _ H=>q_e ?_
     obtain rfl:=sj hr
     show endsB _ Tryz.f79 _ .normal _ _
     refine e_normalB [] H K (fun _=>resN) ?_
     exact ⟨sp46,rfl,(K.keep [true,true])⟩
    refine q_T H c33 (W_seq (W_reg (q_g 2 [(0,.ptr i0 0),(3,.cptr (cNode p0 a0) 0),(108,vL tNode a0.kids p0)] H fun _ H=>?_)))
    obtain ⟨x34,hx34,hr⟩:=obind hr
    refine q_v (.indexAddr 22 (vL tNode a0.kids p0) (vI 1)) [(0,.ptr i0 0),(3,.cptr (cNode p0 a0) 0),(109,cN x34 0)] H (run_idxL tNode (by kernel_rfl) hx34) fun _ H=>q_g 1 [(0,.ptr i0 0),(3,.cptr (cNode p0 a0) 0),(110,aN x34)] H fun _ H=>?_
    refine k_alloc (t:=24) (cs:=[vI 0,vS (bs []),vS (bs []),vI 0,vI 0,vI 0,vB false,vL tNode ([]:List Node) .nil,vI 0]) (fun id35=>[(0,.ptr i0 0),(3,.cptr (cNode p0 a0) 0),(6,.ptr id35 0),(110,aN x34)]) H K (by kernel_rfl) (fun _ _=>by kernel_rfl) fun id35 st K fr H=>?_
    refine k_store (t:=24) (off:=0) (v:=aN x34) (cs':=[vI x34.kind,vS x34.name,vS x34.other,vI x34.n,vI x34.len,vI x34.init,vB x34.ghost,kN x34,vI x34.pos]) 0 [(0,.ptr i0 0),(3,.cptr (cNode p0 a0) 0),(6,.ptr id35 0)] H K rfl (by kernel_rfl) (fun _=>by kernel_rfl) fun st K fr H=>q_e (W_drw (q_g 3 [(3,.cptr (cNode p0 a0) 0),(6,.ptr id35 0),(111,.ptr i0 0),(113,vL tNode a0.kids p0)] H fun _ H=>?_))
    obtain ⟨x36,hx36,hr⟩:=obind hr
    refine q_v (.indexAddr 22 (vL tNode a0.kids p0) (vI 2)) [(3,.cptr (cNode p0 a0) 0),(6,.ptr id35 0),(111,.ptr i0 0),(114,cN x36 0)] H (run_idxL tNode (by kernel_rfl) hx36) fun _ H=>q_g 4 [(6,.ptr id35 0),(111,.ptr i0 0),(116,kN x36),(118,vL tNode a0.kids p0)] H fun _ H=>?_
    obtain ⟨x37,hx37,hr⟩:=obind hr
    refine q_v (.indexAddr 22 (vL tNode a0.kids p0) (vI 0)) [(6,.ptr id35 0),(111,.ptr i0 0),(116,kN x36),(119,cN x37 0)] H (run_idxL tNode (by kernel_rfl) hx37) fun _ H=>q_g 1 [(6,.ptr id35 0),(111,.ptr i0 0),(116,kN x36),(120,aN x37)] H fun _ H=>?_
    obtain ⟨x38,hx38,hr⟩:=obind hr
    refine q_c (F54_R n x37 x38 hx38 (p0:=.shut)) 0 [(6,.ptr id35 0),(111,.ptr i0 0),(116,kN x36),(121,vS x38)] H fun _ H=>q_g 1 [(6,.ptr id35 0),(111,.ptr i0 0),(116,kN x36),(121,vS x38),(122,.ptr id35 0)] H fun _ H=>?_
    refine k_load (t:=3) (off:=0) 0 [(6,.ptr id35 0),(111,.ptr i0 0),(116,kN x36),(121,vS x38),(123,vI x34.kind)] H K rfl (v:=vI x34.kind) (by kernel_rfl) (fun _=>by kernel_rfl) fun _ H=>q_g 1 [(6,.ptr id35 0),(111,.ptr i0 0),(116,kN x36),(121,vS x38),(124,vB (x34.kind != 63))] H fun _ H=>?_
    refine k_load (t:=24) (off:=0) 0 [(111,.ptr i0 0),(116,kN x36),(121,vS x38),(124,vB (x34.kind != 63)),(125,aN x34)] H K rfl (v:=aN x34) (by kernel_rfl) (fun _=>by kernel_rfl) fun _ H=>?_
    obtain ⟨x39,hx39,hr⟩:=obind hr
    refine q_c (F54_R n x34 x39 hx39 (p0:=.shut)) 0 [(111,.ptr i0 0),(116,kN x36),(121,vS x38),(124,vB (x34.kind != 63)),(126,vS x39)] H fun _ H=>?_
    refine q_v (.buildSlice 30 2 [(0,vS (bs [118,97,114,105,97,110,116])),(1,vS x39)]) [(111,.ptr i0 0),(116,kN x36),(121,vS x38),(124,vB (x34.kind != 63)),(127,vL tS ([(bs [118,97,114,105,97,110,116]),x39]:List ByteArray) .full)] H (run_bslice (v:=vL tS ([(bs [118,97,114,105,97,110,116]),x39]:List ByteArray) .full) (v0:=.slice [vS (bs [118,97,114,105,97,110,116]),vS x39] .full) (by kernel_rfl) (rfl)) fun _ H=>?_
    obtain ⟨x40,hx40,hr⟩:=obind hr
    refine q_c (F126_R n (x34.kind != 63) ([(bs [118,97,114,105,97,110,116]),x39]:List ByteArray) x40 hx40 (p0:=.full)) 0 [(111,.ptr i0 0),(116,kN x36),(121,vS x38),(128,vS x40)] H fun _ H=>?_
    refine q_v (.buildSlice 30 3 [(0,vS (bs [119,104,105,108,101])),(1,vS x38),(2,vS x40)]) [(111,.ptr i0 0),(116,kN x36),(129,vL tS ([(bs [119,104,105,108,101]),x38,x40]:List ByteArray) .full)] H (run_bslice (v:=vL tS ([(bs [119,104,105,108,101]),x38,x40]:List ByteArray) .full) (v0:=.slice [vS (bs [119,104,105,108,101]),vS x38,vS x40] .full) (by kernel_rfl) (rfl)) fun _ H=>?_
    obtain ⟨x41,hx41,hr⟩:=obind hr
    obtain ⟨sp42,st,hR,K⟩:=ih_F123 x36.kids ([(bs [119,104,105,108,101]),x38,x40]:List ByteArray) a1 a2 a3 x41 hx41 (i0:=i0) (p0:=.shut) (p1:=.full) (p2:=p1) ((((K.full).front 3 rfl).front 3 rfl).front 2 rfl)
    refine q_c hR 2 [] H fun _ H=>q_e (q_d ?_)
    obtain rfl:=sj hr
    show endsB _ Tryz.f79 _ .normal _ _
    refine e_normalB [] H K (fun _=>resN) ?_
    exact ⟨sp42,rfl,(K.keep [true,true,false])⟩
   refine q_T H c15 (W_seq (W_reg (q_g 3 [(0,.ptr i0 0),(3,.cptr (cNode p0 a0) 0),(70,.ptr i0 0),(72,vL tNode a0.kids p0)] H fun _ H=>?_)))
   obtain ⟨x16,hx16,hr⟩:=obind hr
   refine q_v (.indexAddr 22 (vL tNode a0.kids p0) (vI 0)) [(0,.ptr i0 0),(3,.cptr (cNode p0 a0) 0),(70,.ptr i0 0),(73,cN x16 0)] H (run_idxL tNode (by kernel_rfl) hx16) fun _ H=>q_g 1 [(0,.ptr i0 0),(3,.cptr (cNode p0 a0) 0),(70,.ptr i0 0),(74,aN x16)] H fun _ H=>?_
   obtain ⟨x17,hx17,hr⟩:=obind hr
   refine q_c (F54_R n x16 x17 hx17 (p0:=.shut)) 0 [(0,.ptr i0 0),(3,.cptr (cNode p0 a0) 0),(70,.ptr i0 0),(75,vS x17)] H fun _ H=>?_
   refine q_v (.buildSlice 30 3 [(0,vS (bs [105,102])),(1,vS x17),(2,vS (bs [123]))]) [(0,.ptr i0 0),(3,.cptr (cNode p0 a0) 0),(70,.ptr i0 0),(76,vL tS ([(bs [105,102]),x17,(bs [123])]:List ByteArray) .full)] H (run_bslice (v:=vL tS ([(bs [105,102]),x17,(bs [123])]:List ByteArray) .full) (v0:=.slice [vS (bs [105,102]),vS x17,vS (bs [123])] .full) (by kernel_rfl) (rfl)) fun _ H=>?_
   obtain ⟨x18,hx18,hr⟩:=obind hr
   obtain ⟨sp19,st,hR,K⟩:=F127_R n ([(bs [105,102]),x17,(bs [123])]:List ByteArray) a1 a2 a3 x18 hx18 (i0:=i0) (p0:=.full) (p1:=p1) ((((K.full).front 2 rfl).front 2 rfl).front 2 rfl)
   refine q_c hR 2 [(0,.ptr i0 0),(3,.cptr (cNode p0 a0) 0)] H fun _ H=>q_e (W_seq (W_reg (q_g 3 [(0,.ptr i0 0),(3,.cptr (cNode p0 a0) 0),(78,.ptr i0 0),(80,vL tNode a0.kids p0)] H fun _ H=>?_)))
   obtain ⟨x20,hx20,hr⟩:=obind hr
   refine q_v (.indexAddr 22 (vL tNode a0.kids p0) (vI 1)) [(0,.ptr i0 0),(3,.cptr (cNode p0 a0) 0),(78,.ptr i0 0),(81,cN x20 0)] H (run_idxL tNode (by kernel_rfl) hx20) fun _ H=>q_g 2 [(0,.ptr i0 0),(3,.cptr (cNode p0 a0) 0),(78,.ptr i0 0),(83,kN x20)] H fun _ H=>?_
   obtain ⟨x21,hx21,hr⟩:=obind hr
   obtain ⟨sp22,st,hR,K⟩:=ih_F128 x20.kids x18.1 x18.2.1 x18.2.2 x21 hx21 (i0:=i0) (p0:=.shut) (p1:=sp19) ((K.front 1 rfl).front 1 rfl)
   refine q_c hR 2 [(0,.ptr i0 0),(3,.cptr (cNode p0 a0) 0)] H fun _ H=>q_e (W_seq ?_)
   obtain ⟨j30,hj30,hr⟩:=obind hr
   refine W_via (fun e fr st=>e = .normal∧∃ (j30sp0:Spare),Rd fr [(0,.ptr i0 0)]∧HL st (.ownB 5 j30sp0 j30.2.1 :: .obj i0 (.cells 77 [addrA i0 j30.1,vL tY j30.2.1 j30sp0,vI j30.2.2]) :: rs)) ?_ ?_
   ·replace hr:=hj30
    refine W_seq (W_reg (q_g 2 [(0,.ptr i0 0),(3,.cptr (cNode p0 a0) 0),(86,vL tNode a0.kids p0)] H fun _ H=>?_))
    obtain ⟨x23,hx23,hr⟩:=obind hr
    refine q_v (.indexAddr 22 (vL tNode a0.kids p0) (vI 2)) [(0,.ptr i0 0),(3,.cptr (cNode p0 a0) 0),(87,cN x23 0)] H (run_idxL tNode (by kernel_rfl) hx23) fun _ H=>q_g 2 [(0,.ptr i0 0),(3,.cptr (cNode p0 a0) 0),(89,kN x23)] H fun _ H=>?_
    refine q_v (.len 22 (kN x23)) [(0,.ptr i0 0),(3,.cptr (cNode p0 a0) 0),(90,vI (x23.kids.length:Int))] H (run_len tNode (by kernel_rfl)) fun _ H=>q_g 1 [(0,.ptr i0 0),(3,.cptr (cNode p0 a0) 0),(91,vB (decide (0 < (x23.kids.length:Int))))] H fun _ H=>q_e ?_
    rcases csplit hr with ⟨c24,hr⟩|⟨c24,hr⟩
    rotate_left
    ·refine q_F H c24 (W_skip ?_)
     obtain rfl:=sj hr
     exact ⟨rfl,sp22,H.to (env':=_) (fun _=>by kernel_rfl),K.keep [true,true]⟩
    refine q_T H c24 (W_seq (W_reg (q_g 1 [(0,.ptr i0 0),(3,.cptr (cNode p0 a0) 0),(92,.ptr i0 0)] H fun _ H=>?_)))
    refine q_v (.buildSlice 30 1 [(0,vS (bs [125,32,101,108,115,101,32,123]))]) [(0,.ptr i0 0),(3,.cptr (cNode p0 a0) 0),(92,.ptr i0 0),(93,vL tS ([(bs [125,32,101,108,115,101,32,123])]:List ByteArray) .full)] H (run_bslice (v:=vL tS ([(bs [125,32,101,108,115,101,32,123])]:List ByteArray) .full) (v0:=.slice [vS (bs [125,32,101,108,115,101,32,123])] .full) (by kernel_rfl) (rfl)) fun _ H=>?_
    obtain ⟨x25,hx25,hr⟩:=obind hr
    obtain ⟨sp26,st,hR,K⟩:=F127_R n ([(bs [125,32,101,108,115,101,32,123])]:List ByteArray) x21.1 x21.2.1 x21.2.2 x25 hx25 (i0:=i0) (p0:=.full) (p1:=sp22) ((((K.full).front 2 rfl).front 2 rfl).front 2 rfl)
    refine q_c hR 2 [(0,.ptr i0 0),(3,.cptr (cNode p0 a0) 0)] H fun _ H=>q_e (W_reg (q_g 3 [(0,.ptr i0 0),(95,.ptr i0 0),(97,vL tNode a0.kids p0)] H fun _ H=>?_))
    obtain ⟨x27,hx27,hr⟩:=obind hr
    refine q_v (.indexAddr 22 (vL tNode a0.kids p0) (vI 2)) [(0,.ptr i0 0),(95,.ptr i0 0),(98,cN x27 0)] H (run_idxL tNode (by kernel_rfl) hx27) fun _ H=>q_g 2 [(0,.ptr i0 0),(95,.ptr i0 0),(100,kN x27)] H fun _ H=>?_
    obtain ⟨x28,hx28,hr⟩:=obind hr
    obtain ⟨sp29,st,hR,K⟩:=ih_F128 x27.kids x25.1 x25.2.1 x25.2.2 x28 hx28 (i0:=i0) (p0:=.shut) (p1:=sp26) ((K.front 1 rfl).front 1 rfl)
    refine q_c hR 2 [(0,.ptr i0 0)] H fun _ H=>q_e ?_
    obtain rfl:=sj hr
    exact ⟨rfl,sp29,H.to (env':=_) (fun _=>by kernel_rfl),K.keep [true,true]⟩
   rintro e fr st ⟨rfl,j30sp0,H,K⟩
   refine W_reg (q_g 1 [(102,.ptr i0 0)] H fun _ H=>?_)
   refine q_v (.buildSlice 30 1 [(0,vS (bs [125]))]) [(102,.ptr i0 0),(103,vL tS ([(bs [125])]:List ByteArray) .full)] H (run_bslice (v:=vL tS ([(bs [125])]:List ByteArray) .full) (v0:=.slice [vS (bs [125])] .full) (by kernel_rfl) (rfl)) fun _ H=>?_
   obtain ⟨x31,hx31,hr⟩:=obind hr
   obtain ⟨sp32,st,hR,K⟩:=F127_R n ([(bs [125])]:List ByteArray) j30.1 j30.2.1 j30.2.2 x31 hx31 (i0:=i0) (p0:=.full) (p1:=j30sp0) ((((K.full).front 2 rfl).front 2 rfl).front 2 rfl)
   refine q_c hR 2 [] H fun _ H=>q_e ?_
   obtain rfl:=sj hr
   show endsB _ Tryz.f79 _ .normal _ _
   refine e_normalB [] H K (fun _=>resN) ?_
   exact ⟨sp32,rfl,(K.keep [true,true])⟩
  ·intro a0 a1 a2 a3 r hr st rs i0 p0 p1 K
   change F50_step (F128 n) (F123 n) (F79 n) (F50 n) n a0 a1 a2 a3 = some r at hr
   unfold F50_step at hr
   suffices h:∃ v st',R Tryz.prog AN 50 [.ptr i0 0,vL tNode a0 p0] st (.ret v) st'∧(∃ (q0:Spare),v = (.tuple [])∧HL st' (.ownB 5 q0 r.2.1 :: .obj i0 (.cells 77 [addrA i0 r.1,vL tY r.2.1 q0,vI r.2.2]) :: rs)) by
    obtain ⟨v,st',hR,q0,rfl,K⟩:=h
    exact ⟨q0,st',hR,K⟩
   refine R_bodyX (Post:=fun v st=>∃ (q0:Spare),v = (.tuple [])∧HL st (.ownB 5 q0 r.2.1 :: .obj i0 (.cells 77 [addrA i0 r.1,vL tY r.2.1 q0,vI r.2.2]) :: rs)) [(0,.ptr i0 0),(1,vL tNode a0 p0)] (by kernel_rfl) Tryz.func50 rfl (by kernel_rfl) rfl fun _ H=>W_seq (W_reg (q_g 1 [(0,.ptr i0 0),(6,vL tNode a0 p0)] H fun _ H=>?_))
   refine q_v (.len 22 (vL tNode a0 p0)) [(0,.ptr i0 0),(6,vL tNode a0 p0),(7,vI (a0.length:Int))] H (run_len tNode (by kernel_rfl)) fun _ H=>q_g 1 [(0,.ptr i0 0),(6,vL tNode a0 p0),(7,vI (a0.length:Int)),(8,vI 0)] H fun _ H=>q_e (W_block ?_)
   obtain ⟨r7,hr7,hr⟩:=obind hr
   refine W_iter hr7 (fun (s1:Int × Bool × (List UInt8) × Int) fr st=>∃ (s1sp0:Spare),Rd fr [(0,.ptr i0 0),(6,vL tNode a0 p0),(7,vI (a0.length:Int)),(8,vI s1.1)]∧HL st (.ownB 5 s1sp0 s1.2.2.1 :: .obj i0 (.cells 77 [addrA i0 s1.2.1,vL tY s1.2.2.1 s1sp0,vI s1.2.2.2]) :: rs)) (fun (r7:(Bool × (List UInt8) × Int)) e fr st=>e = .exit 0∧∃ (r7sp0:Spare),Rd fr []∧HL st (.ownB 5 r7sp0 r7.2.1 :: .obj i0 (.cells 77 [addrA i0 r7.1,vL tY r7.2.1 r7sp0,vI r7.2.2]) :: rs)) ⟨p1,H.tq,K.keep [true,true]⟩ ?_ ?_
   ·intro s1 fr st r hi hr
    obtain ⟨s1sp0,H,K⟩:=hi
    refine W_seq (W_reg (q_g 1 [(0,.ptr i0 0),(6,vL tNode a0 p0),(7,vI (a0.length:Int)),(8,vI s1.1),(9,vB (decide (s1.1 < (a0.length:Int))))] H fun _ H=>q_e (W_seq ?_)))
    rcases csplit hr with ⟨c2,hr⟩|⟨c2,hr⟩
    rotate_left
    ·refine q_F H c2 ?_
     refine W_exit ?_
     obtain rfl:=sj hr
     exact ⟨by simp,⟨rfl,s1sp0,H.tq,K.keep [true,true]⟩⟩
    refine q_T H c2 (W_skip (W_seq (W_block (W_seq (W_reg ?_)))))
    obtain ⟨x3,hx3,hr⟩:=obind hr
    refine q_v (.indexAddr 22 (vL tNode a0 p0) (vI s1.1)) [(0,.ptr i0 0),(6,vL tNode a0 p0),(7,vI (a0.length:Int)),(8,vI s1.1),(10,cN x3 0)] H (run_idxL tNode (by kernel_rfl) hx3) fun _ H=>q_g 1 [(0,.ptr i0 0),(6,vL tNode a0 p0),(7,vI (a0.length:Int)),(8,vI s1.1),(11,aN x3)] H fun _ H=>?_
    refine k_alloc (t:=24) (cs:=[vI 0,vS (bs []),vS (bs []),vI 0,vI 0,vI 0,vB false,vL tNode ([]:List Node) .nil,vI 0]) (fun id4=>[(0,.ptr i0 0),(5,.ptr id4 0),(6,vL tNode a0 p0),(7,vI (a0.length:Int)),(8,vI s1.1),(11,aN x3)]) H K (by kernel_rfl) (fun _ _=>by kernel_rfl) fun id4 st K fr H=>?_
    refine k_store (t:=24) (off:=0) (v:=aN x3) (cs':=[vI x3.kind,vS x3.name,vS x3.other,vI x3.n,vI x3.len,vI x3.init,vB x3.ghost,kN x3,vI x3.pos]) 0 [(0,.ptr i0 0),(5,.ptr id4 0),(6,vL tNode a0 p0),(7,vI (a0.length:Int)),(8,vI s1.1)] H K rfl (by kernel_rfl) (fun _=>by kernel_rfl) fun st K fr H=>q_e (W_reg (q_g 1 [(0,.ptr i0 0),(5,.ptr id4 0),(6,vL tNode a0 p0),(7,vI (a0.length:Int)),(8,vI s1.1),(12,.ptr i0 0)] H fun _ H=>?_))
    refine k_load (t:=24) (off:=0) 0 [(0,.ptr i0 0),(6,vL tNode a0 p0),(7,vI (a0.length:Int)),(8,vI s1.1),(12,.ptr i0 0),(13,aN x3)] H K rfl (v:=aN x3) (by kernel_rfl) (fun _=>by kernel_rfl) fun _ H=>?_
    obtain ⟨x5,hx5,hr⟩:=obind hr
    obtain ⟨sp6,st,hR,K⟩:=ih_F79 x3 s1.2.1 s1.2.2.1 s1.2.2.2 x5 hx5 (i0:=i0) (p0:=.shut) (p1:=s1sp0) ((K.front 2 rfl).front 2 rfl)
    refine q_c hR 2 [(0,.ptr i0 0),(6,vL tNode a0 p0),(7,vI (a0.length:Int)),(8,vI s1.1)] H fun _ H=>q_e (W_reg (q_g 2 [(0,.ptr i0 0),(6,vL tNode a0 p0),(7,vI (a0.length:Int)),(8,vI (w64 (s1.1 + 1)))] H fun _ H=>q_e ?_))
    obtain rfl:=sj hr
    exact ⟨rfl,⟨sp6,H.tq,K.keep [true,true,false]⟩⟩
   rintro e fr st ⟨rfl,r7sp0,H,K⟩
   obtain rfl:=sj hr
   refine in_exit ?_
   show endsB _ Tryz.f50 _ .normal _ _
   refine e_normalB [] H K (fun _=>resN) ?_
   exact ⟨r7sp0,rfl,(K.keep [true,true])⟩
theorem F50_R (n:Nat) (a0:List Node) (a1:Bool) (a2:List UInt8) (a3:Int) (r:Bool × (List UInt8) × Int) (hr:F50 n a0 a1 a2 a3 = some r) {st:St} {rs:List Res} {i0:Nat} {p0 p1:Spare} (K:HL st (.ownB 5 p1 a2 :: .obj i0 (.cells 77 [addrA i0 a1,vL tY a2 p1,vI a3]) :: rs)):∃ (q0:Spare) (st':St),R Tryz.prog AN 50 [.ptr i0 0,vL tNode a0 p0] st (.ret (.tuple [])) st'∧HL st' (.ownB 5 q0 r.2.1 :: .obj i0 (.cells 77 [addrA i0 r.1,vL tY r.2.1 q0,vI r.2.2]) :: rs):=(F128_RR n).2.2.2 a0 a1 a2 a3 r hr K
def F136 (a0:ByteArray) (a1:Int):Option Bool := (idxS a0 a1).bind fun x1 => bif x1 == 32 then (bif x1 == 32 then (some true) else (some false)) else (bif x1 == 9 then (bif x1 == 9 then (some true) else (some false)) else (bif x1 == 10 then (bif x1 == 10 then (some true) else (some false)) else (bif x1 == 13 then (some true) else (some false))))
theorem F136_R (a0:ByteArray) (a1:Int) (r:Bool) (hr:F136 a0 a1 = some r) {st:St}:R Tryz.prog AN 136 [.agg [vS a0],vI a1] st (.ret (vB r)) st:=by
 unfold F136 at hr
 refine pK [.agg [vS a0],vI a1] [(0,.agg [vS a0]),(1,vI a1)] Tryz.func136 rfl fun fr st H K=>W_seq (W_reg (q_g 2 [(1,vI a1),(2,.cptr ([vS a0]) 0)] H fun _ H=>q_e (W_seq (W_seq (W_reg (q_g 3 [(6,vS a0),(7,vI a1)] H fun _ H=>?_))))))
 obtain ⟨x1,hx1,hr⟩:=obind hr
 refine q_v (.index 9 (vS a0) (vI a1)) [(8,vU x1)] H (run_idxS (by kernel_rfl) hx1) fun _ H=>q_e (W_block (W_seq (W_seq (W_reg (q_g 2 [(8,vU x1),(9,vB (x1 == 32))] H fun _ H=>q_e ?_)))))
 rcases csplit hr with ⟨c2,hr⟩|⟨c2,hr⟩
 ·refine q_T H c2 (W_skip ?_)
  rcases csplit hr with ⟨c5,hr⟩|⟨c5,hr⟩
  ·refine q_T H c5 (W_seq (W_reg (q_g 1 [(4,vB true)] H fun _ H=>q_e (W_ret ?_))))
   obtain rfl:=sj hr
   exact q_r [vB true] H K
  refine q_F H c5 (W_skip (W_seq (W_reg (q_g 1 [(4,vB false)] H fun _ H=>q_e (W_ret ?_)))))
  obtain rfl:=sj hr
  exact q_r [vB false] H K
 refine q_F H c2 (W_seq (W_reg (q_g 2 [(8,vU x1),(9,vB (x1 == 9))] H fun _ H=>q_e ?_)))
 rcases csplit hr with ⟨c3,hr⟩|⟨c3,hr⟩
 ·refine q_T H c3 (W_skip ?_)
  rcases csplit hr with ⟨c6,hr⟩|⟨c6,hr⟩
  ·refine q_T H c6 (W_seq (W_reg (q_g 1 [(4,vB true)] H fun _ H=>q_e (W_ret ?_))))
   obtain rfl:=sj hr
   exact q_r [vB true] H K
  refine q_F H c6 (W_skip (W_seq (W_reg (q_g 1 [(4,vB false)] H fun _ H=>q_e (W_ret ?_)))))
  obtain rfl:=sj hr
  exact q_r [vB false] H K
 refine q_F H c3 (W_seq (W_reg (q_g 2 [(8,vU x1),(9,vB (x1 == 10))] H fun _ H=>q_e ?_)))
 rcases csplit hr with ⟨c4,hr⟩|⟨c4,hr⟩
 ·refine q_T H c4 (W_skip ?_)
  rcases csplit hr with ⟨c7,hr⟩|⟨c7,hr⟩
  ·refine q_T H c7 (W_seq (W_reg (q_g 1 [(4,vB true)] H fun _ H=>q_e (W_ret ?_))))
   obtain rfl:=sj hr
   exact q_r [vB true] H K
  refine q_F H c7 (W_skip (W_seq (W_reg (q_g 1 [(4,vB false)] H fun _ H=>q_e (W_ret ?_)))))
  obtain rfl:=sj hr
  exact q_r [vB false] H K
 refine q_F H c4 (W_reg (q_g 2 [(9,vB (x1 == 13))] H fun _ H=>q_e ?_))
 rcases csplit hr with ⟨c8,hr⟩|⟨c8,hr⟩
 ·refine q_T H c8 (W_seq (W_reg (q_g 1 [(4,vB true)] H fun _ H=>q_e (W_ret ?_))))
  obtain rfl:=sj hr
  exact q_r [vB true] H K
 refine q_F H c8 (W_skip (W_seq (W_reg (q_g 1 [(4,vB false)] H fun _ H=>q_e (W_ret ?_)))))
 obtain rfl:=sj hr
 exact q_r [vB false] H K
def F135_2 (n:Nat) (a0:ByteArray) (a1:Int) (a2:ByteArray):Option Int := (iter (σ:=Int) (ρ:=Int) (fun s1=>bif decide (s1 < (a0.size:Int)) then ((F136 a2 s1).bind fun x3 => bif x3 then (some (.inl (w64 (s1 + 1)))) else (some (.inr s1))) else (some (.inr s1))) n a1).bind fun r5 => some r5
theorem F135_2_R (n:Nat) (a0:ByteArray) (a1:Int) (a2:ByteArray) (r:Int) (hr:F135_2 n a0 a1 a2 = some r) {st:St}:R Tryz.prog AN 135 [.agg [vS a0],vI a1,.fn 136 [.agg [vS a2]] []] st (.ret (vI r)) st:=by
 unfold F135_2 at hr
 refine pK [.agg [vS a0],vI a1,.fn 136 [.agg [vS a2]] []] [(0,.agg [vS a0]),(1,vI a1),(2,.fn 136 [.agg [vS a2]] [])] Tryz.func135 rfl fun fr st H K=>W_seq (W_reg (q_g 2 [(1,vI a1),(2,.fn 136 [.agg [vS a2]] []),(3,.cptr ([vS a0]) 0)] H fun _ H=>q_e (W_seq (W_block ?_))))
 obtain ⟨r5,hr5,hr⟩:=obind hr
 refine W_iter hr5 (fun (s1:Int) fr st=>Rd fr [(1,vI s1),(2,.fn 136 [.agg [vS a2]] []),(3,.cptr ([vS a0]) 0)]∧HL st []) (fun (r5:Int) e fr st=>e = .exit 0∧Rd fr [(1,vI r5)]∧HL st []) ⟨H.tq,K.keep []⟩ ?_ ?_
 ·intro s1 fr st r hi hr
  obtain ⟨H,K⟩:=hi
  refine W_seq (W_seq (W_reg (q_g 6 [(1,vI s1),(2,.fn 136 [.agg [vS a2]] []),(3,.cptr ([vS a0]) 0),(12,vB (decide (s1 < (a0.size:Int))))] H fun _ H=>?_)))
  rcases csplit hr with ⟨c2,hr⟩|⟨c2,hr⟩
  rotate_left
  ·rw [c2] at H
   refine q_g 4 [(1,vI s1),(2,.fn 136 [.agg [vS a2]] []),(3,.cptr ([vS a0]) 0),(16,vB false)] H fun _ H=>q_e (q_F H rfl ?_)
   refine W_exit ?_
   obtain rfl:=sj hr
   exact ⟨by simp,⟨rfl,H.tq,K.keep []⟩⟩
  rw [c2] at H
  refine q_g 2 [(1,vI s1),(2,.fn 136 [.agg [vS a2]] []),(3,.cptr ([vS a0]) 0),(12,vB true),(13,.fn 136 [.agg [vS a2]] []),(14,vI s1)] H fun _ H=>?_
  obtain ⟨x3,hx3,hr⟩:=obind hr
  refine q_c (F136_R  a2 s1 x3 hx3) 0 [(1,vI s1),(2,.fn 136 [.agg [vS a2]] []),(3,.cptr ([vS a0]) 0),(12,vB true),(15,vB x3)] H fun _ H=>q_g 1 [(1,vI s1),(2,.fn 136 [.agg [vS a2]] []),(3,.cptr ([vS a0]) 0),(16,vB x3)] H fun _ H=>q_e ?_
  rcases csplit hr with ⟨c4,hr⟩|⟨c4,hr⟩
  rotate_left
  ·refine q_F H c4 ?_
   refine W_exit ?_
   obtain rfl:=sj hr
   exact ⟨by simp,⟨rfl,H.tq,K.keep []⟩⟩
  refine q_T H c4 (W_skip (W_block (W_reg (q_g 3 [(1,vI (w64 (s1 + 1))),(2,.fn 136 [.agg [vS a2]] []),(3,.cptr ([vS a0]) 0)] H fun _ H=>q_e ?_))))
  obtain rfl:=sj hr
  exact ⟨rfl,⟨H.tq,K.keep []⟩⟩
 rintro e fr st ⟨rfl,H,K⟩
 refine W_seq (W_reg (q_g 2 [(6,vI r5)] H fun _ H=>q_e (W_ret ?_)))
 obtain rfl:=sj hr
 exact q_r [vI r5] H K
def F192 (a0:ByteArray) (a1:ByteArray):Option Bool := bif decide ((a1.size:Int)≤(a0.size:Int)) then ((subS a0 0 (a1.size:Int)).bind fun x2 => some (strEq x2 a1)) else (some false)
theorem F192_R (a0:ByteArray) (a1:ByteArray) (r:Bool) (hr:F192 a0 a1 = some r) {st:St}:R Tryz.prog AN 192 [vS a0,vS a1] st (.ret (vB r)) st:=by
 unfold F192 at hr
 refine pK [vS a0,vS a1] [(0,vS a0),(1,vS a1)] Tryz.func192 rfl fun fr st H K=>W_seq (W_reg (q_g 1 [(0,vS a0),(1,vS a1)] H fun _ H=>q_e (W_seq (W_reg (q_g 6 [(0,vS a0),(1,vS a1),(10,vB (decide ((a1.size:Int)≤(a0.size:Int))))] H fun _ H=>?_)))))
 rcases csplit hr with ⟨c1,hr⟩|⟨c1,hr⟩
 rotate_left
 ·rw [c1] at H
  refine q_g 8 [(4,vB false)] H fun _ H=>q_e (W_ret ?_)
  obtain rfl:=sj hr
  exact q_r [vB false] H K
 rw [c1] at H
 refine q_g 3 [(1,vS a1),(10,vB true),(11,vS a0),(13,vI (a1.size:Int))] H fun _ H=>?_
 obtain ⟨x2,hx2,hr⟩:=obind hr
 refine q_v (.slice 9 (vS a0) none (some (vI (a1.size:Int)))) [(1,vS a1),(10,vB true),(14,vS x2)] H (run_subS_hi (by kernel_rfl) hx2) fun _ H=>q_g 4 [(4,vB (strEq x2 a1))] H fun _ H=>q_e (W_ret ?_)
 obtain rfl:=sj hr
 exact q_r [vB (strEq x2 a1)] H K
def F137 (a0:ByteArray) (a1:ByteArray):Option Bool := (F192 a0 a1).bind fun x1 => some x1
theorem F137_R (a0:ByteArray) (a1:ByteArray) (r:Bool) (hr:F137 a0 a1 = some r) {st:St}:R Tryz.prog AN 137 [vS a0,vS a1] st (.ret (vB r)) st:=by
 unfold F137 at hr
 refine pK [vS a0,vS a1] [(0,vS a0),(1,vS a1)] Tryz.func137 rfl fun fr st H K=>W_seq (W_reg (q_g 1 [(0,vS a0),(1,vS a1)] H fun _ H=>q_e (W_seq (W_reg (q_g 2 [(5,vS a0),(6,vS a1)] H fun _ H=>?_)))))
 obtain ⟨x1,hx1,hr⟩:=obind hr
 refine q_c (F192_R  a0 a1 x1 hx1) 0 [(7,vB x1)] H fun _ H=>q_g 1 [(4,vB x1)] H fun _ H=>q_e (W_ret ?_)
 obtain rfl:=sj hr
 exact q_r [vB x1] H K
def F138 (a0:ByteArray) (a1:Int):Option Bool := (idxS a0 a1).bind fun x1 => some (x1 != 10)
theorem F138_R (a0:ByteArray) (a1:Int) (r:Bool) (hr:F138 a0 a1 = some r) {st:St}:R Tryz.prog AN 138 [.agg [vS a0],vI a1] st (.ret (vB r)) st:=by
 unfold F138 at hr
 refine pK [.agg [vS a0],vI a1] [(0,.agg [vS a0]),(1,vI a1)] Tryz.func138 rfl fun fr st H K=>W_seq (W_reg (q_g 2 [(1,vI a1),(2,.cptr ([vS a0]) 0)] H fun _ H=>q_e (W_seq (W_reg (q_g 3 [(6,vS a0),(7,vI a1)] H fun _ H=>?_)))))
 obtain ⟨x1,hx1,hr⟩:=obind hr
 refine q_v (.index 9 (vS a0) (vI a1)) [(8,vU x1)] H (run_idxS (by kernel_rfl) hx1) fun _ H=>q_g 2 [(4,vB (x1 != 10))] H fun _ H=>q_e (W_ret ?_)
 obtain rfl:=sj hr
 exact q_r [vB (x1 != 10)] H K
def F135_3 (n:Nat) (a0:ByteArray) (a1:Int) (a2:ByteArray):Option Int := (iter (σ:=Int) (ρ:=Int) (fun s1=>bif decide (s1 < (a0.size:Int)) then ((F138 a2 s1).bind fun x3 => bif x3 then (some (.inl (w64 (s1 + 1)))) else (some (.inr s1))) else (some (.inr s1))) n a1).bind fun r5 => some r5
theorem F135_3_R (n:Nat) (a0:ByteArray) (a1:Int) (a2:ByteArray) (r:Int) (hr:F135_3 n a0 a1 a2 = some r) {st:St}:R Tryz.prog AN 135 [.agg [vS a0],vI a1,.fn 138 [.agg [vS a2]] []] st (.ret (vI r)) st:=by
 unfold F135_3 at hr
 refine pK [.agg [vS a0],vI a1,.fn 138 [.agg [vS a2]] []] [(0,.agg [vS a0]),(1,vI a1),(2,.fn 138 [.agg [vS a2]] [])] Tryz.func135 rfl fun fr st H K=>W_seq (W_reg (q_g 2 [(1,vI a1),(2,.fn 138 [.agg [vS a2]] []),(3,.cptr ([vS a0]) 0)] H fun _ H=>q_e (W_seq (W_block ?_))))
 obtain ⟨r5,hr5,hr⟩:=obind hr
 refine W_iter hr5 (fun (s1:Int) fr st=>Rd fr [(1,vI s1),(2,.fn 138 [.agg [vS a2]] []),(3,.cptr ([vS a0]) 0)]∧HL st []) (fun (r5:Int) e fr st=>e = .exit 0∧Rd fr [(1,vI r5)]∧HL st []) ⟨H.tq,K.keep []⟩ ?_ ?_
 ·intro s1 fr st r hi hr
  obtain ⟨H,K⟩:=hi
  refine W_seq (W_seq (W_reg (q_g 6 [(1,vI s1),(2,.fn 138 [.agg [vS a2]] []),(3,.cptr ([vS a0]) 0),(12,vB (decide (s1 < (a0.size:Int))))] H fun _ H=>?_)))
  rcases csplit hr with ⟨c2,hr⟩|⟨c2,hr⟩
  rotate_left
  ·rw [c2] at H
   refine q_g 4 [(1,vI s1),(2,.fn 138 [.agg [vS a2]] []),(3,.cptr ([vS a0]) 0),(16,vB false)] H fun _ H=>q_e (q_F H rfl ?_)
   refine W_exit ?_
   obtain rfl:=sj hr
   exact ⟨by simp,⟨rfl,H.tq,K.keep []⟩⟩
  rw [c2] at H
  refine q_g 2 [(1,vI s1),(2,.fn 138 [.agg [vS a2]] []),(3,.cptr ([vS a0]) 0),(12,vB true),(13,.fn 138 [.agg [vS a2]] []),(14,vI s1)] H fun _ H=>?_
  obtain ⟨x3,hx3,hr⟩:=obind hr
  refine q_c (F138_R  a2 s1 x3 hx3) 0 [(1,vI s1),(2,.fn 138 [.agg [vS a2]] []),(3,.cptr ([vS a0]) 0),(12,vB true),(15,vB x3)] H fun _ H=>q_g 1 [(1,vI s1),(2,.fn 138 [.agg [vS a2]] []),(3,.cptr ([vS a0]) 0),(16,vB x3)] H fun _ H=>q_e ?_
  rcases csplit hr with ⟨c4,hr⟩|⟨c4,hr⟩
  rotate_left
  ·refine q_F H c4 ?_
   refine W_exit ?_
   obtain rfl:=sj hr
   exact ⟨by simp,⟨rfl,H.tq,K.keep []⟩⟩
  refine q_T H c4 (W_skip (W_block (W_reg (q_g 3 [(1,vI (w64 (s1 + 1))),(2,.fn 138 [.agg [vS a2]] []),(3,.cptr ([vS a0]) 0)] H fun _ H=>q_e ?_))))
  obtain rfl:=sj hr
  exact ⟨rfl,⟨H.tq,K.keep []⟩⟩
 rintro e fr st ⟨rfl,H,K⟩
 refine W_seq (W_reg (q_g 2 [(6,vI r5)] H fun _ H=>q_e (W_ret ?_)))
 obtain rfl:=sj hr
 exact q_r [vI r5] H K
def F86 (n:Nat) (a0:ByteArray) (a1:Int):Option Int := (iter (σ:=Int) (ρ:=Int) (fun s1=>(F135_2 n a0 s1 a0).bind fun x2 => ((subS a0 x2 (a0.size:Int)).bind fun x3 => (F137 x3 (bs [47,47])).bind fun x4 => bif x4 then ((F135_3 n a0 x2 a0).bind fun x6 => some x6) else (some x2):Option (Int)).bind fun j7 => bif j7 == s1 then (some (.inr s1)) else (some (.inl j7))) n a1).bind fun r9 => some r9
theorem F86_R (n:Nat) (a0:ByteArray) (a1:Int) (r:Int) (hr:F86 n a0 a1 = some r) {st:St}:R Tryz.prog AN 86 [.agg [vS a0],vI a1] st (.ret (vI r)) st:=by
 unfold F86 at hr
 refine pK [.agg [vS a0],vI a1] [(0,.agg [vS a0]),(1,vI a1)] Tryz.func86 rfl fun fr st H K=>W_seq (W_reg (q_g 2 [(1,vI a1),(2,.cptr ([vS a0]) 0)] H fun _ H=>q_e (W_block ?_)))
 obtain ⟨r9,hr9,hr⟩:=obind hr
 refine W_iter hr9 (fun (s1:Int) fr st=>Rd fr [(1,vI s1),(2,.cptr ([vS a0]) 0)]∧HL st []) (fun (r9:Int) e fr st=>e = .ret∧Rd fr [(4,vI r9)]∧HL st []) ⟨H.tq,K.keep []⟩ ?_ ?_
 ·intro s1 fr st r hi hr
  obtain ⟨H,K⟩:=hi
  refine W_block (W_seq (W_reg (q_g 4 [(1,vI s1),(2,.cptr ([vS a0]) 0),(6,.agg [vS a0]),(7,vI s1),(9,.fn 136 [.agg [vS a0]] [])] H fun _ H=>?_)))
  obtain ⟨x2,hx2,hr⟩:=obind hr
  refine q_c (F135_2_R n a0 s1 a0 x2 hx2) 0 [(1,vI s1),(2,.cptr ([vS a0]) 0),(10,vI x2)] H fun _ H=>q_g 1 [(1,vI s1),(2,.cptr ([vS a0]) 0),(5,vI x2)] H fun _ H=>q_e (W_seq ?_)
  obtain ⟨j7,hj7,hr⟩:=obind hr
  refine W_via (fun e fr st=>e = .normal∧Rd fr [(1,vI s1),(2,.cptr ([vS a0]) 0),(5,vI j7)]∧HL st []) ?_ ?_
  ·replace hr:=hj7
   refine W_seq (W_reg (q_g 3 [(1,vI s1),(2,.cptr ([vS a0]) 0),(5,vI x2),(12,vS a0),(13,vI x2)] H fun _ H=>?_))
   obtain ⟨x3,hx3,hr⟩:=obind hr
   refine q_v (.slice 9 (vS a0) (some (vI x2)) none) [(1,vI s1),(2,.cptr ([vS a0]) 0),(5,vI x2),(14,vS x3)] H (run_subS_lo (by kernel_rfl) hx3) fun _ H=>?_
   obtain ⟨x4,hx4,hr⟩:=obind hr
   refine q_c (F137_R  x3 (bs [47,47]) x4 hx4) 0 [(1,vI s1),(2,.cptr ([vS a0]) 0),(5,vI x2),(15,vB x4)] H fun _ H=>q_e ?_
   rcases csplit hr with ⟨c5,hr⟩|⟨c5,hr⟩
   rotate_left
   ·refine q_F H c5 (W_skip ?_)
    obtain rfl:=sj hr
    exact ⟨rfl,H.to (env':=_) (fun _=>by kernel_rfl),K.keep []⟩
   refine q_T H c5 (W_reg (q_g 4 [(1,vI s1),(2,.cptr ([vS a0]) 0),(16,.agg [vS a0]),(17,vI x2),(19,.fn 138 [.agg [vS a0]] [])] H fun _ H=>?_))
   obtain ⟨x6,hx6,hr⟩:=obind hr
   refine q_c (F135_3_R n a0 x2 a0 x6 hx6) 0 [(1,vI s1),(2,.cptr ([vS a0]) 0),(20,vI x6)] H fun _ H=>q_g 1 [(1,vI s1),(2,.cptr ([vS a0]) 0),(5,vI x6)] H fun _ H=>q_e ?_
   obtain rfl:=sj hr
   exact ⟨rfl,H.to (env':=_) (fun _=>by kernel_rfl),K.keep []⟩
  rintro e fr st ⟨rfl,H,K⟩
  refine W_seq (W_seq (W_reg (q_g 3 [(1,vI s1),(2,.cptr ([vS a0]) 0),(5,vI j7),(23,vB (j7 == s1))] H fun _ H=>q_e ?_)))
  rcases csplit hr with ⟨c8,hr⟩|⟨c8,hr⟩
  ·refine q_T H c8 (W_seq (W_reg (q_g 2 [(4,vI s1)] H fun _ H=>q_e (W_ret ?_))))
   obtain rfl:=sj hr
   exact ⟨by simp,⟨rfl,H.tq,K.keep []⟩⟩
  refine q_F H c8 (W_skip (W_reg (q_g 2 [(1,vI j7),(2,.cptr ([vS a0]) 0)] H fun _ H=>q_e ?_)))
  obtain rfl:=sj hr
  exact ⟨rfl,⟨H.tq,K.keep []⟩⟩
 rintro e fr st ⟨rfl,H,K⟩
 obtain rfl:=sj hr
 exact q_r [vI r9] H K
def F139 (a0:Int):Option Bool := some (((decide (65≤a0)) && (decide (a0≤90))) || ((decide (97≤a0)) && (decide (a0≤122))))
theorem F139_R (a0:Int) (r:Bool) (hr:F139 a0 = some r) {st:St}:R Tryz.prog AN 139 [vU a0] st (.ret (vB r)) st:=by
 unfold F139 at hr
 refine pK [vU a0] [(0,vU a0)] Tryz.func139 rfl fun fr st H K=>W_seq (W_reg (q_g 1 [(0,vU a0)] H fun _ H=>q_e (W_seq (W_reg (q_g 3 [(0,vU a0),(5,vB (decide (65≤a0)))] H fun _ H=>?_)))))
 refine k_g 3 [(0,vU a0),(8,vB ((decide (65≤a0)) && (decide (a0≤90))))] H (fun _ _=>by generalize (decide (65≤a0)) = b0; cases b0 <;> kernel_rfl) fun _ H=>q_g 1 [(0,vU a0),(9,vB ((decide (65≤a0)) && (decide (a0≤90))))] H fun _ H=>?_
 refine k_seg 7 [(16,vB (((decide (65≤a0)) && (decide (a0≤90))) || ((decide (97≤a0)) && (decide (a0≤122)))))] ?_ ?_
 ·cases hg1:((decide (65≤a0)) && (decide (a0≤90)))
  ·rw [hg1] at H
   refine seg_go (m:=4) 3 [(0,vU a0),(9,vB false),(12,vB (decide (97≤a0)))] H (fun _ _=>by kernel_rfl) fun _ H=>?_
   cases hg2:(decide (97≤a0))
   ·rw [hg2] at H
    refine seg_go (m:=0) 4 [(16,vB false)] H (fun _ _=>by kernel_rfl) fun _ H=>?_
    exact seg_end (by (try simp only [hg1,hg2]); exact H.tq)
   ·rw [hg2] at H
    refine seg_go (m:=0) 4 [(16,vB (decide (a0≤122)))] H (fun _ _=>by kernel_rfl) fun _ H=>?_
    exact seg_end (by (try simp only [hg1,hg2]); exact H.tq)
  ·rw [hg1] at H
   refine seg_go (m:=0) 7 [(16,vB true)] H (fun _ _=>by kernel_rfl) fun _ H=>?_
   exact seg_end (by (try simp only [hg1]); exact H.tq)
 intro fr H
 refine q_g 1 [(2,vB (((decide (65≤a0)) && (decide (a0≤90))) || ((decide (97≤a0)) && (decide (a0≤122)))))] H fun _ H=>q_e (W_ret ?_)
 obtain rfl:=sj hr
 exact q_r [vB (((decide (65≤a0)) && (decide (a0≤90))) || ((decide (97≤a0)) && (decide (a0≤122))))] H K
def F141 (a0:ByteArray) (a1:Int):Option Bool := (idxS a0 a1).bind fun x1 => bif decide (48≤x1) then ((idxS a0 a1).bind fun x3 => some (decide (x3≤57))) else (some false)
theorem F141_R (a0:ByteArray) (a1:Int) (r:Bool) (hr:F141 a0 a1 = some r) {st:St}:R Tryz.prog AN 141 [.agg [vS a0],vI a1] st (.ret (vB r)) st:=by
 unfold F141 at hr
 refine pK [.agg [vS a0],vI a1] [(0,.agg [vS a0]),(1,vI a1)] Tryz.func141 rfl fun fr st H K=>W_seq (W_reg (q_g 2 [(1,vI a1),(2,.cptr ([vS a0]) 0)] H fun _ H=>q_e (W_seq (W_reg (q_g 3 [(1,vI a1),(2,.cptr ([vS a0]) 0),(6,vS a0),(7,vI a1)] H fun _ H=>?_)))))
 obtain ⟨x1,hx1,hr⟩:=obind hr
 refine q_v (.index 9 (vS a0) (vI a1)) [(1,vI a1),(2,.cptr ([vS a0]) 0),(8,vU x1)] H (run_idxS (by kernel_rfl) hx1) fun _ H=>q_g 2 [(1,vI a1),(2,.cptr ([vS a0]) 0),(10,vB (decide (48≤x1)))] H fun _ H=>?_
 rcases csplit hr with ⟨c2,hr⟩|⟨c2,hr⟩
 rotate_left
 ·rw [c2] at H
  refine q_g 7 [(4,vB false)] H fun _ H=>q_e (W_ret ?_)
  obtain rfl:=sj hr
  exact q_r [vB false] H K
 rw [c2] at H
 refine q_g 3 [(10,vB true),(12,vS a0),(13,vI a1)] H fun _ H=>?_
 obtain ⟨x3,hx3,hr⟩:=obind hr
 refine q_v (.index 9 (vS a0) (vI a1)) [(10,vB true),(14,vU x3)] H (run_idxS (by kernel_rfl) hx3) fun _ H=>q_g 3 [(4,vB (decide (x3≤57)))] H fun _ H=>q_e (W_ret ?_)
 obtain rfl:=sj hr
 exact q_r [vB (decide (x3≤57))] H K
def F140 (a0:ByteArray) (a1:Int):Option Bool := (idxS a0 a1).bind fun x1 => (F139 x1).bind fun x2 => bif x2 then (some true) else ((F141 a0 a1).bind fun x4 => bif x4 then (some true) else ((idxS a0 a1).bind fun x6 => some (x6 == 95)))
theorem F140_R (a0:ByteArray) (a1:Int) (r:Bool) (hr:F140 a0 a1 = some r) {st:St}:R Tryz.prog AN 140 [.agg [vS a0],vI a1] st (.ret (vB r)) st:=by
 unfold F140 at hr
 refine pK [.agg [vS a0],vI a1] [(0,.agg [vS a0]),(1,vI a1)] Tryz.func140 rfl fun fr st H K=>W_seq (W_reg (q_g 2 [(1,vI a1),(2,.cptr ([vS a0]) 0)] H fun _ H=>q_e (W_seq (W_reg (q_g 3 [(1,vI a1),(2,.cptr ([vS a0]) 0),(6,vS a0),(7,vI a1)] H fun _ H=>?_)))))
 obtain ⟨x1,hx1,hr⟩:=obind hr
 refine q_v (.index 9 (vS a0) (vI a1)) [(1,vI a1),(2,.cptr ([vS a0]) 0),(8,vU x1)] H (run_idxS (by kernel_rfl) hx1) fun _ H=>?_
 obtain ⟨x2,hx2,hr⟩:=obind hr
 refine q_c (F139_R  x1 x2 hx2) 0 [(1,vI a1),(2,.cptr ([vS a0]) 0),(9,vB x2)] H fun _ H=>q_g 1 [(1,vI a1),(2,.cptr ([vS a0]) 0),(10,vB x2)] H fun _ H=>?_
 rcases csplit hr with ⟨c3,hr⟩|⟨c3,hr⟩
 ·rw [c3] at H
  refine q_g 12 [(4,vB true)] H fun _ H=>q_e (W_ret ?_)
  obtain rfl:=sj hr
  exact q_r [vB true] H K
 rw [c3] at H
 refine q_g 2 [(1,vI a1),(2,.cptr ([vS a0]) 0),(10,vB false),(11,.agg [vS a0]),(12,vI a1)] H fun _ H=>?_
 obtain ⟨x4,hx4,hr⟩:=obind hr
 refine q_c (F141_R  a0 a1 x4 hx4) 0 [(1,vI a1),(2,.cptr ([vS a0]) 0),(10,vB false),(13,vB x4)] H fun _ H=>q_g 2 [(1,vI a1),(2,.cptr ([vS a0]) 0),(15,vB x4)] H fun _ H=>?_
 rcases csplit hr with ⟨c5,hr⟩|⟨c5,hr⟩
 ·rw [c5] at H
  refine q_g 7 [(4,vB true)] H fun _ H=>q_e (W_ret ?_)
  obtain rfl:=sj hr
  exact q_r [vB true] H K
 rw [c5] at H
 refine q_g 3 [(15,vB false),(17,vS a0),(18,vI a1)] H fun _ H=>?_
 obtain ⟨x6,hx6,hr⟩:=obind hr
 refine q_v (.index 9 (vS a0) (vI a1)) [(15,vB false),(19,vU x6)] H (run_idxS (by kernel_rfl) hx6) fun _ H=>q_g 3 [(4,vB (x6 == 95))] H fun _ H=>q_e (W_ret ?_)
 obtain rfl:=sj hr
 exact q_r [vB (x6 == 95)] H K
def F135 (n:Nat) (a0:ByteArray) (a1:Int) (a2:ByteArray):Option Int := (iter (σ:=Int) (ρ:=Int) (fun s1=>bif decide (s1 < (a0.size:Int)) then ((F140 a2 s1).bind fun x3 => bif x3 then (some (.inl (w64 (s1 + 1)))) else (some (.inr s1))) else (some (.inr s1))) n a1).bind fun r5 => some r5
theorem F135_R (n:Nat) (a0:ByteArray) (a1:Int) (a2:ByteArray) (r:Int) (hr:F135 n a0 a1 a2 = some r) {st:St}:R Tryz.prog AN 135 [.agg [vS a0],vI a1,.fn 140 [.agg [vS a2]] []] st (.ret (vI r)) st:=by
 unfold F135 at hr
 refine pK [.agg [vS a0],vI a1,.fn 140 [.agg [vS a2]] []] [(0,.agg [vS a0]),(1,vI a1),(2,.fn 140 [.agg [vS a2]] [])] Tryz.func135 rfl fun fr st H K=>W_seq (W_reg (q_g 2 [(1,vI a1),(2,.fn 140 [.agg [vS a2]] []),(3,.cptr ([vS a0]) 0)] H fun _ H=>q_e (W_seq (W_block ?_))))
 obtain ⟨r5,hr5,hr⟩:=obind hr
 refine W_iter hr5 (fun (s1:Int) fr st=>Rd fr [(1,vI s1),(2,.fn 140 [.agg [vS a2]] []),(3,.cptr ([vS a0]) 0)]∧HL st []) (fun (r5:Int) e fr st=>e = .exit 0∧Rd fr [(1,vI r5)]∧HL st []) ⟨H.tq,K.keep []⟩ ?_ ?_
 ·intro s1 fr st r hi hr
  obtain ⟨H,K⟩:=hi
  refine W_seq (W_seq (W_reg (q_g 6 [(1,vI s1),(2,.fn 140 [.agg [vS a2]] []),(3,.cptr ([vS a0]) 0),(12,vB (decide (s1 < (a0.size:Int))))] H fun _ H=>?_)))
  rcases csplit hr with ⟨c2,hr⟩|⟨c2,hr⟩
  rotate_left
  ·rw [c2] at H
   refine q_g 4 [(1,vI s1),(2,.fn 140 [.agg [vS a2]] []),(3,.cptr ([vS a0]) 0),(16,vB false)] H fun _ H=>q_e (q_F H rfl ?_)
   refine W_exit ?_
   obtain rfl:=sj hr
   exact ⟨by simp,⟨rfl,H.tq,K.keep []⟩⟩
  rw [c2] at H
  refine q_g 2 [(1,vI s1),(2,.fn 140 [.agg [vS a2]] []),(3,.cptr ([vS a0]) 0),(12,vB true),(13,.fn 140 [.agg [vS a2]] []),(14,vI s1)] H fun _ H=>?_
  obtain ⟨x3,hx3,hr⟩:=obind hr
  refine q_c (F140_R  a2 s1 x3 hx3) 0 [(1,vI s1),(2,.fn 140 [.agg [vS a2]] []),(3,.cptr ([vS a0]) 0),(12,vB true),(15,vB x3)] H fun _ H=>q_g 1 [(1,vI s1),(2,.fn 140 [.agg [vS a2]] []),(3,.cptr ([vS a0]) 0),(16,vB x3)] H fun _ H=>q_e ?_
  rcases csplit hr with ⟨c4,hr⟩|⟨c4,hr⟩
  rotate_left
  ·refine q_F H c4 ?_
   refine W_exit ?_
   obtain rfl:=sj hr
   exact ⟨by simp,⟨rfl,H.tq,K.keep []⟩⟩
  refine q_T H c4 (W_skip (W_block (W_reg (q_g 3 [(1,vI (w64 (s1 + 1))),(2,.fn 140 [.agg [vS a2]] []),(3,.cptr ([vS a0]) 0)] H fun _ H=>q_e ?_))))
  obtain rfl:=sj hr
  exact ⟨rfl,⟨H.tq,K.keep []⟩⟩
 rintro e fr st ⟨rfl,H,K⟩
 refine W_seq (W_reg (q_g 2 [(6,vI r5)] H fun _ H=>q_e (W_ret ?_)))
 obtain rfl:=sj hr
 exact q_r [vI r5] H K
def F135_1 (n:Nat) (a0:ByteArray) (a1:Int) (a2:ByteArray):Option Int := (iter (σ:=Int) (ρ:=Int) (fun s1=>bif decide (s1 < (a0.size:Int)) then ((F141 a2 s1).bind fun x3 => bif x3 then (some (.inl (w64 (s1 + 1)))) else (some (.inr s1))) else (some (.inr s1))) n a1).bind fun r5 => some r5
theorem F135_1_R (n:Nat) (a0:ByteArray) (a1:Int) (a2:ByteArray) (r:Int) (hr:F135_1 n a0 a1 a2 = some r) {st:St}:R Tryz.prog AN 135 [.agg [vS a0],vI a1,.fn 141 [.agg [vS a2]] []] st (.ret (vI r)) st:=by
 unfold F135_1 at hr
 refine pK [.agg [vS a0],vI a1,.fn 141 [.agg [vS a2]] []] [(0,.agg [vS a0]),(1,vI a1),(2,.fn 141 [.agg [vS a2]] [])] Tryz.func135 rfl fun fr st H K=>W_seq (W_reg (q_g 2 [(1,vI a1),(2,.fn 141 [.agg [vS a2]] []),(3,.cptr ([vS a0]) 0)] H fun _ H=>q_e (W_seq (W_block ?_))))
 obtain ⟨r5,hr5,hr⟩:=obind hr
 refine W_iter hr5 (fun (s1:Int) fr st=>Rd fr [(1,vI s1),(2,.fn 141 [.agg [vS a2]] []),(3,.cptr ([vS a0]) 0)]∧HL st []) (fun (r5:Int) e fr st=>e = .exit 0∧Rd fr [(1,vI r5)]∧HL st []) ⟨H.tq,K.keep []⟩ ?_ ?_
 ·intro s1 fr st r hi hr
  obtain ⟨H,K⟩:=hi
  refine W_seq (W_seq (W_reg (q_g 6 [(1,vI s1),(2,.fn 141 [.agg [vS a2]] []),(3,.cptr ([vS a0]) 0),(12,vB (decide (s1 < (a0.size:Int))))] H fun _ H=>?_)))
  rcases csplit hr with ⟨c2,hr⟩|⟨c2,hr⟩
  rotate_left
  ·rw [c2] at H
   refine q_g 4 [(1,vI s1),(2,.fn 141 [.agg [vS a2]] []),(3,.cptr ([vS a0]) 0),(16,vB false)] H fun _ H=>q_e (q_F H rfl ?_)
   refine W_exit ?_
   obtain rfl:=sj hr
   exact ⟨by simp,⟨rfl,H.tq,K.keep []⟩⟩
  rw [c2] at H
  refine q_g 2 [(1,vI s1),(2,.fn 141 [.agg [vS a2]] []),(3,.cptr ([vS a0]) 0),(12,vB true),(13,.fn 141 [.agg [vS a2]] []),(14,vI s1)] H fun _ H=>?_
  obtain ⟨x3,hx3,hr⟩:=obind hr
  refine q_c (F141_R  a2 s1 x3 hx3) 0 [(1,vI s1),(2,.fn 141 [.agg [vS a2]] []),(3,.cptr ([vS a0]) 0),(12,vB true),(15,vB x3)] H fun _ H=>q_g 1 [(1,vI s1),(2,.fn 141 [.agg [vS a2]] []),(3,.cptr ([vS a0]) 0),(16,vB x3)] H fun _ H=>q_e ?_
  rcases csplit hr with ⟨c4,hr⟩|⟨c4,hr⟩
  rotate_left
  ·refine q_F H c4 ?_
   refine W_exit ?_
   obtain rfl:=sj hr
   exact ⟨by simp,⟨rfl,H.tq,K.keep []⟩⟩
  refine q_T H c4 (W_skip (W_block (W_reg (q_g 3 [(1,vI (w64 (s1 + 1))),(2,.fn 141 [.agg [vS a2]] []),(3,.cptr ([vS a0]) 0)] H fun _ H=>q_e ?_))))
  obtain rfl:=sj hr
  exact ⟨rfl,⟨H.tq,K.keep []⟩⟩
 rintro e fr st ⟨rfl,H,K⟩
 refine W_seq (W_reg (q_g 2 [(6,vI r5)] H fun _ H=>q_e (W_ret ?_)))
 obtain rfl:=sj hr
 exact q_r [vI r5] H K
def F142 (n:Nat) (a0:ByteArray) (a1:Int):Option ByteArray := (iter (σ:=Int) (ρ:=ByteArray ⊕ Unit) (fun s1=>bif decide (s1 < 27) then ((idxL symTab s1).bind fun x3 => bif decide ((w64 ((a0.size:Int) - a1)) < (x3.size:Int)) then (some (.inl (w64 (s1 + 1)))) else ((iter (σ:=Int) (ρ:=Unit ⊕ Unit) (fun s5=>bif decide (s5 < (x3.size:Int)) then ((idxS a0 (w64 (a1 + s5))).bind fun x7 => (idxS x3 s5).bind fun x8 => bif x7 != x8 then (some (.inr (.inl ()))) else (some (.inl (w64 (s5 + 1))))) else (some (.inr (.inr ())))) n (0:Int)).bind fun r10=>match r10 with | .inl _=>some (.inl (w64 (s1 + 1))) | .inr _=>some (.inr (.inl x3)))) else (some (.inr (.inr ())))) n (0:Int)).bind fun r11=>match r11 with | .inl r11a=>some r11a | .inr _=>some (bs [])
theorem F142_R (n:Nat) (a0:ByteArray) (a1:Int) (r:ByteArray) (hr:F142 n a0 a1 = some r) {st:St}:R Tryz.prog AN 142 [.agg [vS a0],vI a1] st (.ret (vS r)) st:=by
 unfold F142 at hr
 refine pK [.agg [vS a0],vI a1] [(0,.agg [vS a0]),(1,vI a1)] Tryz.func142 rfl fun fr st H K=>W_seq (W_reg (q_g 2 [(1,vI a1),(2,.cptr ([vS a0]) 0)] H fun _ H=>q_e ?_))
 refine W_scope (W_seq ?_)
 refine W_label (W_seq (W_seq (W_reg (q_g 2 [(1,vI a1),(2,.cptr ([vS a0]) 0),(8,.agg symCells),(9,vI 0)] H fun _ H=>q_e (W_block ?_)))))
 obtain ⟨r11,hr11,hr⟩:=obind hr
 refine W_iter hr11 (fun (s1:Int) fr st=>Rd fr [(1,vI a1),(2,.cptr ([vS a0]) 0),(8,.agg symCells),(9,vI s1)]∧HL st []) (fun (r11:ByteArray ⊕ Unit) e fr st=>match r11 with | .inl r11a=>(e = .ret∧Rd fr [(4,vS r11a)]∧HL st []) | .inr r11b=>(e = .exit 0∧Rd fr []∧HL st [])) ⟨H.tq,K.keep []⟩ ?_ ?_
 ·intro s1 fr st r hi hr
  obtain ⟨H,K⟩:=hi
  refine W_seq (W_reg (q_g 1 [(1,vI a1),(2,.cptr ([vS a0]) 0),(8,.agg symCells),(9,vI s1),(10,vB (decide (s1 < 27)))] H fun _ H=>q_e (W_seq ?_)))
  rcases csplit hr with ⟨c2,hr⟩|⟨c2,hr⟩
  rotate_left
  ·refine q_F H c2 ?_
   refine W_exit ?_
   obtain rfl:=sj hr
   exact ⟨by simp,⟨rfl,H.tq,K.keep []⟩⟩
  refine q_T H c2 (W_skip (W_seq (W_block (W_seq (W_reg ?_)))))
  obtain ⟨x3,hx3,hr⟩:=obind hr
  refine q_v (.index 164 (.agg symCells) (vI s1)) [(1,vI a1),(2,.cptr ([vS a0]) 0),(8,.agg symCells),(9,vI s1),(11,vS x3)] H (run_sym hx3) fun _ H=>q_g 1 [(1,vI a1),(2,.cptr ([vS a0]) 0),(6,vS x3),(8,.agg symCells),(9,vI s1)] H fun _ H=>q_e (W_seq (W_seq (W_reg (q_g 8 [(1,vI a1),(2,.cptr ([vS a0]) 0),(6,vS x3),(8,.agg symCells),(9,vI s1),(19,vB (decide ((w64 ((a0.size:Int) - a1)) < (x3.size:Int))))] H fun _ H=>q_e ?_))))
  rcases csplit hr with ⟨c4,hr⟩|⟨c4,hr⟩
  ·refine q_T H c4 ?_
   refine W_exit (W_reg (q_g 2 [(1,vI a1),(2,.cptr ([vS a0]) 0),(8,.agg symCells),(9,vI (w64 (s1 + 1)))] H fun _ H=>q_e ?_))
   obtain rfl:=sj hr
   exact ⟨rfl,⟨H.tq,K.keep []⟩⟩
  refine q_F H c4 (W_skip (W_seq (W_seq (W_reg (q_g 3 [(1,vI a1),(2,.cptr ([vS a0]) 0),(6,vS x3),(8,.agg symCells),(9,vI s1),(21,vI (x3.size:Int)),(22,vI 0)] H fun _ H=>q_e (W_block ?_))))))
  obtain ⟨r10,hr10,hr⟩:=obind hr
  refine W_iter hr10 (fun (s5:Int) fr st=>Rd fr [(1,vI a1),(2,.cptr ([vS a0]) 0),(6,vS x3),(8,.agg symCells),(9,vI s1),(21,vI (x3.size:Int)),(22,vI s5)]∧HL st []) (fun (r10:Unit ⊕ Unit) e fr st=>match r10 with | .inl r10a=>(e = .exit 1∧Rd fr [(1,vI a1),(2,.cptr ([vS a0]) 0),(8,.agg symCells),(9,vI s1)]∧HL st []) | .inr r10b=>(e = .exit 2∧Rd fr [(6,vS x3)]∧HL st [])) ⟨H.tq,K.keep []⟩ ?_ ?_
  ·intro s5 fr st r hi hr
   obtain ⟨H,K⟩:=hi
   refine W_seq (W_reg (q_g 1 [(1,vI a1),(2,.cptr ([vS a0]) 0),(6,vS x3),(8,.agg symCells),(9,vI s1),(21,vI (x3.size:Int)),(22,vI s5),(23,vB (decide (s5 < (x3.size:Int))))] H fun _ H=>q_e (W_seq ?_)))
   rcases csplit hr with ⟨c6,hr⟩|⟨c6,hr⟩
   rotate_left
   ·refine q_F H c6 ?_
    refine W_exit ?_
    obtain rfl:=sj hr
    exact ⟨by simp,⟨rfl,H.tq,K.keep []⟩⟩
   refine q_T H c6 (W_skip (W_seq (W_block (W_seq (W_reg (q_g 2 [(1,vI a1),(2,.cptr ([vS a0]) 0),(6,vS x3),(7,vI s5),(8,.agg symCells),(9,vI s1),(21,vI (x3.size:Int)),(22,vI s5)] H fun _ H=>q_e (W_seq (W_drw (q_g 5 [(1,vI a1),(2,.cptr ([vS a0]) 0),(6,vS x3),(7,vI s5),(8,.agg symCells),(9,vI s1),(21,vI (x3.size:Int)),(22,vI s5),(26,vS a0),(29,vI (w64 (a1 + s5)))] H fun _ H=>?_)))))))))
   obtain ⟨x7,hx7,hr⟩:=obind hr
   refine q_v (.index 9 (vS a0) (vI (w64 (a1 + s5)))) [(1,vI a1),(2,.cptr ([vS a0]) 0),(6,vS x3),(7,vI s5),(8,.agg symCells),(9,vI s1),(21,vI (x3.size:Int)),(22,vI s5),(30,vU x7)] H (run_idxS (by kernel_rfl) hx7) fun _ H=>q_g 2 [(1,vI a1),(2,.cptr ([vS a0]) 0),(6,vS x3),(8,.agg symCells),(9,vI s1),(21,vI (x3.size:Int)),(22,vI s5),(30,vU x7),(31,vS x3),(32,vI s5)] H fun _ H=>?_
   obtain ⟨x8,hx8,hr⟩:=obind hr
   refine q_v (.index 9 (vS x3) (vI s5)) [(1,vI a1),(2,.cptr ([vS a0]) 0),(6,vS x3),(8,.agg symCells),(9,vI s1),(21,vI (x3.size:Int)),(22,vI s5),(30,vU x7),(33,vU x8)] H (run_idxS (by kernel_rfl) hx8) fun _ H=>q_g 1 [(1,vI a1),(2,.cptr ([vS a0]) 0),(6,vS x3),(8,.agg symCells),(9,vI s1),(21,vI (x3.size:Int)),(22,vI s5),(34,vB (x7 != x8))] H fun _ H=>q_e (q_d ?_)
   rcases csplit hr with ⟨c9,hr⟩|⟨c9,hr⟩
   ·refine q_T H c9 ?_
    refine W_exit ?_
    obtain rfl:=sj hr
    exact ⟨by simp,⟨rfl,H.tq,K.keep []⟩⟩
   refine q_F H c9 (W_skip (W_reg (q_g 2 [(1,vI a1),(2,.cptr ([vS a0]) 0),(6,vS x3),(8,.agg symCells),(9,vI s1),(21,vI (x3.size:Int)),(22,vI (w64 (s5 + 1)))] H fun _ H=>q_e ?_)))
   obtain rfl:=sj hr
   exact ⟨rfl,⟨H.tq,K.keep []⟩⟩
  rcases r10 with r10a | r10b
  ·rintro e fr st ⟨rfl,H,K⟩
   refine W_reg (q_g 2 [(1,vI a1),(2,.cptr ([vS a0]) 0),(8,.agg symCells),(9,vI (w64 (s1 + 1)))] H fun _ H=>q_e ?_)
   obtain rfl:=sj hr
   exact ⟨rfl,⟨H.tq,K.keep []⟩⟩
  rintro e fr st ⟨rfl,H,K⟩
  refine W_seq (W_reg (q_g 2 [(4,vS x3)] H fun _ H=>q_e (W_ret ?_)))
  obtain rfl:=sj hr
  exact ⟨by simp,⟨rfl,H.tq,K.keep []⟩⟩
 rcases r11 with r11a | r11b
 ·rintro e fr st ⟨rfl,H,K⟩
  obtain rfl:=sj hr
  exact q_r [vS r11a] H K
 rintro e fr st ⟨rfl,H,K⟩
 refine W_seq (W_reg (q_g 1 [(4,vS (bs []))] H fun _ H=>q_e (W_ret ?_)))
 obtain rfl:=sj hr
 exact q_r [vS (bs [])] H K
def F87 (n:Nat) (a0:ByteArray) (a1:Int):Option (Int × Int) := (idxS a0 a1).bind fun x1 => (F139 x1).bind fun x2 => bif x2 then ((F135 n a0 a1 a0).bind fun x4 => bif decide (16 < (w64 (x4 - a1))) then (some ((0:Int),a1)) else (some ((1:Int),x4))) else ((F141 a0 a1).bind fun x6 => bif x6 then ((F135_1 n a0 a1 a0).bind fun x8 => (bif decide (9 < (w64 (x8 - a1))) then (some (decide (9 < (w64 (x8 - a1))))) else ((idxS a0 a1).bind fun x10 => some ((x10 == 48) && (decide (1 < (w64 (x8 - a1)))))):Option (Bool)).bind fun j11 => bif j11 then (some ((0:Int),a1)) else (bif decide (x8 < (a0.size:Int)) then ((F140 a0 x8).bind fun x14 => bif x14 then (some ((0:Int),a1)) else (some ((2:Int),x8))) else (some ((2:Int),x8)))) else ((F142 n a0 a1).bind fun x16 => bif !(strEq x16 (bs [])) then (some ((3:Int),w64 (a1 + (x16.size:Int)))) else (some ((0:Int),a1))))
theorem F87_R (n:Nat) (a0:ByteArray) (a1:Int) (r:Int × Int) (hr:F87 n a0 a1 = some r) {st:St}:R Tryz.prog AN 87 [.agg [vS a0],vI a1] st (.ret (.tuple [vI r.1,vI r.2])) st:=by
 unfold F87 at hr
 refine pK [.agg [vS a0],vI a1] [(0,.agg [vS a0]),(1,vI a1)] Tryz.func87 rfl fun fr st H K=>W_seq (W_reg (q_g 3 [(1,vI a1),(2,.cptr ([vS a0]) 0)] H fun _ H=>q_e (W_seq (W_block (W_seq (W_reg (q_g 3 [(1,vI a1),(2,.cptr ([vS a0]) 0),(11,vS a0),(12,vI a1)] H fun _ H=>?_)))))))
 obtain ⟨x1,hx1,hr⟩:=obind hr
 refine q_v (.index 9 (vS a0) (vI a1)) [(1,vI a1),(2,.cptr ([vS a0]) 0),(13,vU x1)] H (run_idxS (by kernel_rfl) hx1) fun _ H=>?_
 obtain ⟨x2,hx2,hr⟩:=obind hr
 refine q_c (F139_R  x1 x2 hx2) 0 [(1,vI a1),(2,.cptr ([vS a0]) 0),(14,vB x2)] H fun _ H=>q_g 1 [(1,vI a1),(2,.cptr ([vS a0]) 0),(9,vB x2)] H fun _ H=>q_e ?_
 rcases csplit hr with ⟨c3,hr⟩|⟨c3,hr⟩
 ·refine q_T H c3 (W_seq (W_reg (q_g 4 [(1,vI a1),(15,.agg [vS a0]),(16,vI a1),(18,.fn 140 [.agg [vS a0]] [])] H fun _ H=>?_)))
  obtain ⟨x4,hx4,hr⟩:=obind hr
  refine q_c (F135_R n a0 a1 a0 x4 hx4) 0 [(1,vI a1),(19,vI x4)] H fun _ H=>q_g 1 [(1,vI a1),(6,vI x4)] H fun _ H=>q_e (W_seq (W_seq (W_reg (q_g 4 [(1,vI a1),(6,vI x4),(23,vB (decide (16 < (w64 (x4 - a1)))))] H fun _ H=>q_e ?_))))
  rcases csplit hr with ⟨c5,hr⟩|⟨c5,hr⟩
  ·refine q_T H c5 (W_seq (W_reg (q_g 3 [(4,vI 0),(5,vI a1)] H fun _ H=>q_e (W_ret ?_))))
   obtain rfl:=sj hr
   exact e_ret [vI 0,vI a1] H K (fun _=>resT (by kernel_rfl) (resT (by kernel_rfl) resN)) (fun _=>by kernel_rfl)
  refine q_F H c5 (W_skip (W_seq (W_reg (q_g 3 [(4,vI 1),(5,vI x4)] H fun _ H=>q_e (W_ret ?_)))))
  obtain rfl:=sj hr
  exact e_ret [vI 1,vI x4] H K (fun _=>resT (by kernel_rfl) (resT (by kernel_rfl) resN)) (fun _=>by kernel_rfl)
 refine q_F H c3 (W_seq (W_reg (q_g 2 [(1,vI a1),(2,.cptr ([vS a0]) 0),(27,.agg [vS a0]),(28,vI a1)] H fun _ H=>?_)))
 obtain ⟨x6,hx6,hr⟩:=obind hr
 refine q_c (F141_R  a0 a1 x6 hx6) 0 [(1,vI a1),(2,.cptr ([vS a0]) 0),(29,vB x6)] H fun _ H=>q_g 1 [(1,vI a1),(2,.cptr ([vS a0]) 0),(26,vB x6)] H fun _ H=>q_e ?_
 rcases csplit hr with ⟨c7,hr⟩|⟨c7,hr⟩
 rotate_left
 ·refine q_F H c7 (W_skip (W_seq (W_seq (W_reg (q_g 2 [(1,vI a1),(65,.agg [vS a0]),(66,vI a1)] H fun _ H=>?_)))))
  obtain ⟨x16,hx16,hr⟩:=obind hr
  refine q_c (F142_R n a0 a1 x16 hx16) 0 [(1,vI a1),(67,vS x16)] H fun _ H=>q_g 1 [(1,vI a1),(8,vS x16)] H fun _ H=>q_e (W_seq (W_reg (q_g 2 [(1,vI a1),(8,vS x16),(69,vB (!(strEq x16 (bs []))))] H fun _ H=>q_e ?_)))
  rcases csplit hr with ⟨c17,hr⟩|⟨c17,hr⟩
  ·refine q_T H c17 (W_seq (W_reg (q_g 6 [(4,vI 3),(5,vI (w64 (a1 + (x16.size:Int))))] H fun _ H=>q_e (W_ret ?_))))
   obtain rfl:=sj hr
   exact e_ret [vI 3,vI (w64 (a1 + (x16.size:Int)))] H K (fun _=>resT (by kernel_rfl) (resT (by kernel_rfl) resN)) (fun _=>by kernel_rfl)
  refine q_F H c17 (W_skip (W_seq (W_reg (q_g 3 [(4,vI 0),(5,vI a1)] H fun _ H=>q_e (W_ret ?_)))))
  obtain rfl:=sj hr
  exact e_ret [vI 0,vI a1] H K (fun _=>resT (by kernel_rfl) (resT (by kernel_rfl) resN)) (fun _=>by kernel_rfl)
 refine q_T H c7 (W_seq (W_reg (q_g 4 [(1,vI a1),(2,.cptr ([vS a0]) 0),(30,.agg [vS a0]),(31,vI a1),(33,.fn 141 [.agg [vS a0]] [])] H fun _ H=>?_)))
 obtain ⟨x8,hx8,hr⟩:=obind hr
 refine q_c (F135_1_R n a0 a1 a0 x8 hx8) 0 [(1,vI a1),(2,.cptr ([vS a0]) 0),(34,vI x8)] H fun _ H=>q_g 1 [(1,vI a1),(2,.cptr ([vS a0]) 0),(7,vI x8)] H fun _ H=>q_e (W_seq (W_block (W_seq ?_)))
 obtain ⟨j11,hj11,hr⟩:=obind hr
 refine W_via (fun e fr st=>e = .normal∧Rd fr [(1,vI a1),(2,.cptr ([vS a0]) 0),(7,vI x8),(35,vB j11)]∧HL st []) ?_ ?_
 ·replace hr:=hj11
  refine W_seq (W_reg (q_g 5 [(1,vI a1),(2,.cptr ([vS a0]) 0),(7,vI x8),(35,vB (decide (9 < (w64 (x8 - a1)))))] H fun _ H=>q_e ?_))
  rcases csplit hr with ⟨c9,hr⟩|⟨c9,hr⟩
  ·refine q_T H c9 (W_skip ?_)
   obtain rfl:=sj hr
   exact ⟨rfl,H.to (env':=_) (fun _=>by kernel_rfl),K.keep []⟩
  refine q_F H c9 (W_reg (q_g 3 [(1,vI a1),(2,.cptr ([vS a0]) 0),(7,vI x8),(41,vS a0),(42,vI a1)] H fun _ H=>?_))
  obtain ⟨x10,hx10,hr⟩:=obind hr
  refine q_v (.index 9 (vS a0) (vI a1)) [(1,vI a1),(2,.cptr ([vS a0]) 0),(7,vI x8),(43,vU x10)] H (run_idxS (by kernel_rfl) hx10) fun _ H=>q_g 2 [(1,vI a1),(2,.cptr ([vS a0]) 0),(7,vI x8),(45,vB (x10 == 48))] H fun _ H=>?_
  refine k_g 5 [(1,vI a1),(2,.cptr ([vS a0]) 0),(7,vI x8),(50,vB ((x10 == 48) && (decide (1 < (w64 (x8 - a1))))))] H (fun _ _=>by generalize (x10 == 48) = b0; cases b0 <;> kernel_rfl) fun _ H=>q_g 1 [(1,vI a1),(2,.cptr ([vS a0]) 0),(7,vI x8),(35,vB ((x10 == 48) && (decide (1 < (w64 (x8 - a1))))))] H fun _ H=>q_e ?_
  obtain rfl:=sj hr
  exact ⟨rfl,H.to (env':=_) (fun _=>by kernel_rfl),K.keep []⟩
 rintro e fr st ⟨rfl,H,K⟩
 rcases csplit hr with ⟨c12,hr⟩|⟨c12,hr⟩
 ·refine q_T H c12 (W_seq (W_reg (q_g 3 [(4,vI 0),(5,vI a1)] H fun _ H=>q_e (W_ret ?_))))
  obtain rfl:=sj hr
  exact e_ret [vI 0,vI a1] H K (fun _=>resT (by kernel_rfl) (resT (by kernel_rfl) resN)) (fun _=>by kernel_rfl)
 refine q_F H c12 (W_seq (W_reg (q_g 6 [(1,vI a1),(2,.cptr ([vS a0]) 0),(7,vI x8),(58,vB (decide (x8 < (a0.size:Int))))] H fun _ H=>?_)))
 rcases csplit hr with ⟨c13,hr⟩|⟨c13,hr⟩
 rotate_left
 ·rw [c13] at H
  refine q_g 5 [(1,vI a1),(7,vI x8),(52,vB false)] H fun _ H=>q_e (q_F H rfl (W_skip (W_seq (W_reg (q_g 3 [(4,vI 2),(5,vI x8)] H fun _ H=>q_e (W_ret ?_))))))
  obtain rfl:=sj hr
  exact e_ret [vI 2,vI x8] H K (fun _=>resT (by kernel_rfl) (resT (by kernel_rfl) resN)) (fun _=>by kernel_rfl)
 rw [c13] at H
 refine q_g 2 [(1,vI a1),(7,vI x8),(58,vB true),(59,.agg [vS a0]),(60,vI x8)] H fun _ H=>?_
 obtain ⟨x14,hx14,hr⟩:=obind hr
 refine q_c (F140_R  a0 x8 x14 hx14) 0 [(1,vI a1),(7,vI x8),(58,vB true),(61,vB x14)] H fun _ H=>q_g 2 [(1,vI a1),(7,vI x8),(52,vB x14)] H fun _ H=>q_e ?_
 rcases csplit hr with ⟨c15,hr⟩|⟨c15,hr⟩
 ·refine q_T H c15 (W_seq (W_reg (q_g 3 [(4,vI 0),(5,vI a1)] H fun _ H=>q_e (W_ret ?_))))
  obtain rfl:=sj hr
  exact e_ret [vI 0,vI a1] H K (fun _=>resT (by kernel_rfl) (resT (by kernel_rfl) resN)) (fun _=>by kernel_rfl)
 refine q_F H c15 (W_skip (W_seq (W_reg (q_g 3 [(4,vI 2),(5,vI x8)] H fun _ H=>q_e (W_ret ?_)))))
 obtain rfl:=sj hr
 exact e_ret [vI 2,vI x8] H K (fun _=>resT (by kernel_rfl) (resT (by kernel_rfl) resN)) (fun _=>by kernel_rfl)
def F55 (n:Nat) (a0:ByteArray):Option ((List Token) × Int × Int) := bif decide (4000 < (a0.size:Int)) then (some (([]:List Token),(2:Int),(0:Int))) else ((iter (σ:=(List Token) × Int) (ρ:=((List Token) × Int × Int)) (fun s3=>(F86 n a0 s3.2).bind fun x4 => bif x4 == (a0.size:Int) then (some (.inr (s3.1,(0:Int),(0:Int)))) else (bif (s3.1.length:Int) == 1500 then (some (.inr (([]:List Token),(2:Int),x4))) else ((F87 n a0 x4).bind fun x7 => bif x7.1 == 0 then (some (.inr (([]:List Token),(10:Int),x4))) else ((subS a0 x4 x7.2).bind fun x9 => (appL 32 s3.1 ([(Token.mk x7.1 x9 x4)]:List Token)).bind fun x10 => some (.inl (x10,x7.2)))))) n (([]:List Token),(0:Int))).bind fun r12 => some (r12.1,r12.2.1,r12.2.2))
theorem F55_R (n:Nat) (a0:ByteArray) (r:(List Token) × Int × Int) (hr:F55 n a0 = some r) {st:St}:R Tryz.prog AN 55 [vS a0] st (.ret (.tuple [vL tToken r.1 .shut,vI r.2.1,vI r.2.2])) st:=by
 unfold F55 at hr
 refine pK [vS a0] [(0,vS a0)] Tryz.func55 rfl fun fr st H K=>W_seq (W_reg (q_g 3 [(0,vS a0)] H fun _ H=>q_e (W_seq (W_seq (W_reg (q_g 3 [(0,vS a0),(12,vB (decide (4000 < (a0.size:Int))))] H fun _ H=>q_e ?_))))))
 rcases csplit hr with ⟨c1,hr⟩|⟨c1,hr⟩
 ·refine q_T H c1 (W_seq (W_reg (q_g 3 [(2,vL tToken ([]:List Token) .nil),(3,vI 2),(4,vI 0)] H fun _ H=>q_e (W_ret ?_))))
  obtain rfl:=sj hr
  exact e_ret [vL tToken ([]:List Token) .nil,vI 2,vI 0] H K (fun _=>resT (by kernel_rfl) (resT (by kernel_rfl) (resT (by kernel_rfl) resN))) (fun _=>by simp only [strip,stripL,stripL_ET,Option.bind_some,Option.map_some,oneOf] <;> rfl)
 refine q_F H c1 (W_skip (W_seq (W_reg (q_g 2 [(0,vS a0),(14,.agg [vS a0])] H fun _ H=>?_))))
 refine k_alloc (t:=116) (cs:=[vS (bs [])]) (fun id2=>[(0,vS a0),(5,.ptr id2 0),(14,.agg [vS a0])]) H K (by kernel_rfl) (fun _ _=>by kernel_rfl) fun id2 st K fr H=>?_
 refine k_store (t:=116) (off:=0) (v:=.agg [vS a0]) (cs':=[vS a0]) 0 [(0,vS a0),(5,.ptr id2 0)] H K rfl (by kernel_rfl) (fun _=>by kernel_rfl) fun st K fr H=>q_e (W_seq (W_reg (q_g 1 [(0,vS a0),(5,.ptr id2 0),(6,vL tToken ([]:List Token) .nil)] H fun _ H=>q_e (W_seq (W_reg (q_g 1 [(0,vS a0),(5,.ptr id2 0),(6,vL tToken ([]:List Token) .nil),(7,vI 0)] H fun _ H=>q_e (W_block ?_)))))))
 obtain ⟨r12,hr12,hr⟩:=obind hr
 refine W_iter hr12 (fun (s3:(List Token) × Int) fr st=>∃ (s3sp0:Spare),Rd fr [(0,vS a0),(5,.ptr id2 0),(6,vL tToken s3.1 s3sp0),(7,vI s3.2)]∧HL st [.own s3sp0,.obj id2 (.cells 116 [vS a0])]) (fun (r12:((List Token) × Int × Int)) e fr st=>e = .ret∧∃ (r12sp0:Spare),Rd fr [(2,vL tToken r12.1 r12sp0),(3,vI r12.2.1),(4,vI r12.2.2)]∧HL st []) ⟨.nil,H.tq,((K.keep [true]).nilo)⟩ ?_ ?_
 ·intro s3 fr st r hi hr
  obtain ⟨s3sp0,H,K⟩:=hi
  refine W_block (W_seq (W_reg ?_))
  refine k_load (t:=116) (off:=0) 1 [(0,vS a0),(5,.ptr id2 0),(6,vL tToken s3.1 s3sp0),(7,vI s3.2),(15,.agg [vS a0])] H K rfl (v:=.agg [vS a0]) (by kernel_rfl) (fun _=>by kernel_rfl) fun _ H=>q_g 1 [(0,vS a0),(5,.ptr id2 0),(6,vL tToken s3.1 s3sp0),(15,.agg [vS a0]),(16,vI s3.2)] H fun _ H=>?_
  obtain ⟨x4,hx4,hr⟩:=obind hr
  refine q_c (F86_R n a0 s3.2 x4 hx4) 0 [(0,vS a0),(5,.ptr id2 0),(6,vL tToken s3.1 s3sp0),(17,vI x4)] H fun _ H=>q_g 1 [(0,vS a0),(5,.ptr id2 0),(6,vL tToken s3.1 s3sp0),(7,vI x4)] H fun _ H=>q_e (W_seq (W_seq (W_reg (q_g 4 [(0,vS a0),(5,.ptr id2 0),(6,vL tToken s3.1 s3sp0),(7,vI x4),(21,vB (x4 == (a0.size:Int)))] H fun _ H=>q_e ?_))))
  rcases csplit hr with ⟨c5,hr⟩|⟨c5,hr⟩
  ·refine q_T H c5 (W_seq (W_reg (q_g 4 [(2,vL tToken s3.1 s3sp0),(3,vI 0),(4,vI 0)] H fun _ H=>q_e (W_ret ?_))))
   obtain rfl:=sj hr
   exact ⟨by simp,⟨rfl,s3sp0,H.tq,K.keep [false,false]⟩⟩
  refine q_F H c5 (W_skip (W_seq (W_seq (W_reg (q_g 1 [(0,vS a0),(5,.ptr id2 0),(6,vL tToken s3.1 s3sp0),(7,vI x4),(23,vL tToken s3.1 s3sp0)] H fun _ H=>?_)))))
  refine q_v (.len 56 (vL tToken s3.1 s3sp0)) [(0,vS a0),(5,.ptr id2 0),(6,vL tToken s3.1 s3sp0),(7,vI x4),(24,vI (s3.1.length:Int))] H (run_len tToken (by kernel_rfl)) fun _ H=>q_g 1 [(0,vS a0),(5,.ptr id2 0),(6,vL tToken s3.1 s3sp0),(7,vI x4),(25,vB ((s3.1.length:Int) == 1500))] H fun _ H=>q_e ?_
  rcases csplit hr with ⟨c6,hr⟩|⟨c6,hr⟩
  ·refine q_T H c6 (W_seq (W_reg (q_g 4 [(2,vL tToken ([]:List Token) .nil),(3,vI 2),(4,vI x4)] H fun _ H=>q_e (W_ret ?_))))
   obtain rfl:=sj hr
   exact ⟨by simp,⟨rfl,.nil,H.tq,K.keep [false,false]⟩⟩
  refine q_F H c6 (W_skip (W_seq (W_reg ?_)))
  refine k_load (t:=116) (off:=0) 1 [(0,vS a0),(5,.ptr id2 0),(6,vL tToken s3.1 s3sp0),(7,vI x4),(28,.agg [vS a0])] H K rfl (v:=.agg [vS a0]) (by kernel_rfl) (fun _=>by kernel_rfl) fun _ H=>q_g 1 [(0,vS a0),(5,.ptr id2 0),(6,vL tToken s3.1 s3sp0),(7,vI x4),(28,.agg [vS a0]),(29,vI x4)] H fun _ H=>?_
  obtain ⟨x7,hx7,hr⟩:=obind hr
  refine q_c (F87_R n a0 x4 x7 hx7) 0 [(0,vS a0),(5,.ptr id2 0),(6,vL tToken s3.1 s3sp0),(7,vI x4),(30,.tuple [vI x7.1,vI x7.2])] H fun _ H=>q_g 5 [(0,vS a0),(5,.ptr id2 0),(6,vL tToken s3.1 s3sp0),(7,vI x4),(8,vI x7.1),(9,vI x7.2)] H fun _ H=>q_e (W_seq (W_seq (W_reg (q_g 2 [(0,vS a0),(5,.ptr id2 0),(6,vL tToken s3.1 s3sp0),(7,vI x4),(8,vI x7.1),(9,vI x7.2),(34,vB (x7.1 == 0))] H fun _ H=>q_e ?_))))
  rcases csplit hr with ⟨c8,hr⟩|⟨c8,hr⟩
  ·refine q_T H c8 (W_seq (W_reg (q_g 4 [(2,vL tToken ([]:List Token) .nil),(3,vI 10),(4,vI x4)] H fun _ H=>q_e (W_ret ?_))))
   obtain rfl:=sj hr
   exact ⟨by simp,⟨rfl,.nil,H.tq,K.keep [false,false]⟩⟩
  refine q_F H c8 (W_skip (W_seq (W_reg (q_g 5 [(0,vS a0),(5,.ptr id2 0),(7,vI x4),(9,vI x7.2),(36,vL tToken s3.1 s3sp0),(37,vI x7.1),(38,vS a0),(39,vI x4),(40,vI x7.2)] H fun _ H=>?_))))
  obtain ⟨x9,hx9,hr⟩:=obind hr
  refine q_v (.slice 9 (vS a0) (some (vI x4)) (some (vI x7.2))) [(0,vS a0),(5,.ptr id2 0),(7,vI x4),(9,vI x7.2),(36,vL tToken s3.1 s3sp0),(37,vI x7.1),(41,vS x9)] H (run_subS (by kernel_rfl) hx9) fun _ H=>q_g 2 [(0,vS a0),(5,.ptr id2 0),(9,vI x7.2),(36,vL tToken s3.1 s3sp0),(43,.agg [vI x7.1,vS x9,vI x4])] H fun _ H=>?_
  refine q_v (.buildSlice 56 1 [(0,.agg [vI x7.1,vS x9,vI x4])]) [(0,vS a0),(5,.ptr id2 0),(9,vI x7.2),(36,vL tToken s3.1 s3sp0),(44,vL tToken ([(Token.mk x7.1 x9 x4)]:List Token) .full)] H (run_bslice (v:=vL tToken ([(Token.mk x7.1 x9 x4)]:List Token) .full) (v0:=.slice [.agg [vI x7.1,vS x9,vI x4]] .full) (by kernel_rfl) (rfl)) fun _ H=>?_
  obtain ⟨x10,hx10,hr⟩:=obind hr
  refine k_app tToken hx10 (t:=56) (t2:=56) (sp2:=.full) 0 (fun sp11=>[(0,vS a0),(5,.ptr id2 0),(9,vI x7.2),(45,vL tToken x10 sp11)]) H K rfl (by kernel_rfl) (fun _ _=>by kernel_rfl) fun sp11 st K fr H=>q_g 1 [(0,vS a0),(5,.ptr id2 0),(6,vL tToken x10 sp11),(9,vI x7.2)] H fun _ H=>q_e (W_reg (q_g 2 [(0,vS a0),(5,.ptr id2 0),(6,vL tToken x10 sp11),(7,vI x7.2)] H fun _ H=>q_e ?_))
  obtain rfl:=sj hr
  exact ⟨rfl,⟨sp11,H.tq,K.keep [true,true]⟩⟩
 rintro e fr st ⟨rfl,r12sp0,H,K⟩
 obtain rfl:=sj hr
 exact e_ret [vL tToken r12.1 r12sp0,vI r12.2.1,vI r12.2.2] H K (fun _=>resT (by kernel_rfl) (resT (by kernel_rfl) (resT (by kernel_rfl) resN))) (fun _=>by simp only [strip,stripL,stripL_ET,Option.bind_some,Option.map_some,oneOf] <;> rfl)
def F51 (n:Nat) (a0:ByteArray):Option (ByteArray × Int) := (F55 n a0).bind fun x1 => bif x1.2.1 != 0 then (some ((bs []),(2:Int))) else (some (a0,(0:Int)))
theorem F51_R (n:Nat) (a0:ByteArray) (r:ByteArray × Int) (hr:F51 n a0 = some r) {st:St}:R Tryz.prog AN 51 [vS a0] st (.ret (.tuple [vS r.1,vI r.2])) st:=by
 unfold F51 at hr
 refine pK [vS a0] [(0,vS a0)] Tryz.func51 rfl fun fr st H K=>W_seq (W_reg (q_g 2 [(0,vS a0)] H fun _ H=>q_e (W_seq (W_seq (W_reg (q_g 1 [(0,vS a0),(8,vS a0)] H fun _ H=>?_))))))
 obtain ⟨x1,hx1,hr⟩:=obind hr
 refine q_c (F55_R n a0 x1 hx1) 0 [(0,vS a0),(9,.tuple [vL tToken x1.1 .shut,vI x1.2.1,vI x1.2.2])] H fun _ H=>q_g 7 [(0,vS a0),(5,vI x1.2.1)] H fun _ H=>q_e (W_seq (W_reg (q_g 2 [(0,vS a0),(14,vB (x1.2.1 != 0))] H fun _ H=>q_e ?_)))
 rcases csplit hr with ⟨c2,hr⟩|⟨c2,hr⟩
 ·refine q_T H c2 (W_seq (W_reg (q_g 2 [(2,vS (bs [])),(3,vI 2)] H fun _ H=>q_e (W_ret ?_))))
  obtain rfl:=sj hr
  exact e_ret [vS (bs []),vI 2] H K (fun _=>resT (by kernel_rfl) (resT (by kernel_rfl) resN)) (fun _=>by kernel_rfl)
 refine q_F H c2 (W_skip (W_seq (W_reg (q_g 3 [(2,vS a0),(3,vI 0)] H fun _ H=>q_e (W_ret ?_)))))
 obtain rfl:=sj hr
 exact e_ret [vS a0,vI 0] H K (fun _=>resT (by kernel_rfl) (resT (by kernel_rfl) resN)) (fun _=>by kernel_rfl)
def F19 (n:Nat) (a0:Node):Option (ByteArray × Int) := bif a0.kind != 62 then (some ((bs []),(1:Int))) else ((F28 n a0).bind fun x2 => bif !x2 then (some ((bs []),(1:Int))) else ((F50 n a0.kids false ([]:List UInt8) (0:Int)).bind fun x5 => (F51 n (bs x5.2.1)).bind fun x7 => some (x7.1,x7.2)))
theorem F19_R (n:Nat) (a0:Node) (r:ByteArray × Int) (hr:F19 n a0 = some r) {st:St} {p0:Spare}:R Tryz.prog AN 19 [.agg (cNode p0 a0)] st (.ret (.tuple [vS r.1,vI r.2])) st:=by
 unfold F19 at hr
 refine R_pureX [aN a0] [(0,aN a0)] (by kernel_rfl) Tryz.func19 rfl (by kernel_rfl) (by simp only [strip,stripL,stripL_cNode,Option.bind_some,Option.map_some]) rfl fun fr st H K=>W_seq (W_reg (q_g 3 [(1,cN a0 0)] H fun _ H=>q_e (W_seq (W_seq (W_reg (q_g 4 [(1,cN a0 0),(8,vB (a0.kind != 62))] H fun _ H=>?_))))))
 rcases csplit hr with ⟨c1,hr⟩|⟨c1,hr⟩
 ·rw [c1] at H
  refine q_g 4 [(1,cN a0 0),(12,vB true)] H fun _ H=>q_e (q_T H rfl (W_seq (W_reg (q_g 2 [(2,vS (bs [])),(3,vI 1)] H fun _ H=>q_e (W_ret ?_)))))
  obtain rfl:=sj hr
  exact e_ret [vS (bs []),vI 1] H K (fun _=>resT (by kernel_rfl) (resT (by kernel_rfl) resN)) (fun _=>by kernel_rfl)
 rw [c1] at H
 refine q_g 1 [(1,cN a0 0),(8,vB false),(9,aN a0)] H fun _ H=>?_
 obtain ⟨x2,hx2,hr⟩:=obind hr
 refine q_c (F28_R n a0 x2 hx2 (p0:=.shut)) 0 [(1,cN a0 0),(8,vB false),(10,vB x2)] H fun _ H=>q_g 2 [(1,cN a0 0),(12,vB !x2)] H fun _ H=>q_e ?_
 rcases csplit hr with ⟨c3,hr⟩|⟨c3,hr⟩
 ·refine q_T H c3 (W_seq (W_reg (q_g 2 [(2,vS (bs [])),(3,vI 1)] H fun _ H=>q_e (W_ret ?_))))
  obtain rfl:=sj hr
  exact e_ret [vS (bs []),vI 1] H K (fun _=>resT (by kernel_rfl) (resT (by kernel_rfl) resN)) (fun _=>by kernel_rfl)
 refine q_F H c3 (W_skip (W_seq (W_reg ?_)))
 refine k_alloc (t:=77) (cs:=[.sc (.pointer none),vL (tI .u8) ([]:List Int) .nil,vI 0]) (fun id4=>[(1,cN a0 0),(4,.ptr id4 0)]) H K (by kernel_rfl) (fun _ _=>by kernel_rfl) fun id4 st K fr H=>q_e (W_seq (W_reg (q_g 2 [(4,.ptr id4 0),(14,kN a0)] H fun _ H=>?_)))
 obtain ⟨x5,hx5,hr⟩:=obind hr
 obtain ⟨sp6,st,hR,K⟩:=F50_R n a0.kids false ([]:List UInt8) (0:Int) x5 hx5 (i0:=id4) (p0:=.shut) (p1:=.nil) (((K.nilB 5).front 1 rfl).front 1 rfl)
 refine q_c hR 2 [(4,.ptr id4 0)] H fun _ H=>q_e (W_seq (W_reg (q_g 1 [(16,.ptr id4 0)] H fun _ H=>?_)))
 obtain ⟨st,hR,K⟩:=builderString_R x5.2.1 ((K.front 1 rfl).front 1 rfl)
 refine q_c hR 2 [(17,vS (bs x5.2.1))] H fun _ H=>?_
 obtain ⟨x7,hx7,hr⟩:=obind hr
 refine q_c (F51_R n (bs x5.2.1) x7 hx7) 0 [(18,.tuple [vS x7.1,vI x7.2])] H fun _ H=>q_g 4 [(2,vS x7.1),(3,vI x7.2)] H fun _ H=>q_e (W_ret ?_)
 obtain rfl:=sj hr
 exact e_ret [vS x7.1,vI x7.2] H K (fun _=>resT (by kernel_rfl) (resT (by kernel_rfl) resN)) (fun _=>by kernel_rfl)
def F48 (a0:ByteArray):Option Node := some (Node.mk 2 a0 (bs []) 0 0 0 false ([]:List Node) 0)
theorem F48_R (a0:ByteArray) (r:Node) (hr:F48 a0 = some r) {st:St}:R Tryz.prog AN 48 [vS a0] st (.ret (aN r)) st:=by
 unfold F48 at hr
 refine pK [vS a0] [(0,vS a0)] Tryz.func48 rfl fun fr st H K=>W_seq (W_reg ?_)
 refine k_alloc (t:=24) (cs:=[vI 0,vS (bs []),vS (bs []),vI 0,vI 0,vI 0,vB false,vL tNode ([]:List Node) .nil,vI 0]) (fun id1=>[(0,vS a0),(2,.ptr id1 0)]) H K (by kernel_rfl) (fun _ _=>by kernel_rfl) fun id1 st K fr H=>q_e (W_seq (W_reg (q_g 2 [(2,.ptr id1 0),(4,.agg [vI 2,vS a0,vS (bs []),vI 0,vI 0,vI 0,vB false,vL tNode ([]:List Node) .nil,vI 0])] H fun _ H=>?_)))
 refine k_store (t:=24) (off:=0) (v:=.agg [vI 2,vS a0,vS (bs []),vI 0,vI 0,vI 0,vB false,vL tNode ([]:List Node) .nil,vI 0]) (cs':=[vI 2,vS a0,vS (bs []),vI 0,vI 0,vI 0,vB false,vL tNode ([]:List Node) .nil,vI 0]) 0 [(2,.ptr id1 0)] H K rfl (by kernel_rfl) (fun _=>by kernel_rfl) fun st K fr H=>q_e (W_ret ?_)
 obtain rfl:=sj hr
 exact e_ret [.agg [vI 2,vS a0,vS (bs []),vI 0,vI 0,vI 0,vB false,vL tNode ([]:List Node) .shut,vI 0]] H K (fun _=>resC id1 0 24 [vI 2,vS a0,vS (bs []),vI 0,vI 0,vI 0,vB false,vL tNode ([]:List Node) .nil,vI 0] 0 (by kernel_rfl) rfl (by kernel_rfl) resN) (fun _=>by simp only [strip,stripL,stripL_ET,Option.bind_some,Option.map_some,oneOf] <;> rfl)
def F47 (a0:ByteArray) (a1:Node) (a2:Node):Option Node := some (Node.mk 5 a0 (bs []) 0 0 0 false ([a1,a2]:List Node) 0)
theorem F47_R (a0:ByteArray) (a1:Node) (a2:Node) (r:Node) (hr:F47 a0 a1 a2 = some r) {st:St} {p0 p1:Spare}:R Tryz.prog AN 47 [vS a0,.agg (cNode p0 a1),.agg (cNode p1 a2)] st (.ret (aN r)) st:=by
 unfold F47 at hr
 refine R_pureX [vS a0,aN a1,aN a2] [(0,vS a0),(1,aN a1),(2,aN a2)] (by kernel_rfl) Tryz.func47 rfl (by kernel_rfl) (by simp only [strip,stripL,stripL_cNode,Option.bind_some,Option.map_some]) rfl fun fr st H K=>W_seq (W_reg (q_g 2 [(0,vS a0),(4,cN a1 0),(5,cN a2 0)] H fun _ H=>?_))
 refine k_alloc (t:=24) (cs:=[vI 0,vS (bs []),vS (bs []),vI 0,vI 0,vI 0,vB false,vL tNode ([]:List Node) .nil,vI 0]) (fun id1=>[(0,vS a0),(4,cN a1 0),(5,cN a2 0),(6,.ptr id1 0)]) H K (by kernel_rfl) (fun _ _=>by kernel_rfl) fun id1 st K fr H=>q_e (W_seq (W_reg (q_g 3 [(6,.ptr id1 0),(7,vS a0),(8,aN a1),(9,aN a2)] H fun _ H=>?_)))
 refine q_v (.buildSlice 22 2 [(0,aN a1),(1,aN a2)]) [(6,.ptr id1 0),(7,vS a0),(10,vL tNode ([a1,a2]:List Node) .full)] H (run_bslice (v:=vL tNode ([a1,a2]:List Node) .full) (v0:=.slice [aN a1,aN a2] .full) (by kernel_rfl) (by simp only [List.map,vL,tNode_e,eNode_eq,cNode] <;> rfl)) fun _ H=>q_g 1 [(6,.ptr id1 0),(11,.agg [vI 5,vS a0,vS (bs []),vI 0,vI 0,vI 0,vB false,vL tNode ([a1,a2]:List Node) .full,vI 0])] H fun _ H=>?_
 refine k_store (t:=24) (off:=0) (v:=.agg [vI 5,vS a0,vS (bs []),vI 0,vI 0,vI 0,vB false,vL tNode ([a1,a2]:List Node) .full,vI 0]) (cs':=[vI 5,vS a0,vS (bs []),vI 0,vI 0,vI 0,vB false,vL tNode ([a1,a2]:List Node) .full,vI 0]) 0 [(6,.ptr id1 0)] H K rfl (by kernel_rfl) (fun _=>by kernel_rfl) fun st K fr H=>q_e (W_ret ?_)
 obtain rfl:=sj hr
 exact e_ret [.agg [vI 5,vS a0,vS (bs []),vI 0,vI 0,vI 0,vB false,vL tNode ([a1,a2]:List Node) .shut,vI 0]] H K (fun _=>resC id1 0 24 [vI 5,vS a0,vS (bs []),vI 0,vI 0,vI 0,vB false,vL tNode ([a1,a2]:List Node) .full,vI 0] 0 (by kernel_rfl) rfl (by kernel_rfl) resN) (fun _=>by simp only [strip,stripL,stripL_ET,Option.bind_some,Option.map_some,oneOf] <;> rfl)
def F23 (n:Nat) (a0:Node):Option (ByteArray × Int) := bif a0.kind == 62 then (some ((bs []),(1:Int))) else ((F28 n a0).bind fun x2 => bif !x2 then (some ((bs []),(1:Int))) else ((F54 n a0).bind fun x4 => (F51 n x4).bind fun x5 => some (x5.1,x5.2)))
theorem F23_R (n:Nat) (a0:Node) (r:ByteArray × Int) (hr:F23 n a0 = some r) {st:St} {p0:Spare}:R Tryz.prog AN 23 [.agg (cNode p0 a0)] st (.ret (.tuple [vS r.1,vI r.2])) st:=by
 unfold F23 at hr
 refine R_pureX [aN a0] [(0,aN a0)] (by kernel_rfl) Tryz.func23 rfl (by kernel_rfl) (by simp only [strip,stripL,stripL_cNode,Option.bind_some,Option.map_some]) rfl fun fr st H K=>W_seq (W_reg (q_g 3 [(1,cN a0 0)] H fun _ H=>q_e (W_seq (W_seq (W_reg (q_g 4 [(1,cN a0 0),(7,vB (a0.kind == 62))] H fun _ H=>?_))))))
 rcases csplit hr with ⟨c1,hr⟩|⟨c1,hr⟩
 ·rw [c1] at H
  refine q_g 4 [(1,cN a0 0),(11,vB true)] H fun _ H=>q_e (q_T H rfl (W_seq (W_reg (q_g 2 [(2,vS (bs [])),(3,vI 1)] H fun _ H=>q_e (W_ret ?_)))))
  obtain rfl:=sj hr
  exact e_ret [vS (bs []),vI 1] H K (fun _=>resT (by kernel_rfl) (resT (by kernel_rfl) resN)) (fun _=>by kernel_rfl)
 rw [c1] at H
 refine q_g 1 [(1,cN a0 0),(7,vB false),(8,aN a0)] H fun _ H=>?_
 obtain ⟨x2,hx2,hr⟩:=obind hr
 refine q_c (F28_R n a0 x2 hx2 (p0:=.shut)) 0 [(1,cN a0 0),(7,vB false),(9,vB x2)] H fun _ H=>q_g 2 [(1,cN a0 0),(11,vB !x2)] H fun _ H=>q_e ?_
 rcases csplit hr with ⟨c3,hr⟩|⟨c3,hr⟩
 ·refine q_T H c3 (W_seq (W_reg (q_g 2 [(2,vS (bs [])),(3,vI 1)] H fun _ H=>q_e (W_ret ?_))))
  obtain rfl:=sj hr
  exact e_ret [vS (bs []),vI 1] H K (fun _=>resT (by kernel_rfl) (resT (by kernel_rfl) resN)) (fun _=>by kernel_rfl)
 refine q_F H c3 (W_skip (W_seq (W_reg (q_g 1 [(12,aN a0)] H fun _ H=>?_))))
 obtain ⟨x4,hx4,hr⟩:=obind hr
 refine q_c (F54_R n a0 x4 hx4 (p0:=.shut)) 0 [(13,vS x4)] H fun _ H=>?_
 obtain ⟨x5,hx5,hr⟩:=obind hr
 refine q_c (F51_R n x4 x5 hx5) 0 [(14,.tuple [vS x5.1,vI x5.2])] H fun _ H=>q_g 4 [(2,vS x5.1),(3,vI x5.2)] H fun _ H=>q_e (W_ret ?_)
 obtain rfl:=sj hr
 exact e_ret [vS x5.1,vI x5.2] H K (fun _=>resT (by kernel_rfl) (resT (by kernel_rfl) resN)) (fun _=>by kernel_rfl)
def F17 (n:Nat) :Option Bool := (F48 (bs [97])).bind fun x1 => (F47 (bs [43]) x1 (Node.mk 1 (bs []) (bs []) 1 0 0 false ([]:List Node) 0)).bind fun x2 => (F48 (bs [98])).bind fun x3 => (F47 (bs [42]) x2 (Node.mk 4 (bs []) (bs []) 0 0 0 false ([x3]:List Node) 0)).bind fun x4 => (F23 n x4).bind fun x5 => (F48 (bs [97])).bind fun x6 => (F48 (bs [98])).bind fun x7 => (F48 (bs [99])).bind fun x8 => (F47 (bs [61,61,62]) x7 x8).bind fun x9 => (F47 (bs [61,61,62]) x6 x9).bind fun x10 => (F23 n x10).bind fun x11 => (F48 (bs [120])).bind fun x12 => (F48 (bs [121])).bind fun x13 => (F47 (bs [38,38]) (Node.mk 7 (bs [105]) (bs []) 2 0 0 false ([x12]:List Node) 0) x13).bind fun x14 => (F23 n x14).bind fun x15 => (F19 n (Node.mk 62 (bs []) (bs []) 0 0 0 false ([(Node.mk 60 (bs [77]) (bs [65]) 0 0 0 false ([(Node.mk 50 (bs [120]) (bs []) 2 3 1 true ([]:List Node) 0)]:List Node) 0)]:List Node) 0)).bind fun x16 => (F48 (bs [119,104,105,108,101])).bind fun x17 => (F23 n x17).bind fun x18 => (F48 (bs [97])).bind fun x19 => (F19 n x19).bind fun x20 => some ((((((((strEq x5.1 (bs [40,97,32,43,32,49,41,32,42,32,33,98])) && (x5.2 == 0)) && (strEq x11.1 (bs [97,32,61,61,62,32,98,32,61,61,62,32,99]))) && (strEq x15.1 (bs [40,97,108,108,32,105,32,60,32,50,32,58,32,120,41,32,38,38,32,121]))) && (strEq x16.1 (bs [109,111,100,117,108,101,32,77,32,111,119,110,101,114,32,65,32,123,10,32,32,103,104,111,115,116,32,115,104,97,114,101,100,32,120,91,51,93,32,58,32,50,32,61,32,49,59,10,125,10]))) && (x16.2 == 0)) && (x18.2 == 1)) && (x20.2 == 1))
theorem F17_R (n:Nat)  (r:Bool) (hr:F17 n  = some r) {st:St}:R Tryz.prog AN 17 [] st (.ret (vB r)) st:=by
 unfold F17 at hr
 refine pK [] [] Tryz.func17 rfl fun fr st H K=>W_seq (W_reg (q_g 1 [] H fun _ H=>q_e (W_seq (W_reg ?_))))
 obtain ⟨x1,hx1,hr⟩:=obind hr
 refine q_c (F48_R  (bs [97]) x1 hx1) 0 [(15,aN x1)] H fun _ H=>q_g 1 [(15,aN x1),(16,.agg [vI 1,vS (bs []),vS (bs []),vI 1,vI 0,vI 0,vB false,vL tNode ([]:List Node) .nil,vI 0])] H fun _ H=>?_
 obtain ⟨x2,hx2,hr⟩:=obind hr
 refine q_c (F47_R  (bs [43]) x1 (Node.mk 1 (bs []) (bs []) 1 0 0 false ([]:List Node) 0) x2 hx2 (p0:=.shut) (p1:=.nil)) 0 [(17,aN x2)] H fun _ H=>?_
 obtain ⟨x3,hx3,hr⟩:=obind hr
 refine q_c (F48_R  (bs [98]) x3 hx3) 0 [(17,aN x2),(18,aN x3)] H fun _ H=>?_
 refine q_v (.buildSlice 22 1 [(0,aN x3)]) [(17,aN x2),(19,vL tNode ([x3]:List Node) .full)] H (run_bslice (v:=vL tNode ([x3]:List Node) .full) (v0:=.slice [aN x3] .full) (by kernel_rfl) (by simp only [List.map,vL,tNode_e,eNode_eq,cNode] <;> rfl)) fun _ H=>q_g 1 [(17,aN x2),(20,.agg [vI 4,vS (bs []),vS (bs []),vI 0,vI 0,vI 0,vB false,vL tNode ([x3]:List Node) .full,vI 0])] H fun _ H=>?_
 obtain ⟨x4,hx4,hr⟩:=obind hr
 refine q_c (F47_R  (bs [42]) x2 (Node.mk 4 (bs []) (bs []) 0 0 0 false ([x3]:List Node) 0) x4 hx4 (p0:=.shut) (p1:=.full)) 0 [(21,aN x4)] H fun _ H=>?_
 obtain ⟨x5,hx5,hr⟩:=obind hr
 refine q_c (F23_R n x4 x5 hx5 (p0:=.shut)) 0 [(22,.tuple [vS x5.1,vI x5.2])] H fun _ H=>q_g 5 [(1,vS x5.1),(2,vI x5.2)] H fun _ H=>q_e (W_seq (W_reg ?_))
 obtain ⟨x6,hx6,hr⟩:=obind hr
 refine q_c (F48_R  (bs [97]) x6 hx6) 0 [(1,vS x5.1),(2,vI x5.2),(26,aN x6)] H fun _ H=>?_
 obtain ⟨x7,hx7,hr⟩:=obind hr
 refine q_c (F48_R  (bs [98]) x7 hx7) 0 [(1,vS x5.1),(2,vI x5.2),(26,aN x6),(27,aN x7)] H fun _ H=>?_
 obtain ⟨x8,hx8,hr⟩:=obind hr
 refine q_c (F48_R  (bs [99]) x8 hx8) 0 [(1,vS x5.1),(2,vI x5.2),(26,aN x6),(27,aN x7),(28,aN x8)] H fun _ H=>?_
 obtain ⟨x9,hx9,hr⟩:=obind hr
 refine q_c (F47_R  (bs [61,61,62]) x7 x8 x9 hx9 (p0:=.shut) (p1:=.shut)) 0 [(1,vS x5.1),(2,vI x5.2),(26,aN x6),(29,aN x9)] H fun _ H=>?_
 obtain ⟨x10,hx10,hr⟩:=obind hr
 refine q_c (F47_R  (bs [61,61,62]) x6 x9 x10 hx10 (p0:=.shut) (p1:=.shut)) 0 [(1,vS x5.1),(2,vI x5.2),(30,aN x10)] H fun _ H=>?_
 obtain ⟨x11,hx11,hr⟩:=obind hr
 refine q_c (F23_R n x10 x11 hx11 (p0:=.shut)) 0 [(1,vS x5.1),(2,vI x5.2),(31,.tuple [vS x11.1,vI x11.2])] H fun _ H=>q_g 5 [(1,vS x5.1),(2,vI x5.2),(3,vS x11.1)] H fun _ H=>q_e (W_seq (W_reg ?_))
 obtain ⟨x12,hx12,hr⟩:=obind hr
 refine q_c (F48_R  (bs [120]) x12 hx12) 0 [(1,vS x5.1),(2,vI x5.2),(3,vS x11.1),(35,aN x12)] H fun _ H=>?_
 refine q_v (.buildSlice 22 1 [(0,aN x12)]) [(1,vS x5.1),(2,vI x5.2),(3,vS x11.1),(36,vL tNode ([x12]:List Node) .full)] H (run_bslice (v:=vL tNode ([x12]:List Node) .full) (v0:=.slice [aN x12] .full) (by kernel_rfl) (by simp only [List.map,vL,tNode_e,eNode_eq,cNode] <;> rfl)) fun _ H=>q_g 1 [(1,vS x5.1),(2,vI x5.2),(3,vS x11.1),(37,.agg [vI 7,vS (bs [105]),vS (bs []),vI 2,vI 0,vI 0,vB false,vL tNode ([x12]:List Node) .full,vI 0])] H fun _ H=>?_
 obtain ⟨x13,hx13,hr⟩:=obind hr
 refine q_c (F48_R  (bs [121]) x13 hx13) 0 [(1,vS x5.1),(2,vI x5.2),(3,vS x11.1),(37,.agg [vI 7,vS (bs [105]),vS (bs []),vI 2,vI 0,vI 0,vB false,vL tNode ([x12]:List Node) .full,vI 0]),(38,aN x13)] H fun _ H=>?_
 obtain ⟨x14,hx14,hr⟩:=obind hr
 refine q_c (F47_R  (bs [38,38]) (Node.mk 7 (bs [105]) (bs []) 2 0 0 false ([x12]:List Node) 0) x13 x14 hx14 (p0:=.full) (p1:=.shut)) 0 [(1,vS x5.1),(2,vI x5.2),(3,vS x11.1),(39,aN x14)] H fun _ H=>?_
 obtain ⟨x15,hx15,hr⟩:=obind hr
 refine q_c (F23_R n x14 x15 hx15 (p0:=.shut)) 0 [(1,vS x5.1),(2,vI x5.2),(3,vS x11.1),(40,.tuple [vS x15.1,vI x15.2])] H fun _ H=>q_g 5 [(1,vS x5.1),(2,vI x5.2),(3,vS x11.1),(5,vS x15.1)] H fun _ H=>q_e (W_seq (W_reg (q_g 1 [(1,vS x5.1),(2,vI x5.2),(3,vS x11.1),(5,vS x15.1),(44,.agg [vI 50,vS (bs [120]),vS (bs []),vI 2,vI 3,vI 1,vB true,vL tNode ([]:List Node) .nil,vI 0])] H fun _ H=>?_)))
 refine q_v (.buildSlice 22 1 [(0,.agg [vI 50,vS (bs [120]),vS (bs []),vI 2,vI 3,vI 1,vB true,vL tNode ([]:List Node) .shut,vI 0])]) [(1,vS x5.1),(2,vI x5.2),(3,vS x11.1),(5,vS x15.1),(45,vL tNode ([(Node.mk 50 (bs [120]) (bs []) 2 3 1 true ([]:List Node) 0)]:List Node) .full)] H (run_bslice (v:=vL tNode ([(Node.mk 50 (bs [120]) (bs []) 2 3 1 true ([]:List Node) 0)]:List Node) .full) (v0:=.slice [.agg [vI 50,vS (bs [120]),vS (bs []),vI 2,vI 3,vI 1,vB true,vL tNode ([]:List Node) .shut,vI 0]] .full) (by kernel_rfl) (by simp only [List.map,vL,tNode_e,eNode_eq,cNode] <;> rfl)) fun _ H=>q_g 1 [(1,vS x5.1),(2,vI x5.2),(3,vS x11.1),(5,vS x15.1),(46,.agg [vI 60,vS (bs [77]),vS (bs [65]),vI 0,vI 0,vI 0,vB false,vL tNode ([(Node.mk 50 (bs [120]) (bs []) 2 3 1 true ([]:List Node) 0)]:List Node) .full,vI 0])] H fun _ H=>?_
 refine q_v (.buildSlice 22 1 [(0,.agg [vI 60,vS (bs [77]),vS (bs [65]),vI 0,vI 0,vI 0,vB false,vL tNode ([(Node.mk 50 (bs [120]) (bs []) 2 3 1 true ([]:List Node) 0)]:List Node) .shut,vI 0])]) [(1,vS x5.1),(2,vI x5.2),(3,vS x11.1),(5,vS x15.1),(47,vL tNode ([(Node.mk 60 (bs [77]) (bs [65]) 0 0 0 false ([(Node.mk 50 (bs [120]) (bs []) 2 3 1 true ([]:List Node) 0)]:List Node) 0)]:List Node) .full)] H (run_bslice (v:=vL tNode ([(Node.mk 60 (bs [77]) (bs [65]) 0 0 0 false ([(Node.mk 50 (bs [120]) (bs []) 2 3 1 true ([]:List Node) 0)]:List Node) 0)]:List Node) .full) (v0:=.slice [.agg [vI 60,vS (bs [77]),vS (bs [65]),vI 0,vI 0,vI 0,vB false,vL tNode ([(Node.mk 50 (bs [120]) (bs []) 2 3 1 true ([]:List Node) 0)]:List Node) .shut,vI 0]] .full) (by kernel_rfl) (by simp only [List.map,vL,tNode_e,eNode_eq,cNode] <;> rfl)) fun _ H=>q_g 1 [(1,vS x5.1),(2,vI x5.2),(3,vS x11.1),(5,vS x15.1),(48,.agg [vI 62,vS (bs []),vS (bs []),vI 0,vI 0,vI 0,vB false,vL tNode ([(Node.mk 60 (bs [77]) (bs [65]) 0 0 0 false ([(Node.mk 50 (bs [120]) (bs []) 2 3 1 true ([]:List Node) 0)]:List Node) 0)]:List Node) .full,vI 0])] H fun _ H=>?_
 obtain ⟨x16,hx16,hr⟩:=obind hr
 refine q_c (F19_R n (Node.mk 62 (bs []) (bs []) 0 0 0 false ([(Node.mk 60 (bs [77]) (bs [65]) 0 0 0 false ([(Node.mk 50 (bs [120]) (bs []) 2 3 1 true ([]:List Node) 0)]:List Node) 0)]:List Node) 0) x16 hx16 (p0:=.full)) 0 [(1,vS x5.1),(2,vI x5.2),(3,vS x11.1),(5,vS x15.1),(49,.tuple [vS x16.1,vI x16.2])] H fun _ H=>q_g 5 [(1,vS x5.1),(2,vI x5.2),(3,vS x11.1),(5,vS x15.1),(7,vS x16.1),(8,vI x16.2)] H fun _ H=>q_e (W_seq (W_reg ?_))
 obtain ⟨x17,hx17,hr⟩:=obind hr
 refine q_c (F48_R  (bs [119,104,105,108,101]) x17 hx17) 0 [(1,vS x5.1),(2,vI x5.2),(3,vS x11.1),(5,vS x15.1),(7,vS x16.1),(8,vI x16.2),(53,aN x17)] H fun _ H=>?_
 obtain ⟨x18,hx18,hr⟩:=obind hr
 refine q_c (F23_R n x17 x18 hx18 (p0:=.shut)) 0 [(1,vS x5.1),(2,vI x5.2),(3,vS x11.1),(5,vS x15.1),(7,vS x16.1),(8,vI x16.2),(54,.tuple [vS x18.1,vI x18.2])] H fun _ H=>q_g 5 [(1,vS x5.1),(2,vI x5.2),(3,vS x11.1),(5,vS x15.1),(7,vS x16.1),(8,vI x16.2),(10,vI x18.2)] H fun _ H=>q_e (W_seq (W_reg ?_))
 obtain ⟨x19,hx19,hr⟩:=obind hr
 refine q_c (F48_R  (bs [97]) x19 hx19) 0 [(1,vS x5.1),(2,vI x5.2),(3,vS x11.1),(5,vS x15.1),(7,vS x16.1),(8,vI x16.2),(10,vI x18.2),(58,aN x19)] H fun _ H=>?_
 obtain ⟨x20,hx20,hr⟩:=obind hr
 refine q_c (F19_R n x19 x20 hx20 (p0:=.shut)) 0 [(1,vS x5.1),(2,vI x5.2),(3,vS x11.1),(5,vS x15.1),(7,vS x16.1),(8,vI x16.2),(10,vI x18.2),(59,.tuple [vS x20.1,vI x20.2])] H fun _ H=>q_g 5 [(1,vS x5.1),(2,vI x5.2),(3,vS x11.1),(5,vS x15.1),(7,vS x16.1),(8,vI x16.2),(10,vI x18.2),(12,vI x20.2)] H fun _ H=>q_e (W_seq (W_reg (q_g 3 [(2,vI x5.2),(3,vS x11.1),(5,vS x15.1),(7,vS x16.1),(8,vI x16.2),(10,vI x18.2),(12,vI x20.2),(64,vB (strEq x5.1 (bs [40,97,32,43,32,49,41,32,42,32,33,98])))] H fun _ H=>?_)))
 refine k_g 3 [(3,vS x11.1),(5,vS x15.1),(7,vS x16.1),(8,vI x16.2),(10,vI x18.2),(12,vI x20.2),(67,vB ((strEq x5.1 (bs [40,97,32,43,32,49,41,32,42,32,33,98])) && (x5.2 == 0)))] H (fun _ _=>by generalize (strEq x5.1 (bs [40,97,32,43,32,49,41,32,42,32,33,98])) = b0; cases b0 <;> kernel_rfl) fun _ H=>q_g 1 [(3,vS x11.1),(5,vS x15.1),(7,vS x16.1),(8,vI x16.2),(10,vI x18.2),(12,vI x20.2),(68,vB ((strEq x5.1 (bs [40,97,32,43,32,49,41,32,42,32,33,98])) && (x5.2 == 0)))] H fun _ H=>?_
 refine k_g 3 [(5,vS x15.1),(7,vS x16.1),(8,vI x16.2),(10,vI x18.2),(12,vI x20.2),(71,vB (((strEq x5.1 (bs [40,97,32,43,32,49,41,32,42,32,33,98])) && (x5.2 == 0)) && (strEq x11.1 (bs [97,32,61,61,62,32,98,32,61,61,62,32,99]))))] H (fun _ _=>by generalize ((strEq x5.1 (bs [40,97,32,43,32,49,41,32,42,32,33,98])) && (x5.2 == 0)) = b0; cases b0 <;> kernel_rfl) fun _ H=>q_g 1 [(5,vS x15.1),(7,vS x16.1),(8,vI x16.2),(10,vI x18.2),(12,vI x20.2),(72,vB (((strEq x5.1 (bs [40,97,32,43,32,49,41,32,42,32,33,98])) && (x5.2 == 0)) && (strEq x11.1 (bs [97,32,61,61,62,32,98,32,61,61,62,32,99]))))] H fun _ H=>?_
 refine k_g 3 [(7,vS x16.1),(8,vI x16.2),(10,vI x18.2),(12,vI x20.2),(75,vB ((((strEq x5.1 (bs [40,97,32,43,32,49,41,32,42,32,33,98])) && (x5.2 == 0)) && (strEq x11.1 (bs [97,32,61,61,62,32,98,32,61,61,62,32,99]))) && (strEq x15.1 (bs [40,97,108,108,32,105,32,60,32,50,32,58,32,120,41,32,38,38,32,121]))))] H (fun _ _=>by generalize (((strEq x5.1 (bs [40,97,32,43,32,49,41,32,42,32,33,98])) && (x5.2 == 0)) && (strEq x11.1 (bs [97,32,61,61,62,32,98,32,61,61,62,32,99]))) = b0; cases b0 <;> kernel_rfl) fun _ H=>q_g 1 [(7,vS x16.1),(8,vI x16.2),(10,vI x18.2),(12,vI x20.2),(13,vB ((((strEq x5.1 (bs [40,97,32,43,32,49,41,32,42,32,33,98])) && (x5.2 == 0)) && (strEq x11.1 (bs [97,32,61,61,62,32,98,32,61,61,62,32,99]))) && (strEq x15.1 (bs [40,97,108,108,32,105,32,60,32,50,32,58,32,120,41,32,38,38,32,121]))))] H fun _ H=>q_e (W_seq (W_reg (q_g 2 [(7,vS x16.1),(8,vI x16.2),(10,vI x18.2),(12,vI x20.2),(77,vB ((((strEq x5.1 (bs [40,97,32,43,32,49,41,32,42,32,33,98])) && (x5.2 == 0)) && (strEq x11.1 (bs [97,32,61,61,62,32,98,32,61,61,62,32,99]))) && (strEq x15.1 (bs [40,97,108,108,32,105,32,60,32,50,32,58,32,120,41,32,38,38,32,121]))))] H fun _ H=>?_)))
 refine k_g 3 [(8,vI x16.2),(10,vI x18.2),(12,vI x20.2),(80,vB (((((strEq x5.1 (bs [40,97,32,43,32,49,41,32,42,32,33,98])) && (x5.2 == 0)) && (strEq x11.1 (bs [97,32,61,61,62,32,98,32,61,61,62,32,99]))) && (strEq x15.1 (bs [40,97,108,108,32,105,32,60,32,50,32,58,32,120,41,32,38,38,32,121]))) && (strEq x16.1 (bs [109,111,100,117,108,101,32,77,32,111,119,110,101,114,32,65,32,123,10,32,32,103,104,111,115,116,32,115,104,97,114,101,100,32,120,91,51,93,32,58,32,50,32,61,32,49,59,10,125,10]))))] H (fun _ _=>by generalize ((((strEq x5.1 (bs [40,97,32,43,32,49,41,32,42,32,33,98])) && (x5.2 == 0)) && (strEq x11.1 (bs [97,32,61,61,62,32,98,32,61,61,62,32,99]))) && (strEq x15.1 (bs [40,97,108,108,32,105,32,60,32,50,32,58,32,120,41,32,38,38,32,121]))) = b0; cases b0 <;> kernel_rfl) fun _ H=>q_g 1 [(8,vI x16.2),(10,vI x18.2),(12,vI x20.2),(81,vB (((((strEq x5.1 (bs [40,97,32,43,32,49,41,32,42,32,33,98])) && (x5.2 == 0)) && (strEq x11.1 (bs [97,32,61,61,62,32,98,32,61,61,62,32,99]))) && (strEq x15.1 (bs [40,97,108,108,32,105,32,60,32,50,32,58,32,120,41,32,38,38,32,121]))) && (strEq x16.1 (bs [109,111,100,117,108,101,32,77,32,111,119,110,101,114,32,65,32,123,10,32,32,103,104,111,115,116,32,115,104,97,114,101,100,32,120,91,51,93,32,58,32,50,32,61,32,49,59,10,125,10]))))] H fun _ H=>?_
 refine k_g 3 [(10,vI x18.2),(12,vI x20.2),(84,vB ((((((strEq x5.1 (bs [40,97,32,43,32,49,41,32,42,32,33,98])) && (x5.2 == 0)) && (strEq x11.1 (bs [97,32,61,61,62,32,98,32,61,61,62,32,99]))) && (strEq x15.1 (bs [40,97,108,108,32,105,32,60,32,50,32,58,32,120,41,32,38,38,32,121]))) && (strEq x16.1 (bs [109,111,100,117,108,101,32,77,32,111,119,110,101,114,32,65,32,123,10,32,32,103,104,111,115,116,32,115,104,97,114,101,100,32,120,91,51,93,32,58,32,50,32,61,32,49,59,10,125,10]))) && (x16.2 == 0)))] H (fun _ _=>by generalize (((((strEq x5.1 (bs [40,97,32,43,32,49,41,32,42,32,33,98])) && (x5.2 == 0)) && (strEq x11.1 (bs [97,32,61,61,62,32,98,32,61,61,62,32,99]))) && (strEq x15.1 (bs [40,97,108,108,32,105,32,60,32,50,32,58,32,120,41,32,38,38,32,121]))) && (strEq x16.1 (bs [109,111,100,117,108,101,32,77,32,111,119,110,101,114,32,65,32,123,10,32,32,103,104,111,115,116,32,115,104,97,114,101,100,32,120,91,51,93,32,58,32,50,32,61,32,49,59,10,125,10]))) = b0; cases b0 <;> kernel_rfl) fun _ H=>q_g 1 [(10,vI x18.2),(12,vI x20.2),(85,vB ((((((strEq x5.1 (bs [40,97,32,43,32,49,41,32,42,32,33,98])) && (x5.2 == 0)) && (strEq x11.1 (bs [97,32,61,61,62,32,98,32,61,61,62,32,99]))) && (strEq x15.1 (bs [40,97,108,108,32,105,32,60,32,50,32,58,32,120,41,32,38,38,32,121]))) && (strEq x16.1 (bs [109,111,100,117,108,101,32,77,32,111,119,110,101,114,32,65,32,123,10,32,32,103,104,111,115,116,32,115,104,97,114,101,100,32,120,91,51,93,32,58,32,50,32,61,32,49,59,10,125,10]))) && (x16.2 == 0)))] H fun _ H=>?_
 refine k_g 3 [(12,vI x20.2),(88,vB (((((((strEq x5.1 (bs [40,97,32,43,32,49,41,32,42,32,33,98])) && (x5.2 == 0)) && (strEq x11.1 (bs [97,32,61,61,62,32,98,32,61,61,62,32,99]))) && (strEq x15.1 (bs [40,97,108,108,32,105,32,60,32,50,32,58,32,120,41,32,38,38,32,121]))) && (strEq x16.1 (bs [109,111,100,117,108,101,32,77,32,111,119,110,101,114,32,65,32,123,10,32,32,103,104,111,115,116,32,115,104,97,114,101,100,32,120,91,51,93,32,58,32,50,32,61,32,49,59,10,125,10]))) && (x16.2 == 0)) && (x18.2 == 1)))] H (fun _ _=>by generalize ((((((strEq x5.1 (bs [40,97,32,43,32,49,41,32,42,32,33,98])) && (x5.2 == 0)) && (strEq x11.1 (bs [97,32,61,61,62,32,98,32,61,61,62,32,99]))) && (strEq x15.1 (bs [40,97,108,108,32,105,32,60,32,50,32,58,32,120,41,32,38,38,32,121]))) && (strEq x16.1 (bs [109,111,100,117,108,101,32,77,32,111,119,110,101,114,32,65,32,123,10,32,32,103,104,111,115,116,32,115,104,97,114,101,100,32,120,91,51,93,32,58,32,50,32,61,32,49,59,10,125,10]))) && (x16.2 == 0)) = b0; cases b0 <;> kernel_rfl) fun _ H=>q_g 1 [(12,vI x20.2),(89,vB (((((((strEq x5.1 (bs [40,97,32,43,32,49,41,32,42,32,33,98])) && (x5.2 == 0)) && (strEq x11.1 (bs [97,32,61,61,62,32,98,32,61,61,62,32,99]))) && (strEq x15.1 (bs [40,97,108,108,32,105,32,60,32,50,32,58,32,120,41,32,38,38,32,121]))) && (strEq x16.1 (bs [109,111,100,117,108,101,32,77,32,111,119,110,101,114,32,65,32,123,10,32,32,103,104,111,115,116,32,115,104,97,114,101,100,32,120,91,51,93,32,58,32,50,32,61,32,49,59,10,125,10]))) && (x16.2 == 0)) && (x18.2 == 1)))] H fun _ H=>?_
 refine k_g 3 [(92,vB ((((((((strEq x5.1 (bs [40,97,32,43,32,49,41,32,42,32,33,98])) && (x5.2 == 0)) && (strEq x11.1 (bs [97,32,61,61,62,32,98,32,61,61,62,32,99]))) && (strEq x15.1 (bs [40,97,108,108,32,105,32,60,32,50,32,58,32,120,41,32,38,38,32,121]))) && (strEq x16.1 (bs [109,111,100,117,108,101,32,77,32,111,119,110,101,114,32,65,32,123,10,32,32,103,104,111,115,116,32,115,104,97,114,101,100,32,120,91,51,93,32,58,32,50,32,61,32,49,59,10,125,10]))) && (x16.2 == 0)) && (x18.2 == 1)) && (x20.2 == 1)))] H (fun _ _=>by generalize (((((((strEq x5.1 (bs [40,97,32,43,32,49,41,32,42,32,33,98])) && (x5.2 == 0)) && (strEq x11.1 (bs [97,32,61,61,62,32,98,32,61,61,62,32,99]))) && (strEq x15.1 (bs [40,97,108,108,32,105,32,60,32,50,32,58,32,120,41,32,38,38,32,121]))) && (strEq x16.1 (bs [109,111,100,117,108,101,32,77,32,111,119,110,101,114,32,65,32,123,10,32,32,103,104,111,115,116,32,115,104,97,114,101,100,32,120,91,51,93,32,58,32,50,32,61,32,49,59,10,125,10]))) && (x16.2 == 0)) && (x18.2 == 1)) = b0; cases b0 <;> kernel_rfl) fun _ H=>q_g 1 [(0,vB ((((((((strEq x5.1 (bs [40,97,32,43,32,49,41,32,42,32,33,98])) && (x5.2 == 0)) && (strEq x11.1 (bs [97,32,61,61,62,32,98,32,61,61,62,32,99]))) && (strEq x15.1 (bs [40,97,108,108,32,105,32,60,32,50,32,58,32,120,41,32,38,38,32,121]))) && (strEq x16.1 (bs [109,111,100,117,108,101,32,77,32,111,119,110,101,114,32,65,32,123,10,32,32,103,104,111,115,116,32,115,104,97,114,101,100,32,120,91,51,93,32,58,32,50,32,61,32,49,59,10,125,10]))) && (x16.2 == 0)) && (x18.2 == 1)) && (x20.2 == 1)))] H fun _ H=>q_e (W_ret ?_)
 obtain rfl:=sj hr
 exact q_r [vB ((((((((strEq x5.1 (bs [40,97,32,43,32,49,41,32,42,32,33,98])) && (x5.2 == 0)) && (strEq x11.1 (bs [97,32,61,61,62,32,98,32,61,61,62,32,99]))) && (strEq x15.1 (bs [40,97,108,108,32,105,32,60,32,50,32,58,32,120,41,32,38,38,32,121]))) && (strEq x16.1 (bs [109,111,100,117,108,101,32,77,32,111,119,110,101,114,32,65,32,123,10,32,32,103,104,111,115,116,32,115,104,97,114,101,100,32,120,91,51,93,32,58,32,50,32,61,32,49,59,10,125,10]))) && (x16.2 == 0)) && (x18.2 == 1)) && (x20.2 == 1))] H K
def F76_step (F76:Node→Int→Int→Option Int) (n:Nat) (a0:Node) (a1:Int) (a2:Int):Option Int := bif a2 == 0 then (some (w64 (a1 + 1))) else ((iter (σ:=Int × Int) (ρ:=Int) (fun s2=>bif (decide (s2.2 < (a0.kids.length:Int))) && (decide (s2.1≤a1)) then ((idxL a0.kids s2.2).bind fun x4 => (F76 x4 (w64 (a1 - s2.1)) (w64 (a2 - 1))).bind fun x5 => some (.inl (w64 (s2.1 + x5),w64 (s2.2 + 1)))) else (some (.inr s2.1))) n ((1:Int),(0:Int))).bind fun r6 => some r6)
def F76:Nat→Node→Int→Int→Option Int
 | 0,_,_,_=>none
 | n + 1,a0,a1,a2=>F76_step (F76 n) n a0 a1 a2
theorem F76_RR (n:Nat):(∀ (a0:Node) (a1:Int) (a2:Int) (r:Int),F76 n a0 a1 a2 = some r→∀ {st:St} {p0:Spare},R Tryz.prog AN 76 [.agg (cNode p0 a0),vI a1,vI a2] st (.ret (vI r)) st):=by
 induction n with
 | zero=>(intros; contradiction)
 | succ n ih =>
  have ih_F76:=@ih; clear ih
  intro a0 a1 a2 r hr st p0
  change F76_step (F76 n) n a0 a1 a2 = some r at hr
  unfold F76_step at hr
  refine R_pureX [aN a0,vI a1,vI a2] [(0,aN a0),(1,vI a1),(2,vI a2)] (by kernel_rfl) Tryz.func76 rfl (by kernel_rfl) (by simp only [strip,stripL,stripL_cNode,Option.bind_some,Option.map_some]) rfl fun fr st H K=>W_seq (W_reg (q_g 2 [(1,vI a1),(2,vI a2),(3,cN a0 0)] H fun _ H=>q_e (W_seq (W_seq (W_reg (q_g 2 [(1,vI a1),(2,vI a2),(3,cN a0 0),(10,vB (a2 == 0))] H fun _ H=>q_e ?_))))))
  rcases csplit hr with ⟨c1,hr⟩|⟨c1,hr⟩
  ·refine q_T H c1 (W_seq (W_reg (q_g 3 [(6,vI (w64 (a1 + 1)))] H fun _ H=>q_e (W_ret ?_))))
   obtain rfl:=sj hr
   exact q_r [vI (w64 (a1 + 1))] H K
  refine q_F H c1 (W_skip (W_seq (W_reg (q_g 1 [(1,vI a1),(2,vI a2),(3,cN a0 0),(7,vI 1)] H fun _ H=>q_e (W_seq (W_seq (W_reg (q_g 1 [(1,vI a1),(2,vI a2),(3,cN a0 0),(7,vI 1),(8,vI 0)] H fun _ H=>q_e (W_block ?_)))))))))
  obtain ⟨r6,hr6,hr⟩:=obind hr
  refine W_iter hr6 (fun (s2:Int × Int) fr st=>Rd fr [(1,vI a1),(2,vI a2),(3,cN a0 0),(7,vI s2.1),(8,vI s2.2)]∧HL st []) (fun (r6:Int) e fr st=>e = .exit 0∧Rd fr [(7,vI r6)]∧HL st []) ⟨H.tq,K.keep []⟩ ?_ ?_
  ·intro s2 fr st r hi hr
   obtain ⟨H,K⟩:=hi
   refine W_seq (W_seq (W_reg (q_g 3 [(1,vI a1),(2,vI a2),(3,cN a0 0),(7,vI s2.1),(8,vI s2.2),(13,vI s2.2),(15,kN a0)] H fun _ H=>?_)))
   refine q_v (.len 22 (kN a0)) [(1,vI a1),(2,vI a2),(3,cN a0 0),(7,vI s2.1),(8,vI s2.2),(13,vI s2.2),(16,vI (a0.kids.length:Int))] H (run_len tNode (by kernel_rfl)) fun _ H=>q_g 2 [(1,vI a1),(2,vI a2),(3,cN a0 0),(7,vI s2.1),(8,vI s2.2),(18,vB (decide (s2.2 < (a0.kids.length:Int))))] H fun _ H=>?_
   refine k_g 4 [(1,vI a1),(2,vI a2),(3,cN a0 0),(7,vI s2.1),(8,vI s2.2),(22,vB ((decide (s2.2 < (a0.kids.length:Int))) && (decide (s2.1≤a1))))] H (fun _ _=>by generalize (decide (s2.2 < (a0.kids.length:Int))) = b0; cases b0 <;> kernel_rfl) fun _ H=>q_e ?_
   rcases csplit hr with ⟨c3,hr⟩|⟨c3,hr⟩
   rotate_left
   ·refine q_F H c3 ?_
    refine W_exit ?_
    obtain rfl:=sj hr
    exact ⟨by simp,⟨rfl,H.tq,K.keep []⟩⟩
   refine q_T H c3 (W_skip (W_seq (W_block (W_reg (q_g 4 [(1,vI a1),(2,vI a2),(3,cN a0 0),(7,vI s2.1),(8,vI s2.2),(25,vI s2.1),(27,kN a0),(28,vI s2.2)] H fun _ H=>?_)))))
   obtain ⟨x4,hx4,hr⟩:=obind hr
   refine q_v (.indexAddr 22 (kN a0) (vI s2.2)) [(1,vI a1),(2,vI a2),(3,cN a0 0),(7,vI s2.1),(8,vI s2.2),(25,vI s2.1),(29,cN x4 0)] H (run_idxL tNode (by kernel_rfl) hx4) fun _ H=>q_g 6 [(1,vI a1),(2,vI a2),(3,cN a0 0),(8,vI s2.2),(25,vI s2.1),(30,aN x4),(33,vI (w64 (a1 - s2.1))),(35,vI (w64 (a2 - 1)))] H fun _ H=>?_
   obtain ⟨x5,hx5,hr⟩:=obind hr
   refine q_c (ih_F76 x4 (w64 (a1 - s2.1)) (w64 (a2 - 1)) x5 hx5 (p0:=.shut)) 0 [(1,vI a1),(2,vI a2),(3,cN a0 0),(8,vI s2.2),(25,vI s2.1),(36,vI x5)] H fun _ H=>q_g 2 [(1,vI a1),(2,vI a2),(3,cN a0 0),(7,vI (w64 (s2.1 + x5))),(8,vI s2.2)] H fun _ H=>q_e (W_reg (q_g 3 [(1,vI a1),(2,vI a2),(3,cN a0 0),(7,vI (w64 (s2.1 + x5))),(8,vI (w64 (s2.2 + 1)))] H fun _ H=>q_e ?_))
   obtain rfl:=sj hr
   exact ⟨rfl,⟨H.tq,K.keep []⟩⟩
  rintro e fr st ⟨rfl,H,K⟩
  refine W_seq (W_reg (q_g 2 [(6,vI r6)] H fun _ H=>q_e (W_ret ?_)))
  obtain rfl:=sj hr
  exact q_r [vI r6] H K
theorem F76_R (n:Nat) (a0:Node) (a1:Int) (a2:Int) (r:Int) (hr:F76 n a0 a1 a2 = some r) {st:St} {p0:Spare}:R Tryz.prog AN 76 [.agg (cNode p0 a0),vI a1,vI a2] st (.ret (vI r)) st:=(F76_RR n) a0 a1 a2 r hr
def F45 (n:Nat) (a0:Node) (a1:Int):Option Bool := (F76 n a0 a1 (60:Int)).bind fun x1 => some (decide (x1≤a1))
theorem F45_R (n:Nat) (a0:Node) (a1:Int) (r:Bool) (hr:F45 n a0 a1 = some r) {st:St} {p0:Spare}:R Tryz.prog AN 45 [.agg (cNode p0 a0),vI a1] st (.ret (vB r)) st:=by
 unfold F45 at hr
 refine R_pureX [aN a0,vI a1] [(0,aN a0),(1,vI a1)] (by kernel_rfl) Tryz.func45 rfl (by kernel_rfl) (by simp only [strip,stripL,stripL_cNode,Option.bind_some,Option.map_some]) rfl fun fr st H K=>W_seq (W_reg (q_g 2 [(1,vI a1),(2,cN a0 0)] H fun _ H=>q_e (W_seq (W_reg (q_g 2 [(1,vI a1),(5,aN a0),(6,vI a1)] H fun _ H=>?_)))))
 obtain ⟨x1,hx1,hr⟩:=obind hr
 refine q_c (F76_R n a0 a1 (60:Int) x1 hx1 (p0:=.shut)) 0 [(1,vI a1),(7,vI x1)] H fun _ H=>q_g 3 [(4,vB (decide (x1≤a1)))] H fun _ H=>q_e (W_ret ?_)
 obtain rfl:=sj hr
 exact q_r [vB (decide (x1≤a1))] H K
def F61_step (F61:Node→Int→Int→Option (Int × Bool)) (n:Nat) (a0:Node) (a1:Int) (a2:Int):Option (Int × Bool) := bif decide (a2 < 1) then (some ((1:Int),false)) else ((iter (σ:=Int × Int) (ρ:=Int ⊕ Int) (fun s2=>bif (decide (s2.2 < (a0.kids.length:Int))) && (decide (s2.1≤a1)) then ((idxL a0.kids s2.2).bind fun x4 => (F61 x4 (w64 (a1 - s2.1)) (w64 (a2 - 1))).bind fun x5 => bif !x5.2 then (some (.inr (.inl s2.1))) else (some (.inl (w64 (s2.1 + x5.1),w64 (s2.2 + 1))))) else (some (.inr (.inr s2.1)))) n ((1:Int),(0:Int))).bind fun r7=>match r7 with | .inl r7a=>some (r7a,false) | .inr r7b=>some (r7b,true))
def F61:Nat→Node→Int→Int→Option (Int × Bool)
 | 0,_,_,_=>none
 | n + 1,a0,a1,a2=>F61_step (F61 n) n a0 a1 a2
theorem F61_RR (n:Nat):(∀ (a0:Node) (a1:Int) (a2:Int) (r:Int × Bool),F61 n a0 a1 a2 = some r→∀ {st:St} {p0:Spare},R Tryz.prog AN 61 [.agg (cNode p0 a0),vI a1,vI a2] st (.ret (.tuple [vI r.1,vB r.2])) st):=by
 induction n with
 | zero=>(intros; contradiction)
 | succ n ih =>
  have ih_F61:=@ih; clear ih
  intro a0 a1 a2 r hr st p0
  change F61_step (F61 n) n a0 a1 a2 = some r at hr
  unfold F61_step at hr
  refine R_pureX [aN a0,vI a1,vI a2] [(0,aN a0),(1,vI a1),(2,vI a2)] (by kernel_rfl) Tryz.func61 rfl (by kernel_rfl) (by simp only [strip,stripL,stripL_cNode,Option.bind_some,Option.map_some]) rfl fun fr st H K=>W_seq (W_reg (q_g 3 [(1,vI a1),(2,vI a2),(3,cN a0 0)] H fun _ H=>q_e (W_seq (W_seq (W_reg (q_g 2 [(1,vI a1),(2,vI a2),(3,cN a0 0),(13,vB (decide (a2 < 1)))] H fun _ H=>q_e ?_))))))
  rcases csplit hr with ⟨c1,hr⟩|⟨c1,hr⟩
  ·refine q_T H c1 (W_seq (W_reg (q_g 2 [(6,vI 1),(7,vB false)] H fun _ H=>q_e (W_ret ?_))))
   obtain rfl:=sj hr
   exact e_ret [vI 1,vB false] H K (fun _=>resT (by kernel_rfl) (resT (by kernel_rfl) resN)) (fun _=>by kernel_rfl)
  refine q_F H c1 (W_skip (W_seq (W_reg (q_g 1 [(1,vI a1),(2,vI a2),(3,cN a0 0),(8,vI 1)] H fun _ H=>q_e (W_seq (W_seq (W_reg (q_g 1 [(1,vI a1),(2,vI a2),(3,cN a0 0),(8,vI 1),(9,vI 0)] H fun _ H=>q_e (W_block ?_)))))))))
  obtain ⟨r7,hr7,hr⟩:=obind hr
  refine W_iter hr7 (fun (s2:Int × Int) fr st=>Rd fr [(1,vI a1),(2,vI a2),(3,cN a0 0),(8,vI s2.1),(9,vI s2.2)]∧HL st []) (fun (r7:Int ⊕ Int) e fr st=>match r7 with | .inl r7a=>(e = .ret∧Rd fr [(6,vI r7a),(7,vB false)]∧HL st []) | .inr r7b=>(e = .exit 0∧Rd fr [(8,vI r7b)]∧HL st [])) ⟨H.tq,K.keep []⟩ ?_ ?_
  ·intro s2 fr st r hi hr
   obtain ⟨H,K⟩:=hi
   refine W_seq (W_seq (W_reg (q_g 3 [(1,vI a1),(2,vI a2),(3,cN a0 0),(8,vI s2.1),(9,vI s2.2),(14,vI s2.2),(16,kN a0)] H fun _ H=>?_)))
   refine q_v (.len 22 (kN a0)) [(1,vI a1),(2,vI a2),(3,cN a0 0),(8,vI s2.1),(9,vI s2.2),(14,vI s2.2),(17,vI (a0.kids.length:Int))] H (run_len tNode (by kernel_rfl)) fun _ H=>q_g 2 [(1,vI a1),(2,vI a2),(3,cN a0 0),(8,vI s2.1),(9,vI s2.2),(19,vB (decide (s2.2 < (a0.kids.length:Int))))] H fun _ H=>?_
   refine k_g 4 [(1,vI a1),(2,vI a2),(3,cN a0 0),(8,vI s2.1),(9,vI s2.2),(23,vB ((decide (s2.2 < (a0.kids.length:Int))) && (decide (s2.1≤a1))))] H (fun _ _=>by generalize (decide (s2.2 < (a0.kids.length:Int))) = b0; cases b0 <;> kernel_rfl) fun _ H=>q_e ?_
   rcases csplit hr with ⟨c3,hr⟩|⟨c3,hr⟩
   rotate_left
   ·refine q_F H c3 ?_
    refine W_exit ?_
    obtain rfl:=sj hr
    exact ⟨by simp,⟨rfl,H.tq,K.keep []⟩⟩
   refine q_T H c3 (W_skip (W_seq (W_block (W_seq (W_reg (q_g 3 [(1,vI a1),(2,vI a2),(3,cN a0 0),(8,vI s2.1),(9,vI s2.2),(28,kN a0),(29,vI s2.2)] H fun _ H=>?_))))))
   obtain ⟨x4,hx4,hr⟩:=obind hr
   refine q_v (.indexAddr 22 (kN a0) (vI s2.2)) [(1,vI a1),(2,vI a2),(3,cN a0 0),(8,vI s2.1),(9,vI s2.2),(30,cN x4 0)] H (run_idxL tNode (by kernel_rfl) hx4) fun _ H=>q_g 6 [(1,vI a1),(2,vI a2),(3,cN a0 0),(8,vI s2.1),(9,vI s2.2),(31,aN x4),(34,vI (w64 (a1 - s2.1))),(36,vI (w64 (a2 - 1)))] H fun _ H=>?_
   obtain ⟨x5,hx5,hr⟩:=obind hr
   refine q_c (ih_F61 x4 (w64 (a1 - s2.1)) (w64 (a2 - 1)) x5 hx5 (p0:=.shut)) 0 [(1,vI a1),(2,vI a2),(3,cN a0 0),(8,vI s2.1),(9,vI s2.2),(37,.tuple [vI x5.1,vB x5.2])] H fun _ H=>q_g 5 [(1,vI a1),(2,vI a2),(3,cN a0 0),(8,vI s2.1),(9,vI s2.2),(10,vI x5.1),(11,vB x5.2)] H fun _ H=>q_e (W_seq (W_seq (W_reg (q_g 2 [(1,vI a1),(2,vI a2),(3,cN a0 0),(8,vI s2.1),(9,vI s2.2),(10,vI x5.1),(41,vB !x5.2)] H fun _ H=>q_e ?_))))
   rcases csplit hr with ⟨c6,hr⟩|⟨c6,hr⟩
   ·refine q_T H c6 (W_seq (W_reg (q_g 3 [(6,vI s2.1),(7,vB false)] H fun _ H=>q_e (W_ret ?_))))
    obtain rfl:=sj hr
    exact ⟨by simp,⟨rfl,H.tq,K.keep []⟩⟩
   refine q_F H c6 (W_skip (W_reg (q_g 4 [(1,vI a1),(2,vI a2),(3,cN a0 0),(8,vI (w64 (s2.1 + x5.1))),(9,vI s2.2)] H fun _ H=>q_e (W_reg (q_g 3 [(1,vI a1),(2,vI a2),(3,cN a0 0),(8,vI (w64 (s2.1 + x5.1))),(9,vI (w64 (s2.2 + 1)))] H fun _ H=>q_e ?_)))))
   obtain rfl:=sj hr
   exact ⟨rfl,⟨H.tq,K.keep []⟩⟩
  rcases r7 with r7a | r7b
  ·rintro e fr st ⟨rfl,H,K⟩
   obtain rfl:=sj hr
   exact e_ret [vI r7a,vB false] H K (fun _=>resT (by kernel_rfl) (resT (by kernel_rfl) resN)) (fun _=>by kernel_rfl)
  rintro e fr st ⟨rfl,H,K⟩
  refine W_seq (W_reg (q_g 3 [(6,vI r7b),(7,vB true)] H fun _ H=>q_e (W_ret ?_)))
  obtain rfl:=sj hr
  exact e_ret [vI r7b,vB true] H K (fun _=>resT (by kernel_rfl) (resT (by kernel_rfl) resN)) (fun _=>by kernel_rfl)
theorem F61_R (n:Nat) (a0:Node) (a1:Int) (a2:Int) (r:Int × Bool) (hr:F61 n a0 a1 a2 = some r) {st:St} {p0:Spare}:R Tryz.prog AN 61 [.agg (cNode p0 a0),vI a1,vI a2] st (.ret (.tuple [vI r.1,vB r.2])) st:=(F61_RR n) a0 a1 a2 r hr
def F27 (n:Nat) (a0:Node):Option Bool := (F61 n a0 (1500:Int) (40:Int)).bind fun x1 => some (x1.2 && (decide (x1.1≤1500)))
theorem F27_R (n:Nat) (a0:Node) (r:Bool) (hr:F27 n a0 = some r) {st:St} {p0:Spare}:R Tryz.prog AN 27 [.agg (cNode p0 a0)] st (.ret (vB r)) st:=by
 unfold F27 at hr
 refine R_pureX [aN a0] [(0,aN a0)] (by kernel_rfl) Tryz.func27 rfl (by kernel_rfl) (by simp only [strip,stripL,stripL_cNode,Option.bind_some,Option.map_some]) rfl fun fr st H K=>W_seq (W_reg (q_g 2 [(1,cN a0 0)] H fun _ H=>q_e (W_seq (W_reg (q_g 1 [(6,aN a0)] H fun _ H=>?_)))))
 obtain ⟨x1,hx1,hr⟩:=obind hr
 refine q_c (F61_R n a0 (1500:Int) (40:Int) x1 hx1 (p0:=.shut)) 0 [(7,.tuple [vI x1.1,vB x1.2])] H fun _ H=>q_g 5 [(3,vI x1.1),(4,vB x1.2)] H fun _ H=>q_e (W_seq (W_reg (q_g 2 [(3,vI x1.1),(11,vB x1.2)] H fun _ H=>?_)))
 refine k_g 3 [(14,vB (x1.2 && (decide (x1.1≤1500))))] H (fun _ _=>by generalize (x1.2) = b0; cases b0 <;> kernel_rfl) fun _ H=>q_g 1 [(2,vB (x1.2 && (decide (x1.1≤1500))))] H fun _ H=>q_e (W_ret ?_)
 obtain rfl:=sj hr
 exact q_r [vB (x1.2 && (decide (x1.1≤1500)))] H K
def F170 (n:Nat) (a0:ByteArray) (a1:Int):Option Bool := (iter (σ:=Int) (ρ:=Unit ⊕ Unit) (fun s1=>bif decide (s1 < (a0.size:Int)) then ((idxS a0 s1).bind fun x3 => bif x3 == a1 then (some (.inr (.inl ()))) else (some (.inl (w64 (s1 + 1))))) else (some (.inr (.inr ())))) n (0:Int)).bind fun r5=>match r5 with | .inl _=>some true | .inr _=>some false
theorem F170_R (n:Nat) (a0:ByteArray) (a1:Int) (r:Bool) (hr:F170 n a0 a1 = some r) {st:St}:R Tryz.prog AN 170 [vS a0,vU a1] st (.ret (vB r)) st:=by
 unfold F170 at hr
 refine pK [vS a0,vU a1] [(0,vS a0),(1,vU a1)] Tryz.func170 rfl fun fr st H K=>W_seq (W_reg (q_g 1 [(0,vS a0),(1,vU a1)] H fun _ H=>q_e (W_seq (W_seq (W_reg (q_g 1 [(0,vS a0),(1,vU a1),(5,vI 0)] H fun _ H=>q_e (W_block ?_)))))))
 obtain ⟨r5,hr5,hr⟩:=obind hr
 refine W_iter hr5 (fun (s1:Int) fr st=>Rd fr [(0,vS a0),(1,vU a1),(5,vI s1)]∧HL st []) (fun (r5:Unit ⊕ Unit) e fr st=>match r5 with | .inl r5a=>(e = .ret∧Rd fr [(4,vB true)]∧HL st []) | .inr r5b=>(e = .exit 0∧Rd fr []∧HL st [])) ⟨H.tq,K.keep []⟩ ?_ ?_
 ·intro s1 fr st r hi hr
  obtain ⟨H,K⟩:=hi
  refine W_seq (W_seq (W_reg (q_g 4 [(0,vS a0),(1,vU a1),(5,vI s1),(9,vB (decide (s1 < (a0.size:Int))))] H fun _ H=>q_e ?_)))
  rcases csplit hr with ⟨c2,hr⟩|⟨c2,hr⟩
  rotate_left
  ·refine q_F H c2 ?_
   refine W_exit ?_
   obtain rfl:=sj hr
   exact ⟨by simp,⟨rfl,H.tq,K.keep []⟩⟩
  refine q_T H c2 (W_skip (W_seq (W_block (W_seq (W_reg (q_g 2 [(0,vS a0),(1,vU a1),(5,vI s1),(12,vS a0),(13,vI s1)] H fun _ H=>?_))))))
  obtain ⟨x3,hx3,hr⟩:=obind hr
  refine q_v (.index 9 (vS a0) (vI s1)) [(0,vS a0),(1,vU a1),(5,vI s1),(14,vU x3)] H (run_idxS (by kernel_rfl) hx3) fun _ H=>q_g 2 [(0,vS a0),(1,vU a1),(5,vI s1),(16,vB (x3 == a1))] H fun _ H=>q_e ?_
  rcases csplit hr with ⟨c4,hr⟩|⟨c4,hr⟩
  ·refine q_T H c4 (W_seq (W_reg (q_g 1 [(4,vB true)] H fun _ H=>q_e (W_ret ?_))))
   obtain rfl:=sj hr
   exact ⟨by simp,⟨rfl,H.tq,K.keep []⟩⟩
  refine q_F H c4 (W_skip (W_reg (q_g 3 [(0,vS a0),(1,vU a1),(5,vI (w64 (s1 + 1)))] H fun _ H=>q_e ?_)))
  obtain rfl:=sj hr
  exact ⟨rfl,⟨H.tq,K.keep []⟩⟩
 rcases r5 with r5a | r5b
 ·rintro e fr st ⟨rfl,H,K⟩
  obtain rfl:=sj hr
  exact q_r [vB true] H K
 rintro e fr st ⟨rfl,H,K⟩
 refine W_seq (W_reg (q_g 1 [(4,vB false)] H fun _ H=>q_e (W_ret ?_)))
 obtain rfl:=sj hr
 exact q_r [vB false] H K
def F171 (a0:Int):Option Bool := some ((decide (0≤a0)) && (decide (a0≤999999999)))
theorem F171_R (a0:Int) (r:Bool) (hr:F171 a0 = some r) {st:St}:R Tryz.prog AN 171 [vI a0] st (.ret (vB r)) st:=by
 unfold F171 at hr
 refine pK [vI a0] [(0,vI a0)] Tryz.func171 rfl fun fr st H K=>W_seq (W_reg (q_g 1 [(0,vI a0)] H fun _ H=>q_e (W_seq (W_reg (q_g 3 [(0,vI a0),(5,vB (decide (0≤a0)))] H fun _ H=>?_)))))
 refine k_g 3 [(8,vB ((decide (0≤a0)) && (decide (a0≤999999999))))] H (fun _ _=>by generalize (decide (0≤a0)) = b0; cases b0 <;> kernel_rfl) fun _ H=>q_g 1 [(2,vB ((decide (0≤a0)) && (decide (a0≤999999999))))] H fun _ H=>q_e (W_ret ?_)
 obtain rfl:=sj hr
 exact q_r [vB ((decide (0≤a0)) && (decide (a0≤999999999)))] H K
def F104 (n:Nat) (a0:Node) (a1:ByteArray):Option Bool := (F170 n a1 (110:Int)).bind fun x1 => bif !x1 && (!(strEq a0.name (bs []))) then (some false) else ((F170 n a1 (111:Int)).bind fun x3 => bif !x3 && (!(strEq a0.other (bs []))) then (some false) else ((F170 n a1 (103:Int)).bind fun x5 => bif !x5 && a0.ghost then (some false) else ((F170 n a1 (35:Int)).bind fun x7 => bif !x7 && (a0.n != 0) then (some false) else ((F170 n a1 (108:Int)).bind fun x9 => bif !x9 && (a0.len != 0) then (some false) else ((F170 n a1 (105:Int)).bind fun x11 => bif !x11 && (a0.init != 0) then (some false) else ((F171 a0.n).bind fun x13 => bif x13 then ((F171 a0.len).bind fun x15 => bif x15 then ((F171 a0.init).bind fun x17 => some x17) else (some false)) else (some false)))))))
theorem F104_R (n:Nat) (a0:Node) (a1:ByteArray) (r:Bool) (hr:F104 n a0 a1 = some r) {st:St} {p0:Spare}:R Tryz.prog AN 104 [.agg (cNode p0 a0),vS a1] st (.ret (vB r)) st:=by
 unfold F104 at hr
 refine R_pureX [aN a0,vS a1] [(0,aN a0),(1,vS a1)] (by kernel_rfl) Tryz.func104 rfl (by kernel_rfl) (by simp only [strip,stripL,stripL_cNode,Option.bind_some,Option.map_some]) rfl fun fr st H K=>W_seq (W_reg (q_g 2 [(1,vS a1),(2,cN a0 0)] H fun _ H=>q_e (W_seq (W_seq (W_reg (q_g 1 [(1,vS a1),(2,cN a0 0),(5,vS a1)] H fun _ H=>?_))))))
 obtain ⟨x1,hx1,hr⟩:=obind hr
 refine q_c (F170_R n a1 (110:Int) x1 hx1) 0 [(1,vS a1),(2,cN a0 0),(6,vB x1)] H fun _ H=>q_g 2 [(1,vS a1),(2,cN a0 0),(8,vB !x1)] H fun _ H=>?_
 refine k_g 4 [(1,vS a1),(2,cN a0 0),(12,vB (!x1 && (!(strEq a0.name (bs [])))))] H (fun _ _=>by generalize (!x1) = b0; cases b0 <;> kernel_rfl) fun _ H=>q_g 1 [(1,vS a1),(2,cN a0 0),(13,vB (!x1 && (!(strEq a0.name (bs [])))))] H fun _ H=>?_
 rcases csplit hr with ⟨c2,hr⟩|⟨c2,hr⟩
 ·rw [c2] at H
  refine q_g 18 [(1,vS a1),(2,cN a0 0),(31,vB true)] H fun _ H=>q_e (q_T H rfl (W_seq (W_reg (q_g 1 [(4,vB false)] H fun _ H=>q_e (W_ret ?_)))))
  obtain rfl:=sj hr
  exact q_r [vB false] H K
 rw [c2] at H
 refine q_g 1 [(1,vS a1),(2,cN a0 0),(13,vB false),(14,vS a1)] H fun _ H=>?_
 obtain ⟨x3,hx3,hr⟩:=obind hr
 refine q_c (F170_R n a1 (111:Int) x3 hx3) 0 [(1,vS a1),(2,cN a0 0),(13,vB false),(15,vB x3)] H fun _ H=>q_g 2 [(1,vS a1),(2,cN a0 0),(13,vB false),(17,vB !x3)] H fun _ H=>?_
 refine k_g 5 [(1,vS a1),(2,cN a0 0),(22,vB (!x3 && (!(strEq a0.other (bs [])))))] H (fun _ _=>by generalize (!x3) = b0; cases b0 <;> kernel_rfl) fun _ H=>q_g 1 [(1,vS a1),(2,cN a0 0),(23,vB (!x3 && (!(strEq a0.other (bs [])))))] H fun _ H=>?_
 rcases csplit hr with ⟨c4,hr⟩|⟨c4,hr⟩
 ·rw [c4] at H
  refine q_g 8 [(1,vS a1),(2,cN a0 0),(31,vB true)] H fun _ H=>q_e (q_T H rfl (W_seq (W_reg (q_g 1 [(4,vB false)] H fun _ H=>q_e (W_ret ?_)))))
  obtain rfl:=sj hr
  exact q_r [vB false] H K
 rw [c4] at H
 refine q_g 1 [(1,vS a1),(2,cN a0 0),(23,vB false),(24,vS a1)] H fun _ H=>?_
 obtain ⟨x5,hx5,hr⟩:=obind hr
 refine q_c (F170_R n a1 (103:Int) x5 hx5) 0 [(1,vS a1),(2,cN a0 0),(23,vB false),(25,vB x5)] H fun _ H=>q_g 2 [(1,vS a1),(2,cN a0 0),(23,vB false),(27,vB !x5)] H fun _ H=>?_
 refine k_g 4 [(1,vS a1),(2,cN a0 0),(31,vB (!x5 && a0.ghost))] H (fun _ _=>by generalize (!x5) = b0; cases b0 <;> kernel_rfl) fun _ H=>q_e ?_
 rcases csplit hr with ⟨c6,hr⟩|⟨c6,hr⟩
 ·refine q_T H c6 (W_seq (W_reg (q_g 1 [(4,vB false)] H fun _ H=>q_e (W_ret ?_))))
  obtain rfl:=sj hr
  exact q_r [vB false] H K
 refine q_F H c6 (W_skip (W_seq (W_seq (W_reg (q_g 1 [(1,vS a1),(2,cN a0 0),(32,vS a1)] H fun _ H=>?_)))))
 obtain ⟨x7,hx7,hr⟩:=obind hr
 refine q_c (F170_R n a1 (35:Int) x7 hx7) 0 [(1,vS a1),(2,cN a0 0),(33,vB x7)] H fun _ H=>q_g 2 [(1,vS a1),(2,cN a0 0),(35,vB !x7)] H fun _ H=>?_
 refine k_g 4 [(1,vS a1),(2,cN a0 0),(39,vB (!x7 && (a0.n != 0)))] H (fun _ _=>by generalize (!x7) = b0; cases b0 <;> kernel_rfl) fun _ H=>q_g 1 [(1,vS a1),(2,cN a0 0),(40,vB (!x7 && (a0.n != 0)))] H fun _ H=>?_
 rcases csplit hr with ⟨c8,hr⟩|⟨c8,hr⟩
 ·rw [c8] at H
  refine q_g 19 [(2,cN a0 0),(59,vB true)] H fun _ H=>q_e (q_T H rfl (W_seq (W_reg (q_g 1 [(4,vB false)] H fun _ H=>q_e (W_ret ?_)))))
  obtain rfl:=sj hr
  exact q_r [vB false] H K
 rw [c8] at H
 refine q_g 1 [(1,vS a1),(2,cN a0 0),(40,vB false),(41,vS a1)] H fun _ H=>?_
 obtain ⟨x9,hx9,hr⟩:=obind hr
 refine q_c (F170_R n a1 (108:Int) x9 hx9) 0 [(1,vS a1),(2,cN a0 0),(40,vB false),(42,vB x9)] H fun _ H=>q_g 2 [(1,vS a1),(2,cN a0 0),(40,vB false),(44,vB !x9)] H fun _ H=>?_
 refine k_g 5 [(1,vS a1),(2,cN a0 0),(49,vB (!x9 && (a0.len != 0)))] H (fun _ _=>by generalize (!x9) = b0; cases b0 <;> kernel_rfl) fun _ H=>q_g 1 [(1,vS a1),(2,cN a0 0),(50,vB (!x9 && (a0.len != 0)))] H fun _ H=>?_
 rcases csplit hr with ⟨c10,hr⟩|⟨c10,hr⟩
 ·rw [c10] at H
  refine q_g 9 [(2,cN a0 0),(59,vB true)] H fun _ H=>q_e (q_T H rfl (W_seq (W_reg (q_g 1 [(4,vB false)] H fun _ H=>q_e (W_ret ?_)))))
  obtain rfl:=sj hr
  exact q_r [vB false] H K
 rw [c10] at H
 refine q_g 1 [(2,cN a0 0),(50,vB false),(51,vS a1)] H fun _ H=>?_
 obtain ⟨x11,hx11,hr⟩:=obind hr
 refine q_c (F170_R n a1 (105:Int) x11 hx11) 0 [(2,cN a0 0),(50,vB false),(52,vB x11)] H fun _ H=>q_g 2 [(2,cN a0 0),(50,vB false),(54,vB !x11)] H fun _ H=>?_
 refine k_g 5 [(2,cN a0 0),(59,vB (!x11 && (a0.init != 0)))] H (fun _ _=>by generalize (!x11) = b0; cases b0 <;> kernel_rfl) fun _ H=>q_e ?_
 rcases csplit hr with ⟨c12,hr⟩|⟨c12,hr⟩
 ·refine q_T H c12 (W_seq (W_reg (q_g 1 [(4,vB false)] H fun _ H=>q_e (W_ret ?_))))
  obtain rfl:=sj hr
  exact q_r [vB false] H K
 refine q_F H c12 (W_skip (W_seq (W_reg (q_g 2 [(2,cN a0 0),(61,vI a0.n)] H fun _ H=>?_))))
 obtain ⟨x13,hx13,hr⟩:=obind hr
 refine q_c (F171_R  a0.n x13 hx13) 0 [(2,cN a0 0),(62,vB x13)] H fun _ H=>q_g 1 [(2,cN a0 0),(63,vB x13)] H fun _ H=>?_
 rcases csplit hr with ⟨c14,hr⟩|⟨c14,hr⟩
 rotate_left
 ·rw [c14] at H
  refine q_g 10 [(4,vB false)] H fun _ H=>q_e (W_ret ?_)
  obtain rfl:=sj hr
  exact q_r [vB false] H K
 rw [c14] at H
 refine q_g 2 [(2,cN a0 0),(63,vB true),(65,vI a0.len)] H fun _ H=>?_
 obtain ⟨x15,hx15,hr⟩:=obind hr
 refine q_c (F171_R  a0.len x15 hx15) 0 [(2,cN a0 0),(63,vB true),(66,vB x15)] H fun _ H=>q_g 2 [(2,cN a0 0),(68,vB x15)] H fun _ H=>?_
 rcases csplit hr with ⟨c16,hr⟩|⟨c16,hr⟩
 rotate_left
 ·rw [c16] at H
  refine q_g 5 [(4,vB false)] H fun _ H=>q_e (W_ret ?_)
  obtain rfl:=sj hr
  exact q_r [vB false] H K
 rw [c16] at H
 refine q_g 2 [(68,vB true),(70,vI a0.init)] H fun _ H=>?_
 obtain ⟨x17,hx17,hr⟩:=obind hr
 refine q_c (F171_R  a0.init x17 hx17) 0 [(68,vB true),(71,vB x17)] H fun _ H=>q_g 2 [(4,vB x17)] H fun _ H=>q_e (W_ret ?_)
 obtain rfl:=sj hr
 exact q_r [vB x17] H K
def F232 :Option ((List ByteArray)) := some ([(bs [109,111,100,117,108,101]),(bs [111,119,110,101,114]),(bs [114,101,99,111,114,100]),(bs [115,104,97,114,101,100]),(bs [103,104,111,115,116]),(bs [108,111,99,107]),(bs [105,110,118,97,114,105,97,110,116]),(bs [114,101,108,121]),(bs [103,117,97,114,97,110,116,101,101]),(bs [102,114,97,109,101]),(bs [112,114,111,99]),(bs [108,111,99,107,101,100]),(bs [108,111,99,97,108]),(bs [97,115,115,101,114,116]),(bs [114,101,108,101,97,115,101]),(bs [119,105,116,104]),(bs [97,116,111,109,105,99]),(bs [119,104,101,110]),(bs [99,97,115]),(bs [105,110,116,111]),(bs [97,99,113,117,105,114,101]),(bs [102,114,101,101]),(bs [102,101,110,99,101]),(bs [115,112,97,119,110]),(bs [106,111,105,110]),(bs [97,119,97,105,116]),(bs [115,107,105,112]),(bs [105,102]),(bs [101,108,115,101]),(bs [119,104,105,108,101]),(bs [118,97,114,105,97,110,116]),(bs [99,97,108,108]),(bs [116,104,114,101,97,100]),(bs [97,115,108,101,101,112]),(bs [111,108,100]),(bs [97,108,108]),(bs [115,111,109,101])]:List ByteArray)
theorem F232_R  (r:(List ByteArray)) (hr:F232  = some r) {st:St}:R Tryz.prog AN 232 [] st (.ret (vL tS r .shut)) st:=by
 unfold F232 at hr
 refine pK [] [] Tryz.func232 rfl fun fr st H K=>W_seq (W_reg (q_g 1 [] H fun _ H=>q_e (W_seq (W_reg ?_))))
 refine q_v (.buildSlice 30 37 [(0,vS (bs [109,111,100,117,108,101])),(1,vS (bs [111,119,110,101,114])),(2,vS (bs [114,101,99,111,114,100])),(3,vS (bs [115,104,97,114,101,100])),(4,vS (bs [103,104,111,115,116])),(5,vS (bs [108,111,99,107])),(6,vS (bs [105,110,118,97,114,105,97,110,116])),(7,vS (bs [114,101,108,121])),(8,vS (bs [103,117,97,114,97,110,116,101,101])),(9,vS (bs [102,114,97,109,101])),(10,vS (bs [112,114,111,99])),(11,vS (bs [108,111,99,107,101,100])),(12,vS (bs [108,111,99,97,108])),(13,vS (bs [97,115,115,101,114,116])),(14,vS (bs [114,101,108,101,97,115,101])),(15,vS (bs [119,105,116,104])),(16,vS (bs [97,116,111,109,105,99])),(17,vS (bs [119,104,101,110])),(18,vS (bs [99,97,115])),(19,vS (bs [105,110,116,111])),(20,vS (bs [97,99,113,117,105,114,101])),(21,vS (bs [102,114,101,101])),(22,vS (bs [102,101,110,99,101])),(23,vS (bs [115,112,97,119,110])),(24,vS (bs [106,111,105,110])),(25,vS (bs [97,119,97,105,116])),(26,vS (bs [115,107,105,112])),(27,vS (bs [105,102])),(28,vS (bs [101,108,115,101])),(29,vS (bs [119,104,105,108,101])),(30,vS (bs [118,97,114,105,97,110,116])),(31,vS (bs [99,97,108,108])),(32,vS (bs [116,104,114,101,97,100])),(33,vS (bs [97,115,108,101,101,112])),(34,vS (bs [111,108,100])),(35,vS (bs [97,108,108])),(36,vS (bs [115,111,109,101]))]) [(1,vL tS ([(bs [109,111,100,117,108,101]),(bs [111,119,110,101,114]),(bs [114,101,99,111,114,100]),(bs [115,104,97,114,101,100]),(bs [103,104,111,115,116]),(bs [108,111,99,107]),(bs [105,110,118,97,114,105,97,110,116]),(bs [114,101,108,121]),(bs [103,117,97,114,97,110,116,101,101]),(bs [102,114,97,109,101]),(bs [112,114,111,99]),(bs [108,111,99,107,101,100]),(bs [108,111,99,97,108]),(bs [97,115,115,101,114,116]),(bs [114,101,108,101,97,115,101]),(bs [119,105,116,104]),(bs [97,116,111,109,105,99]),(bs [119,104,101,110]),(bs [99,97,115]),(bs [105,110,116,111]),(bs [97,99,113,117,105,114,101]),(bs [102,114,101,101]),(bs [102,101,110,99,101]),(bs [115,112,97,119,110]),(bs [106,111,105,110]),(bs [97,119,97,105,116]),(bs [115,107,105,112]),(bs [105,102]),(bs [101,108,115,101]),(bs [119,104,105,108,101]),(bs [118,97,114,105,97,110,116]),(bs [99,97,108,108]),(bs [116,104,114,101,97,100]),(bs [97,115,108,101,101,112]),(bs [111,108,100]),(bs [97,108,108]),(bs [115,111,109,101])]:List ByteArray) .full)] H (run_bslice (v:=vL tS ([(bs [109,111,100,117,108,101]),(bs [111,119,110,101,114]),(bs [114,101,99,111,114,100]),(bs [115,104,97,114,101,100]),(bs [103,104,111,115,116]),(bs [108,111,99,107]),(bs [105,110,118,97,114,105,97,110,116]),(bs [114,101,108,121]),(bs [103,117,97,114,97,110,116,101,101]),(bs [102,114,97,109,101]),(bs [112,114,111,99]),(bs [108,111,99,107,101,100]),(bs [108,111,99,97,108]),(bs [97,115,115,101,114,116]),(bs [114,101,108,101,97,115,101]),(bs [119,105,116,104]),(bs [97,116,111,109,105,99]),(bs [119,104,101,110]),(bs [99,97,115]),(bs [105,110,116,111]),(bs [97,99,113,117,105,114,101]),(bs [102,114,101,101]),(bs [102,101,110,99,101]),(bs [115,112,97,119,110]),(bs [106,111,105,110]),(bs [97,119,97,105,116]),(bs [115,107,105,112]),(bs [105,102]),(bs [101,108,115,101]),(bs [119,104,105,108,101]),(bs [118,97,114,105,97,110,116]),(bs [99,97,108,108]),(bs [116,104,114,101,97,100]),(bs [97,115,108,101,101,112]),(bs [111,108,100]),(bs [97,108,108]),(bs [115,111,109,101])]:List ByteArray) .full) (v0:=.slice [vS (bs [109,111,100,117,108,101]),vS (bs [111,119,110,101,114]),vS (bs [114,101,99,111,114,100]),vS (bs [115,104,97,114,101,100]),vS (bs [103,104,111,115,116]),vS (bs [108,111,99,107]),vS (bs [105,110,118,97,114,105,97,110,116]),vS (bs [114,101,108,121]),vS (bs [103,117,97,114,97,110,116,101,101]),vS (bs [102,114,97,109,101]),vS (bs [112,114,111,99]),vS (bs [108,111,99,107,101,100]),vS (bs [108,111,99,97,108]),vS (bs [97,115,115,101,114,116]),vS (bs [114,101,108,101,97,115,101]),vS (bs [119,105,116,104]),vS (bs [97,116,111,109,105,99]),vS (bs [119,104,101,110]),vS (bs [99,97,115]),vS (bs [105,110,116,111]),vS (bs [97,99,113,117,105,114,101]),vS (bs [102,114,101,101]),vS (bs [102,101,110,99,101]),vS (bs [115,112,97,119,110]),vS (bs [106,111,105,110]),vS (bs [97,119,97,105,116]),vS (bs [115,107,105,112]),vS (bs [105,102]),vS (bs [101,108,115,101]),vS (bs [119,104,105,108,101]),vS (bs [118,97,114,105,97,110,116]),vS (bs [99,97,108,108]),vS (bs [116,104,114,101,97,100]),vS (bs [97,115,108,101,101,112]),vS (bs [111,108,100]),vS (bs [97,108,108]),vS (bs [115,111,109,101])] .full) (by kernel_rfl) (rfl)) fun _ H=>q_g 1 [(0,vL tS ([(bs [109,111,100,117,108,101]),(bs [111,119,110,101,114]),(bs [114,101,99,111,114,100]),(bs [115,104,97,114,101,100]),(bs [103,104,111,115,116]),(bs [108,111,99,107]),(bs [105,110,118,97,114,105,97,110,116]),(bs [114,101,108,121]),(bs [103,117,97,114,97,110,116,101,101]),(bs [102,114,97,109,101]),(bs [112,114,111,99]),(bs [108,111,99,107,101,100]),(bs [108,111,99,97,108]),(bs [97,115,115,101,114,116]),(bs [114,101,108,101,97,115,101]),(bs [119,105,116,104]),(bs [97,116,111,109,105,99]),(bs [119,104,101,110]),(bs [99,97,115]),(bs [105,110,116,111]),(bs [97,99,113,117,105,114,101]),(bs [102,114,101,101]),(bs [102,101,110,99,101]),(bs [115,112,97,119,110]),(bs [106,111,105,110]),(bs [97,119,97,105,116]),(bs [115,107,105,112]),(bs [105,102]),(bs [101,108,115,101]),(bs [119,104,105,108,101]),(bs [118,97,114,105,97,110,116]),(bs [99,97,108,108]),(bs [116,104,114,101,97,100]),(bs [97,115,108,101,101,112]),(bs [111,108,100]),(bs [97,108,108]),(bs [115,111,109,101])]:List ByteArray) .full)] H fun _ H=>q_e (W_ret ?_)
 obtain rfl:=sj hr
 exact q_r [vL tS ([(bs [109,111,100,117,108,101]),(bs [111,119,110,101,114]),(bs [114,101,99,111,114,100]),(bs [115,104,97,114,101,100]),(bs [103,104,111,115,116]),(bs [108,111,99,107]),(bs [105,110,118,97,114,105,97,110,116]),(bs [114,101,108,121]),(bs [103,117,97,114,97,110,116,101,101]),(bs [102,114,97,109,101]),(bs [112,114,111,99]),(bs [108,111,99,107,101,100]),(bs [108,111,99,97,108]),(bs [97,115,115,101,114,116]),(bs [114,101,108,101,97,115,101]),(bs [119,105,116,104]),(bs [97,116,111,109,105,99]),(bs [119,104,101,110]),(bs [99,97,115]),(bs [105,110,116,111]),(bs [97,99,113,117,105,114,101]),(bs [102,114,101,101]),(bs [102,101,110,99,101]),(bs [115,112,97,119,110]),(bs [106,111,105,110]),(bs [97,119,97,105,116]),(bs [115,107,105,112]),(bs [105,102]),(bs [101,108,115,101]),(bs [119,104,105,108,101]),(bs [118,97,114,105,97,110,116]),(bs [99,97,108,108]),(bs [116,104,114,101,97,100]),(bs [97,115,108,101,101,112]),(bs [111,108,100]),(bs [97,108,108]),(bs [115,111,109,101])]:List ByteArray) .full] H K (hs:=fun _=>by simp only [strip,stripL_ET,Option.map_some,oneOf] <;> rfl)
def F206 (n:Nat) (a0:ByteArray):Option Bool := (F232 ).bind fun x1 => (iter (σ:=Int) (ρ:=Unit ⊕ Unit) (fun s2=>bif decide (s2 < (x1.length:Int)) then ((idxL x1 s2).bind fun x4 => bif strEq x4 a0 then (some (.inr (.inl ()))) else (some (.inl (w64 (s2 + 1))))) else (some (.inr (.inr ())))) n (0:Int)).bind fun r6=>match r6 with | .inl _=>some true | .inr _=>some false
theorem F206_R (n:Nat) (a0:ByteArray) (r:Bool) (hr:F206 n a0 = some r) {st:St}:R Tryz.prog AN 206 [vS a0] st (.ret (vB r)) st:=by
 unfold F206 at hr
 refine pK [vS a0] [(0,vS a0)] Tryz.func206 rfl fun fr st H K=>W_seq (W_reg (q_g 1 [(0,vS a0)] H fun _ H=>q_e (W_seq (W_reg ?_))))
 obtain ⟨x1,hx1,hr⟩:=obind hr
 refine q_c (F232_R   x1 hx1) 0 [(0,vS a0),(5,vL tS x1 .shut)] H fun _ H=>q_g 1 [(0,vS a0),(3,vL tS x1 .shut)] H fun _ H=>q_e (W_seq (W_seq (W_reg (q_g 1 [(0,vS a0),(3,vL tS x1 .shut),(4,vI 0)] H fun _ H=>q_e (W_block ?_)))))
 obtain ⟨r6,hr6,hr⟩:=obind hr
 refine W_iter hr6 (fun (s2:Int) fr st=>Rd fr [(0,vS a0),(3,vL tS x1 .shut),(4,vI s2)]∧HL st []) (fun (r6:Unit ⊕ Unit) e fr st=>match r6 with | .inl r6a=>(e = .ret∧Rd fr [(2,vB true)]∧HL st []) | .inr r6b=>(e = .exit 0∧Rd fr []∧HL st [])) ⟨H.tq,K.keep []⟩ ?_ ?_
 ·intro s2 fr st r hi hr
  obtain ⟨H,K⟩:=hi
  refine W_seq (W_seq (W_reg (q_g 2 [(0,vS a0),(3,vL tS x1 .shut),(4,vI s2),(6,vI s2),(7,vL tS x1 .shut)] H fun _ H=>?_)))
  refine q_v (.len 30 (vL tS x1 .shut)) [(0,vS a0),(3,vL tS x1 .shut),(4,vI s2),(6,vI s2),(8,vI (x1.length:Int))] H (run_len tS (by kernel_rfl)) fun _ H=>q_g 1 [(0,vS a0),(3,vL tS x1 .shut),(4,vI s2),(9,vB (decide (s2 < (x1.length:Int))))] H fun _ H=>q_e ?_
  rcases csplit hr with ⟨c3,hr⟩|⟨c3,hr⟩
  rotate_left
  ·refine q_F H c3 ?_
   refine W_exit ?_
   obtain rfl:=sj hr
   exact ⟨by simp,⟨rfl,H.tq,K.keep []⟩⟩
  refine q_T H c3 (W_skip (W_seq (W_block (W_seq (W_reg (q_g 2 [(0,vS a0),(3,vL tS x1 .shut),(4,vI s2),(12,vL tS x1 .shut),(13,vI s2)] H fun _ H=>?_))))))
  obtain ⟨x4,hx4,hr⟩:=obind hr
  refine q_v (.indexAddr 30 (vL tS x1 .shut) (vI s2)) [(0,vS a0),(3,vL tS x1 .shut),(4,vI s2),(14,.cptr ([vS x4]) 0)] H (run_idxL tS (by kernel_rfl) hx4) fun _ H=>q_g 3 [(0,vS a0),(3,vL tS x1 .shut),(4,vI s2),(17,vB (strEq x4 a0))] H fun _ H=>q_e ?_
  rcases csplit hr with ⟨c5,hr⟩|⟨c5,hr⟩
  ·refine q_T H c5 (W_seq (W_reg (q_g 1 [(2,vB true)] H fun _ H=>q_e (W_ret ?_))))
   obtain rfl:=sj hr
   exact ⟨by simp,⟨rfl,H.tq,K.keep []⟩⟩
  refine q_F H c5 (W_skip (W_reg (q_g 3 [(0,vS a0),(3,vL tS x1 .shut),(4,vI (w64 (s2 + 1)))] H fun _ H=>q_e ?_)))
  obtain rfl:=sj hr
  exact ⟨rfl,⟨H.tq,K.keep []⟩⟩
 rcases r6 with r6a | r6b
 ·rintro e fr st ⟨rfl,H,K⟩
  obtain rfl:=sj hr
  exact q_r [vB true] H K
 rintro e fr st ⟨rfl,H,K⟩
 refine W_seq (W_reg (q_g 1 [(2,vB false)] H fun _ H=>q_e (W_ret ?_)))
 obtain rfl:=sj hr
 exact q_r [vB false] H K
def F174 (n:Nat) (a0:ByteArray):Option Bool := (iter (σ:=Int) (ρ:=Unit ⊕ Unit) (fun s1=>bif decide (s1 < (a0.size:Int)) then ((idxS a0 s1).bind fun x3 => bif (!(((decide (65≤x3)) && (decide (x3≤90))) || ((decide (97≤x3)) && (decide (x3≤122))))) && ((s1 == 0) || (bif decide (x3 < 48) then (x3 != 95) else ((decide (57 < x3)) && (x3 != 95)))) then (some (.inr (.inl ()))) else (some (.inl (w64 (s1 + 1))))) else (some (.inr (.inr ())))) n (0:Int)).bind fun r11=>match r11 with | .inl _=>some false | .inr _=>bif (decide (1≤(a0.size:Int))) && (decide ((a0.size:Int)≤16)) then ((F206 n a0).bind fun x13 => some !x13) else (some false)
theorem F174_R (n:Nat) (a0:ByteArray) (r:Bool) (hr:F174 n a0 = some r) {st:St}:R Tryz.prog AN 174 [vS a0] st (.ret (vB r)) st:=by
 unfold F174 at hr
 refine pK [vS a0] [(0,vS a0)] Tryz.func174 rfl fun fr st H K=>W_seq (W_reg (q_g 1 [(0,vS a0)] H fun _ H=>q_e (W_seq (W_seq (W_reg (q_g 1 [(0,vS a0),(3,vI 0)] H fun _ H=>q_e (W_block ?_)))))))
 obtain ⟨r11,hr11,hr⟩:=obind hr
 refine W_iter hr11 (fun (s1:Int) fr st=>Rd fr [(0,vS a0),(3,vI s1)]∧HL st []) (fun (r11:Unit ⊕ Unit) e fr st=>match r11 with | .inl r11a=>(e = .ret∧Rd fr [(2,vB false)]∧HL st []) | .inr r11b=>(e = .exit 0∧Rd fr [(0,vS a0)]∧HL st [])) ⟨H.tq,K.keep []⟩ ?_ ?_
 ·intro s1 fr st r hi hr
  obtain ⟨H,K⟩:=hi
  refine W_seq (W_seq (W_reg (q_g 4 [(0,vS a0),(3,vI s1),(9,vB (decide (s1 < (a0.size:Int))))] H fun _ H=>q_e ?_)))
  rcases csplit hr with ⟨c2,hr⟩|⟨c2,hr⟩
  rotate_left
  ·refine q_F H c2 ?_
   refine W_exit ?_
   obtain rfl:=sj hr
   exact ⟨by simp,⟨rfl,H.tq,K.keep []⟩⟩
  refine q_T H c2 (W_skip (W_seq (W_block (W_seq (W_reg (q_g 2 [(0,vS a0),(3,vI s1),(12,vS a0),(13,vI s1)] H fun _ H=>?_))))))
  obtain ⟨x3,hx3,hr⟩:=obind hr
  refine q_v (.index 9 (vS a0) (vI s1)) [(0,vS a0),(3,vI s1),(14,vU x3)] H (run_idxS (by kernel_rfl) hx3) fun _ H=>q_g 1 [(0,vS a0),(3,vI s1),(4,vU x3)] H fun _ H=>q_e (W_seq (W_reg (q_g 3 [(0,vS a0),(3,vI s1),(4,vU x3),(17,vB (decide (65≤x3)))] H fun _ H=>?_)))
  refine k_g 3 [(0,vS a0),(3,vI s1),(4,vU x3),(20,vB ((decide (65≤x3)) && (decide (x3≤90))))] H (fun _ _=>by generalize (decide (65≤x3)) = b0; cases b0 <;> kernel_rfl) fun _ H=>q_g 1 [(0,vS a0),(3,vI s1),(4,vU x3),(21,vB ((decide (65≤x3)) && (decide (x3≤90))))] H fun _ H=>?_
  refine k_seg 7 [(0,vS a0),(3,vI s1),(4,vU x3),(28,vB (((decide (65≤x3)) && (decide (x3≤90))) || ((decide (97≤x3)) && (decide (x3≤122)))))] ?_ ?_
  ·cases hg4:((decide (65≤x3)) && (decide (x3≤90)))
   ·rw [hg4] at H
    refine seg_go (m:=4) 3 [(0,vS a0),(3,vI s1),(4,vU x3),(21,vB false),(24,vB (decide (97≤x3)))] H (fun _ _=>by kernel_rfl) fun _ H=>?_
    cases hg5:(decide (97≤x3))
    ·rw [hg5] at H
     refine seg_go (m:=0) 4 [(0,vS a0),(3,vI s1),(4,vU x3),(28,vB false)] H (fun _ _=>by kernel_rfl) fun _ H=>?_
     exact seg_end (by (try simp only [hg4,hg5]); exact H.tq)
    ·rw [hg5] at H
     refine seg_go (m:=0) 4 [(0,vS a0),(3,vI s1),(4,vU x3),(28,vB (decide (x3≤122)))] H (fun _ _=>by kernel_rfl) fun _ H=>?_
     exact seg_end (by (try simp only [hg4,hg5]); exact H.tq)
   ·rw [hg4] at H
    refine seg_go (m:=0) 7 [(0,vS a0),(3,vI s1),(4,vU x3),(28,vB true)] H (fun _ _=>by kernel_rfl) fun _ H=>?_
    exact seg_end (by (try simp only [hg4]); exact H.tq)
  intro fr H
  refine q_g 1 [(0,vS a0),(3,vI s1),(4,vU x3),(5,vB (((decide (65≤x3)) && (decide (x3≤90))) || ((decide (97≤x3)) && (decide (x3≤122)))))] H fun _ H=>q_e (W_seq (W_reg (q_g 3 [(0,vS a0),(3,vI s1),(4,vU x3),(31,vB (!(((decide (65≤x3)) && (decide (x3≤90))) || ((decide (97≤x3)) && (decide (x3≤122))))))] H fun _ H=>?_)))
  refine k_seg 15 [(0,vS a0),(3,vI s1),(46,vB ((!(((decide (65≤x3)) && (decide (x3≤90))) || ((decide (97≤x3)) && (decide (x3≤122))))) && ((s1 == 0) || (bif decide (x3 < 48) then (x3 != 95) else ((decide (57 < x3)) && (x3 != 95))))))] ?_ ?_
  ·cases hg6:(!(((decide (65≤x3)) && (decide (x3≤90))) || ((decide (97≤x3)) && (decide (x3≤122)))))
   ·rw [hg6] at H
    refine seg_go (m:=0) 15 [(0,vS a0),(3,vI s1),(46,vB false)] H (fun _ _=>by kernel_rfl) fun _ H=>?_
    exact seg_end (by (try simp only [hg6]); exact H.tq)
   ·rw [hg6] at H
    refine seg_go (m:=12) 3 [(0,vS a0),(3,vI s1),(4,vU x3),(31,vB true),(34,vB (s1 == 0))] H (fun _ _=>by kernel_rfl) fun _ H=>?_
    cases hg7:(s1 == 0)
    ·rw [hg7] at H
     refine seg_go (m:=9) 3 [(0,vS a0),(3,vI s1),(4,vU x3),(31,vB true),(34,vB false),(37,vB (decide (x3 < 48)))] H (fun _ _=>by kernel_rfl) fun _ H=>?_
     cases hg8:(decide (x3 < 48))
     ·rw [hg8] at H
      refine seg_go (m:=5) 4 [(0,vS a0),(3,vI s1),(4,vU x3),(31,vB true),(34,vB false),(41,vB (decide (57 < x3)))] H (fun _ _=>by kernel_rfl) fun _ H=>?_
      cases hg9:(decide (57 < x3))
      ·rw [hg9] at H
       refine seg_go (m:=0) 5 [(0,vS a0),(3,vI s1),(46,vB false)] H (fun _ _=>by kernel_rfl) fun _ H=>?_
       exact seg_end (by (try simp only [hg6,hg7,hg8,hg9]); exact H.tq)
      ·rw [hg9] at H
       refine seg_go (m:=0) 5 [(0,vS a0),(3,vI s1),(46,vB (x3 != 95))] H (fun _ _=>by kernel_rfl) fun _ H=>?_
       exact seg_end (by (try simp only [hg6,hg7,hg8,hg9]); exact H.tq)
     ·rw [hg8] at H
      refine seg_go (m:=0) 9 [(0,vS a0),(3,vI s1),(46,vB (x3 != 95))] H (fun _ _=>by kernel_rfl) fun _ H=>?_
      exact seg_end (by (try simp only [hg6,hg7,hg8]); exact H.tq)
    ·rw [hg7] at H
     refine seg_go (m:=0) 12 [(0,vS a0),(3,vI s1),(46,vB true)] H (fun _ _=>by kernel_rfl) fun _ H=>?_
     exact seg_end (by (try simp only [hg6,hg7]); exact H.tq)
  intro fr H
  refine q_e ?_
  rcases csplit hr with ⟨c10,hr⟩|⟨c10,hr⟩
  ·refine q_T H c10 (W_seq (W_reg (q_g 1 [(2,vB false)] H fun _ H=>q_e (W_ret ?_))))
   obtain rfl:=sj hr
   exact ⟨by simp,⟨rfl,H.tq,K.keep []⟩⟩
  refine q_F H c10 (W_skip (W_reg (q_g 3 [(0,vS a0),(3,vI (w64 (s1 + 1)))] H fun _ H=>q_e ?_)))
  obtain rfl:=sj hr
  exact ⟨rfl,⟨H.tq,K.keep []⟩⟩
 rcases r11 with r11a | r11b
 ·rintro e fr st ⟨rfl,H,K⟩
  obtain rfl:=sj hr
  exact q_r [vB false] H K
 rintro e fr st ⟨rfl,H,K⟩
 refine W_seq (W_reg (q_g 4 [(0,vS a0),(50,vB (decide (1≤(a0.size:Int))))] H fun _ H=>?_))
 refine k_g 4 [(0,vS a0),(54,vB ((decide (1≤(a0.size:Int))) && (decide ((a0.size:Int)≤16))))] H (fun _ _=>by generalize (decide (1≤(a0.size:Int))) = b0; cases b0 <;> kernel_rfl) fun _ H=>q_g 1 [(0,vS a0),(55,vB ((decide (1≤(a0.size:Int))) && (decide ((a0.size:Int)≤16))))] H fun _ H=>?_
 rcases csplit hr with ⟨c12,hr⟩|⟨c12,hr⟩
 rotate_left
 ·rw [c12] at H
  refine q_g 5 [(2,vB false)] H fun _ H=>q_e (W_ret ?_)
  obtain rfl:=sj hr
  exact q_r [vB false] H K
 rw [c12] at H
 refine q_g 1 [(55,vB true),(56,vS a0)] H fun _ H=>?_
 obtain ⟨x13,hx13,hr⟩:=obind hr
 refine q_c (F206_R n a0 x13 hx13) 0 [(55,vB true),(57,vB x13)] H fun _ H=>q_g 3 [(2,vB !x13)] H fun _ H=>q_e (W_ret ?_)
 obtain rfl:=sj hr
 exact q_r [vB !x13] H K
end Go.Proofs.YtbecjgckobhmpaaGreatDoor
