/-
  Proved here: a part of what the claim needs (texts YQ12 YQ13 YBL1 YBW1 YW3 YBP1 of the prover's own).
-/
import Derived.Test.YtbecjgckobhmpaaGreatDoorPP05
section
namespace Go.Proofs.YtbecjgckobhmpaaGreatDoor
open Go Go.AM Go.Proofs
set_option maxRecDepth 100000
set_option maxHeartbeats 4000000
def F24 (n:Nat) :Option Bool :=
 (F55 n (bs [97,32,43,32,98])).bind fun x1 =>
 (F29 n (bs [97,32,43,32,98,32,42,32,99,32,61,61,32,100,32,38,38,32,33,101])).bind fun x2 =>
 (F36 (bs [97]) (0:Int)).bind fun x4 =>
 (F36 (bs [98]) (4:Int)).bind fun x5 =>
 (F36 (bs [99]) (8:Int)).bind fun x6 =>
 (F38 (bs [42]) (6:Int) x5 x6).bind fun x7 =>
 (F38 (bs [43]) (2:Int) x4 x7).bind fun x8 =>
 (F36 (bs [100]) (13:Int)).bind fun x10 =>
 (F38 (bs [61,61]) (10:Int) x8 x10).bind fun x11 =>
 (F36 (bs [101]) (19:Int)).bind fun x12 =>
 (F38 (bs [38,38]) (15:Int) x11 (Node.mk 4 (bs []) (bs []) 0 0 0 false ([x12]:List Node) 18)).bind fun x13 =>
 (F29 n (bs [97,32,61,61,32,98,32,61,61,32,99])).bind fun x15 =>
 (F25 n (bs [109,111,100,117,108,101,32,77,32,111,119,110,101,114,32,65,32,123,32,115,104,97,114,101,100,32,120,32,58,32,59,32,115,104,97,114,101,100,32,121,32,58,32,49,59,32,125])).bind fun x17 =>
 (F25 n (bs [116,104,114,101,97,100,32,116,32,61,32,77,46,112,40,49])).bind fun x21 =>
 (bif x1.2.1 == 0 then
   (bif (x1.1.length:Int) == 3 then
    (bif (x2.2.length:Int) == 0 then
     ((F30 n x2.1 x13).bind fun x26 =>
     bif x26 then
      ((F37 n x15.2 (20:Int) (7:Int)).bind fun x28 =>
      bif x28 then
       ((F37 n x17.2 (20:Int) (30:Int)).bind fun x30 =>
       bif x30 then
        ((F30 n x17.1 (Node.mk 62 (bs []) (bs []) 0 0 0 false ([(Node.mk 60 (bs [77]) (bs [65]) 0 0 0 false ([(Node.mk 50 (bs [121]) (bs []) 1 0 0 false ([]:List Node) 32)]:List Node) 0)]:List Node) 0)).bind fun x32 =>
        some x32)
       else
        (some false))
      else
       (some false))
     else
      (some false))
    else
     (some false))
   else
    (some false))
  else
   (some false):Option (Bool)).bind fun j33 =>
 (bif j33 then
   ((F37 n x21.2 (21:Int) (16:Int)).bind fun x35 =>
   bif x35 then
    (bif x21.1.kind == 62 then
     (some ((x21.1.kids.length:Int) == 0))
    else
     (some false))
   else
    (some false))
  else
   (some false):Option (Bool)).bind fun j38 =>
 bif j38 then
  ((F28 n x13).bind fun x40 =>
  bif x40 then
   ((F28 n (Node.mk 62 (bs []) (bs []) 0 0 0 false ([(Node.mk 60 (bs [77]) (bs [65]) 0 0 0 false ([(Node.mk 50 (bs [121]) (bs []) 1 0 0 false ([]:List Node) 32)]:List Node) 0)]:List Node) 0)).bind fun x42 =>
   bif x42 then
    ((F28 n (Node.mk 50 (bs [121]) (bs []) 1 0 0 false ([]:List Node) 32)).bind fun x44 =>
    bif !x44 then
     ((F36 (bs [120]) (7:Int)).bind fun x46 =>
     (stripLeafF x46).bind fun x47 =>
     (F36 (bs [120]) (0:Int)).bind fun x48 =>
     (F30 n x47 x48).bind fun x49 =>
     some x49)
    else
     (some false))
   else
    (some false))
  else
   (some false))
 else
  (some false)
theorem F24_R (n:Nat)  (r:Bool) (hr:F24 n  = some r) {st:St}:R Tryz.prog AN 24 [] st (.ret (vB r)) st:=by
 unfold F24 at hr
 refine R_pureX [] [] Tryz.func24 rfl (by kernel_rfl) rfl fun fr st H K=>?_
 refine W_seq (W_reg ?_)
 refine qg 1 [] H fun fr H=>?_
 refine qe ?_
 refine W_seq (W_reg ?_)
 refine qb hr (fun x h s=>F55_R n _ x h) H fun x1 hr fr H=>?_
 refine qg 7 [(1,vL tToken x1.1 .shut),(2,vI x1.2.1)] H fun fr H=>?_
 refine qe ?_
 refine W_seq (W_reg ?_)
 refine qb hr (fun x h s=>F29_R n _ x h) H fun x2 hr fr H=>?_
 refine qg 3 [(24,aN x2.1),(25,vL tDiag x2.2 .shut)] H fun fr H=>?_
 refine qal 24 [vI 0,vS (bs []),vS (bs []),vI 0,vI 0,vI 0,vB false,vL tNode ([]:List Node) .nil,vI 0] H K fun id3 st K fr H=>?_
 refine qst 24 0 (aN x2.1) [vI x2.1.kind,vS x2.1.name,vS x2.1.other,vI x2.1.n,vI x2.1.len,vI x2.1.init,vB x2.1.ghost,vL tNode x2.1.kids .shut,vI x2.1.pos] 0 H K rfl fun st K fr H=>?_
 refine qg 1 [(5,vL tDiag x2.2 .shut)] H fun fr H=>?_
 refine qe ?_
 refine W_seq (W_reg ?_)
 refine qb hr (fun x h s=>F36_R  _ _ x h) H fun x4 hr fr H=>?_
 refine qb hr (fun x h s=>F36_R  _ _ x h) H fun x5 hr fr H=>?_
 refine qb hr (fun x h s=>F36_R  _ _ x h) H fun x6 hr fr H=>?_
 refine qb hr (fun x h s=>F38_R  _ _ _ _ x h (p0:=.shut) (p1:=.shut)) H fun x7 hr fr H=>?_
 refine qb hr (fun x h s=>F38_R  _ _ _ _ x h (p0:=.shut) (p1:=.shut)) H fun x8 hr fr H=>?_
 refine qal 24 [vI 0,vS (bs []),vS (bs []),vI 0,vI 0,vI 0,vB false,vL tNode ([]:List Node) .nil,vI 0] H K fun id9 st K fr H=>?_
 refine qst 24 0 (aN x8) [vI x8.kind,vS x8.name,vS x8.other,vI x8.n,vI x8.len,vI x8.init,vB x8.ghost,vL tNode x8.kids .shut,vI x8.pos] 0 H K rfl fun st K fr H=>?_
 refine qe ?_
 refine W_seq (W_drw ?_)
 refine qld 24 0 (aN x8) 0 H K rfl fun fr H=>?_
 refine qb hr (fun x h s=>F36_R  _ _ x h) H fun x10 hr fr H=>?_
 refine qb hr (fun x h s=>F38_R  _ _ _ _ x h (p0:=.shut) (p1:=.shut)) H fun x11 hr fr H=>?_
 refine qb hr (fun x h s=>F36_R  _ _ x h) H fun x12 hr fr H=>?_
 refine qv (.buildSlice 22 1 [(0,aN x12)]) H (run_bslice (v:=vL tNode ([x12]:List Node) .full) (v0:=.slice [aN x12] .full) (by kernel_rfl) (by simp only [List.map,vL,tNode_e,eNode_eq,cNode] <;> rfl)) fun fr H=>?_
 refine qg 1 [(36,.agg [vI 4,vS (bs []),vS (bs []),vI 0,vI 0,vI 0,vB false,vL tNode ([x12]:List Node) .shut,vI 18])] H fun fr H=>?_
 refine qb hr (fun x h s=>F38_R  _ _ _ _ x h (p0:=.shut) (p1:=.shut)) H fun x13 hr fr H=>?_
 refine qal 24 [vI 0,vS (bs []),vS (bs []),vI 0,vI 0,vI 0,vB false,vL tNode ([]:List Node) .nil,vI 0] H K fun id14 st K fr H=>?_
 refine qst 24 0 (aN x13) [vI x13.kind,vS x13.name,vS x13.other,vI x13.n,vI x13.len,vI x13.init,vB x13.ghost,vL tNode x13.kids .shut,vI x13.pos] 0 H K rfl fun st K fr H=>?_
 refine qe (qdI K [.look (some 1),0,0,0,0,0,0,.keep [1,2],.put 0] ?_)
 refine W_seq (W_reg ?_)
 refine qb hr (fun x h s=>F29_R n _ x h) H fun x15 hr fr H=>?_
 refine qg 3 [(40,aN x15.1),(41,vL tDiag x15.2 .shut)] H fun fr H=>?_
 refine qal 24 [vI 0,vS (bs []),vS (bs []),vI 0,vI 0,vI 0,vB false,vL tNode ([]:List Node) .nil,vI 0] H K fun id16 st K fr H=>?_
 refine qst 24 0 (aN x15.1) [vI x15.1.kind,vS x15.1.name,vS x15.1.other,vI x15.1.n,vI x15.1.len,vI x15.1.init,vB x15.1.ghost,vL tNode x15.1.kids .shut,vI x15.1.pos] 0 H K rfl fun st K fr H=>?_
 refine qg 1 [(9,vL tDiag x15.2 .shut)] H fun fr H=>?_
 refine qe ?_
 refine W_seq (W_reg ?_)
 refine qb hr (fun x h s=>F25_R n _ x h) H fun x17 hr fr H=>?_
 refine qg 3 [(44,aN x17.1),(45,vL tDiag x17.2 .shut)] H fun fr H=>?_
 refine qal 24 [vI 0,vS (bs []),vS (bs []),vI 0,vI 0,vI 0,vB false,vL tNode ([]:List Node) .nil,vI 0] H K fun id18 st K fr H=>?_
 refine qst 24 0 (aN x17.1) [vI x17.1.kind,vS x17.1.name,vS x17.1.other,vI x17.1.n,vI x17.1.len,vI x17.1.init,vB x17.1.ghost,vL tNode x17.1.kids .shut,vI x17.1.pos] 0 H K rfl fun st K fr H=>?_
 refine qg 1 [(11,vL tDiag x17.2 .shut)] H fun fr H=>?_
 refine qe ?_
 refine W_seq (W_reg ?_)
 refine qg 1 [(46,.agg [vI 50,vS (bs [121]),vS (bs []),vI 1,vI 0,vI 0,vB false,vL tNode ([]:List Node) .nil,vI 32])] H fun fr H=>?_
 refine qal 24 [vI 0,vS (bs []),vS (bs []),vI 0,vI 0,vI 0,vB false,vL tNode ([]:List Node) .nil,vI 0] H K fun id19 st K fr H=>?_
 refine qst 24 0 (.agg [vI 50,vS (bs [121]),vS (bs []),vI 1,vI 0,vI 0,vB false,vL tNode ([]:List Node) .nil,vI 32]) [vI 50,vS (bs [121]),vS (bs []),vI 1,vI 0,vI 0,vB false,vL tNode ([]:List Node) .nil,vI 32] 0 H K rfl fun st K fr H=>?_
 refine qe ?_
 refine W_seq (W_reg ?_)
 refine qld 24 0 (.agg [vI 50,vS (bs [121]),vS (bs []),vI 1,vI 0,vI 0,vB false,vL tNode ([]:List Node) .shut,vI 32]) 0 H K rfl fun fr H=>?_
 refine qv (.buildSlice 22 1 [(0,.agg [vI 50,vS (bs [121]),vS (bs []),vI 1,vI 0,vI 0,vB false,vL tNode ([]:List Node) .shut,vI 32])]) H (run_bslice (v:=vL tNode ([(Node.mk 50 (bs [121]) (bs []) 1 0 0 false ([]:List Node) 32)]:List Node) .full) (v0:=.slice [.agg [vI 50,vS (bs [121]),vS (bs []),vI 1,vI 0,vI 0,vB false,vL tNode ([]:List Node) .shut,vI 32]] .full) (by kernel_rfl) (by simp only [List.map,vL,tNode_e,eNode_eq,cNode] <;> rfl)) fun fr H=>?_
 refine qg 1 [(49,.agg [vI 60,vS (bs [77]),vS (bs [65]),vI 0,vI 0,vI 0,vB false,vL tNode ([(Node.mk 50 (bs [121]) (bs []) 1 0 0 false ([]:List Node) 32)]:List Node) .shut,vI 0])] H fun fr H=>?_
 refine qv (.buildSlice 22 1 [(0,.agg [vI 60,vS (bs [77]),vS (bs [65]),vI 0,vI 0,vI 0,vB false,vL tNode ([(Node.mk 50 (bs [121]) (bs []) 1 0 0 false ([]:List Node) 32)]:List Node) .shut,vI 0])]) H (run_bslice (v:=vL tNode ([(Node.mk 60 (bs [77]) (bs [65]) 0 0 0 false ([(Node.mk 50 (bs [121]) (bs []) 1 0 0 false ([]:List Node) 32)]:List Node) 0)]:List Node) .full) (v0:=.slice [.agg [vI 60,vS (bs [77]),vS (bs [65]),vI 0,vI 0,vI 0,vB false,vL tNode ([(Node.mk 50 (bs [121]) (bs []) 1 0 0 false ([]:List Node) 32)]:List Node) .shut,vI 0]] .full) (by kernel_rfl) (by simp only [List.map,vL,tNode_e,eNode_eq,cNode] <;> rfl)) fun fr H=>?_
 refine qg 1 [(51,.agg [vI 62,vS (bs []),vS (bs []),vI 0,vI 0,vI 0,vB false,vL tNode ([(Node.mk 60 (bs [77]) (bs [65]) 0 0 0 false ([(Node.mk 50 (bs [121]) (bs []) 1 0 0 false ([]:List Node) 32)]:List Node) 0)]:List Node) .shut,vI 0])] H fun fr H=>?_
 refine qal 24 [vI 0,vS (bs []),vS (bs []),vI 0,vI 0,vI 0,vB false,vL tNode ([]:List Node) .nil,vI 0] H K fun id20 st K fr H=>?_
 refine qst 24 0 (.agg [vI 62,vS (bs []),vS (bs []),vI 0,vI 0,vI 0,vB false,vL tNode ([(Node.mk 60 (bs [77]) (bs [65]) 0 0 0 false ([(Node.mk 50 (bs [121]) (bs []) 1 0 0 false ([]:List Node) 32)]:List Node) 0)]:List Node) .shut,vI 0]) [vI 62,vS (bs []),vS (bs []),vI 0,vI 0,vI 0,vB false,vL tNode ([(Node.mk 60 (bs [77]) (bs [65]) 0 0 0 false ([(Node.mk 50 (bs [121]) (bs []) 1 0 0 false ([]:List Node) 32)]:List Node) 0)]:List Node) .shut,vI 0] 0 H K rfl fun st K fr H=>?_
 refine qe ?_
 refine W_seq (W_reg ?_)
 refine qb hr (fun x h s=>F25_R n _ x h) H fun x21 hr fr H=>?_
 refine qg 3 [(54,aN x21.1),(55,vL tDiag x21.2 .shut)] H fun fr H=>?_
 refine qal 24 [vI 0,vS (bs []),vS (bs []),vI 0,vI 0,vI 0,vB false,vL tNode ([]:List Node) .nil,vI 0] H K fun id22 st K fr H=>?_
 refine qst 24 0 (aN x21.1) [vI x21.1.kind,vS x21.1.name,vS x21.1.other,vI x21.1.n,vI x21.1.len,vI x21.1.init,vB x21.1.ghost,vL tNode x21.1.kids .shut,vI x21.1.pos] 0 H K rfl fun st K fr H=>?_
 refine qg 1 [(15,vL tDiag x21.2 .shut)] H fun fr H=>?_
 refine qe ?_
 refine W_seq ?_
 obtain ⟨j33,hj33,hr⟩:=obind hr
 refine W_via (fun e fr st=>e = .normal∧Rd fr [(7,.ptr id14 0),(12,.ptr id19 0),(13,.ptr id20 0),(14,.ptr id22 0),(15,vL tDiag x21.2 .shut),(16,vB j33)]∧HL st [.obj id22 (.cells 24 [vI x21.1.kind,vS x21.1.name,vS x21.1.other,vI x21.1.n,vI x21.1.len,vI x21.1.init,vB x21.1.ghost,vL tNode x21.1.kids .shut,vI x21.1.pos]),.obj id20 (.cells 24 [vI 62,vS (bs []),vS (bs []),vI 0,vI 0,vI 0,vB false,vL tNode ([(Node.mk 60 (bs [77]) (bs [65]) 0 0 0 false ([(Node.mk 50 (bs [121]) (bs []) 1 0 0 false ([]:List Node) 32)]:List Node) 0)]:List Node) .shut,vI 0]),.obj id19 (.cells 24 [vI 50,vS (bs [121]),vS (bs []),vI 1,vI 0,vI 0,vB false,vL tNode ([]:List Node) .nil,vI 32]),.obj id14 (.cells 24 [vI x13.kind,vS x13.name,vS x13.other,vI x13.n,vI x13.len,vI x13.init,vB x13.ghost,vL tNode x13.kids .shut,vI x13.pos])]) ?_ ?_
 ·replace hr:=hj33
  refine W_reg ?_
  refine qg 3 [(58,vB (x1.2.1 == 0))] H fun fr H=>?_
  rcases csplit hr with ⟨hc23,hr⟩ | ⟨hc23,hr⟩
  rotate_left
  ·rw [hc23] at H
   refine qg 28 [(16,vB false)] H fun fr H=>?_
   refine qe ?_
   obtain rfl:=Option.some.inj hr
   exact ⟨rfl,H.tq,K.keep [true,true,true,false,false,true,false,false]⟩
  rw [hc23] at H
  refine qg 1 [(59,vL tToken x1.1 .shut)] H fun fr H=>?_
  refine qln tToken 56 x1.1 .shut H fun fr H=>?_
  refine qg 3 [(63,vB ((x1.1.length:Int) == 3))] H fun fr H=>?_
  rcases csplit hr with ⟨hc24,hr⟩ | ⟨hc24,hr⟩
  rotate_left
  ·rw [hc24] at H
   refine qg 23 [(16,vB false)] H fun fr H=>?_
   refine qe ?_
   obtain rfl:=Option.some.inj hr
   exact ⟨rfl,H.tq,K.keep [true,true,true,false,false,true,false,false]⟩
  rw [hc24] at H
  refine qg 1 [(64,vL tDiag x2.2 .shut)] H fun fr H=>?_
  refine qln tDiag 37 x2.2 .shut H fun fr H=>?_
  refine qg 3 [(68,vB ((x2.2.length:Int) == 0))] H fun fr H=>?_
  rcases csplit hr with ⟨hc25,hr⟩ | ⟨hc25,hr⟩
  rotate_left
  ·rw [hc25] at H
   refine qg 18 [(16,vB false)] H fun fr H=>?_
   refine qe ?_
   obtain rfl:=Option.some.inj hr
   exact ⟨rfl,H.tq,K.keep [true,true,true,false,false,true,false,false]⟩
  rw [hc25] at H
  refine qld 24 0 (aN x2.1) 7 H K rfl fun fr H=>?_
  refine qld 24 0 (aN x13) 5 H K rfl fun fr H=>?_
  refine qb hr (fun x h s=>F30_R n _ _ x h (p0:=.shut) (p1:=.shut)) H fun x26 hr fr H=>?_
  refine qg 2 [(73,vB x26)] H fun fr H=>?_
  rcases csplit hr with ⟨hc27,hr⟩ | ⟨hc27,hr⟩
  rotate_left
  ·rw [hc27] at H
   refine qg 13 [(16,vB false)] H fun fr H=>?_
   refine qe ?_
   obtain rfl:=Option.some.inj hr
   exact ⟨rfl,H.tq,K.keep [true,true,true,false,false,true,false,false]⟩
  rw [hc27] at H
  refine qg 1 [(74,vL tDiag x15.2 .shut)] H fun fr H=>?_
  refine qb hr (fun x h s=>F37_R n _ _ _ x h (p0:=.shut)) H fun x28 hr fr H=>?_
  refine qg 2 [(77,vB x28)] H fun fr H=>?_
  rcases csplit hr with ⟨hc29,hr⟩ | ⟨hc29,hr⟩
  rotate_left
  ·rw [hc29] at H
   refine qg 9 [(16,vB false)] H fun fr H=>?_
   refine qe ?_
   obtain rfl:=Option.some.inj hr
   exact ⟨rfl,H.tq,K.keep [true,true,true,false,false,true,false,false]⟩
  rw [hc29] at H
  refine qg 1 [(78,vL tDiag x17.2 .shut)] H fun fr H=>?_
  refine qb hr (fun x h s=>F37_R n _ _ _ x h (p0:=.shut)) H fun x30 hr fr H=>?_
  refine qg 2 [(81,vB x30)] H fun fr H=>?_
  rcases csplit hr with ⟨hc31,hr⟩ | ⟨hc31,hr⟩
  rotate_left
  ·rw [hc31] at H
   refine qg 5 [(16,vB false)] H fun fr H=>?_
   refine qe ?_
   obtain rfl:=Option.some.inj hr
   exact ⟨rfl,H.tq,K.keep [true,true,true,false,false,true,false,false]⟩
  rw [hc31] at H
  refine qld 24 0 (aN x17.1) 3 H K rfl fun fr H=>?_
  refine qld 24 0 (.agg [vI 62,vS (bs []),vS (bs []),vI 0,vI 0,vI 0,vB false,vL tNode ([(Node.mk 60 (bs [77]) (bs [65]) 0 0 0 false ([(Node.mk 50 (bs [121]) (bs []) 1 0 0 false ([]:List Node) 32)]:List Node) 0)]:List Node) .shut,vI 0]) 1 H K rfl fun fr H=>?_
  refine qb hr (fun x h s=>F30_R n _ _ x h (p0:=.shut) (p1:=.shut)) H fun x32 hr fr H=>?_
  refine qg 2 [(16,vB x32)] H fun fr H=>?_
  refine qe ?_
  obtain rfl:=Option.some.inj hr
  exact ⟨rfl,H.tq,K.keep [true,true,true,false,false,true,false,false]⟩
 rintro e fr st ⟨rfl,H,K⟩
 refine W_seq ?_
 obtain ⟨j38,hj38,hr⟩:=obind hr
 refine W_via (fun e fr st=>e = .normal∧Rd fr [(7,.ptr id14 0),(12,.ptr id19 0),(13,.ptr id20 0),(16,vB j38)]∧HL st [.obj id20 (.cells 24 [vI 62,vS (bs []),vS (bs []),vI 0,vI 0,vI 0,vB false,vL tNode ([(Node.mk 60 (bs [77]) (bs [65]) 0 0 0 false ([(Node.mk 50 (bs [121]) (bs []) 1 0 0 false ([]:List Node) 32)]:List Node) 0)]:List Node) .shut,vI 0]),.obj id19 (.cells 24 [vI 50,vS (bs [121]),vS (bs []),vI 1,vI 0,vI 0,vB false,vL tNode ([]:List Node) .nil,vI 32]),.obj id14 (.cells 24 [vI x13.kind,vS x13.name,vS x13.other,vI x13.n,vI x13.len,vI x13.init,vB x13.ghost,vL tNode x13.kids .shut,vI x13.pos])]) ?_ ?_
 ·replace hr:=hj38
  refine W_reg ?_
  refine qg 2 [(87,vB j33)] H fun fr H=>?_
  rcases csplit hr with ⟨hc34,hr⟩ | ⟨hc34,hr⟩
  rotate_left
  ·rw [hc34] at H
   refine qg 15 [(16,vB false)] H fun fr H=>?_
   refine qe ?_
   obtain rfl:=Option.some.inj hr
   exact ⟨rfl,H.tq,K.keep [false,true,true,true]⟩
  rw [hc34] at H
  refine qg 1 [(88,vL tDiag x21.2 .shut)] H fun fr H=>?_
  refine qb hr (fun x h s=>F37_R n _ _ _ x h (p0:=.shut)) H fun x35 hr fr H=>?_
  refine qg 2 [(91,vB x35)] H fun fr H=>?_
  rcases csplit hr with ⟨hc36,hr⟩ | ⟨hc36,hr⟩
  rotate_left
  ·rw [hc36] at H
   refine qg 11 [(16,vB false)] H fun fr H=>?_
   refine qe ?_
   obtain rfl:=Option.some.inj hr
   exact ⟨rfl,H.tq,K.keep [false,true,true,true]⟩
  rw [hc36] at H
  refine qg 1 [(92,.ptr id22 0)] H fun fr H=>?_
  refine qld 3 0 (vI x21.1.kind) 0 H K rfl fun fr H=>?_
  refine qg 3 [(96,vB (x21.1.kind == 62))] H fun fr H=>?_
  rcases csplit hr with ⟨hc37,hr⟩ | ⟨hc37,hr⟩
  rotate_left
  ·rw [hc37] at H
   refine qg 6 [(16,vB false)] H fun fr H=>?_
   refine qe ?_
   obtain rfl:=Option.some.inj hr
   exact ⟨rfl,H.tq,K.keep [false,true,true,true]⟩
  rw [hc37] at H
  refine qg 1 [(97,.ptr id22 7)] H fun fr H=>?_
  refine qld 22 7 (vL tNode x21.1.kids .shut) 0 H K rfl fun fr H=>?_
  refine qln tNode 22 x21.1.kids .shut H fun fr H=>?_
  refine qg 3 [(16,vB ((x21.1.kids.length:Int) == 0))] H fun fr H=>?_
  refine qe ?_
  obtain rfl:=Option.some.inj hr
  exact ⟨rfl,H.tq,K.keep [false,true,true,true]⟩
 rintro e fr st ⟨rfl,H,K⟩
 refine W_seq (W_reg ?_)
 refine qg 2 [(103,vB j38)] H fun fr H=>?_
 rcases csplit hr with ⟨hc39,hr⟩ | ⟨hc39,hr⟩
 rotate_left
 ·rw [hc39] at H
  refine qg 19 [(0,vB false)] H fun fr H=>?_
  refine qe ?_
  refine W_ret ?_
  obtain rfl:=Option.some.inj hr
  exact qr [vB false] H K
 rw [hc39] at H
 refine qld 24 0 (aN x13) 2 H K rfl fun fr H=>?_
 refine qb hr (fun x h s=>F28_R n _ x h (p0:=.shut)) H fun x40 hr fr H=>?_
 refine qg 2 [(107,vB x40)] H fun fr H=>?_
 rcases csplit hr with ⟨hc41,hr⟩ | ⟨hc41,hr⟩
 rotate_left
 ·rw [hc41] at H
  refine qg 15 [(0,vB false)] H fun fr H=>?_
  refine qe ?_
  refine W_ret ?_
  obtain rfl:=Option.some.inj hr
  exact qr [vB false] H K
 rw [hc41] at H
 refine qld 24 0 (.agg [vI 62,vS (bs []),vS (bs []),vI 0,vI 0,vI 0,vB false,vL tNode ([(Node.mk 60 (bs [77]) (bs [65]) 0 0 0 false ([(Node.mk 50 (bs [121]) (bs []) 1 0 0 false ([]:List Node) 32)]:List Node) 0)]:List Node) .shut,vI 0]) 0 H K rfl fun fr H=>?_
 refine qb hr (fun x h s=>F28_R n _ x h (p0:=.shut)) H fun x42 hr fr H=>?_
 refine qg 2 [(111,vB x42)] H fun fr H=>?_
 rcases csplit hr with ⟨hc43,hr⟩ | ⟨hc43,hr⟩
 rotate_left
 ·rw [hc43] at H
  refine qg 11 [(0,vB false)] H fun fr H=>?_
  refine qe ?_
  refine W_ret ?_
  obtain rfl:=Option.some.inj hr
  exact qr [vB false] H K
 rw [hc43] at H
 refine qld 24 0 (.agg [vI 50,vS (bs [121]),vS (bs []),vI 1,vI 0,vI 0,vB false,vL tNode ([]:List Node) .shut,vI 32]) 1 H K rfl fun fr H=>?_
 refine qb hr (fun x h s=>F28_R n _ x h (p0:=.shut)) H fun x44 hr fr H=>?_
 refine qg 3 [(116,vB !x44)] H fun fr H=>?_
 rcases csplit hr with ⟨hc45,hr⟩ | ⟨hc45,hr⟩
 rotate_left
 ·rw [hc45] at H
  refine qg 6 [(0,vB false)] H fun fr H=>?_
  refine qe ?_
  refine W_ret ?_
  obtain rfl:=Option.some.inj hr
  exact qr [vB false] H K
 rw [hc45] at H
 refine qb hr (fun x h s=>F36_R  _ _ x h) H fun x46 hr fr H=>?_
 refine qb hr (fun x h s=>stripLeaf_R _ x h (sp:=.shut)) H fun x47 hr fr H=>?_
 refine qb hr (fun x h s=>F36_R  _ _ x h) H fun x48 hr fr H=>?_
 refine qb hr (fun x h s=>F30_R n _ _ x h (p0:=.shut) (p1:=.shut)) H fun x49 hr fr H=>?_
 refine qg 2 [(0,vB x49)] H fun fr H=>?_
 refine qe ?_
 refine W_ret ?_
 obtain rfl:=Option.some.inj hr
 exact qr [vB x49] H K
def F73 :Option ((List (List ByteArray))) :=
 some ([([(bs [124,124])]:List ByteArray),([(bs [38,38])]:List ByteArray),([(bs [61,61]),(bs [33,61]),(bs [60]),(bs [60,61])]:List ByteArray),([(bs [124])]:List ByteArray),([(bs [94])]:List ByteArray),([(bs [38])]:List ByteArray),([(bs [43]),(bs [45])]:List ByteArray),([(bs [42])]:List ByteArray)]:List (List ByteArray))
theorem F73_R  (r:(List (List ByteArray))) (hr:F73  = some r) {st:St}:R Tryz.prog AN 73 [] st (.ret (vL (tL tS) r .shut)) st:=by
 unfold F73 at hr
 refine R_pureX [] [] Tryz.func73 rfl (by kernel_rfl) rfl fun fr st H K=>?_
 refine W_seq (W_reg ?_)
 refine qg 1 [] H fun fr H=>?_
 refine qe ?_
 refine W_seq (W_reg ?_)
 refine qbs tS 30 ([(bs [124,124])]:List ByteArray) H fun fr H=>?_
 refine qbs tS 30 ([(bs [38,38])]:List ByteArray) H fun fr H=>?_
 refine qbs tS 30 ([(bs [61,61]),(bs [33,61]),(bs [60]),(bs [60,61])]:List ByteArray) H fun fr H=>?_
 refine qbs tS 30 ([(bs [124])]:List ByteArray) H fun fr H=>?_
 refine qbs tS 30 ([(bs [94])]:List ByteArray) H fun fr H=>?_
 refine qbs tS 30 ([(bs [38])]:List ByteArray) H fun fr H=>?_
 refine qbs tS 30 ([(bs [43]),(bs [45])]:List ByteArray) H fun fr H=>?_
 refine qbs tS 30 ([(bs [42])]:List ByteArray) H fun fr H=>?_
 refine qbs (tL tS) 98 ([([(bs [124,124])]:List ByteArray),([(bs [38,38])]:List ByteArray),([(bs [61,61]),(bs [33,61]),(bs [60]),(bs [60,61])]:List ByteArray),([(bs [124])]:List ByteArray),([(bs [94])]:List ByteArray),([(bs [38])]:List ByteArray),([(bs [43]),(bs [45])]:List ByteArray),([(bs [42])]:List ByteArray)]:List (List ByteArray)) H fun fr H=>?_
 refine qg 1 [(0,vL (tL tS) ([([(bs [124,124])]:List ByteArray),([(bs [38,38])]:List ByteArray),([(bs [61,61]),(bs [33,61]),(bs [60]),(bs [60,61])]:List ByteArray),([(bs [124])]:List ByteArray),([(bs [94])]:List ByteArray),([(bs [38])]:List ByteArray),([(bs [43]),(bs [45])]:List ByteArray),([(bs [42])]:List ByteArray)]:List (List ByteArray)) .full)] H fun fr H=>?_
 refine qe ?_
 refine W_ret ?_
 obtain rfl:=Option.some.inj hr
 exact qr [vL (tL tS) ([([(bs [124,124])]:List ByteArray),([(bs [38,38])]:List ByteArray),([(bs [61,61]),(bs [33,61]),(bs [60]),(bs [60,61])]:List ByteArray),([(bs [124])]:List ByteArray),([(bs [94])]:List ByteArray),([(bs [38])]:List ByteArray),([(bs [43]),(bs [45])]:List ByteArray),([(bs [42])]:List ByteArray)]:List (List ByteArray)) .full] H K (hs:=fun _=>by simp only [strip,stripL_ET,Option.map_some,oneOf] <;> rfl)
def F60_step (F60:Node→Int→Option Int) (n:Nat) (a0:Node) (a1:Int):Option Int :=
 (iter (σ:=Int × Int) (ρ:=Int) (fun s1=>bif (decide (s1.2 < (a0.kids.length:Int))) && (decide (s1.1≤a1)) then
   ((idxL a0.kids s1.2).bind fun x3 =>
   (F60 x3 (w64 (a1 - s1.1))).bind fun x4 =>
   some (.inl (w64 (s1.1 + x4),w64 (s1.2 + 1))))
  else
   (some (.inr s1.1))) n ((1:Int),(0:Int))).bind fun r5 =>
 some r5
def F60:Nat→Node→Int→Option Int
 | 0,_,_=>none
 | n + 1,a0,a1=>F60_step (F60 n) n a0 a1
theorem F60_RR (n:Nat):(∀ (a0:Node) (a1:Int) (r:Int),F60 n a0 a1 = some r→∀ {st:St} {p0:Spare},R Tryz.prog AN 60 [.agg (cNode p0 a0),vI a1] st (.ret (vI r)) st):=by
 induction n with
 | zero=>(intros; contradiction)
 | succ n ih =>
  have ih_F60:=@ih; clear ih
  intro a0 a1 r hr st p0
  change F60_step (F60 n) n a0 a1 = some r at hr
  unfold F60_step at hr
  refine R_pureX [aN a0,vI a1] [(0,aN a0),(1,vI a1)] Tryz.func60 rfl (by simp only [strip,stripL,stripL_cNode,Option.bind_some,Option.map_some]) rfl fun fr st H K=>?_
  refine W_seq (W_reg ?_)
  refine qg 2 [(2,cN a0 0)] H fun fr H=>?_
  refine qe ?_
  refine W_seq (W_reg ?_)
  refine qg 1 [(5,vI 1)] H fun fr H=>?_
  refine qe ?_
  refine W_seq (W_seq ?_)
  refine W_reg ?_
  refine qg 1 [(6,vI 0)] H fun fr H=>?_
  refine qe ?_
  refine W_block ?_
  obtain ⟨r5,hr5,hr⟩:=obind hr
  refine W_iter hr5 (fun (s1:Int × Int) fr st=>Rd fr [(1,vI a1),(2,cN a0 0),(5,vI s1.1),(6,vI s1.2)]∧HL st []) (fun (r5:Int) e fr st=>e = .exit 0∧Rd fr [(5,vI r5)]∧HL st []) ⟨H.tq,K.keep []⟩ ?_ ?_
  ·intro s1 fr st r hi hr
   obtain ⟨H,K⟩:=hi
   refine W_seq (W_seq ?_)
   refine W_reg ?_
   refine qg 3 [(7,vI s1.2),(9,vL tNode a0.kids .shut)] H fun fr H=>?_
   refine qln tNode 22 a0.kids .shut H fun fr H=>?_
   refine qg 2 [(12,vB (decide (s1.2 < (a0.kids.length:Int))))] H fun fr H=>?_
   refine qg 4 [(16,vB ((decide (s1.2 < (a0.kids.length:Int))) && (decide (s1.1≤a1))))] H (hs:=by intro _ _; generalize (decide (s1.2 < (a0.kids.length:Int))) = b0; cases b0 <;> kernel_rfl) fun fr H=>?_
   refine qe ?_
   rcases csplit hr with ⟨hc2,hr⟩ | ⟨hc2,hr⟩
   rotate_left
   ·refine qF H hc2 ?_
    refine W_exit ?_
    obtain rfl:=Option.some.inj hr
    exact ⟨by simp,⟨rfl,H.tq,K.keep []⟩⟩
   refine qT H hc2 ?_
   refine W_skip ?_
   refine W_seq (W_block ?_)
   refine W_reg ?_
   refine qg 4 [(19,vI s1.1),(21,vL tNode a0.kids .shut),(22,vI s1.2)] H fun fr H=>?_
   refine qix tNode 22 .shut hr H fun x3 hr hx3 fr H=>?_
   refine qg 4 [(24,aN x3),(27,vI (w64 (a1 - s1.1)))] H fun fr H=>?_
   refine qb hr (fun x h s=>ih_F60 _ _ x h (p0:=.shut)) H fun x4 hr fr H=>?_
   refine qg 2 [(5,vI (w64 (s1.1 + x4)))] H fun fr H=>?_
   refine qe ?_
   refine W_reg ?_
   refine qg 3 [(6,vI (w64 (s1.2 + 1)))] H fun fr H=>?_
   refine qe ?_
   obtain rfl:=Option.some.inj hr
   exact ⟨rfl,⟨H.tq,K.keep []⟩⟩
  rintro e fr st ⟨rfl,H,K⟩
  refine W_seq (W_reg ?_)
  refine qg 2 [(4,vI r5)] H fun fr H=>?_
  refine qe ?_
  refine W_ret ?_
  obtain rfl:=Option.some.inj hr
  exact qr [vI r5] H K
theorem F60_R (n:Nat) (a0:Node) (a1:Int) (r:Int) (hr:F60 n a0 a1 = some r) {st:St} {p0:Spare}:R Tryz.prog AN 60 [.agg (cNode p0 a0),vI a1] st (.ret (vI r)) st:=(F60_RR n) a0 a1 r hr
def F26 (n:Nat) (a0:Node) (a1:Int):Option Bool :=
 (F60 n a0 a1).bind fun x1 =>
 some (decide (x1≤a1))
theorem F26_R (n:Nat) (a0:Node) (a1:Int) (r:Bool) (hr:F26 n a0 a1 = some r) {st:St} {p0:Spare}:R Tryz.prog AN 26 [.agg (cNode p0 a0),vI a1] st (.ret (vB r)) st:=by
 unfold F26 at hr
 refine R_pureX [aN a0,vI a1] [(0,aN a0),(1,vI a1)] Tryz.func26 rfl (by simp only [strip,stripL,stripL_cNode,Option.bind_some,Option.map_some]) rfl fun fr st H K=>?_
 refine W_seq (W_reg ?_)
 refine qg 2 [(2,cN a0 0)] H fun fr H=>?_
 refine qe ?_
 refine W_seq (W_reg ?_)
 refine qg 2 [(5,aN a0),(6,vI a1)] H fun fr H=>?_
 refine qb hr (fun x h s=>F60_R n _ _ x h (p0:=.shut)) H fun x1 hr fr H=>?_
 refine qg 3 [(4,vB (decide (x1≤a1)))] H fun fr H=>?_
 refine qe ?_
 refine W_ret ?_
 obtain rfl:=Option.some.inj hr
 exact qr [vB (decide (x1≤a1))] H K
def F34_step (F34:Node→Option Node) (n:Nat) (a0:Node):Option Node :=
 (iter (σ:=Int × Node) (ρ:=Node) (fun s3=>bif decide (s3.1 < (a0.kids.length:Int)) then
   ((idxL a0.kids s3.1).bind fun x5 =>
   (F34 x5).bind fun x6 =>
   (appL 104 s3.2.kids ([x6]:List Node)).bind fun x7 =>
   some (.inl (w64 (s3.1 + 1),(Node.mk s3.2.kind s3.2.name s3.2.other s3.2.n s3.2.len s3.2.init s3.2.ghost x7 s3.2.pos))))
  else
   (some (.inr s3.2))) n ((0:Int),(Node.mk a0.kind a0.name a0.other a0.n a0.len a0.init a0.ghost ([]:List Node) 0))).bind fun r9 =>
 some r9
def F34:Nat→Node→Option Node
 | 0,_=>none
 | n + 1,a0=>F34_step (F34 n) n a0
theorem F34_RR (n:Nat):(∀ (a0:Node) (r:Node),F34 n a0 = some r→∀ {st:St} {p0:Spare},R Tryz.prog AN 34 [.agg (cNode p0 a0)] st (.ret (aN r)) st):=by
 induction n with
 | zero=>(intros; contradiction)
 | succ n ih =>
  have ih_F34:=@ih; clear ih
  intro a0 r hr st p0
  change F34_step (F34 n) n a0 = some r at hr
  unfold F34_step at hr
  refine R_pureX [aN a0] [(0,aN a0)] Tryz.func34 rfl (by simp only [strip,stripL,stripL_cNode,Option.bind_some,Option.map_some]) rfl fun fr st H K=>?_
  refine W_seq (W_reg ?_)
  refine qg 1 [(1,cN a0 0)] H fun fr H=>?_
  refine qal 24 [vI 0,vS (bs []),vS (bs []),vI 0,vI 0,vI 0,vB false,vL tNode ([]:List Node) .nil,vI 0] H K fun id1 st K fr H=>?_
  refine qe ?_
  refine W_seq (W_reg ?_)
  refine qg 1 [(5,aN a0)] H fun fr H=>?_
  refine qal 24 [vI 0,vS (bs []),vS (bs []),vI 0,vI 0,vI 0,vB false,vL tNode ([]:List Node) .nil,vI 0] H K fun id2 st K fr H=>?_
  refine qst 24 0 (aN a0) [vI a0.kind,vS a0.name,vS a0.other,vI a0.n,vI a0.len,vI a0.init,vB a0.ghost,vL tNode a0.kids .shut,vI a0.pos] 0 H K rfl fun st K fr H=>?_
  refine qe ?_
  refine W_seq (W_reg ?_)
  refine qg 1 [(6,.ptr id2 8)] H fun fr H=>?_
  refine qst 3 8 (vI 0) [vI a0.kind,vS a0.name,vS a0.other,vI a0.n,vI a0.len,vI a0.init,vB a0.ghost,vL tNode a0.kids .shut,vI 0] 0 H K rfl fun st K fr H=>?_
  refine qe ?_
  refine W_seq (W_reg ?_)
  refine qg 1 [(7,.ptr id2 7)] H fun fr H=>?_
  refine qst 22 7 (vL tNode ([]:List Node) .nil) [vI a0.kind,vS a0.name,vS a0.other,vI a0.n,vI a0.len,vI a0.init,vB a0.ghost,vL tNode ([]:List Node) .nil,vI 0] 0 H K rfl fun st K fr H=>?_
  refine qe ?_
  refine W_seq (W_seq ?_)
  refine W_reg ?_
  refine qg 1 [(4,vI 0)] H fun fr H=>?_
  refine qe ?_
  refine W_block ?_
  obtain ⟨r9,hr9,hr⟩:=obind hr
  refine W_iter hr9 (fun (s3:Int × Node) fr st=>∃ (s3sp0:Spare),Rd fr [(1,cN a0 0),(2,.ptr id1 0),(3,.ptr id2 0),(4,vI s3.1)]∧HL st [.own s3sp0,.obj id2 (.cells 24 [vI s3.2.kind,vS s3.2.name,vS s3.2.other,vI s3.2.n,vI s3.2.len,vI s3.2.init,vB s3.2.ghost,vL tNode s3.2.kids s3sp0,vI s3.2.pos]),.obj id1 (.cells 24 [vI 0,vS (bs []),vS (bs []),vI 0,vI 0,vI 0,vB false,vL tNode ([]:List Node) .nil,vI 0])]) (fun (r9:Node) e fr st=>e = .exit 0∧∃ (r9sp0:Spare),Rd fr [(2,.ptr id1 0),(3,.ptr id2 0)]∧HL st [.own r9sp0,.obj id2 (.cells 24 [vI r9.kind,vS r9.name,vS r9.other,vI r9.n,vI r9.len,vI r9.init,vB r9.ghost,vL tNode r9.kids r9sp0,vI r9.pos]),.obj id1 (.cells 24 [vI 0,vS (bs []),vS (bs []),vI 0,vI 0,vI 0,vB false,vL tNode ([]:List Node) .nil,vI 0])]) ⟨.nil,H.tq,((K.keep [true,true]).nilo)⟩ ?_ ?_
  ·intro s3 fr st r hi hr
   obtain ⟨s3sp0,H,K⟩:=hi
   refine W_seq (W_seq ?_)
   refine W_reg ?_
   refine qg 3 [(8,vI s3.1),(10,vL tNode a0.kids .shut)] H fun fr H=>?_
   refine qln tNode 22 a0.kids .shut H fun fr H=>?_
   refine qg 1 [(12,vB (decide (s3.1 < (a0.kids.length:Int))))] H fun fr H=>?_
   refine qe ?_
   rcases csplit hr with ⟨hc4,hr⟩ | ⟨hc4,hr⟩
   rotate_left
   ·refine qF H hc4 ?_
    refine W_exit ?_
    obtain rfl:=Option.some.inj hr
    exact ⟨by simp,⟨rfl,s3sp0,H.tq,K.keep [true,true,true]⟩⟩
   refine qT H hc4 ?_
   refine W_skip ?_
   refine W_seq (W_block ?_)
   refine W_drw ?_
   refine qg 1 [(15,.ptr id2 7)] H fun fr H=>?_
   refine qld 22 7 (vL tNode s3.2.kids s3sp0) 1 H K rfl fun fr H=>?_
   refine qg 3 [(18,vL tNode a0.kids .shut),(19,vI s3.1)] H fun fr H=>?_
   refine qix tNode 22 .shut hr H fun x5 hr hx5 fr H=>?_
   refine qg 1 [(21,aN x5)] H fun fr H=>?_
   refine qb hr (fun x h s=>ih_F34 _ x h (p0:=.shut)) H fun x6 hr fr H=>?_
   refine qv (.buildSlice 22 1 [(0,aN x6)]) H (run_bslice (v:=vL tNode ([x6]:List Node) .full) (v0:=.slice [aN x6] .full) (by kernel_rfl) (by simp only [List.map,vL,tNode_e,eNode_eq,cNode] <;> rfl)) fun fr H=>?_
   refine qapp tNode 104 22 22 .full hr 0 H K rfl fun x7 hr sp8 st K fr H=>?_
   refine qg 1 [(25,.ptr id2 7)] H fun fr H=>?_
   refine qst 22 7 (vL tNode x7 sp8) [vI s3.2.kind,vS s3.2.name,vS s3.2.other,vI s3.2.n,vI s3.2.len,vI s3.2.init,vB s3.2.ghost,vL tNode x7 sp8,vI s3.2.pos] 1 H K rfl fun st K fr H=>?_
   refine qe (qdI K [0,.look (some 0),0,0,0,0,0,0,0,.keep [],0,.put 0] ?_)
   refine W_reg ?_
   refine qg 3 [(4,vI (w64 (s3.1 + 1)))] H fun fr H=>?_
   refine qe ?_
   obtain rfl:=Option.some.inj hr
   exact ⟨rfl,⟨sp8,H.tq,K.keep [true,true,true]⟩⟩
  rintro e fr st ⟨rfl,r9sp0,H,K⟩
  refine W_seq (W_reg ?_)
  refine qld 24 0 (aN r9) 1 H K rfl fun fr H=>?_
  refine qst 24 0 (aN r9) [vI r9.kind,vS r9.name,vS r9.other,vI r9.n,vI r9.len,vI r9.init,vB r9.ghost,vL tNode r9.kids .shut,vI r9.pos] 2 H K rfl fun st K fr H=>?_
  refine qe ?_
  refine W_ret ?_
  obtain rfl:=Option.some.inj hr
  exact e_ret [aN r9] H K (fun _=>resC id1 0 24 [vI r9.kind,vS r9.name,vS r9.other,vI r9.n,vI r9.len,vI r9.init,vB r9.ghost,vL tNode r9.kids .shut,vI r9.pos] 2 (by kernel_rfl) rfl (by kernel_rfl) resN) (fun _=>by simp only [strip,stripL_cNode,Option.map_some,oneOf] <;> rfl)
theorem F34_R (n:Nat) (a0:Node) (r:Node) (hr:F34 n a0 = some r) {st:St} {p0:Spare}:R Tryz.prog AN 34 [.agg (cNode p0 a0)] st (.ret (aN r)) st:=(F34_RR n) a0 r hr
end Go.Proofs.YtbecjgckobhmpaaGreatDoor
end
section
namespace Go.Proofs.YtbecjgckobhmpaaGreatDoor
open Go Go.AM Go.Proofs
set_option maxRecDepth 100000
set_option maxHeartbeats 4000000
end Go.Proofs.YtbecjgckobhmpaaGreatDoor
end
section
namespace Go.Proofs.YtbecjgckobhmpaaGreatDoor
open Go Go.AM Go.Proofs
set_option maxRecDepth 100000
set_option maxHeartbeats 4000000
def F113 (a0:ByteArray) (a1:Int) (a2:ByteArray):Option Bool :=
 bif decide ((w64 (a1 + (a2.size:Int)))≤(a0.size:Int)) then
  ((subS a0 a1 (w64 (a1 + (a2.size:Int)))).bind fun x2 =>
  some (strEq x2 a2))
 else
  (some false)
theorem F113_R (a0:ByteArray) (a1:Int) (a2:ByteArray) (r:Bool) (hr:F113 a0 a1 a2 = some r) {st:St}:R Tryz.prog AN 113 [vS a0,vI a1,vS a2] st (.ret (vB r)) st:=by
 unfold F113 at hr
 refine R_pureX [vS a0,vI a1,vS a2] [(0,vS a0),(1,vI a1),(2,vS a2)] Tryz.func113 rfl (by kernel_rfl) rfl fun fr st H K=>?_
 refine W_seq (W_reg ?_)
 refine qg 1 [] H fun fr H=>?_
 refine qe ?_
 refine W_seq (W_reg ?_)
 refine qg 8 [(14,vB (decide ((w64 (a1 + (a2.size:Int)))≤(a0.size:Int))))] H fun fr H=>?_
 rcases csplit hr with ⟨hc1,hr⟩ | ⟨hc1,hr⟩
 rotate_left
 ·rw [hc1] at H
  refine qg 11 [(6,vB false)] H fun fr H=>?_
  refine qe ?_
  refine W_ret ?_
  obtain rfl:=Option.some.inj hr
  exact qr [vB false] H K
 rw [hc1] at H
 refine qg 6 [(15,vS a0),(16,vI a1),(20,vI (w64 (a1 + (a2.size:Int))))] H fun fr H=>?_
 obtain ⟨x2,hx2,hr⟩:=obind hr
 refine qv (.slice 9 (vS a0) (some (vI a1)) (some (vI (w64 (a1 + (a2.size:Int)))))) H (run_subS (by kernel_rfl) hx2) fun fr H=>?_
 refine qg 4 [(6,vB (strEq x2 a2))] H fun fr H=>?_
 refine qe ?_
 refine W_ret ?_
 obtain rfl:=Option.some.inj hr
 exact qr [vB (strEq x2 a2)] H K
def F114 (a0:Int):Option Bool :=
 some ((((a0 == 32) || (a0 == 9)) || (a0 == 10)) || (a0 == 13))
theorem F114_R (a0:Int) (r:Bool) (hr:F114 a0 = some r) {st:St}:R Tryz.prog AN 114 [vU a0] st (.ret (vB r)) st:=by
 unfold F114 at hr
 refine R_pureX [vU a0] [(0,vU a0)] Tryz.func114 rfl (by kernel_rfl) rfl fun fr st H K=>?_
 refine W_seq (W_reg ?_)
 refine qg 1 [] H fun fr H=>?_
 refine qe ?_
 refine W_seq (W_reg ?_)
 refine qg 3 [(5,vB (a0 == 32))] H fun fr H=>?_
 refine qg 3 [(8,vB ((a0 == 32) || (a0 == 9)))] H (hs:=by intro _ _; generalize (a0 == 32) = b0; cases b0 <;> kernel_rfl) fun fr H=>?_
 refine qg 1 [(9,vB ((a0 == 32) || (a0 == 9)))] H fun fr H=>?_
 refine qg 3 [(12,vB (((a0 == 32) || (a0 == 9)) || (a0 == 10)))] H (hs:=by intro _ _; generalize ((a0 == 32) || (a0 == 9)) = b0; cases b0 <;> kernel_rfl) fun fr H=>?_
 refine qg 1 [(13,vB (((a0 == 32) || (a0 == 9)) || (a0 == 10)))] H fun fr H=>?_
 refine qg 3 [(16,vB ((((a0 == 32) || (a0 == 9)) || (a0 == 10)) || (a0 == 13)))] H (hs:=by intro _ _; generalize (((a0 == 32) || (a0 == 9)) || (a0 == 10)) = b0; cases b0 <;> kernel_rfl) fun fr H=>?_
 refine qg 1 [(2,vB ((((a0 == 32) || (a0 == 9)) || (a0 == 10)) || (a0 == 13)))] H fun fr H=>?_
 refine qe ?_
 refine W_ret ?_
 obtain rfl:=Option.some.inj hr
 exact qr [vB ((((a0 == 32) || (a0 == 9)) || (a0 == 10)) || (a0 == 13))] H K
def F74 (n:Nat) (a0:ByteArray) (a1:Int):Option Int :=
 (iter (σ:=Int) (ρ:=Int ⊕ Int) (fun s1=>bif decide (s1 < (a0.size:Int)) then
   ((F113 a0 s1 (bs [47,47])).bind fun x3 =>
   bif x3 then
    ((iter (σ:=Int) (ρ:=Int) (fun s5=>bif decide (s5 < (a0.size:Int)) then
      ((idxS a0 s5).bind fun x7 =>
      bif x7 != 10 then
       (some (.inl (w64 (s5 + 1))))
      else
       (some (.inr s5)))
     else
      (some (.inr s5))) n s1).bind fun r9 =>
    some (.inl r9))
   else
    ((idxS a0 s1).bind fun x10 =>
    (F114 x10).bind fun x11 =>
    bif x11 then
     (some (.inl (w64 (s1 + 1))))
    else
     (some (.inr (.inl s1)))))
  else
   (some (.inr (.inr s1)))) n a1).bind fun r13=>match r13 with
 | .inl r13a=>some r13a
 | .inr r13b=>some r13b
theorem F74_R (n:Nat) (a0:ByteArray) (a1:Int) (r:Int) (hr:F74 n a0 a1 = some r) {st:St}:R Tryz.prog AN 74 [vS a0,vI a1] st (.ret (vI r)) st:=by
 unfold F74 at hr
 refine R_pureX [vS a0,vI a1] [(0,vS a0),(1,vI a1)] Tryz.func74 rfl (by kernel_rfl) rfl fun fr st H K=>?_
 refine W_seq (W_reg ?_)
 refine qg 1 [] H fun fr H=>?_
 refine qe ?_
 refine W_seq (W_block ?_)
 obtain ⟨r13,hr13,hr⟩:=obind hr
 refine W_iter hr13 (fun (s1:Int) fr st=>Rd fr [(0,vS a0),(1,vI s1)]∧HL st []) (fun (r13:Int ⊕ Int) e fr st=>match r13 with | .inl r13a=>(e = .ret∧Rd fr [(4,vI r13a)]∧HL st []) | .inr r13b=>(e = .exit 0∧Rd fr [(1,vI r13b)]∧HL st [])) ⟨H.tq,K.keep []⟩ ?_ ?_
 ·intro s1 fr st r hi hr
  obtain ⟨H,K⟩:=hi
  refine W_seq (W_seq ?_)
  refine W_reg ?_
  refine qg 4 [(8,vB (decide (s1 < (a0.size:Int))))] H fun fr H=>?_
  refine qe ?_
  rcases csplit hr with ⟨hc2,hr⟩ | ⟨hc2,hr⟩
  rotate_left
  ·refine qF H hc2 ?_
   refine W_exit ?_
   obtain rfl:=Option.some.inj hr
   exact ⟨by simp,⟨rfl,H.tq,K.keep []⟩⟩
  refine qT H hc2 ?_
  refine W_skip ?_
  refine W_block ?_
  refine W_seq (W_reg ?_)
  refine qg 2 [(9,vS a0),(10,vI s1)] H fun fr H=>?_
  refine qb hr (fun x h s=>F113_R  _ _ _ x h) H fun x3 hr fr H=>?_
  refine qe ?_
  rcases csplit hr with ⟨hc4,hr⟩ | ⟨hc4,hr⟩
  rotate_left
  ·refine qF H hc4 ?_
   refine W_seq (W_reg ?_)
   refine qg 2 [(24,vS a0),(25,vI s1)] H fun fr H=>?_
   obtain ⟨x10,hx10,hr⟩:=obind hr
   refine qv (.index 9 (vS a0) (vI s1)) H (run_idxS (by kernel_rfl) hx10) fun fr H=>?_
   refine qb hr (fun x h s=>F114_R  _ x h) H fun x11 hr fr H=>?_
   refine qe ?_
   rcases csplit hr with ⟨hc12,hr⟩ | ⟨hc12,hr⟩
   ·refine qT H hc12 ?_
    refine W_reg ?_
    refine qg 3 [(1,vI (w64 (s1 + 1)))] H fun fr H=>?_
    refine qe ?_
    obtain rfl:=Option.some.inj hr
    exact ⟨rfl,⟨H.tq,K.keep []⟩⟩
   refine qF H hc12 ?_
   refine W_seq (W_reg ?_)
   refine qg 2 [(4,vI s1)] H fun fr H=>?_
   refine qe ?_
   refine W_ret ?_
   obtain rfl:=Option.some.inj hr
   exact ⟨by simp,⟨rfl,H.tq,K.keep []⟩⟩
  refine qT H hc4 ?_
  refine W_block ?_
  obtain ⟨r9,hr9,hr⟩:=obind hr
  refine W_iter hr9 (fun (s5:Int) fr st=>Rd fr [(0,vS a0),(1,vI s5)]∧HL st []) (fun (r9:Int) e fr st=>e = .exit 2∧Rd fr [(0,vS a0),(1,vI r9)]∧HL st []) ⟨H.tq,K.keep []⟩ ?_ ?_
  ·intro s5 fr st r hi hr
   obtain ⟨H,K⟩:=hi
   refine W_seq (W_seq ?_)
   refine W_reg ?_
   refine qg 5 [(16,vB (decide (s5 < (a0.size:Int))))] H fun fr H=>?_
   rcases csplit hr with ⟨hc6,hr⟩ | ⟨hc6,hr⟩
   rotate_left
   ·rw [hc6] at H
    refine qg 5 [(21,vB false)] H fun fr H=>?_
    refine qe ?_
    refine qF H rfl ?_
    refine W_exit ?_
    obtain rfl:=Option.some.inj hr
    exact ⟨by simp,⟨rfl,H.tq,K.keep []⟩⟩
   rw [hc6] at H
   refine qg 2 [(17,vS a0),(18,vI s5)] H fun fr H=>?_
   obtain ⟨x7,hx7,hr⟩:=obind hr
   refine qv (.index 9 (vS a0) (vI s5)) H (run_idxS (by kernel_rfl) hx7) fun fr H=>?_
   refine qg 2 [(21,vB (x7 != 10))] H fun fr H=>?_
   refine qe ?_
   rcases csplit hr with ⟨hc8,hr⟩ | ⟨hc8,hr⟩
   rotate_left
   ·refine qF H hc8 ?_
    refine W_exit ?_
    obtain rfl:=Option.some.inj hr
    exact ⟨by simp,⟨rfl,H.tq,K.keep []⟩⟩
   refine qT H hc8 ?_
   refine W_skip ?_
   refine W_block ?_
   refine W_reg ?_
   refine qg 3 [(1,vI (w64 (s5 + 1)))] H fun fr H=>?_
   refine qe ?_
   obtain rfl:=Option.some.inj hr
   exact ⟨rfl,⟨H.tq,K.keep []⟩⟩
  rintro e fr st ⟨rfl,H,K⟩
  obtain rfl:=Option.some.inj hr
  exact ⟨rfl,⟨H.tq,K.keep []⟩⟩
 rcases r13 with r13a | r13b
 ·rintro e fr st ⟨rfl,H,K⟩
  obtain rfl:=Option.some.inj hr
  exact qr [vI r13a] H K
 rintro e fr st ⟨rfl,H,K⟩
 refine W_seq (W_reg ?_)
 refine qg 2 [(4,vI r13b)] H fun fr H=>?_
 refine qe ?_
 refine W_ret ?_
 obtain rfl:=Option.some.inj hr
 exact qr [vI r13b] H K
def F115 (a0:Int):Option Bool :=
 some (((decide (97≤a0)) && (decide (a0≤122))) || ((decide (65≤a0)) && (decide (a0≤90))))
theorem F115_R (a0:Int) (r:Bool) (hr:F115 a0 = some r) {st:St}:R Tryz.prog AN 115 [vU a0] st (.ret (vB r)) st:=by
 unfold F115 at hr
 refine R_pureX [vU a0] [(0,vU a0)] Tryz.func115 rfl (by kernel_rfl) rfl fun fr st H K=>?_
 refine W_seq (W_reg ?_)
 refine qg 1 [] H fun fr H=>?_
 refine qe ?_
 refine W_seq (W_reg ?_)
 refine qg 3 [(5,vB (decide (97≤a0)))] H fun fr H=>?_
 refine qg 3 [(8,vB ((decide (97≤a0)) && (decide (a0≤122))))] H (hs:=by intro _ _; generalize (decide (97≤a0)) = b0; cases b0 <;> kernel_rfl) fun fr H=>?_
 refine qg 1 [(9,vB ((decide (97≤a0)) && (decide (a0≤122))))] H fun fr H=>?_
 refine qseg 7 [(16,vB (((decide (97≤a0)) && (decide (a0≤122))) || ((decide (65≤a0)) && (decide (a0≤90)))))] H ?_ ?_
 ·cases hg1:((decide (97≤a0)) && (decide (a0≤122)))
  ·rw [hg1] at H
   refine seg_go 4 3 [(12,vB (decide (65≤a0)))] H fun fr H=>?_
   cases hg2:(decide (65≤a0))
   ·rw [hg2] at H
    refine seg_go 0 4 [(16,vB false)] H fun fr H=>?_
    exact seg_end (by (try simp only [hg1,hg2]); exact H.tq)
   ·rw [hg2] at H
    refine seg_go 0 4 [(16,vB (decide (a0≤90)))] H fun fr H=>?_
    exact seg_end (by (try simp only [hg1,hg2]); exact H.tq)
  ·rw [hg1] at H
   refine seg_go 0 7 [(16,vB true)] H fun fr H=>?_
   exact seg_end (by (try simp only [hg1]); exact H.tq)
 intro fr H
 refine qg 1 [(2,vB (((decide (97≤a0)) && (decide (a0≤122))) || ((decide (65≤a0)) && (decide (a0≤90)))))] H fun fr H=>?_
 refine qe ?_
 refine W_ret ?_
 obtain rfl:=Option.some.inj hr
 exact qr [vB (((decide (97≤a0)) && (decide (a0≤122))) || ((decide (65≤a0)) && (decide (a0≤90))))] H K
def F117 (a0:Int):Option Bool :=
 some ((decide (48≤a0)) && (decide (a0≤57)))
theorem F117_R (a0:Int) (r:Bool) (hr:F117 a0 = some r) {st:St}:R Tryz.prog AN 117 [vU a0] st (.ret (vB r)) st:=by
 unfold F117 at hr
 refine R_pureX [vU a0] [(0,vU a0)] Tryz.func117 rfl (by kernel_rfl) rfl fun fr st H K=>?_
 refine W_seq (W_reg ?_)
 refine qg 1 [] H fun fr H=>?_
 refine qe ?_
 refine W_seq (W_reg ?_)
 refine qg 3 [(5,vB (decide (48≤a0)))] H fun fr H=>?_
 refine qg 3 [(8,vB ((decide (48≤a0)) && (decide (a0≤57))))] H (hs:=by intro _ _; generalize (decide (48≤a0)) = b0; cases b0 <;> kernel_rfl) fun fr H=>?_
 refine qg 1 [(2,vB ((decide (48≤a0)) && (decide (a0≤57))))] H fun fr H=>?_
 refine qe ?_
 refine W_ret ?_
 obtain rfl:=Option.some.inj hr
 exact qr [vB ((decide (48≤a0)) && (decide (a0≤57)))] H K
def F116 (n:Nat) (a0:ByteArray) (a1:Int):Option (Token × Bool) :=
 (iter (σ:=Int) (ρ:=Int) (fun s2=>bif decide (s2 < (a0.size:Int)) then
   ((idxS a0 s2).bind fun x4 =>
   (F115 x4).bind fun x5 =>
   bif x5 then
    (some (.inl (w64 (s2 + 1))))
   else
    ((idxS a0 s2).bind fun x7 =>
    (F117 x7).bind fun x8 =>
    bif x8 then
     (some (.inl (w64 (s2 + 1))))
    else
     ((idxS a0 s2).bind fun x10 =>
     bif x10 == 95 then
      (some (.inl (w64 (s2 + 1))))
     else
      (some (.inr s2)))))
  else
   (some (.inr s2))) n a1).bind fun r12 =>
 (subS a0 a1 r12).bind fun x13 =>
 some ((Token.mk 1 x13 a1),(decide ((w64 (r12 - a1))≤16)))
theorem F116_R (n:Nat) (a0:ByteArray) (a1:Int) (r:Token × Bool) (hr:F116 n a0 a1 = some r) {st:St}:R Tryz.prog AN 116 [vS a0,vI a1] st (.ret (.tuple [.agg (cToken r.1),vB r.2])) st:=by
 unfold F116 at hr
 refine R_pureX [vS a0,vI a1] [(0,vS a0),(1,vI a1)] Tryz.func116 rfl (by kernel_rfl) rfl fun fr st H K=>?_
 refine W_seq (W_reg ?_)
 refine qal 61 [vI 0,vS (bs []),vI 0] H K fun id1 st K fr H=>?_
 refine qg 1 [] H fun fr H=>?_
 refine qe ?_
 refine W_seq (W_reg ?_)
 refine qg 2 [(6,vI a1)] H fun fr H=>?_
 refine qe ?_
 refine W_seq (W_block ?_)
 obtain ⟨r12,hr12,hr⟩:=obind hr
 refine W_iter hr12 (fun (s2:Int) fr st=>Rd fr [(0,vS a0),(1,vI a1),(4,.ptr id1 0),(6,vI s2)]∧HL st [.obj id1 (.cells 61 [vI 0,vS (bs []),vI 0])]) (fun (r12:Int) e fr st=>e = .exit 0∧Rd fr [(0,vS a0),(1,vI a1),(4,.ptr id1 0),(6,vI r12)]∧HL st [.obj id1 (.cells 61 [vI 0,vS (bs []),vI 0])]) ⟨H.tq,K.keep [true]⟩ ?_ ?_
 ·intro s2 fr st r hi hr
  obtain ⟨H,K⟩:=hi
  refine W_seq (W_seq ?_)
  refine W_reg ?_
  refine qg 5 [(12,vB (decide (s2 < (a0.size:Int))))] H fun fr H=>?_
  rcases csplit hr with ⟨hc3,hr⟩ | ⟨hc3,hr⟩
  rotate_left
  ·rw [hc3] at H
   refine qg 17 [(29,vB false)] H fun fr H=>?_
   refine qe ?_
   refine qF H rfl ?_
   refine W_exit ?_
   obtain rfl:=Option.some.inj hr
   exact ⟨by simp,⟨rfl,H.tq,K.keep [true]⟩⟩
  rw [hc3] at H
  refine qg 2 [(13,vS a0),(14,vI s2)] H fun fr H=>?_
  obtain ⟨x4,hx4,hr⟩:=obind hr
  refine qv (.index 9 (vS a0) (vI s2)) H (run_idxS (by kernel_rfl) hx4) fun fr H=>?_
  refine qb hr (fun x h s=>F115_R  _ x h) H fun x5 hr fr H=>?_
  refine qg 1 [(17,vB x5)] H fun fr H=>?_
  rcases csplit hr with ⟨hc6,hr⟩ | ⟨hc6,hr⟩
  ·rw [hc6] at H
   refine qg 12 [(29,vB true)] H fun fr H=>?_
   refine qe ?_
   refine qT H rfl ?_
   refine W_skip ?_
   refine W_block ?_
   refine W_reg ?_
   refine qg 3 [(6,vI (w64 (s2 + 1)))] H fun fr H=>?_
   refine qe ?_
   obtain rfl:=Option.some.inj hr
   exact ⟨rfl,⟨H.tq,K.keep [true]⟩⟩
  rw [hc6] at H
  refine qg 2 [(18,vS a0),(19,vI s2)] H fun fr H=>?_
  obtain ⟨x7,hx7,hr⟩:=obind hr
  refine qv (.index 9 (vS a0) (vI s2)) H (run_idxS (by kernel_rfl) hx7) fun fr H=>?_
  refine qb hr (fun x h s=>F117_R  _ x h) H fun x8 hr fr H=>?_
  refine qg 2 [(23,vB x8)] H fun fr H=>?_
  rcases csplit hr with ⟨hc9,hr⟩ | ⟨hc9,hr⟩
  ·rw [hc9] at H
   refine qg 6 [(29,vB true)] H fun fr H=>?_
   refine qe ?_
   refine qT H rfl ?_
   refine W_skip ?_
   refine W_block ?_
   refine W_reg ?_
   refine qg 3 [(6,vI (w64 (s2 + 1)))] H fun fr H=>?_
   refine qe ?_
   obtain rfl:=Option.some.inj hr
   exact ⟨rfl,⟨H.tq,K.keep [true]⟩⟩
  rw [hc9] at H
  refine qg 2 [(24,vS a0),(25,vI s2)] H fun fr H=>?_
  obtain ⟨x10,hx10,hr⟩:=obind hr
  refine qv (.index 9 (vS a0) (vI s2)) H (run_idxS (by kernel_rfl) hx10) fun fr H=>?_
  refine qg 3 [(29,vB (x10 == 95))] H fun fr H=>?_
  refine qe ?_
  rcases csplit hr with ⟨hc11,hr⟩ | ⟨hc11,hr⟩
  rotate_left
  ·refine qF H hc11 ?_
   refine W_exit ?_
   obtain rfl:=Option.some.inj hr
   exact ⟨by simp,⟨rfl,H.tq,K.keep [true]⟩⟩
  refine qT H hc11 ?_
  refine W_skip ?_
  refine W_block ?_
  refine W_reg ?_
  refine qg 3 [(6,vI (w64 (s2 + 1)))] H fun fr H=>?_
  refine qe ?_
  obtain rfl:=Option.some.inj hr
  exact ⟨rfl,⟨H.tq,K.keep [true]⟩⟩
 rintro e fr st ⟨rfl,H,K⟩
 refine W_seq (W_reg ?_)
 refine qg 3 [(32,vS a0),(33,vI a1),(34,vI r12)] H fun fr H=>?_
 obtain ⟨x13,hx13,hr⟩:=obind hr
 refine qv (.slice 9 (vS a0) (some (vI a1)) (some (vI r12))) H (run_subS (by kernel_rfl) hx13) fun fr H=>?_
 refine qg 6 [(37,.agg [vI 1,vS x13,vI a1]),(41,vB (decide ((w64 (r12 - a1))≤16)))] H fun fr H=>?_
 refine qst 61 0 (.agg [vI 1,vS x13,vI a1]) [vI 1,vS x13,vI a1] 0 H K rfl fun st K fr H=>?_
 refine qg 1 [(5,vB (decide ((w64 (r12 - a1))≤16)))] H fun fr H=>?_
 refine qe ?_
 refine W_ret ?_
 obtain rfl:=Option.some.inj hr
 exact e_ret [.agg [vI 1,vS x13,vI a1],vB (decide ((w64 (r12 - a1))≤16))] H K (fun _=>resC id1 0 61 [vI 1,vS x13,vI a1] 0 (by kernel_rfl) rfl (by kernel_rfl) (resT (by kernel_rfl) resN)) (fun _=>by kernel_rfl)
def F118 (n:Nat) (a0:ByteArray) (a1:Int):Option (Token × Bool) :=
 (iter (σ:=Int) (ρ:=Int) (fun s2=>bif decide (s2 < (a0.size:Int)) then
   ((idxS a0 s2).bind fun x4 =>
   (F117 x4).bind fun x5 =>
   bif x5 then
    (some (.inl (w64 (s2 + 1))))
   else
    (some (.inr s2)))
  else
   (some (.inr s2))) n a1).bind fun r7 =>
 (bif decide ((w64 (r7 - a1))≤9) then
   ((idxS a0 a1).bind fun x9 =>
   some ((x9 != 48) || (r7 == (w64 (a1 + 1)))))
  else
   (some false):Option (Bool)).bind fun j10 =>
 (bif decide (r7 < (a0.size:Int)) then
   ((idxS a0 r7).bind fun x12 =>
   (F115 x12).bind fun x13 =>
   bif x13 then
    (some false)
   else
    ((idxS a0 r7).bind fun x15 =>
    bif x15 == 95 then
     (some false)
    else
     (some j10)))
  else
   (some j10):Option (Bool)).bind fun j17 =>
 (subS a0 a1 r7).bind fun x18 =>
 some ((Token.mk 2 x18 a1),j17)
theorem F118_R (n:Nat) (a0:ByteArray) (a1:Int) (r:Token × Bool) (hr:F118 n a0 a1 = some r) {st:St}:R Tryz.prog AN 118 [vS a0,vI a1] st (.ret (.tuple [.agg (cToken r.1),vB r.2])) st:=by
 unfold F118 at hr
 refine R_pureX [vS a0,vI a1] [(0,vS a0),(1,vI a1)] Tryz.func118 rfl (by kernel_rfl) rfl fun fr st H K=>?_
 refine W_seq (W_reg ?_)
 refine qal 61 [vI 0,vS (bs []),vI 0] H K fun id1 st K fr H=>?_
 refine qg 1 [] H fun fr H=>?_
 refine qe ?_
 refine W_seq (W_reg ?_)
 refine qg 2 [(6,vI a1)] H fun fr H=>?_
 refine qe ?_
 refine W_seq (W_block ?_)
 obtain ⟨r7,hr7,hr⟩:=obind hr
 refine W_iter hr7 (fun (s2:Int) fr st=>Rd fr [(0,vS a0),(1,vI a1),(4,.ptr id1 0),(6,vI s2)]∧HL st [.obj id1 (.cells 61 [vI 0,vS (bs []),vI 0])]) (fun (r7:Int) e fr st=>e = .exit 0∧Rd fr [(0,vS a0),(1,vI a1),(4,.ptr id1 0),(6,vI r7)]∧HL st [.obj id1 (.cells 61 [vI 0,vS (bs []),vI 0])]) ⟨H.tq,K.keep [true]⟩ ?_ ?_
 ·intro s2 fr st r hi hr
  obtain ⟨H,K⟩:=hi
  refine W_seq (W_seq ?_)
  refine W_reg ?_
  refine qg 5 [(13,vB (decide (s2 < (a0.size:Int))))] H fun fr H=>?_
  rcases csplit hr with ⟨hc3,hr⟩ | ⟨hc3,hr⟩
  rotate_left
  ·rw [hc3] at H
   refine qg 5 [(18,vB false)] H fun fr H=>?_
   refine qe ?_
   refine qF H rfl ?_
   refine W_exit ?_
   obtain rfl:=Option.some.inj hr
   exact ⟨by simp,⟨rfl,H.tq,K.keep [true]⟩⟩
  rw [hc3] at H
  refine qg 2 [(14,vS a0),(15,vI s2)] H fun fr H=>?_
  obtain ⟨x4,hx4,hr⟩:=obind hr
  refine qv (.index 9 (vS a0) (vI s2)) H (run_idxS (by kernel_rfl) hx4) fun fr H=>?_
  refine qb hr (fun x h s=>F117_R  _ x h) H fun x5 hr fr H=>?_
  refine qg 1 [(18,vB x5)] H fun fr H=>?_
  refine qe ?_
  rcases csplit hr with ⟨hc6,hr⟩ | ⟨hc6,hr⟩
  rotate_left
  ·refine qF H hc6 ?_
   refine W_exit ?_
   obtain rfl:=Option.some.inj hr
   exact ⟨by simp,⟨rfl,H.tq,K.keep [true]⟩⟩
  refine qT H hc6 ?_
  refine W_skip ?_
  refine W_block ?_
  refine W_reg ?_
  refine qg 3 [(6,vI (w64 (s2 + 1)))] H fun fr H=>?_
  refine qe ?_
  obtain rfl:=Option.some.inj hr
  exact ⟨rfl,⟨H.tq,K.keep [true]⟩⟩
 rintro e fr st ⟨rfl,H,K⟩
 refine W_seq ?_
 obtain ⟨j10,hj10,hr⟩:=obind hr
 refine W_via (fun e fr st=>e = .normal∧Rd fr [(0,vS a0),(1,vI a1),(4,.ptr id1 0),(6,vI r7),(7,vB j10)]∧HL st [.obj id1 (.cells 61 [vI 0,vS (bs []),vI 0])]) ?_ ?_
 ·replace hr:=hj10
  refine W_reg ?_
  refine qg 5 [(25,vB (decide ((w64 (r7 - a1))≤9)))] H fun fr H=>?_
  rcases csplit hr with ⟨hc8,hr⟩ | ⟨hc8,hr⟩
  rotate_left
  ·rw [hc8] at H
   refine qg 12 [(7,vB false)] H fun fr H=>?_
   refine qe ?_
   obtain rfl:=Option.some.inj hr
   exact ⟨rfl,H.tq,K.keep [true]⟩
  rw [hc8] at H
  refine qg 2 [(26,vS a0),(27,vI a1)] H fun fr H=>?_
  obtain ⟨x9,hx9,hr⟩:=obind hr
  refine qv (.index 9 (vS a0) (vI a1)) H (run_idxS (by kernel_rfl) hx9) fun fr H=>?_
  refine qg 2 [(30,vB (x9 != 48))] H fun fr H=>?_
  refine qg 6 [(36,vB ((x9 != 48) || (r7 == (w64 (a1 + 1)))))] H (hs:=by intro _ _; generalize (x9 != 48) = b0; cases b0 <;> kernel_rfl) fun fr H=>?_
  refine qg 1 [(7,vB ((x9 != 48) || (r7 == (w64 (a1 + 1)))))] H fun fr H=>?_
  refine qe ?_
  obtain rfl:=Option.some.inj hr
  exact ⟨rfl,H.tq,K.keep [true]⟩
 rintro e fr st ⟨rfl,H,K⟩
 refine W_seq ?_
 obtain ⟨j17,hj17,hr⟩:=obind hr
 refine W_via (fun e fr st=>e = .normal∧Rd fr [(0,vS a0),(1,vI a1),(4,.ptr id1 0),(6,vI r7),(7,vB j17)]∧HL st [.obj id1 (.cells 61 [vI 0,vS (bs []),vI 0])]) ?_ ?_
 ·replace hr:=hj17
  refine W_seq (W_reg ?_)
  refine qg 5 [(41,vB (decide (r7 < (a0.size:Int))))] H fun fr H=>?_
  rcases csplit hr with ⟨hc11,hr⟩ | ⟨hc11,hr⟩
  rotate_left
  ·rw [hc11] at H
   refine qg 11 [(52,vB false)] H fun fr H=>?_
   refine qe ?_
   refine qF H rfl ?_
   refine W_skip ?_
   obtain rfl:=Option.some.inj hr
   exact ⟨rfl,H.tq,K.keep [true]⟩
  rw [hc11] at H
  refine qg 2 [(42,vS a0),(43,vI r7)] H fun fr H=>?_
  obtain ⟨x12,hx12,hr⟩:=obind hr
  refine qv (.index 9 (vS a0) (vI r7)) H (run_idxS (by kernel_rfl) hx12) fun fr H=>?_
  refine qb hr (fun x h s=>F115_R  _ x h) H fun x13 hr fr H=>?_
  refine qg 1 [(46,vB x13)] H fun fr H=>?_
  rcases csplit hr with ⟨hc14,hr⟩ | ⟨hc14,hr⟩
  ·rw [hc14] at H
   refine qg 6 [(52,vB true)] H fun fr H=>?_
   refine qe ?_
   refine qT H rfl ?_
   refine W_reg ?_
   refine qg 1 [(7,vB false)] H fun fr H=>?_
   refine qe ?_
   obtain rfl:=Option.some.inj hr
   exact ⟨rfl,H.tq,K.keep [true]⟩
  rw [hc14] at H
  refine qg 2 [(47,vS a0),(48,vI r7)] H fun fr H=>?_
  obtain ⟨x15,hx15,hr⟩:=obind hr
  refine qv (.index 9 (vS a0) (vI r7)) H (run_idxS (by kernel_rfl) hx15) fun fr H=>?_
  refine qg 3 [(52,vB (x15 == 95))] H fun fr H=>?_
  refine qe ?_
  rcases csplit hr with ⟨hc16,hr⟩ | ⟨hc16,hr⟩
  rotate_left
  ·refine qF H hc16 ?_
   refine W_skip ?_
   obtain rfl:=Option.some.inj hr
   exact ⟨rfl,H.tq,K.keep [true]⟩
  refine qT H hc16 ?_
  refine W_reg ?_
  refine qg 1 [(7,vB false)] H fun fr H=>?_
  refine qe ?_
  obtain rfl:=Option.some.inj hr
  exact ⟨rfl,H.tq,K.keep [true]⟩
 rintro e fr st ⟨rfl,H,K⟩
 refine W_seq (W_reg ?_)
 refine qg 3 [(53,vS a0),(54,vI a1),(55,vI r7)] H fun fr H=>?_
 obtain ⟨x18,hx18,hr⟩:=obind hr
 refine qv (.slice 9 (vS a0) (some (vI a1)) (some (vI r7))) H (run_subS (by kernel_rfl) hx18) fun fr H=>?_
 refine qg 3 [(58,.agg [vI 2,vS x18,vI a1]),(59,vB j17)] H fun fr H=>?_
 refine qst 61 0 (.agg [vI 2,vS x18,vI a1]) [vI 2,vS x18,vI a1] 0 H K rfl fun st K fr H=>?_
 refine qg 1 [(5,vB j17)] H fun fr H=>?_
 refine qe ?_
 refine W_ret ?_
 obtain rfl:=Option.some.inj hr
 exact e_ret [.agg [vI 2,vS x18,vI a1],vB j17] H K (fun _=>resC id1 0 61 [vI 2,vS x18,vI a1] 0 (by kernel_rfl) rfl (by kernel_rfl) (resT (by kernel_rfl) resN)) (fun _=>by kernel_rfl)
def F119 :Option ((List ByteArray)) :=
 some ([(bs [61,61,62]),(bs [58,61]),(bs [61,61]),(bs [33,61]),(bs [60,61]),(bs [38,38]),(bs [124,124]),(bs [123]),(bs [125]),(bs [40]),(bs [41]),(bs [91]),(bs [93]),(bs [59]),(bs [58]),(bs [44]),(bs [46]),(bs [63]),(bs [61]),(bs [33]),(bs [60]),(bs [38]),(bs [124]),(bs [94]),(bs [43]),(bs [45]),(bs [42])]:List ByteArray)
theorem F119_R  (r:(List ByteArray)) (hr:F119  = some r) {st:St}:R Tryz.prog AN 119 [] st (.ret (vL tS r .shut)) st:=by
 unfold F119 at hr
 refine R_pureX [] [] Tryz.func119 rfl (by kernel_rfl) rfl fun fr st H K=>?_
 refine W_seq (W_reg ?_)
 refine qg 1 [] H fun fr H=>?_
 refine qe ?_
 refine W_seq (W_reg ?_)
 refine qbs tS 30 ([(bs [61,61,62]),(bs [58,61]),(bs [61,61]),(bs [33,61]),(bs [60,61]),(bs [38,38]),(bs [124,124]),(bs [123]),(bs [125]),(bs [40]),(bs [41]),(bs [91]),(bs [93]),(bs [59]),(bs [58]),(bs [44]),(bs [46]),(bs [63]),(bs [61]),(bs [33]),(bs [60]),(bs [38]),(bs [124]),(bs [94]),(bs [43]),(bs [45]),(bs [42])]:List ByteArray) H fun fr H=>?_
 refine qg 1 [(0,vL tS ([(bs [61,61,62]),(bs [58,61]),(bs [61,61]),(bs [33,61]),(bs [60,61]),(bs [38,38]),(bs [124,124]),(bs [123]),(bs [125]),(bs [40]),(bs [41]),(bs [91]),(bs [93]),(bs [59]),(bs [58]),(bs [44]),(bs [46]),(bs [63]),(bs [61]),(bs [33]),(bs [60]),(bs [38]),(bs [124]),(bs [94]),(bs [43]),(bs [45]),(bs [42])]:List ByteArray) .full)] H fun fr H=>?_
 refine qe ?_
 refine W_ret ?_
 obtain rfl:=Option.some.inj hr
 exact qr [vL tS ([(bs [61,61,62]),(bs [58,61]),(bs [61,61]),(bs [33,61]),(bs [60,61]),(bs [38,38]),(bs [124,124]),(bs [123]),(bs [125]),(bs [40]),(bs [41]),(bs [91]),(bs [93]),(bs [59]),(bs [58]),(bs [44]),(bs [46]),(bs [63]),(bs [61]),(bs [33]),(bs [60]),(bs [38]),(bs [124]),(bs [94]),(bs [43]),(bs [45]),(bs [42])]:List ByteArray) .full] H K (hs:=fun _=>by simp only [strip,stripL_ET,Option.map_some,oneOf] <;> rfl)
def F75 (n:Nat) (a0:ByteArray) (a1:Int):Option (Token × Bool) :=
 (idxS a0 a1).bind fun x2 =>
 (F115 x2).bind fun x3 =>
 bif x3 then
  ((F116 n a0 a1).bind fun x5 =>
  some (x5.1,x5.2))
 else
  ((idxS a0 a1).bind fun x6 =>
  (F117 x6).bind fun x7 =>
  bif x7 then
   ((F118 n a0 a1).bind fun x9 =>
   some (x9.1,x9.2))
  else
   ((F119 ).bind fun x10 =>
   (iter (σ:=Int) (ρ:=Token ⊕ Unit) (fun s11=>bif decide (s11 < (x10.length:Int)) then
     ((idxL x10 s11).bind fun x13 =>
     (F113 a0 a1 x13).bind fun x14 =>
     bif x14 then
      ((idxL x10 s11).bind fun x16 =>
      some (.inr (.inl (Token.mk 3 x16 a1))))
     else
      (some (.inl (w64 (s11 + 1)))))
    else
     (some (.inr (.inr ())))) n (0:Int)).bind fun r17=>match r17 with
   | .inl r17a=>some (r17a,true)
   | .inr _=>some ((Token.mk 0 (bs []) 0),false)))
theorem F75_R (n:Nat) (a0:ByteArray) (a1:Int) (r:Token × Bool) (hr:F75 n a0 a1 = some r) {st:St}:R Tryz.prog AN 75 [vS a0,vI a1] st (.ret (.tuple [.agg (cToken r.1),vB r.2])) st:=by
 unfold F75 at hr
 refine R_pureX [vS a0,vI a1] [(0,vS a0),(1,vI a1)] Tryz.func75 rfl (by kernel_rfl) rfl fun fr st H K=>?_
 refine W_seq (W_reg ?_)
 refine qal 61 [vI 0,vS (bs []),vI 0] H K fun id1 st K fr H=>?_
 refine qg 1 [] H fun fr H=>?_
 refine qe ?_
 refine W_seq (W_seq ?_)
 refine W_reg ?_
 refine qg 2 [(8,vS a0),(9,vI a1)] H fun fr H=>?_
 obtain ⟨x2,hx2,hr⟩:=obind hr
 refine qv (.index 9 (vS a0) (vI a1)) H (run_idxS (by kernel_rfl) hx2) fun fr H=>?_
 refine qb hr (fun x h s=>F115_R  _ x h) H fun x3 hr fr H=>?_
 refine qe ?_
 rcases csplit hr with ⟨hc4,hr⟩ | ⟨hc4,hr⟩
 ·refine qT H hc4 ?_
  refine W_seq (W_reg ?_)
  refine qg 2 [(12,vS a0),(13,vI a1)] H fun fr H=>?_
  refine qb hr (fun x h s=>F116_R n _ _ x h) H fun x5 hr fr H=>?_
  refine qg 2 [(15,.agg (cToken x5.1)),(16,vB x5.2)] H fun fr H=>?_
  refine qst 61 0 (.agg (cToken x5.1)) [vI x5.1.kind,vS x5.1.text,vI x5.1.pos] 0 H K rfl fun st K fr H=>?_
  refine qg 1 [(5,vB x5.2)] H fun fr H=>?_
  refine qe ?_
  refine W_ret ?_
  obtain rfl:=Option.some.inj hr
  exact e_ret [.agg (cToken x5.1),vB x5.2] H K (fun _=>resC id1 0 61 [vI x5.1.kind,vS x5.1.text,vI x5.1.pos] 0 (by kernel_rfl) rfl (by kernel_rfl) (resT (by kernel_rfl) resN)) (fun _=>by kernel_rfl)
 refine qF H hc4 ?_
 refine W_skip ?_
 refine W_seq (W_seq ?_)
 refine W_reg ?_
 refine qg 2 [(17,vS a0),(18,vI a1)] H fun fr H=>?_
 obtain ⟨x6,hx6,hr⟩:=obind hr
 refine qv (.index 9 (vS a0) (vI a1)) H (run_idxS (by kernel_rfl) hx6) fun fr H=>?_
 refine qb hr (fun x h s=>F117_R  _ x h) H fun x7 hr fr H=>?_
 refine qe ?_
 rcases csplit hr with ⟨hc8,hr⟩ | ⟨hc8,hr⟩
 ·refine qT H hc8 ?_
  refine W_seq (W_reg ?_)
  refine qg 2 [(21,vS a0),(22,vI a1)] H fun fr H=>?_
  refine qb hr (fun x h s=>F118_R n _ _ x h) H fun x9 hr fr H=>?_
  refine qg 2 [(24,.agg (cToken x9.1)),(25,vB x9.2)] H fun fr H=>?_
  refine qst 61 0 (.agg (cToken x9.1)) [vI x9.1.kind,vS x9.1.text,vI x9.1.pos] 0 H K rfl fun st K fr H=>?_
  refine qg 1 [(5,vB x9.2)] H fun fr H=>?_
  refine qe ?_
  refine W_ret ?_
  obtain rfl:=Option.some.inj hr
  exact e_ret [.agg (cToken x9.1),vB x9.2] H K (fun _=>resC id1 0 61 [vI x9.1.kind,vS x9.1.text,vI x9.1.pos] 0 (by kernel_rfl) rfl (by kernel_rfl) (resT (by kernel_rfl) resN)) (fun _=>by kernel_rfl)
 refine qF H hc8 ?_
 refine W_skip ?_
 refine W_seq (W_reg ?_)
 refine qb hr (fun x h s=>F119_R  x h) H fun x10 hr fr H=>?_
 refine qg 1 [(6,vL tS x10 .shut)] H fun fr H=>?_
 refine qe ?_
 refine W_seq (W_seq ?_)
 refine W_reg ?_
 refine qg 1 [(7,vI 0)] H fun fr H=>?_
 refine qe ?_
 refine W_block ?_
 obtain ⟨r17,hr17,hr⟩:=obind hr
 refine W_iter hr17 (fun (s11:Int) fr st=>Rd fr [(0,vS a0),(1,vI a1),(4,.ptr id1 0),(6,vL tS x10 .shut),(7,vI s11)]∧HL st [.obj id1 (.cells 61 [vI 0,vS (bs []),vI 0])]) (fun (r17:Token ⊕ Unit) e fr st=>match r17 with | .inl r17a=>(e = .ret∧Rd fr [(4,.ptr id1 0),(5,vB true)]∧HL st [.obj id1 (.cells 61 [vI r17a.kind,vS r17a.text,vI r17a.pos])]) | .inr r17b=>(e = .exit 0∧Rd fr [(4,.ptr id1 0)]∧HL st [.obj id1 (.cells 61 [vI 0,vS (bs []),vI 0])])) ⟨H.tq,K.keep [true]⟩ ?_ ?_
 ·intro s11 fr st r hi hr
  obtain ⟨H,K⟩:=hi
  refine W_seq (W_seq ?_)
  refine W_reg ?_
  refine qg 2 [(27,vI s11),(28,vL tS x10 .shut)] H fun fr H=>?_
  refine qln tS 30 x10 .shut H fun fr H=>?_
  refine qg 1 [(30,vB (decide (s11 < (x10.length:Int))))] H fun fr H=>?_
  refine qe ?_
  rcases csplit hr with ⟨hc12,hr⟩ | ⟨hc12,hr⟩
  rotate_left
  ·refine qF H hc12 ?_
   refine W_exit ?_
   obtain rfl:=Option.some.inj hr
   exact ⟨by simp,⟨rfl,H.tq,K.keep [true]⟩⟩
  refine qT H hc12 ?_
  refine W_skip ?_
  refine W_seq (W_block ?_)
  refine W_seq (W_reg ?_)
  refine qg 4 [(33,vS a0),(34,vI a1),(35,vL tS x10 .shut),(36,vI s11)] H fun fr H=>?_
  refine qix tS 30 .shut hr H fun x13 hr hx13 fr H=>?_
  refine qg 1 [(38,vS x13)] H fun fr H=>?_
  refine qb hr (fun x h s=>F113_R  _ _ _ x h) H fun x14 hr fr H=>?_
  refine qe ?_
  rcases csplit hr with ⟨hc15,hr⟩ | ⟨hc15,hr⟩
  rotate_left
  ·refine qF H hc15 ?_
   refine W_skip ?_
   refine W_reg ?_
   refine qg 3 [(7,vI (w64 (s11 + 1)))] H fun fr H=>?_
   refine qe ?_
   obtain rfl:=Option.some.inj hr
   exact ⟨rfl,⟨H.tq,K.keep [true]⟩⟩
  refine qT H hc15 ?_
  refine W_seq (W_reg ?_)
  refine qg 2 [(40,vL tS x10 .shut),(41,vI s11)] H fun fr H=>?_
  refine qix tS 30 .shut hr H fun x16 hr hx16 fr H=>?_
  refine qg 3 [(45,.agg [vI 3,vS x16,vI a1])] H fun fr H=>?_
  refine qst 61 0 (.agg [vI 3,vS x16,vI a1]) [vI 3,vS x16,vI a1] 0 H K rfl fun st K fr H=>?_
  refine qg 1 [(5,vB true)] H fun fr H=>?_
  refine qe ?_
  refine W_ret ?_
  obtain rfl:=Option.some.inj hr
  exact ⟨by simp,⟨rfl,H.tq,K.keep [true]⟩⟩
 rcases r17 with r17a | r17b
 ·rintro e fr st ⟨rfl,H,K⟩
  obtain rfl:=Option.some.inj hr
  exact e_ret [.agg (cToken r17a),vB true] H K (fun _=>resC id1 0 61 [vI r17a.kind,vS r17a.text,vI r17a.pos] 0 (by kernel_rfl) rfl (by kernel_rfl) (resT (by kernel_rfl) resN)) (fun _=>by kernel_rfl)
 rintro e fr st ⟨rfl,H,K⟩
 refine W_seq (W_reg ?_)
 refine qg 1 [(46,.agg [vI 0,vS (bs []),vI 0])] H fun fr H=>?_
 refine qst 61 0 (.agg [vI 0,vS (bs []),vI 0]) [vI 0,vS (bs []),vI 0] 0 H K rfl fun st K fr H=>?_
 refine qg 1 [(5,vB false)] H fun fr H=>?_
 refine qe ?_
 refine W_ret ?_
 obtain rfl:=Option.some.inj hr
 exact e_ret [.agg [vI 0,vS (bs []),vI 0],vB false] H K (fun _=>resC id1 0 61 [vI 0,vS (bs []),vI 0] 0 (by kernel_rfl) rfl (by kernel_rfl) (resT (by kernel_rfl) resN)) (fun _=>by kernel_rfl)
def F39 (n:Nat) (a0:ByteArray):Option ((List Token) × Int × Int) :=
 bif decide (4000 < (a0.size:Int)) then
  (some (([]:List Token),(2:Int),(0:Int)))
 else
  ((F74 n a0 (0:Int)).bind fun x2 =>
  (iter (σ:=(List Token) × Int) (ρ:=(Int × Int) ⊕ ((List Token))) (fun s3=>bif decide (s3.2 < (a0.size:Int)) then
    (bif decide (1500≤(s3.1.length:Int)) then
     (some (.inr (.inl ((2:Int),s3.2))))
    else
     ((F75 n a0 s3.2).bind fun x6 =>
     bif !x6.2 then
      (some (.inr (.inl ((10:Int),s3.2))))
     else
      ((appL 32 s3.1 ([x6.1]:List Token)).bind fun x9 =>
      (F74 n a0 (w64 (s3.2 + (x6.1.text.size:Int)))).bind fun x11 =>
      some (.inl (x9,x11)))))
   else
    (some (.inr (.inr s3.1)))) n (([]:List Token),x2)).bind fun r12=>match r12 with
  | .inl r12a=>some (([]:List Token),r12a.1,r12a.2)
  | .inr r12b=>some (r12b,(0:Int),(0:Int)))
theorem F39_R (n:Nat) (a0:ByteArray) (r:(List Token) × Int × Int) (hr:F39 n a0 = some r) {st:St}:R Tryz.prog AN 39 [vS a0] st (.ret (.tuple [vL tToken r.1 .shut,vI r.2.1,vI r.2.2])) st:=by
 unfold F39 at hr
 refine R_pureX [vS a0] [(0,vS a0)] Tryz.func39 rfl (by kernel_rfl) rfl fun fr st H K=>?_
 refine W_seq (W_reg ?_)
 refine qg 3 [] H fun fr H=>?_
 refine qe ?_
 refine W_seq (W_seq ?_)
 refine W_reg ?_
 refine qg 3 [(11,vB (decide (4000 < (a0.size:Int))))] H fun fr H=>?_
 refine qe ?_
 rcases csplit hr with ⟨hc1,hr⟩ | ⟨hc1,hr⟩
 ·refine qT H hc1 ?_
  refine W_seq (W_reg ?_)
  refine qg 3 [(2,vL tToken ([]:List Token) .nil),(3,vI 2),(4,vI 0)] H fun fr H=>?_
  refine qe ?_
  refine W_ret ?_
  obtain rfl:=Option.some.inj hr
  exact e_ret [vL tToken ([]:List Token) .nil,vI 2,vI 0] H K (fun _=>resT (by kernel_rfl) (resT (by kernel_rfl) (resT (by kernel_rfl) resN))) (fun _=>by simp only [strip,stripL,stripL_ET,Option.bind_some,Option.map_some,oneOf] <;> rfl)
 refine qF H hc1 ?_
 refine W_skip ?_
 refine W_seq (W_reg ?_)
 refine qg 1 [(5,vL tToken ([]:List Token) .nil)] H fun fr H=>?_
 refine qe ?_
 refine W_seq (W_reg ?_)
 refine qg 1 [(12,vS a0)] H fun fr H=>?_
 refine qb hr (fun x h s=>F74_R n _ _ x h) H fun x2 hr fr H=>?_
 refine qg 1 [(6,vI x2)] H fun fr H=>?_
 refine qe ?_
 refine W_seq (W_block ?_)
 obtain ⟨r12,hr12,hr⟩:=obind hr
 refine W_iter hr12 (fun (s3:(List Token) × Int) fr st=>∃ (s3sp0:Spare),Rd fr [(0,vS a0),(5,vL tToken s3.1 s3sp0),(6,vI s3.2)]∧HL st [.own s3sp0]) (fun (r12:(Int × Int) ⊕ ((List Token))) e fr st=>match r12 with | .inl r12a=>(e = .ret∧Rd fr [(2,vL tToken ([]:List Token) .nil),(3,vI r12a.1),(4,vI r12a.2)]∧HL st []) | .inr r12b=>(e = .exit 0∧∃ (r12bsp0:Spare),Rd fr [(5,vL tToken r12b r12bsp0)]∧HL st [.own r12bsp0])) ⟨.nil,H.tq,((K.keep []).nilo)⟩ ?_ ?_
 ·intro s3 fr st r hi hr
  obtain ⟨s3sp0,H,K⟩:=hi
  refine W_seq (W_seq ?_)
  refine W_reg ?_
  refine qg 4 [(17,vB (decide (s3.2 < (a0.size:Int))))] H fun fr H=>?_
  refine qe ?_
  rcases csplit hr with ⟨hc4,hr⟩ | ⟨hc4,hr⟩
  rotate_left
  ·refine qF H hc4 ?_
   refine W_exit ?_
   obtain rfl:=Option.some.inj hr
   exact ⟨by simp,⟨rfl,s3sp0,H.tq,K.keep [true]⟩⟩
  refine qT H hc4 ?_
  refine W_skip ?_
  refine W_block ?_
  refine W_seq (W_seq ?_)
  refine W_reg ?_
  refine qg 1 [(18,vL tToken s3.1 s3sp0)] H fun fr H=>?_
  refine qln tToken 56 s3.1 s3sp0 H fun fr H=>?_
  refine qg 1 [(20,vB (decide (1500≤(s3.1.length:Int))))] H fun fr H=>?_
  refine qe ?_
  rcases csplit hr with ⟨hc5,hr⟩ | ⟨hc5,hr⟩
  ·refine qT H hc5 ?_
   refine W_seq (W_reg ?_)
   refine qg 4 [(2,vL tToken ([]:List Token) .nil),(3,vI 2),(4,vI s3.2)] H fun fr H=>?_
   refine qe ?_
   refine W_ret ?_
   obtain rfl:=Option.some.inj hr
   exact ⟨by simp,⟨rfl,H.tq,K.keep [false]⟩⟩
  refine qF H hc5 ?_
  refine W_skip ?_
  refine W_seq (W_reg ?_)
  refine qg 2 [(23,vS a0),(24,vI s3.2)] H fun fr H=>?_
  refine qb hr (fun x h s=>F75_R n _ _ x h) H fun x6 hr fr H=>?_
  refine qg 3 [(26,.agg (cToken x6.1)),(27,vB x6.2)] H fun fr H=>?_
  refine qal 61 [vI 0,vS (bs []),vI 0] H K fun id7 st K fr H=>?_
  refine qst 61 0 (.agg (cToken x6.1)) [vI x6.1.kind,vS x6.1.text,vI x6.1.pos] 0 H K rfl fun st K fr H=>?_
  refine qg 1 [(8,vB x6.2)] H fun fr H=>?_
  refine qe ?_
  refine W_seq (W_seq ?_)
  refine W_reg ?_
  refine qg 2 [(29,vB !x6.2)] H fun fr H=>?_
  refine qe ?_
  rcases csplit hr with ⟨hc8,hr⟩ | ⟨hc8,hr⟩
  ·refine qT H hc8 ?_
   refine W_seq (W_reg ?_)
   refine qg 4 [(2,vL tToken ([]:List Token) .nil),(3,vI 10),(4,vI s3.2)] H fun fr H=>?_
   refine qe ?_
   refine W_ret ?_
   obtain rfl:=Option.some.inj hr
   exact ⟨by simp,⟨rfl,H.tq,K.keep [false,false]⟩⟩
  refine qF H hc8 ?_
  refine W_skip ?_
  refine W_seq (W_reg ?_)
  refine qg 1 [(31,vL tToken s3.1 s3sp0)] H fun fr H=>?_
  refine qld 61 0 (.agg (cToken x6.1)) 0 H K rfl fun fr H=>?_
  refine qbs tToken 56 ([x6.1]:List Token) H fun fr H=>?_
  refine qapp tToken 32 56 56 .full hr 1 H K rfl fun x9 hr sp10 st K fr H=>?_
  refine qg 1 [(5,vL tToken x9 sp10)] H fun fr H=>?_
  refine qe ?_
  refine W_reg ?_
  refine qg 3 [(35,vS a0),(36,vI s3.2),(37,.ptr id7 1)] H fun fr H=>?_
  refine qld 9 1 (vS x6.1.text) 0 H K rfl fun fr H=>?_
  refine qg 2 [(40,vI (w64 (s3.2 + (x6.1.text.size:Int))))] H fun fr H=>?_
  refine qb hr (fun x h s=>F74_R n _ _ x h) H fun x11 hr fr H=>?_
  refine qg 1 [(6,vI x11)] H fun fr H=>?_
  refine qe ?_
  obtain rfl:=Option.some.inj hr
  exact ⟨rfl,⟨sp10,H.tq,K.keep [false,true]⟩⟩
 rcases r12 with r12a | r12b
 ·rintro e fr st ⟨rfl,H,K⟩
  obtain rfl:=Option.some.inj hr
  exact e_ret [vL tToken ([]:List Token) .nil,vI r12a.1,vI r12a.2] H K (fun _=>resT (by kernel_rfl) (resT (by kernel_rfl) (resT (by kernel_rfl) resN))) (fun _=>by simp only [strip,stripL,stripL_ET,Option.bind_some,Option.map_some,oneOf] <;> rfl)
 rintro e fr st ⟨rfl,r12bsp0,H,K⟩
 refine W_seq (W_reg ?_)
 refine qg 4 [(2,vL tToken r12b r12bsp0),(3,vI 0),(4,vI 0)] H fun fr H=>?_
 refine qe ?_
 refine W_ret ?_
 obtain rfl:=Option.some.inj hr
 exact e_ret [vL tToken r12b r12bsp0,vI 0,vI 0] H K (fun _=>resT (by kernel_rfl) (resT (by kernel_rfl) (resT (by kernel_rfl) resN))) (fun _=>by simp only [strip,stripL,stripL_ET,Option.bind_some,Option.map_some,oneOf] <;> rfl)
def F33 (n:Nat) (a0:ByteArray):Option Bool :=
 bif decide (6000 < (a0.size:Int)) then
  (some false)
 else
  ((F39 n a0).bind fun x2 =>
  some (x2.2.1 == 0))
theorem F33_R (n:Nat) (a0:ByteArray) (r:Bool) (hr:F33 n a0 = some r) {st:St}:R Tryz.prog AN 33 [vS a0] st (.ret (vB r)) st:=by
 unfold F33 at hr
 refine R_pureX [vS a0] [(0,vS a0)] Tryz.func33 rfl (by kernel_rfl) rfl fun fr st H K=>?_
 refine W_seq (W_reg ?_)
 refine qg 1 [] H fun fr H=>?_
 refine qe ?_
 refine W_seq (W_seq ?_)
 refine W_reg ?_
 refine qg 3 [(8,vB (decide (6000 < (a0.size:Int))))] H fun fr H=>?_
 refine qe ?_
 rcases csplit hr with ⟨hc1,hr⟩ | ⟨hc1,hr⟩
 ·refine qT H hc1 ?_
  refine W_seq (W_reg ?_)
  refine qg 1 [(2,vB false)] H fun fr H=>?_
  refine qe ?_
  refine W_ret ?_
  obtain rfl:=Option.some.inj hr
  exact qr [vB false] H K
 refine qF H hc1 ?_
 refine W_skip ?_
 refine W_seq (W_reg ?_)
 refine qg 1 [(10,vS a0)] H fun fr H=>?_
 refine qb hr (fun x h s=>F39_R n _ x h) H fun x2 hr fr H=>?_
 refine qg 7 [(4,vI x2.2.1)] H fun fr H=>?_
 refine qe ?_
 refine W_seq (W_reg ?_)
 refine qg 3 [(2,vB (x2.2.1 == 0))] H fun fr H=>?_
 refine qe ?_
 refine W_ret ?_
 obtain rfl:=Option.some.inj hr
 exact qr [vB (x2.2.1 == 0)] H K
end Go.Proofs.YtbecjgckobhmpaaGreatDoor
end
section
namespace Go.Proofs.YtbecjgckobhmpaaGreatDoor
open Go Go.AM Go.Proofs
set_option maxRecDepth 100000
set_option maxHeartbeats 4000000
def F61_step (F61:Node→Int→Int→Option (Int × Bool)) (n:Nat) (a0:Node) (a1:Int) (a2:Int):Option (Int × Bool) :=
 bif decide (a2 < 1) then
  (some ((1:Int),false))
 else
  ((iter (σ:=Int × Int) (ρ:=Int ⊕ Int) (fun s2=>bif (decide (s2.2 < (a0.kids.length:Int))) && (decide (s2.1≤a1)) then
    ((idxL a0.kids s2.2).bind fun x4 =>
    (F61 x4 (w64 (a1 - s2.1)) (w64 (a2 - 1))).bind fun x5 =>
    bif !x5.2 then
     (some (.inr (.inl s2.1)))
    else
     (some (.inl (w64 (s2.1 + x5.1),w64 (s2.2 + 1)))))
   else
    (some (.inr (.inr s2.1)))) n ((1:Int),(0:Int))).bind fun r7=>match r7 with
  | .inl r7a=>some (r7a,false)
  | .inr r7b=>some (r7b,true))
def F61:Nat→Node→Int→Int→Option (Int × Bool)
 | 0,_,_,_=>none
 | n + 1,a0,a1,a2=>F61_step (F61 n) n a0 a1 a2
theorem F61_RR (n:Nat):(∀ (a0:Node) (a1:Int) (a2:Int) (r:Int × Bool),F61 n a0 a1 a2 = some r→∀ {st:St} {p0:Spare},R Tryz.prog AN 61 [.agg (cNode p0 a0),vI a1,vI a2] st (.ret (.tuple [vI r.1,vB r.2])) st):=by
 induction n with
 | zero=>(intros; contradiction)
 | succ n ih =>
  have ih_F61:=@ih; clear ih
  intro a0 a1 a2 r hr st p0
  change F61_step (F61 n) n a0 a1 a2 = some r at hr
  unfold F61_step at hr
  refine R_pureX [aN a0,vI a1,vI a2] [(0,aN a0),(1,vI a1),(2,vI a2)] Tryz.func61 rfl (by simp only [strip,stripL,stripL_cNode,Option.bind_some,Option.map_some]) rfl fun fr st H K=>?_
  refine W_seq (W_reg ?_)
  refine qg 3 [(3,cN a0 0)] H fun fr H=>?_
  refine qe ?_
  refine W_seq (W_seq ?_)
  refine W_reg ?_
  refine qg 2 [(13,vB (decide (a2 < 1)))] H fun fr H=>?_
  refine qe ?_
  rcases csplit hr with ⟨hc1,hr⟩ | ⟨hc1,hr⟩
  ·refine qT H hc1 ?_
   refine W_seq (W_reg ?_)
   refine qg 2 [(6,vI 1),(7,vB false)] H fun fr H=>?_
   refine qe ?_
   refine W_ret ?_
   obtain rfl:=Option.some.inj hr
   exact e_ret [vI 1,vB false] H K (fun _=>resT (by kernel_rfl) (resT (by kernel_rfl) resN)) (fun _=>by kernel_rfl)
  refine qF H hc1 ?_
  refine W_skip ?_
  refine W_seq (W_reg ?_)
  refine qg 1 [(8,vI 1)] H fun fr H=>?_
  refine qe ?_
  refine W_seq (W_seq ?_)
  refine W_reg ?_
  refine qg 1 [(9,vI 0)] H fun fr H=>?_
  refine qe ?_
  refine W_block ?_
  obtain ⟨r7,hr7,hr⟩:=obind hr
  refine W_iter hr7 (fun (s2:Int × Int) fr st=>Rd fr [(1,vI a1),(2,vI a2),(3,cN a0 0),(8,vI s2.1),(9,vI s2.2)]∧HL st []) (fun (r7:Int ⊕ Int) e fr st=>match r7 with | .inl r7a=>(e = .ret∧Rd fr [(6,vI r7a),(7,vB false)]∧HL st []) | .inr r7b=>(e = .exit 0∧Rd fr [(8,vI r7b)]∧HL st [])) ⟨H.tq,K.keep []⟩ ?_ ?_
  ·intro s2 fr st r hi hr
   obtain ⟨H,K⟩:=hi
   refine W_seq (W_seq ?_)
   refine W_reg ?_
   refine qg 3 [(14,vI s2.2),(16,vL tNode a0.kids .shut)] H fun fr H=>?_
   refine qln tNode 22 a0.kids .shut H fun fr H=>?_
   refine qg 2 [(19,vB (decide (s2.2 < (a0.kids.length:Int))))] H fun fr H=>?_
   refine qg 4 [(23,vB ((decide (s2.2 < (a0.kids.length:Int))) && (decide (s2.1≤a1))))] H (hs:=by intro _ _; generalize (decide (s2.2 < (a0.kids.length:Int))) = b0; cases b0 <;> kernel_rfl) fun fr H=>?_
   refine qe ?_
   rcases csplit hr with ⟨hc3,hr⟩ | ⟨hc3,hr⟩
   rotate_left
   ·refine qF H hc3 ?_
    refine W_exit ?_
    obtain rfl:=Option.some.inj hr
    exact ⟨by simp,⟨rfl,H.tq,K.keep []⟩⟩
   refine qT H hc3 ?_
   refine W_skip ?_
   refine W_seq (W_block ?_)
   refine W_seq (W_reg ?_)
   refine qg 3 [(28,vL tNode a0.kids .shut),(29,vI s2.2)] H fun fr H=>?_
   refine qix tNode 22 .shut hr H fun x4 hr hx4 fr H=>?_
   refine qg 6 [(31,aN x4),(34,vI (w64 (a1 - s2.1))),(36,vI (w64 (a2 - 1)))] H fun fr H=>?_
   refine qb hr (fun x h s=>ih_F61 _ _ _ x h (p0:=.shut)) H fun x5 hr fr H=>?_
   refine qg 5 [(10,vI x5.1),(11,vB x5.2)] H fun fr H=>?_
   refine qe ?_
   refine W_seq (W_seq ?_)
   refine W_reg ?_
   refine qg 2 [(41,vB !x5.2)] H fun fr H=>?_
   refine qe ?_
   rcases csplit hr with ⟨hc6,hr⟩ | ⟨hc6,hr⟩
   ·refine qT H hc6 ?_
    refine W_seq (W_reg ?_)
    refine qg 3 [(6,vI s2.1),(7,vB false)] H fun fr H=>?_
    refine qe ?_
    refine W_ret ?_
    obtain rfl:=Option.some.inj hr
    exact ⟨by simp,⟨rfl,H.tq,K.keep []⟩⟩
   refine qF H hc6 ?_
   refine W_skip ?_
   refine W_reg ?_
   refine qg 4 [(8,vI (w64 (s2.1 + x5.1)))] H fun fr H=>?_
   refine qe ?_
   refine W_reg ?_
   refine qg 3 [(9,vI (w64 (s2.2 + 1)))] H fun fr H=>?_
   refine qe ?_
   obtain rfl:=Option.some.inj hr
   exact ⟨rfl,⟨H.tq,K.keep []⟩⟩
  rcases r7 with r7a | r7b
  ·rintro e fr st ⟨rfl,H,K⟩
   obtain rfl:=Option.some.inj hr
   exact e_ret [vI r7a,vB false] H K (fun _=>resT (by kernel_rfl) (resT (by kernel_rfl) resN)) (fun _=>by kernel_rfl)
  rintro e fr st ⟨rfl,H,K⟩
  refine W_seq (W_reg ?_)
  refine qg 3 [(6,vI r7b),(7,vB true)] H fun fr H=>?_
  refine qe ?_
  refine W_ret ?_
  obtain rfl:=Option.some.inj hr
  exact e_ret [vI r7b,vB true] H K (fun _=>resT (by kernel_rfl) (resT (by kernel_rfl) resN)) (fun _=>by kernel_rfl)
theorem F61_R (n:Nat) (a0:Node) (a1:Int) (a2:Int) (r:Int × Bool) (hr:F61 n a0 a1 a2 = some r) {st:St} {p0:Spare}:R Tryz.prog AN 61 [.agg (cNode p0 a0),vI a1,vI a2] st (.ret (.tuple [vI r.1,vB r.2])) st:=(F61_RR n) a0 a1 a2 r hr
def F27 (n:Nat) (a0:Node):Option Bool :=
 (F61 n a0 (1500:Int) (40:Int)).bind fun x1 =>
 some (x1.2 && (decide (x1.1≤1500)))
theorem F27_R (n:Nat) (a0:Node) (r:Bool) (hr:F27 n a0 = some r) {st:St} {p0:Spare}:R Tryz.prog AN 27 [.agg (cNode p0 a0)] st (.ret (vB r)) st:=by
 unfold F27 at hr
 refine R_pureX [aN a0] [(0,aN a0)] Tryz.func27 rfl (by simp only [strip,stripL,stripL_cNode,Option.bind_some,Option.map_some]) rfl fun fr st H K=>?_
 refine W_seq (W_reg ?_)
 refine qg 2 [(1,cN a0 0)] H fun fr H=>?_
 refine qe ?_
 refine W_seq (W_reg ?_)
 refine qg 1 [(6,aN a0)] H fun fr H=>?_
 refine qb hr (fun x h s=>F61_R n _ _ _ x h (p0:=.shut)) H fun x1 hr fr H=>?_
 refine qg 5 [(3,vI x1.1),(4,vB x1.2)] H fun fr H=>?_
 refine qe ?_
 refine W_seq (W_reg ?_)
 refine qg 2 [(11,vB x1.2)] H fun fr H=>?_
 refine qg 3 [(14,vB (x1.2 && (decide (x1.1≤1500))))] H (hs:=by intro _ _; generalize (x1.2) = b0; cases b0 <;> kernel_rfl) fun fr H=>?_
 refine qg 1 [(2,vB (x1.2 && (decide (x1.1≤1500))))] H fun fr H=>?_
 refine qe ?_
 refine W_ret ?_
 obtain rfl:=Option.some.inj hr
 exact qr [vB (x1.2 && (decide (x1.1≤1500)))] H K
end Go.Proofs.YtbecjgckobhmpaaGreatDoor
end
section
namespace Go.AM
open Go
def convB:List Int→Option ByteArray
 | []=>some (bs [])
 | n :: r=>if 0≤n∧n < 256 then (convB r).map fun s=>bs (UInt8.ofNat n.toNat :: s.data.toList) else none
theorem avBytes_convB:∀ (l:List Int) (s:ByteArray),convB l = some s→avBytes (l.map (tI .u8).e) = some s.data.toList
 | [],s,h=>by
  simp only [convB,Option.some.injEq] at h
  subst h
  rfl
 | n :: r,s,h=>by
  unfold convB at h
  split at h
  ·rename_i hn
   simp only [Option.map_eq_some_iff] at h
   obtain ⟨s',hs,rfl⟩:=h
   have:=avBytes_convB r s' hs
   show avBytes (.sc (.int .u8 n) :: r.map (tI .u8).e) = _
   simp only [avBytes,if_pos hn,this,Option.map_some]
   rfl
  ·cases h
def convT (P:Program) (src dst:TypeId):Bool :=
 match P.underlying src,P.underlying dst with
 | some (.slice e),some .string=>match P.underlying e with
  | some (.int .u8)=>true
  | _=>false
 | _,_=>false
theorem run_convB {P:Program} {st:St} {src dst:TypeId} {l:List Int} {s:ByteArray} {sp:Spare} (ht:convT P src dst = true) (h:convB l = some s) :
  Vw.run P st (.conv src dst (.slice (l.map (tI .u8).e) sp)) = some (.sc (.string s),st):=by
 have h1:=avBytes_convB l s h
 unfold convT at ht
 split at ht
 ·rename_i e hs hd
  split at ht
  ·rename_i he
   simp only [Vw.run,same,convA,bytesToStrA,hs,hd,he,h1,Option.map_some]
  ·cases ht
 ·cases ht
end Go.AM
end
section
namespace Go.Proofs.YtbecjgckobhmpaaGreatDoor
open Go Go.AM Go.Proofs
set_option maxRecDepth 100000
set_option maxHeartbeats 4000000
def F170 (n:Nat) (a0:ByteArray) (a1:Int):Option Bool :=
 (iter (σ:=Int) (ρ:=Unit ⊕ Unit) (fun s1=>bif decide (s1 < (a0.size:Int)) then
   ((idxS a0 s1).bind fun x3 =>
   bif x3 == a1 then
    (some (.inr (.inl ())))
   else
    (some (.inl (w64 (s1 + 1)))))
  else
   (some (.inr (.inr ())))) n (0:Int)).bind fun r5=>match r5 with
 | .inl _=>some true
 | .inr _=>some false
theorem F170_R (n:Nat) (a0:ByteArray) (a1:Int) (r:Bool) (hr:F170 n a0 a1 = some r) {st:St}:R Tryz.prog AN 170 [vS a0,vU a1] st (.ret (vB r)) st:=by
 unfold F170 at hr
 refine R_pureX [vS a0,vU a1] [(0,vS a0),(1,vU a1)] Tryz.func170 rfl (by kernel_rfl) rfl fun fr st H K=>?_
 refine W_seq (W_reg ?_)
 refine qg 1 [] H fun fr H=>?_
 refine qe ?_
 refine W_seq (W_seq ?_)
 refine W_reg ?_
 refine qg 1 [(5,vI 0)] H fun fr H=>?_
 refine qe ?_
 refine W_block ?_
 obtain ⟨r5,hr5,hr⟩:=obind hr
 refine W_iter hr5 (fun (s1:Int) fr st=>Rd fr [(0,vS a0),(1,vU a1),(5,vI s1)]∧HL st []) (fun (r5:Unit ⊕ Unit) e fr st=>match r5 with | .inl r5a=>(e = .ret∧Rd fr [(4,vB true)]∧HL st []) | .inr r5b=>(e = .exit 0∧Rd fr []∧HL st [])) ⟨H.tq,K.keep []⟩ ?_ ?_
 ·intro s1 fr st r hi hr
  obtain ⟨H,K⟩:=hi
  refine W_seq (W_seq ?_)
  refine W_reg ?_
  refine qg 4 [(9,vB (decide (s1 < (a0.size:Int))))] H fun fr H=>?_
  refine qe ?_
  rcases csplit hr with ⟨hc2,hr⟩ | ⟨hc2,hr⟩
  rotate_left
  ·refine qF H hc2 ?_
   refine W_exit ?_
   obtain rfl:=Option.some.inj hr
   exact ⟨by simp,⟨rfl,H.tq,K.keep []⟩⟩
  refine qT H hc2 ?_
  refine W_skip ?_
  refine W_seq (W_block ?_)
  refine W_seq (W_reg ?_)
  refine qg 2 [(12,vS a0),(13,vI s1)] H fun fr H=>?_
  obtain ⟨x3,hx3,hr⟩:=obind hr
  refine qv (.index 9 (vS a0) (vI s1)) H (run_idxS (by kernel_rfl) hx3) fun fr H=>?_
  refine qg 2 [(16,vB (x3 == a1))] H fun fr H=>?_
  refine qe ?_
  rcases csplit hr with ⟨hc4,hr⟩ | ⟨hc4,hr⟩
  ·refine qT H hc4 ?_
   refine W_seq (W_reg ?_)
   refine qg 1 [(4,vB true)] H fun fr H=>?_
   refine qe ?_
   refine W_ret ?_
   obtain rfl:=Option.some.inj hr
   exact ⟨by simp,⟨rfl,H.tq,K.keep []⟩⟩
  refine qF H hc4 ?_
  refine W_skip ?_
  refine W_reg ?_
  refine qg 3 [(5,vI (w64 (s1 + 1)))] H fun fr H=>?_
  refine qe ?_
  obtain rfl:=Option.some.inj hr
  exact ⟨rfl,⟨H.tq,K.keep []⟩⟩
 rcases r5 with r5a | r5b
 ·rintro e fr st ⟨rfl,H,K⟩
  obtain rfl:=Option.some.inj hr
  exact qr [vB true] H K
 rintro e fr st ⟨rfl,H,K⟩
 refine W_seq (W_reg ?_)
 refine qg 1 [(4,vB false)] H fun fr H=>?_
 refine qe ?_
 refine W_ret ?_
 obtain rfl:=Option.some.inj hr
 exact qr [vB false] H K
def F171 (a0:Int):Option Bool :=
 some ((decide (0≤a0)) && (decide (a0≤999999999)))
theorem F171_R (a0:Int) (r:Bool) (hr:F171 a0 = some r) {st:St}:R Tryz.prog AN 171 [vI a0] st (.ret (vB r)) st:=by
 unfold F171 at hr
 refine R_pureX [vI a0] [(0,vI a0)] Tryz.func171 rfl (by kernel_rfl) rfl fun fr st H K=>?_
 refine W_seq (W_reg ?_)
 refine qg 1 [] H fun fr H=>?_
 refine qe ?_
 refine W_seq (W_reg ?_)
 refine qg 3 [(5,vB (decide (0≤a0)))] H fun fr H=>?_
 refine qg 3 [(8,vB ((decide (0≤a0)) && (decide (a0≤999999999))))] H (hs:=by intro _ _; generalize (decide (0≤a0)) = b0; cases b0 <;> kernel_rfl) fun fr H=>?_
 refine qg 1 [(2,vB ((decide (0≤a0)) && (decide (a0≤999999999))))] H fun fr H=>?_
 refine qe ?_
 refine W_ret ?_
 obtain rfl:=Option.some.inj hr
 exact qr [vB ((decide (0≤a0)) && (decide (a0≤999999999)))] H K
def F104 (n:Nat) (a0:Node) (a1:ByteArray):Option Bool :=
 (F170 n a1 (110:Int)).bind fun x1 =>
 bif !x1 && (!(strEq a0.name (bs []))) then
  (some false)
 else
  ((F170 n a1 (111:Int)).bind fun x3 =>
  bif !x3 && (!(strEq a0.other (bs []))) then
   (some false)
  else
   ((F170 n a1 (103:Int)).bind fun x5 =>
   bif !x5 && a0.ghost then
    (some false)
   else
    ((F170 n a1 (35:Int)).bind fun x7 =>
    bif !x7 && (a0.n != 0) then
     (some false)
    else
     ((F170 n a1 (108:Int)).bind fun x9 =>
     bif !x9 && (a0.len != 0) then
      (some false)
     else
      ((F170 n a1 (105:Int)).bind fun x11 =>
      bif !x11 && (a0.init != 0) then
       (some false)
      else
       ((F171 a0.n).bind fun x13 =>
       bif x13 then
        ((F171 a0.len).bind fun x15 =>
        bif x15 then
         ((F171 a0.init).bind fun x17 =>
         some x17)
        else
         (some false))
       else
        (some false)))))))
theorem F104_R (n:Nat) (a0:Node) (a1:ByteArray) (r:Bool) (hr:F104 n a0 a1 = some r) {st:St} {p0:Spare}:R Tryz.prog AN 104 [.agg (cNode p0 a0),vS a1] st (.ret (vB r)) st:=by
 unfold F104 at hr
 refine R_pureX [aN a0,vS a1] [(0,aN a0),(1,vS a1)] Tryz.func104 rfl (by simp only [strip,stripL,stripL_cNode,Option.bind_some,Option.map_some]) rfl fun fr st H K=>?_
 refine W_seq (W_reg ?_)
 refine qg 2 [(2,cN a0 0)] H fun fr H=>?_
 refine qe ?_
 refine W_seq (W_seq ?_)
 refine W_reg ?_
 refine qg 1 [(5,vS a1)] H fun fr H=>?_
 refine qb hr (fun x h s=>F170_R n _ _ x h) H fun x1 hr fr H=>?_
 refine qg 2 [(8,vB !x1)] H fun fr H=>?_
 refine qg 4 [(12,vB (!x1 && (!(strEq a0.name (bs [])))))] H (hs:=by intro _ _; generalize (!x1) = b0; cases b0 <;> kernel_rfl) fun fr H=>?_
 refine qg 1 [(13,vB (!x1 && (!(strEq a0.name (bs [])))))] H fun fr H=>?_
 rcases csplit hr with ⟨hc2,hr⟩ | ⟨hc2,hr⟩
 ·rw [hc2] at H
  refine qg 18 [(31,vB true)] H fun fr H=>?_
  refine qe ?_
  refine qT H rfl ?_
  refine W_seq (W_reg ?_)
  refine qg 1 [(4,vB false)] H fun fr H=>?_
  refine qe ?_
  refine W_ret ?_
  obtain rfl:=Option.some.inj hr
  exact qr [vB false] H K
 rw [hc2] at H
 refine qg 1 [(14,vS a1)] H fun fr H=>?_
 refine qb hr (fun x h s=>F170_R n _ _ x h) H fun x3 hr fr H=>?_
 refine qg 2 [(17,vB !x3)] H fun fr H=>?_
 refine qg 5 [(22,vB (!x3 && (!(strEq a0.other (bs [])))))] H (hs:=by intro _ _; generalize (!x3) = b0; cases b0 <;> kernel_rfl) fun fr H=>?_
 refine qg 1 [(23,vB (!x3 && (!(strEq a0.other (bs [])))))] H fun fr H=>?_
 rcases csplit hr with ⟨hc4,hr⟩ | ⟨hc4,hr⟩
 ·rw [hc4] at H
  refine qg 8 [(31,vB true)] H fun fr H=>?_
  refine qe ?_
  refine qT H rfl ?_
  refine W_seq (W_reg ?_)
  refine qg 1 [(4,vB false)] H fun fr H=>?_
  refine qe ?_
  refine W_ret ?_
  obtain rfl:=Option.some.inj hr
  exact qr [vB false] H K
 rw [hc4] at H
 refine qg 1 [(24,vS a1)] H fun fr H=>?_
 refine qb hr (fun x h s=>F170_R n _ _ x h) H fun x5 hr fr H=>?_
 refine qg 2 [(27,vB !x5)] H fun fr H=>?_
 refine qg 4 [(31,vB (!x5 && a0.ghost))] H (hs:=by intro _ _; generalize (!x5) = b0; cases b0 <;> kernel_rfl) fun fr H=>?_
 refine qe ?_
 rcases csplit hr with ⟨hc6,hr⟩ | ⟨hc6,hr⟩
 ·refine qT H hc6 ?_
  refine W_seq (W_reg ?_)
  refine qg 1 [(4,vB false)] H fun fr H=>?_
  refine qe ?_
  refine W_ret ?_
  obtain rfl:=Option.some.inj hr
  exact qr [vB false] H K
 refine qF H hc6 ?_
 refine W_skip ?_
 refine W_seq (W_seq ?_)
 refine W_reg ?_
 refine qg 1 [(32,vS a1)] H fun fr H=>?_
 refine qb hr (fun x h s=>F170_R n _ _ x h) H fun x7 hr fr H=>?_
 refine qg 2 [(35,vB !x7)] H fun fr H=>?_
 refine qg 4 [(39,vB (!x7 && (a0.n != 0)))] H (hs:=by intro _ _; generalize (!x7) = b0; cases b0 <;> kernel_rfl) fun fr H=>?_
 refine qg 1 [(40,vB (!x7 && (a0.n != 0)))] H fun fr H=>?_
 rcases csplit hr with ⟨hc8,hr⟩ | ⟨hc8,hr⟩
 ·rw [hc8] at H
  refine qg 19 [(59,vB true)] H fun fr H=>?_
  refine qe ?_
  refine qT H rfl ?_
  refine W_seq (W_reg ?_)
  refine qg 1 [(4,vB false)] H fun fr H=>?_
  refine qe ?_
  refine W_ret ?_
  obtain rfl:=Option.some.inj hr
  exact qr [vB false] H K
 rw [hc8] at H
 refine qg 1 [(41,vS a1)] H fun fr H=>?_
 refine qb hr (fun x h s=>F170_R n _ _ x h) H fun x9 hr fr H=>?_
 refine qg 2 [(44,vB !x9)] H fun fr H=>?_
 refine qg 5 [(49,vB (!x9 && (a0.len != 0)))] H (hs:=by intro _ _; generalize (!x9) = b0; cases b0 <;> kernel_rfl) fun fr H=>?_
 refine qg 1 [(50,vB (!x9 && (a0.len != 0)))] H fun fr H=>?_
 rcases csplit hr with ⟨hc10,hr⟩ | ⟨hc10,hr⟩
 ·rw [hc10] at H
  refine qg 9 [(59,vB true)] H fun fr H=>?_
  refine qe ?_
  refine qT H rfl ?_
  refine W_seq (W_reg ?_)
  refine qg 1 [(4,vB false)] H fun fr H=>?_
  refine qe ?_
  refine W_ret ?_
  obtain rfl:=Option.some.inj hr
  exact qr [vB false] H K
 rw [hc10] at H
 refine qg 1 [(51,vS a1)] H fun fr H=>?_
 refine qb hr (fun x h s=>F170_R n _ _ x h) H fun x11 hr fr H=>?_
 refine qg 2 [(54,vB !x11)] H fun fr H=>?_
 refine qg 5 [(59,vB (!x11 && (a0.init != 0)))] H (hs:=by intro _ _; generalize (!x11) = b0; cases b0 <;> kernel_rfl) fun fr H=>?_
 refine qe ?_
 rcases csplit hr with ⟨hc12,hr⟩ | ⟨hc12,hr⟩
 ·refine qT H hc12 ?_
  refine W_seq (W_reg ?_)
  refine qg 1 [(4,vB false)] H fun fr H=>?_
  refine qe ?_
  refine W_ret ?_
  obtain rfl:=Option.some.inj hr
  exact qr [vB false] H K
 refine qF H hc12 ?_
 refine W_skip ?_
 refine W_seq (W_reg ?_)
 refine qg 2 [(61,vI a0.n)] H fun fr H=>?_
 refine qb hr (fun x h s=>F171_R  _ x h) H fun x13 hr fr H=>?_
 refine qg 1 [(63,vB x13)] H fun fr H=>?_
 rcases csplit hr with ⟨hc14,hr⟩ | ⟨hc14,hr⟩
 rotate_left
 ·rw [hc14] at H
  refine qg 10 [(4,vB false)] H fun fr H=>?_
  refine qe ?_
  refine W_ret ?_
  obtain rfl:=Option.some.inj hr
  exact qr [vB false] H K
 rw [hc14] at H
 refine qg 2 [(65,vI a0.len)] H fun fr H=>?_
 refine qb hr (fun x h s=>F171_R  _ x h) H fun x15 hr fr H=>?_
 refine qg 2 [(68,vB x15)] H fun fr H=>?_
 rcases csplit hr with ⟨hc16,hr⟩ | ⟨hc16,hr⟩
 rotate_left
 ·rw [hc16] at H
  refine qg 5 [(4,vB false)] H fun fr H=>?_
  refine qe ?_
  refine W_ret ?_
  obtain rfl:=Option.some.inj hr
  exact qr [vB false] H K
 rw [hc16] at H
 refine qg 2 [(70,vI a0.init)] H fun fr H=>?_
 refine qb hr (fun x h s=>F171_R  _ x h) H fun x17 hr fr H=>?_
 refine qg 2 [(4,vB x17)] H fun fr H=>?_
 refine qe ?_
 refine W_ret ?_
 obtain rfl:=Option.some.inj hr
 exact qr [vB x17] H K
def F232 :Option ((List ByteArray)) :=
 some ([(bs [109,111,100,117,108,101]),(bs [111,119,110,101,114]),(bs [114,101,99,111,114,100]),(bs [115,104,97,114,101,100]),(bs [103,104,111,115,116]),(bs [108,111,99,107]),(bs [105,110,118,97,114,105,97,110,116]),(bs [114,101,108,121]),(bs [103,117,97,114,97,110,116,101,101]),(bs [102,114,97,109,101]),(bs [112,114,111,99]),(bs [108,111,99,107,101,100]),(bs [108,111,99,97,108]),(bs [97,115,115,101,114,116]),(bs [114,101,108,101,97,115,101]),(bs [119,105,116,104]),(bs [97,116,111,109,105,99]),(bs [119,104,101,110]),(bs [99,97,115]),(bs [105,110,116,111]),(bs [97,99,113,117,105,114,101]),(bs [102,114,101,101]),(bs [102,101,110,99,101]),(bs [115,112,97,119,110]),(bs [106,111,105,110]),(bs [97,119,97,105,116]),(bs [115,107,105,112]),(bs [105,102]),(bs [101,108,115,101]),(bs [119,104,105,108,101]),(bs [118,97,114,105,97,110,116]),(bs [99,97,108,108]),(bs [116,104,114,101,97,100]),(bs [97,115,108,101,101,112]),(bs [111,108,100]),(bs [97,108,108]),(bs [115,111,109,101])]:List ByteArray)
theorem F232_R  (r:(List ByteArray)) (hr:F232  = some r) {st:St}:R Tryz.prog AN 232 [] st (.ret (vL tS r .shut)) st:=by
 unfold F232 at hr
 refine R_pureX [] [] Tryz.func232 rfl (by kernel_rfl) rfl fun fr st H K=>?_
 refine W_seq (W_reg ?_)
 refine qg 1 [] H fun fr H=>?_
 refine qe ?_
 refine W_seq (W_reg ?_)
 refine qbs tS 30 ([(bs [109,111,100,117,108,101]),(bs [111,119,110,101,114]),(bs [114,101,99,111,114,100]),(bs [115,104,97,114,101,100]),(bs [103,104,111,115,116]),(bs [108,111,99,107]),(bs [105,110,118,97,114,105,97,110,116]),(bs [114,101,108,121]),(bs [103,117,97,114,97,110,116,101,101]),(bs [102,114,97,109,101]),(bs [112,114,111,99]),(bs [108,111,99,107,101,100]),(bs [108,111,99,97,108]),(bs [97,115,115,101,114,116]),(bs [114,101,108,101,97,115,101]),(bs [119,105,116,104]),(bs [97,116,111,109,105,99]),(bs [119,104,101,110]),(bs [99,97,115]),(bs [105,110,116,111]),(bs [97,99,113,117,105,114,101]),(bs [102,114,101,101]),(bs [102,101,110,99,101]),(bs [115,112,97,119,110]),(bs [106,111,105,110]),(bs [97,119,97,105,116]),(bs [115,107,105,112]),(bs [105,102]),(bs [101,108,115,101]),(bs [119,104,105,108,101]),(bs [118,97,114,105,97,110,116]),(bs [99,97,108,108]),(bs [116,104,114,101,97,100]),(bs [97,115,108,101,101,112]),(bs [111,108,100]),(bs [97,108,108]),(bs [115,111,109,101])]:List ByteArray) H fun fr H=>?_
 refine qg 1 [(0,vL tS ([(bs [109,111,100,117,108,101]),(bs [111,119,110,101,114]),(bs [114,101,99,111,114,100]),(bs [115,104,97,114,101,100]),(bs [103,104,111,115,116]),(bs [108,111,99,107]),(bs [105,110,118,97,114,105,97,110,116]),(bs [114,101,108,121]),(bs [103,117,97,114,97,110,116,101,101]),(bs [102,114,97,109,101]),(bs [112,114,111,99]),(bs [108,111,99,107,101,100]),(bs [108,111,99,97,108]),(bs [97,115,115,101,114,116]),(bs [114,101,108,101,97,115,101]),(bs [119,105,116,104]),(bs [97,116,111,109,105,99]),(bs [119,104,101,110]),(bs [99,97,115]),(bs [105,110,116,111]),(bs [97,99,113,117,105,114,101]),(bs [102,114,101,101]),(bs [102,101,110,99,101]),(bs [115,112,97,119,110]),(bs [106,111,105,110]),(bs [97,119,97,105,116]),(bs [115,107,105,112]),(bs [105,102]),(bs [101,108,115,101]),(bs [119,104,105,108,101]),(bs [118,97,114,105,97,110,116]),(bs [99,97,108,108]),(bs [116,104,114,101,97,100]),(bs [97,115,108,101,101,112]),(bs [111,108,100]),(bs [97,108,108]),(bs [115,111,109,101])]:List ByteArray) .full)] H fun fr H=>?_
 refine qe ?_
 refine W_ret ?_
 obtain rfl:=Option.some.inj hr
 exact qr [vL tS ([(bs [109,111,100,117,108,101]),(bs [111,119,110,101,114]),(bs [114,101,99,111,114,100]),(bs [115,104,97,114,101,100]),(bs [103,104,111,115,116]),(bs [108,111,99,107]),(bs [105,110,118,97,114,105,97,110,116]),(bs [114,101,108,121]),(bs [103,117,97,114,97,110,116,101,101]),(bs [102,114,97,109,101]),(bs [112,114,111,99]),(bs [108,111,99,107,101,100]),(bs [108,111,99,97,108]),(bs [97,115,115,101,114,116]),(bs [114,101,108,101,97,115,101]),(bs [119,105,116,104]),(bs [97,116,111,109,105,99]),(bs [119,104,101,110]),(bs [99,97,115]),(bs [105,110,116,111]),(bs [97,99,113,117,105,114,101]),(bs [102,114,101,101]),(bs [102,101,110,99,101]),(bs [115,112,97,119,110]),(bs [106,111,105,110]),(bs [97,119,97,105,116]),(bs [115,107,105,112]),(bs [105,102]),(bs [101,108,115,101]),(bs [119,104,105,108,101]),(bs [118,97,114,105,97,110,116]),(bs [99,97,108,108]),(bs [116,104,114,101,97,100]),(bs [97,115,108,101,101,112]),(bs [111,108,100]),(bs [97,108,108]),(bs [115,111,109,101])]:List ByteArray) .full] H K (hs:=fun _=>by simp only [strip,stripL_ET,Option.map_some,oneOf] <;> rfl)
def F206 (n:Nat) (a0:ByteArray):Option Bool :=
 (F232 ).bind fun x1 =>
 (iter (σ:=Int) (ρ:=Unit ⊕ Unit) (fun s2=>bif decide (s2 < (x1.length:Int)) then
   ((idxL x1 s2).bind fun x4 =>
   bif strEq x4 a0 then
    (some (.inr (.inl ())))
   else
    (some (.inl (w64 (s2 + 1)))))
  else
   (some (.inr (.inr ())))) n (0:Int)).bind fun r6=>match r6 with
 | .inl _=>some true
 | .inr _=>some false
theorem F206_R (n:Nat) (a0:ByteArray) (r:Bool) (hr:F206 n a0 = some r) {st:St}:R Tryz.prog AN 206 [vS a0] st (.ret (vB r)) st:=by
 unfold F206 at hr
 refine R_pureX [vS a0] [(0,vS a0)] Tryz.func206 rfl (by kernel_rfl) rfl fun fr st H K=>?_
 refine W_seq (W_reg ?_)
 refine qg 1 [] H fun fr H=>?_
 refine qe ?_
 refine W_seq (W_reg ?_)
 refine qb hr (fun x h s=>F232_R  x h) H fun x1 hr fr H=>?_
 refine qg 1 [(3,vL tS x1 .shut)] H fun fr H=>?_
 refine qe ?_
 refine W_seq (W_seq ?_)
 refine W_reg ?_
 refine qg 1 [(4,vI 0)] H fun fr H=>?_
 refine qe ?_
 refine W_block ?_
 obtain ⟨r6,hr6,hr⟩:=obind hr
 refine W_iter hr6 (fun (s2:Int) fr st=>Rd fr [(0,vS a0),(3,vL tS x1 .shut),(4,vI s2)]∧HL st []) (fun (r6:Unit ⊕ Unit) e fr st=>match r6 with | .inl r6a=>(e = .ret∧Rd fr [(2,vB true)]∧HL st []) | .inr r6b=>(e = .exit 0∧Rd fr []∧HL st [])) ⟨H.tq,K.keep []⟩ ?_ ?_
 ·intro s2 fr st r hi hr
  obtain ⟨H,K⟩:=hi
  refine W_seq (W_seq ?_)
  refine W_reg ?_
  refine qg 2 [(6,vI s2),(7,vL tS x1 .shut)] H fun fr H=>?_
  refine qln tS 30 x1 .shut H fun fr H=>?_
  refine qg 1 [(9,vB (decide (s2 < (x1.length:Int))))] H fun fr H=>?_
  refine qe ?_
  rcases csplit hr with ⟨hc3,hr⟩ | ⟨hc3,hr⟩
  rotate_left
  ·refine qF H hc3 ?_
   refine W_exit ?_
   obtain rfl:=Option.some.inj hr
   exact ⟨by simp,⟨rfl,H.tq,K.keep []⟩⟩
  refine qT H hc3 ?_
  refine W_skip ?_
  refine W_seq (W_block ?_)
  refine W_seq (W_reg ?_)
  refine qg 2 [(12,vL tS x1 .shut),(13,vI s2)] H fun fr H=>?_
  refine qix tS 30 .shut hr H fun x4 hr hx4 fr H=>?_
  refine qg 3 [(17,vB (strEq x4 a0))] H fun fr H=>?_
  refine qe ?_
  rcases csplit hr with ⟨hc5,hr⟩ | ⟨hc5,hr⟩
  ·refine qT H hc5 ?_
   refine W_seq (W_reg ?_)
   refine qg 1 [(2,vB true)] H fun fr H=>?_
   refine qe ?_
   refine W_ret ?_
   obtain rfl:=Option.some.inj hr
   exact ⟨by simp,⟨rfl,H.tq,K.keep []⟩⟩
  refine qF H hc5 ?_
  refine W_skip ?_
  refine W_reg ?_
  refine qg 3 [(4,vI (w64 (s2 + 1)))] H fun fr H=>?_
  refine qe ?_
  obtain rfl:=Option.some.inj hr
  exact ⟨rfl,⟨H.tq,K.keep []⟩⟩
 rcases r6 with r6a | r6b
 ·rintro e fr st ⟨rfl,H,K⟩
  obtain rfl:=Option.some.inj hr
  exact qr [vB true] H K
 rintro e fr st ⟨rfl,H,K⟩
 refine W_seq (W_reg ?_)
 refine qg 1 [(2,vB false)] H fun fr H=>?_
 refine qe ?_
 refine W_ret ?_
 obtain rfl:=Option.some.inj hr
 exact qr [vB false] H K
def F174 (n:Nat) (a0:ByteArray):Option Bool :=
 (iter (σ:=Int) (ρ:=Unit ⊕ Unit) (fun s1=>bif decide (s1 < (a0.size:Int)) then
   ((idxS a0 s1).bind fun x3 =>
   bif (!(((decide (65≤x3)) && (decide (x3≤90))) || ((decide (97≤x3)) && (decide (x3≤122))))) && ((s1 == 0) || (bif decide (x3 < 48) then (x3 != 95) else ((decide (57 < x3)) && (x3 != 95)))) then
    (some (.inr (.inl ())))
   else
    (some (.inl (w64 (s1 + 1)))))
  else
   (some (.inr (.inr ())))) n (0:Int)).bind fun r11=>match r11 with
 | .inl _=>some false
 | .inr _=>bif (decide (1≤(a0.size:Int))) && (decide ((a0.size:Int)≤16)) then
   ((F206 n a0).bind fun x13 =>
   some !x13)
  else
   (some false)
theorem F174_R (n:Nat) (a0:ByteArray) (r:Bool) (hr:F174 n a0 = some r) {st:St}:R Tryz.prog AN 174 [vS a0] st (.ret (vB r)) st:=by
 unfold F174 at hr
 refine R_pureX [vS a0] [(0,vS a0)] Tryz.func174 rfl (by kernel_rfl) rfl fun fr st H K=>?_
 refine W_seq (W_reg ?_)
 refine qg 1 [] H fun fr H=>?_
 refine qe ?_
 refine W_seq (W_seq ?_)
 refine W_reg ?_
 refine qg 1 [(3,vI 0)] H fun fr H=>?_
 refine qe ?_
 refine W_block ?_
 obtain ⟨r11,hr11,hr⟩:=obind hr
 refine W_iter hr11 (fun (s1:Int) fr st=>Rd fr [(0,vS a0),(3,vI s1)]∧HL st []) (fun (r11:Unit ⊕ Unit) e fr st=>match r11 with | .inl r11a=>(e = .ret∧Rd fr [(2,vB false)]∧HL st []) | .inr r11b=>(e = .exit 0∧Rd fr [(0,vS a0)]∧HL st [])) ⟨H.tq,K.keep []⟩ ?_ ?_
 ·intro s1 fr st r hi hr
  obtain ⟨H,K⟩:=hi
  refine W_seq (W_seq ?_)
  refine W_reg ?_
  refine qg 4 [(9,vB (decide (s1 < (a0.size:Int))))] H fun fr H=>?_
  refine qe ?_
  rcases csplit hr with ⟨hc2,hr⟩ | ⟨hc2,hr⟩
  rotate_left
  ·refine qF H hc2 ?_
   refine W_exit ?_
   obtain rfl:=Option.some.inj hr
   exact ⟨by simp,⟨rfl,H.tq,K.keep []⟩⟩
  refine qT H hc2 ?_
  refine W_skip ?_
  refine W_seq (W_block ?_)
  refine W_seq (W_reg ?_)
  refine qg 2 [(12,vS a0),(13,vI s1)] H fun fr H=>?_
  obtain ⟨x3,hx3,hr⟩:=obind hr
  refine qv (.index 9 (vS a0) (vI s1)) H (run_idxS (by kernel_rfl) hx3) fun fr H=>?_
  refine qg 1 [(4,vU x3)] H fun fr H=>?_
  refine qe ?_
  refine W_seq (W_reg ?_)
  refine qg 3 [(17,vB (decide (65≤x3)))] H fun fr H=>?_
  refine qg 3 [(20,vB ((decide (65≤x3)) && (decide (x3≤90))))] H (hs:=by intro _ _; generalize (decide (65≤x3)) = b0; cases b0 <;> kernel_rfl) fun fr H=>?_
  refine qg 1 [(21,vB ((decide (65≤x3)) && (decide (x3≤90))))] H fun fr H=>?_
  refine qseg 7 [(28,vB (((decide (65≤x3)) && (decide (x3≤90))) || ((decide (97≤x3)) && (decide (x3≤122)))))] H ?_ ?_
  ·cases hg4:((decide (65≤x3)) && (decide (x3≤90)))
   ·rw [hg4] at H
    refine seg_go 4 3 [(24,vB (decide (97≤x3)))] H fun fr H=>?_
    cases hg5:(decide (97≤x3))
    ·rw [hg5] at H
     refine seg_go 0 4 [(28,vB false)] H fun fr H=>?_
     exact seg_end (by (try simp only [hg4,hg5]); exact H.tq)
    ·rw [hg5] at H
     refine seg_go 0 4 [(28,vB (decide (x3≤122)))] H fun fr H=>?_
     exact seg_end (by (try simp only [hg4,hg5]); exact H.tq)
   ·rw [hg4] at H
    refine seg_go 0 7 [(28,vB true)] H fun fr H=>?_
    exact seg_end (by (try simp only [hg4]); exact H.tq)
  intro fr H
  refine qg 1 [(5,vB (((decide (65≤x3)) && (decide (x3≤90))) || ((decide (97≤x3)) && (decide (x3≤122)))))] H fun fr H=>?_
  refine qe ?_
  refine W_seq (W_reg ?_)
  refine qg 3 [(31,vB (!(((decide (65≤x3)) && (decide (x3≤90))) || ((decide (97≤x3)) && (decide (x3≤122))))))] H fun fr H=>?_
  refine qseg 15 [(46,vB ((!(((decide (65≤x3)) && (decide (x3≤90))) || ((decide (97≤x3)) && (decide (x3≤122))))) && ((s1 == 0) || (bif decide (x3 < 48) then (x3 != 95) else ((decide (57 < x3)) && (x3 != 95))))))] H ?_ ?_
  ·cases hg6:(!(((decide (65≤x3)) && (decide (x3≤90))) || ((decide (97≤x3)) && (decide (x3≤122)))))
   ·rw [hg6] at H
    refine seg_go 0 15 [(46,vB false)] H fun fr H=>?_
    exact seg_end (by (try simp only [hg6]); exact H.tq)
   ·rw [hg6] at H
    refine seg_go 12 3 [(34,vB (s1 == 0))] H fun fr H=>?_
    cases hg7:(s1 == 0)
    ·rw [hg7] at H
     refine seg_go 9 3 [(37,vB (decide (x3 < 48)))] H fun fr H=>?_
     cases hg8:(decide (x3 < 48))
     ·rw [hg8] at H
      refine seg_go 5 4 [(41,vB (decide (57 < x3)))] H fun fr H=>?_
      cases hg9:(decide (57 < x3))
      ·rw [hg9] at H
       refine seg_go 0 5 [(46,vB false)] H fun fr H=>?_
       exact seg_end (by (try simp only [hg6,hg7,hg8,hg9]); exact H.tq)
      ·rw [hg9] at H
       refine seg_go 0 5 [(46,vB (x3 != 95))] H fun fr H=>?_
       exact seg_end (by (try simp only [hg6,hg7,hg8,hg9]); exact H.tq)
     ·rw [hg8] at H
      refine seg_go 0 9 [(46,vB (x3 != 95))] H fun fr H=>?_
      exact seg_end (by (try simp only [hg6,hg7,hg8]); exact H.tq)
    ·rw [hg7] at H
     refine seg_go 0 12 [(46,vB true)] H fun fr H=>?_
     exact seg_end (by (try simp only [hg6,hg7]); exact H.tq)
  intro fr H
  refine qe ?_
  rcases csplit hr with ⟨hc10,hr⟩ | ⟨hc10,hr⟩
  ·refine qT H hc10 ?_
   refine W_seq (W_reg ?_)
   refine qg 1 [(2,vB false)] H fun fr H=>?_
   refine qe ?_
   refine W_ret ?_
   obtain rfl:=Option.some.inj hr
   exact ⟨by simp,⟨rfl,H.tq,K.keep []⟩⟩
  refine qF H hc10 ?_
  refine W_skip ?_
  refine W_reg ?_
  refine qg 3 [(3,vI (w64 (s1 + 1)))] H fun fr H=>?_
  refine qe ?_
  obtain rfl:=Option.some.inj hr
  exact ⟨rfl,⟨H.tq,K.keep []⟩⟩
 rcases r11 with r11a | r11b
 ·rintro e fr st ⟨rfl,H,K⟩
  obtain rfl:=Option.some.inj hr
  exact qr [vB false] H K
 rintro e fr st ⟨rfl,H,K⟩
 refine W_seq (W_reg ?_)
 refine qg 4 [(50,vB (decide (1≤(a0.size:Int))))] H fun fr H=>?_
 refine qg 4 [(54,vB ((decide (1≤(a0.size:Int))) && (decide ((a0.size:Int)≤16))))] H (hs:=by intro _ _; generalize (decide (1≤(a0.size:Int))) = b0; cases b0 <;> kernel_rfl) fun fr H=>?_
 refine qg 1 [(55,vB ((decide (1≤(a0.size:Int))) && (decide ((a0.size:Int)≤16))))] H fun fr H=>?_
 rcases csplit hr with ⟨hc12,hr⟩ | ⟨hc12,hr⟩
 rotate_left
 ·rw [hc12] at H
  refine qg 5 [(2,vB false)] H fun fr H=>?_
  refine qe ?_
  refine W_ret ?_
  obtain rfl:=Option.some.inj hr
  exact qr [vB false] H K
 rw [hc12] at H
 refine qg 1 [(56,vS a0)] H fun fr H=>?_
 refine qb hr (fun x h s=>F206_R n _ x h) H fun x13 hr fr H=>?_
 refine qg 3 [(2,vB !x13)] H fun fr H=>?_
 refine qe ?_
 refine W_ret ?_
 obtain rfl:=Option.some.inj hr
 exact qr [vB !x13] H K
def F205 (n:Nat) (a0:ByteArray):Option Bool :=
 (iter (σ:=Int × Int × Int) (ρ:=Unit ⊕ (Int × Int)) (fun s1=>bif decide (s1.2.2 < (a0.size:Int)) then
   ((idxS a0 s1.2.2).bind fun x3 =>
   bif x3 != 46 then
    (some (.inl (s1.1,s1.2.1,w64 (s1.2.2 + 1))))
   else
    ((subS a0 s1.2.1 s1.2.2).bind fun x5 =>
    (F174 n x5).bind fun x6 =>
    bif !x6 then
     (some (.inr (.inl ())))
    else
     (some (.inl (w64 (s1.1 + 1),w64 (s1.2.2 + 1),w64 (s1.2.2 + 1))))))
  else
   (some (.inr (.inr (s1.1,s1.2.1))))) n ((1:Int),(0:Int),(0:Int))).bind fun r8=>match r8 with
 | .inl _=>some false
 | .inr r8b=>bif decide (r8b.1≤3) then
   ((subS a0 r8b.2 (a0.size:Int)).bind fun x10 =>
   (F174 n x10).bind fun x11 =>
   some x11)
  else
   (some false)
theorem F205_R (n:Nat) (a0:ByteArray) (r:Bool) (hr:F205 n a0 = some r) {st:St}:R Tryz.prog AN 205 [vS a0] st (.ret (vB r)) st:=by
 unfold F205 at hr
 refine R_pureX [vS a0] [(0,vS a0)] Tryz.func205 rfl (by kernel_rfl) rfl fun fr st H K=>?_
 refine W_seq (W_reg ?_)
 refine qg 1 [] H fun fr H=>?_
 refine qe ?_
 refine W_seq (W_reg ?_)
 refine qg 1 [(3,vI 1)] H fun fr H=>?_
 refine qe ?_
 refine W_seq (W_reg ?_)
 refine qg 1 [(4,vI 0)] H fun fr H=>?_
 refine qe ?_
 refine W_seq (W_seq ?_)
 refine W_reg ?_
 refine qg 1 [(5,vI 0)] H fun fr H=>?_
 refine qe ?_
 refine W_block ?_
 obtain ⟨r8,hr8,hr⟩:=obind hr
 refine W_iter hr8 (fun (s1:Int × Int × Int) fr st=>Rd fr [(0,vS a0),(3,vI s1.1),(4,vI s1.2.1),(5,vI s1.2.2)]∧HL st []) (fun (r8:Unit ⊕ (Int × Int)) e fr st=>match r8 with | .inl r8a=>(e = .ret∧Rd fr [(2,vB false)]∧HL st []) | .inr r8b=>(e = .exit 0∧Rd fr [(0,vS a0),(3,vI r8b.1),(4,vI r8b.2)]∧HL st [])) ⟨H.tq,K.keep []⟩ ?_ ?_
 ·intro s1 fr st r hi hr
  obtain ⟨H,K⟩:=hi
  refine W_seq (W_seq ?_)
  refine W_reg ?_
  refine qg 4 [(9,vB (decide (s1.2.2 < (a0.size:Int))))] H fun fr H=>?_
  refine qe ?_
  rcases csplit hr with ⟨hc2,hr⟩ | ⟨hc2,hr⟩
  rotate_left
  ·refine qF H hc2 ?_
   refine W_exit ?_
   obtain rfl:=Option.some.inj hr
   exact ⟨by simp,⟨rfl,H.tq,K.keep []⟩⟩
  refine qT H hc2 ?_
  refine W_skip ?_
  refine W_seq (W_block ?_)
  refine W_seq (W_seq ?_)
  refine W_reg ?_
  refine qg 2 [(12,vS a0),(13,vI s1.2.2)] H fun fr H=>?_
  obtain ⟨x3,hx3,hr⟩:=obind hr
  refine qv (.index 9 (vS a0) (vI s1.2.2)) H (run_idxS (by kernel_rfl) hx3) fun fr H=>?_
  refine qg 1 [(15,vB (x3 != 46))] H fun fr H=>?_
  refine qe ?_
  rcases csplit hr with ⟨hc4,hr⟩ | ⟨hc4,hr⟩
  ·refine qT H hc4 ?_
   refine W_exit ?_
   refine W_reg ?_
   refine qg 3 [(5,vI (w64 (s1.2.2 + 1)))] H fun fr H=>?_
   refine qe ?_
   obtain rfl:=Option.some.inj hr
   exact ⟨rfl,⟨H.tq,K.keep []⟩⟩
  refine qF H hc4 ?_
  refine W_skip ?_
  refine W_seq (W_seq ?_)
  refine W_reg ?_
  refine qg 3 [(16,vS a0),(17,vI s1.2.1),(18,vI s1.2.2)] H fun fr H=>?_
  obtain ⟨x5,hx5,hr⟩:=obind hr
  refine qv (.slice 9 (vS a0) (some (vI s1.2.1)) (some (vI s1.2.2))) H (run_subS (by kernel_rfl) hx5) fun fr H=>?_
  refine qb hr (fun x h s=>F174_R n _ x h) H fun x6 hr fr H=>?_
  refine qg 1 [(21,vB !x6)] H fun fr H=>?_
  refine qe ?_
  rcases csplit hr with ⟨hc7,hr⟩ | ⟨hc7,hr⟩
  ·refine qT H hc7 ?_
   refine W_seq (W_reg ?_)
   refine qg 1 [(2,vB false)] H fun fr H=>?_
   refine qe ?_
   refine W_ret ?_
   obtain rfl:=Option.some.inj hr
   exact ⟨by simp,⟨rfl,H.tq,K.keep []⟩⟩
  refine qF H hc7 ?_
  refine W_skip ?_
  refine W_seq (W_reg ?_)
  refine qg 3 [(3,vI (w64 (s1.1 + 1)))] H fun fr H=>?_
  refine qe ?_
  refine W_reg ?_
  refine qg 3 [(4,vI (w64 (s1.2.2 + 1)))] H fun fr H=>?_
  refine qe ?_
  refine W_reg ?_
  refine qg 3 [(5,vI (w64 (s1.2.2 + 1)))] H fun fr H=>?_
  refine qe ?_
  obtain rfl:=Option.some.inj hr
  exact ⟨rfl,⟨H.tq,K.keep []⟩⟩
 rcases r8 with r8a | r8b
 ·rintro e fr st ⟨rfl,H,K⟩
  obtain rfl:=Option.some.inj hr
  exact qr [vB false] H K
 rintro e fr st ⟨rfl,H,K⟩
 refine W_seq (W_reg ?_)
 refine qg 3 [(28,vB (decide (r8b.1≤3)))] H fun fr H=>?_
 rcases csplit hr with ⟨hc9,hr⟩ | ⟨hc9,hr⟩
 rotate_left
 ·rw [hc9] at H
  refine qg 6 [(2,vB false)] H fun fr H=>?_
  refine qe ?_
  refine W_ret ?_
  obtain rfl:=Option.some.inj hr
  exact qr [vB false] H K
 rw [hc9] at H
 refine qg 2 [(29,vS a0),(30,vI r8b.2)] H fun fr H=>?_
 obtain ⟨x10,hx10,hr⟩:=obind hr
 refine qv (.slice 9 (vS a0) (some (vI r8b.2)) none) H (run_subS_lo (by kernel_rfl) hx10) fun fr H=>?_
 refine qb hr (fun x h s=>F174_R n _ x h) H fun x11 hr fr H=>?_
 refine qg 2 [(2,vB x11)] H fun fr H=>?_
 refine qe ?_
 refine W_ret ?_
 obtain rfl:=Option.some.inj hr
 exact qr [vB x11] H K
def F202 (_:Node):Option Bool :=
 none
theorem F202_R (a0:Node) (r:Bool) (hr:F202 a0 = some r) {st:St} {p0:Spare}:R Tryz.prog AN 202 [.agg (cNode p0 a0)] st (.ret (vB r)) st:=by
 unfold F202 at hr
 refine R_pureX [aN a0] [] Tryz.func202 rfl (by simp only [strip,stripL,stripL_cNode,Option.bind_some,Option.map_some]) rfl fun fr st H K=>?_
 cases hr
def F203 (_:Node):Option Bool :=
 none
theorem F203_R (a0:Node) (r:Bool) (hr:F203 a0 = some r) {st:St} {p0:Spare}:R Tryz.prog AN 203 [.agg (cNode p0 a0)] st (.ret (vB r)) st:=by
 unfold F203 at hr
 refine R_pureX [aN a0] [] Tryz.func203 rfl (by simp only [strip,stripL,stripL_cNode,Option.bind_some,Option.map_some]) rfl fun fr st H K=>?_
 cases hr
def F204 (_:Node):Option Bool :=
 none
theorem F204_R (a0:Node) (r:Bool) (hr:F204 a0 = some r) {st:St} {p0:Spare}:R Tryz.prog AN 204 [.agg (cNode p0 a0)] st (.ret (vB r)) st:=by
 unfold F204 at hr
 refine R_pureX [aN a0] [] Tryz.func204 rfl (by simp only [strip,stripL,stripL_cNode,Option.bind_some,Option.map_some]) rfl fun fr st H K=>?_
 cases hr
def F173_step (_:Node→Option Bool) (_:Node→Option Bool) (_:Int→Node→Option Bool) (F105:Node→Int→Option Bool) (n:Nat) (a0:Node):Option Bool :=
 bif a0.kind == 2 then
  ((F104 n a0 (bs [110])).bind fun x2 =>
  bif x2 then
   ((F205 n a0.name).bind fun x4 =>
   bif x4 then
    (bif decide ((a0.kids.length:Int)≤1) then
     ((F105 a0 (0:Int)).bind fun x7 =>
     some x7)
    else
     (some false))
   else
    (some false))
  else
   (some false))
 else
  (some false)
def F106_step (F173:Node→Option Bool) (_:Node→Option Bool) (_:Int→Node→Option Bool) (F105:Node→Int→Option Bool) (n:Nat) (a0:Node):Option Bool :=
 bif a0.kind == 1 then
  ((F104 n a0 (bs [35])).bind fun x2 =>
  some (x2 && ((a0.kids.length:Int) == 0)))
 else
  (bif a0.kind == 2 then
   ((F173 a0).bind fun x4 =>
   some x4)
  else
   (bif a0.kind == 3 then
    ((F104 n a0 (bs [])).bind fun x6 =>
    bif x6 && ((a0.kids.length:Int) == 1) then
     ((idxL a0.kids 0).bind fun x8 =>
     (F173 x8).bind fun x9 =>
     some x9)
    else
     (some false))
   else
    (bif a0.kind == 4 then
     ((F104 n a0 (bs [])).bind fun x11 =>
     bif x11 && ((a0.kids.length:Int) == 1) then
      ((F105 a0 (0:Int)).bind fun x13 =>
      some x13)
     else
      (some false))
    else
     (bif a0.kind == 5 then
      ((F73 ).bind fun x15 =>
      (iter (σ:=Bool × Int) (ρ:=Bool) (fun s16=>bif decide (s16.2 < (x15.length:Int)) then
        ((iter (σ:=Bool × Int) (ρ:=Bool) (fun s18=>(idxL x15 s16.2).bind fun x19 =>
         bif decide (s18.2 < (x19.length:Int)) then
          (bif s18.1 then
           (some (.inl (true,w64 (s18.2 + 1))))
          else
           ((idxL x15 s16.2).bind fun x22 =>
           (idxL x22 s18.2).bind fun x23 =>
           some (.inl ((strEq x23 a0.name),w64 (s18.2 + 1)))))
         else
          (some (.inr s18.1))) n (s16.1,(0:Int))).bind fun r24 =>
        some (.inl (r24,w64 (s16.2 + 1))))
       else
        (some (.inr s16.1))) n ((strEq a0.name (bs [61,61,62])),(0:Int))).bind fun r25 =>
      bif r25 then
       ((F104 n a0 (bs [110])).bind fun x27 =>
       bif x27 && ((a0.kids.length:Int) == 2) then
        ((F105 a0 (0:Int)).bind fun x29 =>
        some x29)
       else
        (some false))
      else
       (some false))
     else
      (bif a0.kind == 6 then
       ((F104 n a0 (bs [])).bind fun x31 =>
       bif x31 && ((a0.kids.length:Int) == 3) then
        ((F105 a0 (0:Int)).bind fun x33 =>
        some x33)
       else
        (some false))
      else
       ((bif a0.kind == 7 then
         (some (a0.kind == 7))
        else
         (some (a0.kind == 8)):Option (Bool)).bind fun j35 =>
       bif j35 then
        ((F104 n a0 (bs [110,35])).bind fun x37 =>
        bif x37 then
         ((F174 n a0.name).bind fun x39 =>
         bif x39 && ((a0.kids.length:Int) == 1) then
          ((F105 a0 (0:Int)).bind fun x41 =>
          some x41)
         else
          (some false))
        else
         (some false))
       else
        (some false)))))))
def F172_step (F173:Node→Option Bool) (F106:Node→Option Bool) (_:Int→Node→Option Bool) (_:Node→Int→Option Bool) (n:Nat) (a0:Int) (a1:Node):Option Bool :=
 bif a0 == 1 then
  ((F202 a1).bind fun x2 =>
  some x2)
 else
  (bif a0 == 2 then
   (bif a1.kind == 52 then
    ((F104 n a1 (bs [110,35])).bind fun x5 =>
    bif x5 then
     ((F174 n a1.name).bind fun x7 =>
     bif x7 then
      (some ((a1.kids.length:Int) == 0))
     else
      (some false))
    else
     (some false))
   else
    (some false))
  else
   (bif a0 == 3 then
    (bif a1.kind == 58 then
     ((F104 n a1 (bs [110,35])).bind fun x11 =>
     bif x11 then
      ((F174 n a1.name).bind fun x13 =>
      bif x13 then
       (some ((a1.kids.length:Int) == 0))
      else
       (some false))
     else
      (some false))
    else
     (some false))
   else
    (bif a0 == 4 then
     ((F203 a1).bind fun x16 =>
     some x16)
    else
     (bif a0 == 5 then
      ((F204 a1).bind fun x18 =>
      some x18)
     else
      (bif a0 == 6 then
       (bif a1.kind == 1 then
        ((F106 a1).bind fun x21 =>
        some x21)
       else
        (some false))
      else
       (bif a0 == 7 then
        ((F173 a1).bind fun x23 =>
        bif x23 then
         (some ((a1.kids.length:Int) == 0))
        else
         (some false))
       else
        ((F106 a1).bind fun x25 =>
        some x25)))))))
def F105_step (_:Node→Option Bool) (_:Node→Option Bool) (F172:Int→Node→Option Bool) (_:Node→Int→Option Bool) (n:Nat) (a0:Node) (a1:Int):Option Bool :=
 (iter (σ:=Int) (ρ:=Unit ⊕ Unit) (fun s1=>bif decide (s1 < (a0.kids.length:Int)) then
   ((idxL a0.kids s1).bind fun x3 =>
   (F172 a1 x3).bind fun x4 =>
   bif !x4 then
    (some (.inr (.inl ())))
   else
    (some (.inl (w64 (s1 + 1)))))
  else
   (some (.inr (.inr ())))) n (0:Int)).bind fun r6=>match r6 with
 | .inl _=>some false
 | .inr _=>some true
mutual
def F173:Nat→Node→Option Bool
 | 0,_=>none
 | n + 1,a0=>F173_step (F173 n) (F106 n) (F172 n) (F105 n) n a0
def F106:Nat→Node→Option Bool
 | 0,_=>none
 | n + 1,a0=>F106_step (F173 n) (F106 n) (F172 n) (F105 n) n a0
def F172:Nat→Int→Node→Option Bool
 | 0,_,_=>none
 | n + 1,a0,a1=>F172_step (F173 n) (F106 n) (F172 n) (F105 n) n a0 a1
def F105:Nat→Node→Int→Option Bool
 | 0,_,_=>none
 | n + 1,a0,a1=>F105_step (F173 n) (F106 n) (F172 n) (F105 n) n a0 a1
end
theorem F173_RR (n:Nat):(∀ (a0:Node) (r:Bool),F173 n a0 = some r→∀ {st:St} {p0:Spare},R Tryz.prog AN 173 [.agg (cNode p0 a0)] st (.ret (vB r)) st)∧(∀ (a0:Node) (r:Bool),F106 n a0 = some r→∀ {st:St} {p0:Spare},R Tryz.prog AN 106 [.agg (cNode p0 a0)] st (.ret (vB r)) st)∧(∀ (a0:Int) (a1:Node) (r:Bool),F172 n a0 a1 = some r→∀ {st:St} {p0:Spare},R Tryz.prog AN 172 [vI a0,.agg (cNode p0 a1)] st (.ret (vB r)) st)∧(∀ (a0:Node) (a1:Int) (r:Bool),F105 n a0 a1 = some r→∀ {st:St} {p0:Spare},R Tryz.prog AN 105 [.agg (cNode p0 a0),vI a1] st (.ret (vB r)) st):=by
 induction n with
 | zero=>exact ⟨by intros; contradiction,by intros; contradiction,by intros; contradiction,by intros; contradiction⟩
 | succ n ih =>
  obtain ⟨ih_F173,ih_F106,ih_F172,ih_F105⟩:=ih
  refine ⟨?_,?_,?_,?_⟩
  ·intro a0 r hr st p0
   change F173_step (F173 n) (F106 n) (F172 n) (F105 n) n a0 = some r at hr
   unfold F173_step at hr
   refine R_pureX [aN a0] [(0,aN a0)] Tryz.func173 rfl (by simp only [strip,stripL,stripL_cNode,Option.bind_some,Option.map_some]) rfl fun fr st H K=>?_
   refine W_seq (W_reg ?_)
   refine qg 2 [(1,cN a0 0)] H fun fr H=>?_
   refine qe ?_
   refine W_seq (W_reg ?_)
   refine qg 4 [(6,vB (a0.kind == 2))] H fun fr H=>?_
   rcases csplit hr with ⟨hc1,hr⟩ | ⟨hc1,hr⟩
   rotate_left
   ·rw [hc1] at H
    refine qg 19 [(2,vB false)] H fun fr H=>?_
    refine qe ?_
    refine W_ret ?_
    obtain rfl:=Option.some.inj hr
    exact qr [vB false] H K
   rw [hc1] at H
   refine qg 1 [(7,aN a0)] H fun fr H=>?_
   refine qb hr (fun x h s=>F104_R n _ _ x h (p0:=.shut)) H fun x2 hr fr H=>?_
   refine qg 2 [(10,vB x2)] H fun fr H=>?_
   rcases csplit hr with ⟨hc3,hr⟩ | ⟨hc3,hr⟩
   rotate_left
   ·rw [hc3] at H
    refine qg 15 [(2,vB false)] H fun fr H=>?_
    refine qe ?_
    refine W_ret ?_
    obtain rfl:=Option.some.inj hr
    exact qr [vB false] H K
   rw [hc3] at H
   refine qg 2 [(12,vS a0.name)] H fun fr H=>?_
   refine qb hr (fun x h s=>F205_R n _ x h) H fun x4 hr fr H=>?_
   refine qg 2 [(15,vB x4)] H fun fr H=>?_
   rcases csplit hr with ⟨hc5,hr⟩ | ⟨hc5,hr⟩
   rotate_left
   ·rw [hc5] at H
    refine qg 10 [(2,vB false)] H fun fr H=>?_
    refine qe ?_
    refine W_ret ?_
    obtain rfl:=Option.some.inj hr
    exact qr [vB false] H K
   rw [hc5] at H
   refine qg 2 [(17,vL tNode a0.kids .shut)] H fun fr H=>?_
   refine qln tNode 22 a0.kids .shut H fun fr H=>?_
   refine qg 3 [(21,vB (decide ((a0.kids.length:Int)≤1)))] H fun fr H=>?_
   rcases csplit hr with ⟨hc6,hr⟩ | ⟨hc6,hr⟩
   rotate_left
   ·rw [hc6] at H
    refine qg 4 [(2,vB false)] H fun fr H=>?_
    refine qe ?_
    refine W_ret ?_
    obtain rfl:=Option.some.inj hr
    exact qr [vB false] H K
   rw [hc6] at H
   refine qg 1 [(22,aN a0)] H fun fr H=>?_
   refine qb hr (fun x h s=>ih_F105 _ _ x h (p0:=.shut)) H fun x7 hr fr H=>?_
   refine qg 2 [(2,vB x7)] H fun fr H=>?_
   refine qe ?_
   refine W_ret ?_
   obtain rfl:=Option.some.inj hr
   exact qr [vB x7] H K
  ·intro a0 r hr st p0
   change F106_step (F173 n) (F106 n) (F172 n) (F105 n) n a0 = some r at hr
   unfold F106_step at hr
   refine R_pureX [aN a0] [(0,aN a0)] Tryz.func106 rfl (by simp only [strip,stripL,stripL_cNode,Option.bind_some,Option.map_some]) rfl fun fr st H K=>?_
   refine W_seq (W_reg ?_)
   refine qg 2 [(1,cN a0 0)] H fun fr H=>?_
   refine qe ?_
   refine W_seq (W_reg ?_)
   refine qg 2 [(9,vL tNode a0.kids .shut)] H fun fr H=>?_
   refine qln tNode 22 a0.kids .shut H fun fr H=>?_
   refine qg 1 [(3,vI (a0.kids.length:Int))] H fun fr H=>?_
   refine qe ?_
   refine W_seq (W_seq ?_)
   refine W_reg ?_
   refine qg 2 [(12,vI a0.kind)] H fun fr H=>?_
   refine qe ?_
   refine W_block ?_
   refine W_seq (W_reg ?_)
   refine qg 2 [(13,vB (a0.kind == 1))] H fun fr H=>?_
   refine qe ?_
   rcases csplit hr with ⟨hc1,hr⟩ | ⟨hc1,hr⟩
   ·refine qT H hc1 ?_
    refine W_seq (W_reg ?_)
    refine qg 1 [(15,aN a0)] H fun fr H=>?_
    refine qb hr (fun x h s=>F104_R n _ _ x h (p0:=.shut)) H fun x2 hr fr H=>?_
    refine qg 1 [(17,vB x2)] H fun fr H=>?_
    refine qg 3 [(20,vB (x2 && ((a0.kids.length:Int) == 0)))] H (hs:=by intro _ _; generalize (x2) = b0; cases b0 <;> kernel_rfl) fun fr H=>?_
    refine qg 1 [(2,vB (x2 && ((a0.kids.length:Int) == 0)))] H fun fr H=>?_
    refine qe ?_
    refine W_ret ?_
    obtain rfl:=Option.some.inj hr
    exact qr [vB (x2 && ((a0.kids.length:Int) == 0))] H K
   refine qF H hc1 ?_
   refine W_seq (W_reg ?_)
   refine qg 2 [(21,vB (a0.kind == 2))] H fun fr H=>?_
   refine qe ?_
   rcases csplit hr with ⟨hc3,hr⟩ | ⟨hc3,hr⟩
   ·refine qT H hc3 ?_
    refine W_seq (W_reg ?_)
    refine qg 1 [(23,aN a0)] H fun fr H=>?_
    refine qb hr (fun x h s=>ih_F173 _ x h (p0:=.shut)) H fun x4 hr fr H=>?_
    refine qg 1 [(2,vB x4)] H fun fr H=>?_
    refine qe ?_
    refine W_ret ?_
    obtain rfl:=Option.some.inj hr
    exact qr [vB x4] H K
   refine qF H hc3 ?_
   refine W_seq (W_reg ?_)
   refine qg 2 [(25,vB (a0.kind == 3))] H fun fr H=>?_
   refine qe ?_
   rcases csplit hr with ⟨hc5,hr⟩ | ⟨hc5,hr⟩
   ·refine qT H hc5 ?_
    refine W_seq (W_reg ?_)
    refine qg 1 [(27,aN a0)] H fun fr H=>?_
    refine qb hr (fun x h s=>F104_R n _ _ x h (p0:=.shut)) H fun x6 hr fr H=>?_
    refine qg 1 [(29,vB x6)] H fun fr H=>?_
    refine qg 3 [(32,vB (x6 && ((a0.kids.length:Int) == 1)))] H (hs:=by intro _ _; generalize (x6) = b0; cases b0 <;> kernel_rfl) fun fr H=>?_
    refine qg 1 [(33,vB (x6 && ((a0.kids.length:Int) == 1)))] H fun fr H=>?_
    rcases csplit hr with ⟨hc7,hr⟩ | ⟨hc7,hr⟩
    rotate_left
    ·rw [hc7] at H
     refine qg 7 [(2,vB false)] H fun fr H=>?_
     refine qe ?_
     refine W_ret ?_
     obtain rfl:=Option.some.inj hr
     exact qr [vB false] H K
    rw [hc7] at H
    refine qg 2 [(35,vL tNode a0.kids .shut)] H fun fr H=>?_
    refine qix tNode 22 .shut hr H fun x8 hr hx8 fr H=>?_
    refine qg 1 [(37,aN x8)] H fun fr H=>?_
    refine qb hr (fun x h s=>ih_F173 _ x h (p0:=.shut)) H fun x9 hr fr H=>?_
    refine qg 2 [(2,vB x9)] H fun fr H=>?_
    refine qe ?_
    refine W_ret ?_
    obtain rfl:=Option.some.inj hr
    exact qr [vB x9] H K
   refine qF H hc5 ?_
   refine W_seq (W_reg ?_)
   refine qg 2 [(40,vB (a0.kind == 4))] H fun fr H=>?_
   refine qe ?_
   rcases csplit hr with ⟨hc10,hr⟩ | ⟨hc10,hr⟩
   ·refine qT H hc10 ?_
    refine W_seq (W_reg ?_)
    refine qg 1 [(42,aN a0)] H fun fr H=>?_
    refine qb hr (fun x h s=>F104_R n _ _ x h (p0:=.shut)) H fun x11 hr fr H=>?_
    refine qg 1 [(44,vB x11)] H fun fr H=>?_
    refine qg 3 [(47,vB (x11 && ((a0.kids.length:Int) == 1)))] H (hs:=by intro _ _; generalize (x11) = b0; cases b0 <;> kernel_rfl) fun fr H=>?_
    refine qg 1 [(48,vB (x11 && ((a0.kids.length:Int) == 1)))] H fun fr H=>?_
    rcases csplit hr with ⟨hc12,hr⟩ | ⟨hc12,hr⟩
    rotate_left
    ·rw [hc12] at H
     refine qg 4 [(2,vB false)] H fun fr H=>?_
     refine qe ?_
     refine W_ret ?_
     obtain rfl:=Option.some.inj hr
     exact qr [vB false] H K
    rw [hc12] at H
    refine qg 1 [(49,aN a0)] H fun fr H=>?_
    refine qb hr (fun x h s=>ih_F105 _ _ x h (p0:=.shut)) H fun x13 hr fr H=>?_
    refine qg 2 [(2,vB x13)] H fun fr H=>?_
    refine qe ?_
    refine W_ret ?_
    obtain rfl:=Option.some.inj hr
    exact qr [vB x13] H K
   refine qF H hc10 ?_
   refine W_seq (W_reg ?_)
   refine qg 2 [(52,vB (a0.kind == 5))] H fun fr H=>?_
   refine qe ?_
   rcases csplit hr with ⟨hc14,hr⟩ | ⟨hc14,hr⟩
   rotate_left
   ·refine qF H hc14 ?_
    refine W_seq (W_reg ?_)
    refine qg 2 [(99,vB (a0.kind == 6))] H fun fr H=>?_
    refine qe ?_
    rcases csplit hr with ⟨hc30,hr⟩ | ⟨hc30,hr⟩
    ·refine qT H hc30 ?_
     refine W_seq (W_reg ?_)
     refine qg 1 [(101,aN a0)] H fun fr H=>?_
     refine qb hr (fun x h s=>F104_R n _ _ x h (p0:=.shut)) H fun x31 hr fr H=>?_
     refine qg 1 [(103,vB x31)] H fun fr H=>?_
     refine qg 3 [(106,vB (x31 && ((a0.kids.length:Int) == 3)))] H (hs:=by intro _ _; generalize (x31) = b0; cases b0 <;> kernel_rfl) fun fr H=>?_
     refine qg 1 [(107,vB (x31 && ((a0.kids.length:Int) == 3)))] H fun fr H=>?_
     rcases csplit hr with ⟨hc32,hr⟩ | ⟨hc32,hr⟩
     rotate_left
     ·rw [hc32] at H
      refine qg 4 [(2,vB false)] H fun fr H=>?_
      refine qe ?_
      refine W_ret ?_
      obtain rfl:=Option.some.inj hr
      exact qr [vB false] H K
     rw [hc32] at H
     refine qg 1 [(108,aN a0)] H fun fr H=>?_
     refine qb hr (fun x h s=>ih_F105 _ _ x h (p0:=.shut)) H fun x33 hr fr H=>?_
     refine qg 2 [(2,vB x33)] H fun fr H=>?_
     refine qe ?_
     refine W_ret ?_
     obtain rfl:=Option.some.inj hr
     exact qr [vB x33] H K
    refine qF H hc30 ?_
    refine W_seq ?_
    obtain ⟨j35,hj35,hr⟩:=obind hr
    refine W_via (fun e fr st=>e = .normal∧Rd fr [(1,cN a0 0),(3,vI (a0.kids.length:Int)),(111,vB j35)]∧HL st []) ?_ ?_
    ·replace hr:=hj35
     refine W_seq (W_reg ?_)
     refine qg 2 [(111,vB (a0.kind == 7))] H fun fr H=>?_
     refine qe ?_
     rcases csplit hr with ⟨hc34,hr⟩ | ⟨hc34,hr⟩
     ·refine qT H hc34 ?_
      refine W_skip ?_
      obtain rfl:=Option.some.inj hr
      exact ⟨rfl,H.tq,K.keep []⟩
     refine qF H hc34 ?_
     refine W_reg ?_
     refine qg 2 [(111,vB (a0.kind == 8))] H fun fr H=>?_
     refine qe ?_
     obtain rfl:=Option.some.inj hr
     exact ⟨rfl,H.tq,K.keep []⟩
    rintro e fr st ⟨rfl,H,K⟩
    rcases csplit hr with ⟨hc36,hr⟩ | ⟨hc36,hr⟩
    rotate_left
    ·refine qF H hc36 ?_
     refine W_skip ?_
     refine W_seq (W_reg ?_)
     refine qg 1 [(2,vB false)] H fun fr H=>?_
     refine qe ?_
     refine W_ret ?_
     obtain rfl:=Option.some.inj hr
     exact qr [vB false] H K
    refine qT H hc36 ?_
    refine W_seq (W_reg ?_)
    refine qg 1 [(114,aN a0)] H fun fr H=>?_
    refine qb hr (fun x h s=>F104_R n _ _ x h (p0:=.shut)) H fun x37 hr fr H=>?_
    refine qg 1 [(116,vB x37)] H fun fr H=>?_
    rcases csplit hr with ⟨hc38,hr⟩ | ⟨hc38,hr⟩
    rotate_left
    ·rw [hc38] at H
     refine qg 13 [(2,vB false)] H fun fr H=>?_
     refine qe ?_
     refine W_ret ?_
     obtain rfl:=Option.some.inj hr
     exact qr [vB false] H K
    rw [hc38] at H
    refine qg 2 [(118,vS a0.name)] H fun fr H=>?_
    refine qb hr (fun x h s=>F174_R n _ x h) H fun x39 hr fr H=>?_
    refine qg 2 [(121,vB x39)] H fun fr H=>?_
    refine qg 3 [(124,vB (x39 && ((a0.kids.length:Int) == 1)))] H (hs:=by intro _ _; generalize (x39) = b0; cases b0 <;> kernel_rfl) fun fr H=>?_
    refine qg 1 [(125,vB (x39 && ((a0.kids.length:Int) == 1)))] H fun fr H=>?_
    rcases csplit hr with ⟨hc40,hr⟩ | ⟨hc40,hr⟩
    rotate_left
    ·rw [hc40] at H
     refine qg 4 [(2,vB false)] H fun fr H=>?_
     refine qe ?_
     refine W_ret ?_
     obtain rfl:=Option.some.inj hr
     exact qr [vB false] H K
    rw [hc40] at H
    refine qg 1 [(126,aN a0)] H fun fr H=>?_
    refine qb hr (fun x h s=>ih_F105 _ _ x h (p0:=.shut)) H fun x41 hr fr H=>?_
    refine qg 2 [(2,vB x41)] H fun fr H=>?_
    refine qe ?_
    refine W_ret ?_
    obtain rfl:=Option.some.inj hr
    exact qr [vB x41] H K
   refine qT H hc14 ?_
   refine W_seq (W_reg ?_)
   refine qg 4 [(4,vB (strEq a0.name (bs [61,61,62])))] H fun fr H=>?_
   refine qe ?_
   refine W_seq (W_reg ?_)
   refine qb hr (fun x h s=>F73_R  x h) H fun x15 hr fr H=>?_
   refine qg 1 [(5,vL (tL tS) x15 .shut)] H fun fr H=>?_
   refine qe ?_
   refine W_seq (W_seq ?_)
   refine W_reg ?_
   refine qg 1 [(6,vI 0)] H fun fr H=>?_
   refine qe ?_
   refine W_block ?_
   obtain ⟨r25,hr25,hr⟩:=obind hr
   refine W_iter hr25 (fun (s16:Bool × Int) fr st=>Rd fr [(1,cN a0 0),(3,vI (a0.kids.length:Int)),(4,vB s16.1),(5,vL (tL tS) x15 .shut),(6,vI s16.2)]∧HL st []) (fun (r25:Bool) e fr st=>e = .exit 1∧Rd fr [(1,cN a0 0),(3,vI (a0.kids.length:Int)),(4,vB r25)]∧HL st []) ⟨H.tq,K.keep []⟩ ?_ ?_
   ·intro s16 fr st r hi hr
    obtain ⟨H,K⟩:=hi
    refine W_seq (W_seq ?_)
    refine W_reg ?_
    refine qg 2 [(58,vI s16.2),(59,vL (tL tS) x15 .shut)] H fun fr H=>?_
    refine qln (tL tS) 98 x15 .shut H fun fr H=>?_
    refine qg 1 [(61,vB (decide (s16.2 < (x15.length:Int))))] H fun fr H=>?_
    refine qe ?_
    rcases csplit hr with ⟨hc17,hr⟩ | ⟨hc17,hr⟩
    rotate_left
    ·refine qF H hc17 ?_
     refine W_exit ?_
     obtain rfl:=Option.some.inj hr
     exact ⟨by simp,⟨rfl,H.tq,K.keep []⟩⟩
    refine qT H hc17 ?_
    refine W_skip ?_
    refine W_seq (W_block ?_)
    refine W_seq (W_reg ?_)
    refine qg 1 [(7,vI 0)] H fun fr H=>?_
    refine qe ?_
    refine W_block ?_
    obtain ⟨r24,hr24,hr⟩:=obind hr
    refine W_iter hr24 (fun (s18:Bool × Int) fr st=>Rd fr [(1,cN a0 0),(3,vI (a0.kids.length:Int)),(4,vB s18.1),(5,vL (tL tS) x15 .shut),(6,vI s16.2),(7,vI s18.2)]∧HL st []) (fun (r24:Bool) e fr st=>e = .exit 3∧Rd fr [(1,cN a0 0),(3,vI (a0.kids.length:Int)),(4,vB r24),(5,vL (tL tS) x15 .shut),(6,vI s16.2)]∧HL st []) ⟨H.tq,K.keep []⟩ ?_ ?_
    ·intro s18 fr st r hi hr
     obtain ⟨H,K⟩:=hi
     refine W_seq (W_seq ?_)
     refine W_reg ?_
     refine qg 3 [(64,vI s18.2),(65,vL (tL tS) x15 .shut),(66,vI s16.2)] H fun fr H=>?_
     refine qix (tL tS) 98 .shut hr H fun x19 hr hx19 fr H=>?_
     refine qg 1 [(68,vL tS x19 .shut)] H fun fr H=>?_
     refine qln tS 30 x19 .shut H fun fr H=>?_
     refine qg 1 [(70,vB (decide (s18.2 < (x19.length:Int))))] H fun fr H=>?_
     refine qe ?_
     rcases csplit hr with ⟨hc20,hr⟩ | ⟨hc20,hr⟩
     rotate_left
     ·refine qF H hc20 ?_
      refine W_exit ?_
      obtain rfl:=Option.some.inj hr
      exact ⟨by simp,⟨rfl,H.tq,K.keep []⟩⟩
     refine qT H hc20 ?_
     refine W_skip ?_
     refine W_seq (W_block ?_)
     refine W_drw ?_
     refine qg 2 [(74,vB s18.1)] H fun fr H=>?_
     rcases csplit hr with ⟨hc21,hr⟩ | ⟨hc21,hr⟩
     ·rw [hc21] at H
      refine qg 12 [(4,vB true)] H fun fr H=>?_
      refine qe (qd ?_)
      refine W_reg ?_
      refine qg 3 [(7,vI (w64 (s18.2 + 1)))] H fun fr H=>?_
      refine qe ?_
      obtain rfl:=Option.some.inj hr
      exact ⟨rfl,⟨H.tq,K.keep []⟩⟩
     rw [hc21] at H
     refine qg 2 [(75,vL (tL tS) x15 .shut),(76,vI s16.2)] H fun fr H=>?_
     refine qix (tL tS) 98 .shut hr H fun x22 hr hx22 fr H=>?_
     refine qg 2 [(78,vL tS x22 .shut),(79,vI s18.2)] H fun fr H=>?_
     refine qix tS 30 .shut hr H fun x23 hr hx23 fr H=>?_
     refine qg 6 [(4,vB (strEq x23 a0.name))] H fun fr H=>?_
     refine qe (qd ?_)
     refine W_reg ?_
     refine qg 3 [(7,vI (w64 (s18.2 + 1)))] H fun fr H=>?_
     refine qe ?_
     obtain rfl:=Option.some.inj hr
     exact ⟨rfl,⟨H.tq,K.keep []⟩⟩
    rintro e fr st ⟨rfl,H,K⟩
    refine W_reg ?_
    refine qg 3 [(6,vI (w64 (s16.2 + 1)))] H fun fr H=>?_
    refine qe ?_
    obtain rfl:=Option.some.inj hr
    exact ⟨rfl,⟨H.tq,K.keep []⟩⟩
   rintro e fr st ⟨rfl,H,K⟩
   refine W_seq (W_reg ?_)
   refine qg 2 [(87,vB r25)] H fun fr H=>?_
   rcases csplit hr with ⟨hc26,hr⟩ | ⟨hc26,hr⟩
   rotate_left
   ·rw [hc26] at H
    refine qg 12 [(2,vB false)] H fun fr H=>?_
    refine qe ?_
    refine W_ret ?_
    obtain rfl:=Option.some.inj hr
    exact qr [vB false] H K
   rw [hc26] at H
   refine qg 1 [(88,aN a0)] H fun fr H=>?_
   refine qb hr (fun x h s=>F104_R n _ _ x h (p0:=.shut)) H fun x27 hr fr H=>?_
   refine qg 2 [(91,vB x27)] H fun fr H=>?_
   refine qg 3 [(94,vB (x27 && ((a0.kids.length:Int) == 2)))] H (hs:=by intro _ _; generalize (x27) = b0; cases b0 <;> kernel_rfl) fun fr H=>?_
   refine qg 1 [(95,vB (x27 && ((a0.kids.length:Int) == 2)))] H fun fr H=>?_
   rcases csplit hr with ⟨hc28,hr⟩ | ⟨hc28,hr⟩
   rotate_left
   ·rw [hc28] at H
    refine qg 4 [(2,vB false)] H fun fr H=>?_
    refine qe ?_
    refine W_ret ?_
    obtain rfl:=Option.some.inj hr
    exact qr [vB false] H K
   rw [hc28] at H
   refine qg 1 [(96,aN a0)] H fun fr H=>?_
   refine qb hr (fun x h s=>ih_F105 _ _ x h (p0:=.shut)) H fun x29 hr fr H=>?_
   refine qg 2 [(2,vB x29)] H fun fr H=>?_
   refine qe ?_
   refine W_ret ?_
   obtain rfl:=Option.some.inj hr
   exact qr [vB x29] H K
  ·intro a0 a1 r hr st p0
   change F172_step (F173 n) (F106 n) (F172 n) (F105 n) n a0 a1 = some r at hr
   unfold F172_step at hr
   refine R_pureX [vI a0,aN a1] [(0,vI a0),(1,aN a1)] Tryz.func172 rfl (by simp only [strip,stripL,stripL_cNode,Option.bind_some,Option.map_some]) rfl fun fr st H K=>?_
   refine W_seq (W_reg ?_)
   refine qg 2 [(3,cN a1 0)] H fun fr H=>?_
   refine qe ?_
   refine W_seq (W_seq ?_)
   refine W_reg ?_
   refine qg 1 [(5,vI a0)] H fun fr H=>?_
   refine qe ?_
   refine W_block ?_
   refine W_seq (W_reg ?_)
   refine qg 2 [(6,vB (a0 == 1))] H fun fr H=>?_
   refine qe ?_
   rcases csplit hr with ⟨hc1,hr⟩ | ⟨hc1,hr⟩
   ·refine qT H hc1 ?_
    refine W_seq (W_reg ?_)
    refine qg 1 [(8,aN a1)] H fun fr H=>?_
    refine qb hr (fun x h s=>F202_R  _ x h (p0:=.shut)) H fun x2 hr fr H=>?_
    refine qg 1 [(4,vB x2)] H fun fr H=>?_
    refine qe ?_
    refine W_ret ?_
    obtain rfl:=Option.some.inj hr
    exact qr [vB x2] H K
   refine qF H hc1 ?_
   refine W_seq (W_reg ?_)
   refine qg 2 [(10,vB (a0 == 2))] H fun fr H=>?_
   refine qe ?_
   rcases csplit hr with ⟨hc3,hr⟩ | ⟨hc3,hr⟩
   ·refine qT H hc3 ?_
    refine W_seq (W_reg ?_)
    refine qg 4 [(15,vB (a1.kind == 52))] H fun fr H=>?_
    rcases csplit hr with ⟨hc4,hr⟩ | ⟨hc4,hr⟩
    rotate_left
    ·rw [hc4] at H
     refine qg 15 [(4,vB false)] H fun fr H=>?_
     refine qe ?_
     refine W_ret ?_
     obtain rfl:=Option.some.inj hr
     exact qr [vB false] H K
    rw [hc4] at H
    refine qg 1 [(16,aN a1)] H fun fr H=>?_
    refine qb hr (fun x h s=>F104_R n _ _ x h (p0:=.shut)) H fun x5 hr fr H=>?_
    refine qg 2 [(19,vB x5)] H fun fr H=>?_
    rcases csplit hr with ⟨hc6,hr⟩ | ⟨hc6,hr⟩
    rotate_left
    ·rw [hc6] at H
     refine qg 11 [(4,vB false)] H fun fr H=>?_
     refine qe ?_
     refine W_ret ?_
     obtain rfl:=Option.some.inj hr
     exact qr [vB false] H K
    rw [hc6] at H
    refine qg 2 [(21,vS a1.name)] H fun fr H=>?_
    refine qb hr (fun x h s=>F174_R n _ x h) H fun x7 hr fr H=>?_
    refine qg 2 [(24,vB x7)] H fun fr H=>?_
    rcases csplit hr with ⟨hc8,hr⟩ | ⟨hc8,hr⟩
    rotate_left
    ·rw [hc8] at H
     refine qg 6 [(4,vB false)] H fun fr H=>?_
     refine qe ?_
     refine W_ret ?_
     obtain rfl:=Option.some.inj hr
     exact qr [vB false] H K
    rw [hc8] at H
    refine qg 2 [(26,vL tNode a1.kids .shut)] H fun fr H=>?_
    refine qln tNode 22 a1.kids .shut H fun fr H=>?_
    refine qg 3 [(4,vB ((a1.kids.length:Int) == 0))] H fun fr H=>?_
    refine qe ?_
    refine W_ret ?_
    obtain rfl:=Option.some.inj hr
    exact qr [vB ((a1.kids.length:Int) == 0)] H K
   refine qF H hc3 ?_
   refine W_seq (W_reg ?_)
   refine qg 2 [(30,vB (a0 == 3))] H fun fr H=>?_
   refine qe ?_
   rcases csplit hr with ⟨hc9,hr⟩ | ⟨hc9,hr⟩
   ·refine qT H hc9 ?_
    refine W_seq (W_reg ?_)
    refine qg 4 [(35,vB (a1.kind == 58))] H fun fr H=>?_
    rcases csplit hr with ⟨hc10,hr⟩ | ⟨hc10,hr⟩
    rotate_left
    ·rw [hc10] at H
     refine qg 15 [(4,vB false)] H fun fr H=>?_
     refine qe ?_
     refine W_ret ?_
     obtain rfl:=Option.some.inj hr
     exact qr [vB false] H K
    rw [hc10] at H
    refine qg 1 [(36,aN a1)] H fun fr H=>?_
    refine qb hr (fun x h s=>F104_R n _ _ x h (p0:=.shut)) H fun x11 hr fr H=>?_
    refine qg 2 [(39,vB x11)] H fun fr H=>?_
    rcases csplit hr with ⟨hc12,hr⟩ | ⟨hc12,hr⟩
    rotate_left
    ·rw [hc12] at H
     refine qg 11 [(4,vB false)] H fun fr H=>?_
     refine qe ?_
     refine W_ret ?_
     obtain rfl:=Option.some.inj hr
     exact qr [vB false] H K
    rw [hc12] at H
    refine qg 2 [(41,vS a1.name)] H fun fr H=>?_
    refine qb hr (fun x h s=>F174_R n _ x h) H fun x13 hr fr H=>?_
    refine qg 2 [(44,vB x13)] H fun fr H=>?_
    rcases csplit hr with ⟨hc14,hr⟩ | ⟨hc14,hr⟩
    rotate_left
    ·rw [hc14] at H
     refine qg 6 [(4,vB false)] H fun fr H=>?_
     refine qe ?_
     refine W_ret ?_
     obtain rfl:=Option.some.inj hr
     exact qr [vB false] H K
    rw [hc14] at H
    refine qg 2 [(46,vL tNode a1.kids .shut)] H fun fr H=>?_
    refine qln tNode 22 a1.kids .shut H fun fr H=>?_
    refine qg 3 [(4,vB ((a1.kids.length:Int) == 0))] H fun fr H=>?_
    refine qe ?_
    refine W_ret ?_
    obtain rfl:=Option.some.inj hr
    exact qr [vB ((a1.kids.length:Int) == 0)] H K
   refine qF H hc9 ?_
   refine W_seq (W_reg ?_)
   refine qg 2 [(50,vB (a0 == 4))] H fun fr H=>?_
   refine qe ?_
   rcases csplit hr with ⟨hc15,hr⟩ | ⟨hc15,hr⟩
   ·refine qT H hc15 ?_
    refine W_seq (W_reg ?_)
    refine qg 1 [(52,aN a1)] H fun fr H=>?_
    refine qb hr (fun x h s=>F203_R  _ x h (p0:=.shut)) H fun x16 hr fr H=>?_
    refine qg 1 [(4,vB x16)] H fun fr H=>?_
    refine qe ?_
    refine W_ret ?_
    obtain rfl:=Option.some.inj hr
    exact qr [vB x16] H K
   refine qF H hc15 ?_
   refine W_seq (W_reg ?_)
   refine qg 2 [(54,vB (a0 == 5))] H fun fr H=>?_
   refine qe ?_
   rcases csplit hr with ⟨hc17,hr⟩ | ⟨hc17,hr⟩
   ·refine qT H hc17 ?_
    refine W_seq (W_reg ?_)
    refine qg 1 [(56,aN a1)] H fun fr H=>?_
    refine qb hr (fun x h s=>F204_R  _ x h (p0:=.shut)) H fun x18 hr fr H=>?_
    refine qg 1 [(4,vB x18)] H fun fr H=>?_
    refine qe ?_
    refine W_ret ?_
    obtain rfl:=Option.some.inj hr
    exact qr [vB x18] H K
   refine qF H hc17 ?_
   refine W_seq (W_reg ?_)
   refine qg 2 [(58,vB (a0 == 6))] H fun fr H=>?_
   refine qe ?_
   rcases csplit hr with ⟨hc19,hr⟩ | ⟨hc19,hr⟩
   ·refine qT H hc19 ?_
    refine W_seq (W_reg ?_)
    refine qg 4 [(63,vB (a1.kind == 1))] H fun fr H=>?_
    rcases csplit hr with ⟨hc20,hr⟩ | ⟨hc20,hr⟩
    rotate_left
    ·rw [hc20] at H
     refine qg 4 [(4,vB false)] H fun fr H=>?_
     refine qe ?_
     refine W_ret ?_
     obtain rfl:=Option.some.inj hr
     exact qr [vB false] H K
    rw [hc20] at H
    refine qg 1 [(64,aN a1)] H fun fr H=>?_
    refine qb hr (fun x h s=>ih_F106 _ x h (p0:=.shut)) H fun x21 hr fr H=>?_
    refine qg 2 [(4,vB x21)] H fun fr H=>?_
    refine qe ?_
    refine W_ret ?_
    obtain rfl:=Option.some.inj hr
    exact qr [vB x21] H K
   refine qF H hc19 ?_
   refine W_seq (W_reg ?_)
   refine qg 2 [(67,vB (a0 == 7))] H fun fr H=>?_
   refine qe ?_
   rcases csplit hr with ⟨hc22,hr⟩ | ⟨hc22,hr⟩
   rotate_left
   ·refine qF H hc22 ?_
    refine W_skip ?_
    refine W_seq (W_reg ?_)
    refine qg 1 [(77,aN a1)] H fun fr H=>?_
    refine qb hr (fun x h s=>ih_F106 _ x h (p0:=.shut)) H fun x25 hr fr H=>?_
    refine qg 1 [(4,vB x25)] H fun fr H=>?_
    refine qe ?_
    refine W_ret ?_
    obtain rfl:=Option.some.inj hr
    exact qr [vB x25] H K
   refine qT H hc22 ?_
   refine W_seq (W_reg ?_)
   refine qg 1 [(69,aN a1)] H fun fr H=>?_
   refine qb hr (fun x h s=>ih_F173 _ x h (p0:=.shut)) H fun x23 hr fr H=>?_
   refine qg 1 [(71,vB x23)] H fun fr H=>?_
   rcases csplit hr with ⟨hc24,hr⟩ | ⟨hc24,hr⟩
   rotate_left
   ·rw [hc24] at H
    refine qg 6 [(4,vB false)] H fun fr H=>?_
    refine qe ?_
    refine W_ret ?_
    obtain rfl:=Option.some.inj hr
    exact qr [vB false] H K
   rw [hc24] at H
   refine qg 2 [(73,vL tNode a1.kids .shut)] H fun fr H=>?_
   refine qln tNode 22 a1.kids .shut H fun fr H=>?_
   refine qg 3 [(4,vB ((a1.kids.length:Int) == 0))] H fun fr H=>?_
   refine qe ?_
   refine W_ret ?_
   obtain rfl:=Option.some.inj hr
   exact qr [vB ((a1.kids.length:Int) == 0)] H K
  ·intro a0 a1 r hr st p0
   change F105_step (F173 n) (F106 n) (F172 n) (F105 n) n a0 a1 = some r at hr
   unfold F105_step at hr
   refine R_pureX [aN a0,vI a1] [(0,aN a0),(1,vI a1)] Tryz.func105 rfl (by simp only [strip,stripL,stripL_cNode,Option.bind_some,Option.map_some]) rfl fun fr st H K=>?_
   refine W_seq (W_reg ?_)
   refine qg 2 [(2,cN a0 0)] H fun fr H=>?_
   refine qe ?_
   refine W_seq (W_seq ?_)
   refine W_reg ?_
   refine qg 1 [(5,vI 0)] H fun fr H=>?_
   refine qe ?_
   refine W_block ?_
   obtain ⟨r6,hr6,hr⟩:=obind hr
   refine W_iter hr6 (fun (s1:Int) fr st=>Rd fr [(1,vI a1),(2,cN a0 0),(5,vI s1)]∧HL st []) (fun (r6:Unit ⊕ Unit) e fr st=>match r6 with | .inl r6a=>(e = .ret∧Rd fr [(4,vB false)]∧HL st []) | .inr r6b=>(e = .exit 0∧Rd fr []∧HL st [])) ⟨H.tq,K.keep []⟩ ?_ ?_
   ·intro s1 fr st r hi hr
    obtain ⟨H,K⟩:=hi
    refine W_seq (W_seq ?_)
    refine W_reg ?_
    refine qg 3 [(6,vI s1),(8,vL tNode a0.kids .shut)] H fun fr H=>?_
    refine qln tNode 22 a0.kids .shut H fun fr H=>?_
    refine qg 1 [(10,vB (decide (s1 < (a0.kids.length:Int))))] H fun fr H=>?_
    refine qe ?_
    rcases csplit hr with ⟨hc2,hr⟩ | ⟨hc2,hr⟩
    rotate_left
    ·refine qF H hc2 ?_
     refine W_exit ?_
     obtain rfl:=Option.some.inj hr
     exact ⟨by simp,⟨rfl,H.tq,K.keep []⟩⟩
    refine qT H hc2 ?_
    refine W_skip ?_
    refine W_seq (W_block ?_)
    refine W_seq (W_reg ?_)
    refine qg 4 [(13,vI a1),(15,vL tNode a0.kids .shut),(16,vI s1)] H fun fr H=>?_
    refine qix tNode 22 .shut hr H fun x3 hr hx3 fr H=>?_
    refine qg 1 [(18,aN x3)] H fun fr H=>?_
    refine qb hr (fun x h s=>ih_F172 _ _ x h (p0:=.shut)) H fun x4 hr fr H=>?_
    refine qg 1 [(20,vB !x4)] H fun fr H=>?_
    refine qe ?_
    rcases csplit hr with ⟨hc5,hr⟩ | ⟨hc5,hr⟩
    ·refine qT H hc5 ?_
     refine W_seq (W_reg ?_)
     refine qg 1 [(4,vB false)] H fun fr H=>?_
     refine qe ?_
     refine W_ret ?_
     obtain rfl:=Option.some.inj hr
     exact ⟨by simp,⟨rfl,H.tq,K.keep []⟩⟩
    refine qF H hc5 ?_
    refine W_skip ?_
    refine W_reg ?_
    refine qg 3 [(5,vI (w64 (s1 + 1)))] H fun fr H=>?_
    refine qe ?_
    obtain rfl:=Option.some.inj hr
    exact ⟨rfl,⟨H.tq,K.keep []⟩⟩
   rcases r6 with r6a | r6b
   ·rintro e fr st ⟨rfl,H,K⟩
    obtain rfl:=Option.some.inj hr
    exact qr [vB false] H K
   rintro e fr st ⟨rfl,H,K⟩
   refine W_seq (W_reg ?_)
   refine qg 1 [(4,vB true)] H fun fr H=>?_
   refine qe ?_
   refine W_ret ?_
   obtain rfl:=Option.some.inj hr
   exact qr [vB true] H K
theorem F106_R (n:Nat) (a0:Node) (r:Bool) (hr:F106 n a0 = some r) {st:St} {p0:Spare}:R Tryz.prog AN 106 [.agg (cNode p0 a0)] st (.ret (vB r)) st:=(F173_RR n).2.1 a0 r hr
theorem F105_R (n:Nat) (a0:Node) (a1:Int) (r:Bool) (hr:F105 n a0 a1 = some r) {st:St} {p0:Spare}:R Tryz.prog AN 105 [.agg (cNode p0 a0),vI a1] st (.ret (vB r)) st:=(F173_RR n).2.2.2 a0 a1 r hr
def F69 (n:Nat) (a0:Node):Option Bool :=
 bif a0.kind == 62 then
  ((F104 n a0 (bs [])).bind fun x2 =>
  bif x2 then
   ((F105 n a0 (5:Int)).bind fun x4 =>
   some x4)
  else
   (some false))
 else
  ((F106 n a0).bind fun x5 =>
  some x5)
theorem F69_R (n:Nat) (a0:Node) (r:Bool) (hr:F69 n a0 = some r) {st:St} {p0:Spare}:R Tryz.prog AN 69 [.agg (cNode p0 a0)] st (.ret (vB r)) st:=by
 unfold F69 at hr
 refine R_pureX [aN a0] [(0,aN a0)] Tryz.func69 rfl (by simp only [strip,stripL,stripL_cNode,Option.bind_some,Option.map_some]) rfl fun fr st H K=>?_
 refine W_seq (W_reg ?_)
 refine qg 2 [(1,cN a0 0)] H fun fr H=>?_
 refine qe ?_
 refine W_seq (W_seq ?_)
 refine W_reg ?_
 refine qg 3 [(5,vB (a0.kind == 62))] H fun fr H=>?_
 refine qe ?_
 rcases csplit hr with ⟨hc1,hr⟩ | ⟨hc1,hr⟩
 rotate_left
 ·refine qF H hc1 ?_
  refine W_skip ?_
  refine W_seq (W_reg ?_)
  refine qg 1 [(12,aN a0)] H fun fr H=>?_
  refine qb hr (fun x h s=>F106_R n _ x h (p0:=.shut)) H fun x5 hr fr H=>?_
  refine qg 1 [(2,vB x5)] H fun fr H=>?_
  refine qe ?_
  refine W_ret ?_
  obtain rfl:=Option.some.inj hr
  exact qr [vB x5] H K
 refine qT H hc1 ?_
 refine W_seq (W_reg ?_)
 refine qg 1 [(6,aN a0)] H fun fr H=>?_
 refine qb hr (fun x h s=>F104_R n _ _ x h (p0:=.shut)) H fun x2 hr fr H=>?_
 refine qg 1 [(8,vB x2)] H fun fr H=>?_
 rcases csplit hr with ⟨hc3,hr⟩ | ⟨hc3,hr⟩
 rotate_left
 ·rw [hc3] at H
  refine qg 4 [(2,vB false)] H fun fr H=>?_
  refine qe ?_
  refine W_ret ?_
  obtain rfl:=Option.some.inj hr
  exact qr [vB false] H K
 rw [hc3] at H
 refine qg 1 [(9,aN a0)] H fun fr H=>?_
 refine qb hr (fun x h s=>F105_R n _ _ x h (p0:=.shut)) H fun x4 hr fr H=>?_
 refine qg 2 [(2,vB x4)] H fun fr H=>?_
 refine qe ?_
 refine W_ret ?_
 obtain rfl:=Option.some.inj hr
 exact qr [vB x4] H K
def F31 (n:Nat) (a0:Node):Option Bool :=
 (F27 n a0).bind fun x1 =>
 bif x1 then
  ((F69 n a0).bind fun x3 =>
  some x3)
 else
  (some false)
theorem F31_R (n:Nat) (a0:Node) (r:Bool) (hr:F31 n a0 = some r) {st:St} {p0:Spare}:R Tryz.prog AN 31 [.agg (cNode p0 a0)] st (.ret (vB r)) st:=by
 unfold F31 at hr
 refine R_pureX [aN a0] [(0,aN a0)] Tryz.func31 rfl (by simp only [strip,stripL,stripL_cNode,Option.bind_some,Option.map_some]) rfl fun fr st H K=>?_
 refine W_seq (W_reg ?_)
 refine qg 2 [(1,cN a0 0)] H fun fr H=>?_
 refine qe ?_
 refine W_seq (W_reg ?_)
 refine qg 1 [(3,aN a0)] H fun fr H=>?_
 refine qb hr (fun x h s=>F27_R n _ x h (p0:=.shut)) H fun x1 hr fr H=>?_
 refine qg 1 [(5,vB x1)] H fun fr H=>?_
 rcases csplit hr with ⟨hc2,hr⟩ | ⟨hc2,hr⟩
 rotate_left
 ·rw [hc2] at H
  refine qg 4 [(2,vB false)] H fun fr H=>?_
  refine qe ?_
  refine W_ret ?_
  obtain rfl:=Option.some.inj hr
  exact qr [vB false] H K
 rw [hc2] at H
 refine qg 1 [(6,aN a0)] H fun fr H=>?_
 refine qb hr (fun x h s=>F69_R n _ x h (p0:=.shut)) H fun x3 hr fr H=>?_
 refine qg 2 [(2,vB x3)] H fun fr H=>?_
 refine qe ?_
 refine W_ret ?_
 obtain rfl:=Option.some.inj hr
 exact qr [vB x3] H K
def F107 (n:Nat) (a0:Int):Option ByteArray :=
 (iter (σ:=ByteArray × Int) (ρ:=ByteArray) (fun s1=>bif (decide (0 < s1.2)) || (strEq s1.1 (bs [])) then
   ((convB ([IntKind.u8.wrap (w64 (48 + (Int.tmod s1.2 10)))]:List Int)).bind fun x3 =>
   (catS x3 s1.1).bind fun x4 =>
   some (.inl (x4,w64 (Int.tdiv s1.2 10))))
  else
   (some (.inr s1.1))) n ((bs []),a0)).bind fun r5 =>
 some r5
theorem F107_R (n:Nat) (a0:Int) (r:ByteArray) (hr:F107 n a0 = some r) {st:St}:R Tryz.prog AN 107 [vI a0] st (.ret (vS r)) st:=by
 unfold F107 at hr
 refine R_pureX [vI a0] [(0,vI a0)] Tryz.func107 rfl (by kernel_rfl) rfl fun fr st H K=>?_
 refine W_seq (W_reg ?_)
 refine qg 1 [] H fun fr H=>?_
 refine qe ?_
 refine W_seq (W_reg ?_)
 refine qg 1 [(3,vS (bs []))] H fun fr H=>?_
 refine qe ?_
 refine W_seq (W_seq ?_)
 refine W_reg ?_
 refine qg 2 [(4,vI a0)] H fun fr H=>?_
 refine qe ?_
 refine W_block ?_
 obtain ⟨r5,hr5,hr⟩:=obind hr
 refine W_iter hr5 (fun (s1:ByteArray × Int) fr st=>Rd fr [(3,vS s1.1),(4,vI s1.2)]∧HL st []) (fun (r5:ByteArray) e fr st=>e = .exit 0∧Rd fr [(3,vS r5)]∧HL st []) ⟨H.tq,K.keep []⟩ ?_ ?_
 ·intro s1 fr st r hi hr
  obtain ⟨H,K⟩:=hi
  refine W_seq (W_seq ?_)
  refine W_reg ?_
  refine qg 3 [(8,vB (decide (0 < s1.2)))] H fun fr H=>?_
  refine qg 3 [(11,vB ((decide (0 < s1.2)) || (strEq s1.1 (bs []))))] H (hs:=by intro _ _; generalize (decide (0 < s1.2)) = b0; cases b0 <;> kernel_rfl) fun fr H=>?_
  refine qe ?_
  rcases csplit hr with ⟨hc2,hr⟩ | ⟨hc2,hr⟩
  rotate_left
  ·refine qF H hc2 ?_
   refine W_exit ?_
   obtain rfl:=Option.some.inj hr
   exact ⟨by simp,⟨rfl,H.tq,K.keep []⟩⟩
  refine qT H hc2 ?_
  refine W_skip ?_
  refine W_seq (W_block ?_)
  refine W_reg ?_
  refine qg 4 [(17,vU (IntKind.u8.wrap (w64 (48 + (Int.tmod s1.2 10)))))] H fun fr H=>?_
  refine qbs (tI .u8) 55 ([IntKind.u8.wrap (w64 (48 + (Int.tmod s1.2 10)))]:List Int) H fun fr H=>?_
  obtain ⟨x3,hx3,hr⟩:=obind hr
  refine qv (.conv 55 9 (vL (tI .u8) ([IntKind.u8.wrap (w64 (48 + (Int.tmod s1.2 10)))]:List Int) .full)) H (run_convB (by kernel_rfl) hx3) fun fr H=>?_
  refine qg 1 [(20,vS s1.1)] H fun fr H=>?_
  obtain ⟨x4,hx4,hr⟩:=obind hr
  refine qv (.bin .add 9 (.tmp 19) (.tmp 20) (vS x3) (vS s1.1)) H (run_cat hx4) fun fr H=>?_
  refine qg 1 [(3,vS x4)] H fun fr H=>?_
  refine qe ?_
  refine W_reg ?_
  refine qg 3 [(4,vI (w64 (Int.tdiv s1.2 10)))] H fun fr H=>?_
  refine qe ?_
  obtain rfl:=Option.some.inj hr
  exact ⟨rfl,⟨H.tq,K.keep []⟩⟩
 rintro e fr st ⟨rfl,H,K⟩
 refine W_seq (W_reg ?_)
 refine qg 2 [(2,vS r5)] H fun fr H=>?_
 refine qe ?_
 refine W_ret ?_
 obtain rfl:=Option.some.inj hr
 exact qr [vS r5] H K
def F108_step (_:Node→Option ByteArray) (F70:Node→Option ByteArray) (_:Nat) (a0:Node):Option ByteArray :=
 (F70 a0).bind fun x1 =>
 (catS (bs [40]) x1).bind fun x2 =>
 (catS x2 (bs [41])).bind fun x3 =>
 some x3
def F70_step (F108:Node→Option ByteArray) (F70:Node→Option ByteArray) (n:Nat) (a0:Node):Option ByteArray :=
 bif a0.kind == 1 then
  ((F107 n a0.n).bind fun x2 =>
  some x2)
 else
  (bif a0.kind == 2 then
   (bif decide (0 < (a0.kids.length:Int)) then
    ((catS a0.name (bs [91])).bind fun x5 =>
    (idxL a0.kids 0).bind fun x6 =>
    (F70 x6).bind fun x7 =>
    (catS x5 x7).bind fun x8 =>
    (catS x8 (bs [93])).bind fun x9 =>
    some x9)
   else
    (some a0.name))
  else
   (bif a0.kind == 3 then
    ((idxL a0.kids 0).bind fun x11 =>
    (F70 x11).bind fun x12 =>
    (catS (bs [111,108,100,40]) x12).bind fun x13 =>
    (catS x13 (bs [41])).bind fun x14 =>
    some x14)
   else
    (bif a0.kind == 4 then
     ((idxL a0.kids 0).bind fun x16 =>
     (F108 x16).bind fun x17 =>
     (catS (bs [33]) x17).bind fun x18 =>
     some x18)
    else
     (bif a0.kind == 5 then
      ((idxL a0.kids 0).bind fun x20 =>
      (F108 x20).bind fun x21 =>
      (catS x21 (bs [32])).bind fun x22 =>
      (catS x22 a0.name).bind fun x23 =>
      (catS x23 (bs [32])).bind fun x24 =>
      (idxL a0.kids 1).bind fun x25 =>
      (F108 x25).bind fun x26 =>
      (catS x24 x26).bind fun x27 =>
      some x27)
     else
      (bif a0.kind == 6 then
       ((idxL a0.kids 0).bind fun x29 =>
       (F108 x29).bind fun x30 =>
       (catS x30 (bs [32,63,32])).bind fun x31 =>
       (idxL a0.kids 1).bind fun x32 =>
       (F108 x32).bind fun x33 =>
       (catS x31 x33).bind fun x34 =>
       (catS x34 (bs [32,58,32])).bind fun x35 =>
       (idxL a0.kids 2).bind fun x36 =>
       (F108 x36).bind fun x37 =>
       (catS x35 x37).bind fun x38 =>
       some x38)
      else
       (bif a0.kind == 7 then
        ((catS (bs [97,108,108,32]) a0.name).bind fun x40 =>
        (catS x40 (bs [32,60,32])).bind fun x41 =>
        (F107 n a0.n).bind fun x42 =>
        (catS x41 x42).bind fun x43 =>
        (catS x43 (bs [32,58,32])).bind fun x44 =>
        (idxL a0.kids 0).bind fun x45 =>
        (F108 x45).bind fun x46 =>
        (catS x44 x46).bind fun x47 =>
        some x47)
       else
        ((catS (bs [115,111,109,101,32]) a0.name).bind fun x48 =>
        (catS x48 (bs [32,60,32])).bind fun x49 =>
        (F107 n a0.n).bind fun x50 =>
        (catS x49 x50).bind fun x51 =>
        (catS x51 (bs [32,58,32])).bind fun x52 =>
        (idxL a0.kids 0).bind fun x53 =>
        (F108 x53).bind fun x54 =>
        (catS x52 x54).bind fun x55 =>
        some x55)))))))
mutual
def F108:Nat→Node→Option ByteArray
 | 0,_=>none
 | n + 1,a0=>F108_step (F108 n) (F70 n) n a0
def F70:Nat→Node→Option ByteArray
 | 0,_=>none
 | n + 1,a0=>F70_step (F108 n) (F70 n) n a0
end
theorem F108_RR (n:Nat):(∀ (a0:Node) (r:ByteArray),F108 n a0 = some r→∀ {st:St} {p0:Spare},R Tryz.prog AN 108 [.agg (cNode p0 a0)] st (.ret (vS r)) st)∧(∀ (a0:Node) (r:ByteArray),F70 n a0 = some r→∀ {st:St} {p0:Spare},R Tryz.prog AN 70 [.agg (cNode p0 a0)] st (.ret (vS r)) st):=by
 induction n with
 | zero=>exact ⟨by intros; contradiction,by intros; contradiction⟩
 | succ n ih =>
  obtain ⟨ih_F108,ih_F70⟩:=ih
  refine ⟨?_,?_⟩
  ·intro a0 r hr st p0
   change F108_step (F108 n) (F70 n) n a0 = some r at hr
   unfold F108_step at hr
   refine R_pureX [aN a0] [(0,aN a0)] Tryz.func108 rfl (by simp only [strip,stripL,stripL_cNode,Option.bind_some,Option.map_some]) rfl fun fr st H K=>?_
   refine W_seq (W_reg ?_)
   refine qg 2 [(1,cN a0 0)] H fun fr H=>?_
   refine qe ?_
   refine W_seq (W_reg ?_)
   refine qg 1 [(3,aN a0)] H fun fr H=>?_
   refine qb hr (fun x h s=>ih_F70 _ x h (p0:=.shut)) H fun x1 hr fr H=>?_
   obtain ⟨x2,hx2,hr⟩:=obind hr
   refine qv (.bin .add 9 (.const (.string (bs [40]))) (.tmp 4) (vS (bs [40])) (vS x1)) H (run_cat hx2) fun fr H=>?_
   obtain ⟨x3,hx3,hr⟩:=obind hr
   refine qv (.bin .add 9 (.tmp 5) (.const (.string (bs [41]))) (vS x2) (vS (bs [41]))) H (run_cat hx3) fun fr H=>?_
   refine qg 1 [(2,vS x3)] H fun fr H=>?_
   refine qe ?_
   refine W_ret ?_
   obtain rfl:=Option.some.inj hr
   exact qr [vS x3] H K
  ·intro a0 r hr st p0
   change F70_step (F108 n) (F70 n) n a0 = some r at hr
   unfold F70_step at hr
   refine R_pureX [aN a0] [(0,aN a0)] Tryz.func70 rfl (by simp only [strip,stripL,stripL_cNode,Option.bind_some,Option.map_some]) rfl fun fr st H K=>?_
   refine W_seq (W_reg ?_)
   refine qg 2 [(1,cN a0 0)] H fun fr H=>?_
   refine qe ?_
   refine W_seq (W_seq ?_)
   refine W_reg ?_
   refine qg 2 [(4,vI a0.kind)] H fun fr H=>?_
   refine qe ?_
   refine W_block ?_
   refine W_seq (W_reg ?_)
   refine qg 2 [(5,vB (a0.kind == 1))] H fun fr H=>?_
   refine qe ?_
   rcases csplit hr with ⟨hc1,hr⟩ | ⟨hc1,hr⟩
   ·refine qT H hc1 ?_
    refine W_seq (W_reg ?_)
    refine qg 2 [(8,vI a0.n)] H fun fr H=>?_
    refine qb hr (fun x h s=>F107_R n _ x h) H fun x2 hr fr H=>?_
    refine qg 1 [(2,vS x2)] H fun fr H=>?_
    refine qe ?_
    refine W_ret ?_
    obtain rfl:=Option.some.inj hr
    exact qr [vS x2] H K
   refine qF H hc1 ?_
   refine W_seq (W_reg ?_)
   refine qg 2 [(10,vB (a0.kind == 2))] H fun fr H=>?_
   refine qe ?_
   rcases csplit hr with ⟨hc3,hr⟩ | ⟨hc3,hr⟩
   ·refine qT H hc3 ?_
    refine W_seq (W_seq ?_)
    refine W_reg ?_
    refine qg 2 [(13,vL tNode a0.kids .shut)] H fun fr H=>?_
    refine qln tNode 22 a0.kids .shut H fun fr H=>?_
    refine qg 1 [(15,vB (decide (0 < (a0.kids.length:Int))))] H fun fr H=>?_
    refine qe ?_
    rcases csplit hr with ⟨hc4,hr⟩ | ⟨hc4,hr⟩
    rotate_left
    ·refine qF H hc4 ?_
     refine W_skip ?_
     refine W_seq (W_reg ?_)
     refine qg 3 [(2,vS a0.name)] H fun fr H=>?_
     refine qe ?_
     refine W_ret ?_
     obtain rfl:=Option.some.inj hr
     exact qr [vS a0.name] H K
    refine qT H hc4 ?_
    refine W_seq (W_drw ?_)
    refine qg 2 [(17,vS a0.name)] H fun fr H=>?_
    obtain ⟨x5,hx5,hr⟩:=obind hr
    refine qv (.bin .add 9 (.tmp 17) (.const (.string (bs [91]))) (vS a0.name) (vS (bs [91]))) H (run_cat hx5) fun fr H=>?_
    refine qg 2 [(20,vL tNode a0.kids .shut)] H fun fr H=>?_
    refine qix tNode 22 .shut hr H fun x6 hr hx6 fr H=>?_
    refine qg 1 [(22,aN x6)] H fun fr H=>?_
    refine qb hr (fun x h s=>ih_F70 _ x h (p0:=.shut)) H fun x7 hr fr H=>?_
    obtain ⟨x8,hx8,hr⟩:=obind hr
    refine qv (.bin .add 9 (.tmp 18) (.tmp 23) (vS x5) (vS x7)) H (run_cat hx8) fun fr H=>?_
    obtain ⟨x9,hx9,hr⟩:=obind hr
    refine qv (.bin .add 9 (.tmp 24) (.const (.string (bs [93]))) (vS x8) (vS (bs [93]))) H (run_cat hx9) fun fr H=>?_
    refine qg 1 [(2,vS x9)] H fun fr H=>?_
    refine qe (qd ?_)
    refine W_ret ?_
    obtain rfl:=Option.some.inj hr
    exact qr [vS x9] H K
   refine qF H hc3 ?_
   refine W_seq (W_reg ?_)
   refine qg 2 [(28,vB (a0.kind == 3))] H fun fr H=>?_
   refine qe ?_
   rcases csplit hr with ⟨hc10,hr⟩ | ⟨hc10,hr⟩
   ·refine qT H hc10 ?_
    refine W_seq (W_reg ?_)
    refine qg 2 [(31,vL tNode a0.kids .shut)] H fun fr H=>?_
    refine qix tNode 22 .shut hr H fun x11 hr hx11 fr H=>?_
    refine qg 1 [(33,aN x11)] H fun fr H=>?_
    refine qb hr (fun x h s=>ih_F70 _ x h (p0:=.shut)) H fun x12 hr fr H=>?_
    obtain ⟨x13,hx13,hr⟩:=obind hr
    refine qv (.bin .add 9 (.const (.string (bs [111,108,100,40]))) (.tmp 34) (vS (bs [111,108,100,40])) (vS x12)) H (run_cat hx13) fun fr H=>?_
    obtain ⟨x14,hx14,hr⟩:=obind hr
    refine qv (.bin .add 9 (.tmp 35) (.const (.string (bs [41]))) (vS x13) (vS (bs [41]))) H (run_cat hx14) fun fr H=>?_
    refine qg 1 [(2,vS x14)] H fun fr H=>?_
    refine qe ?_
    refine W_ret ?_
    obtain rfl:=Option.some.inj hr
    exact qr [vS x14] H K
   refine qF H hc10 ?_
   refine W_seq (W_reg ?_)
   refine qg 2 [(37,vB (a0.kind == 4))] H fun fr H=>?_
   refine qe ?_
   rcases csplit hr with ⟨hc15,hr⟩ | ⟨hc15,hr⟩
   ·refine qT H hc15 ?_
    refine W_seq (W_reg ?_)
    refine qg 2 [(40,vL tNode a0.kids .shut)] H fun fr H=>?_
    refine qix tNode 22 .shut hr H fun x16 hr hx16 fr H=>?_
    refine qg 1 [(42,aN x16)] H fun fr H=>?_
    refine qb hr (fun x h s=>ih_F108 _ x h (p0:=.shut)) H fun x17 hr fr H=>?_
    obtain ⟨x18,hx18,hr⟩:=obind hr
    refine qv (.bin .add 9 (.const (.string (bs [33]))) (.tmp 43) (vS (bs [33])) (vS x17)) H (run_cat hx18) fun fr H=>?_
    refine qg 1 [(2,vS x18)] H fun fr H=>?_
    refine qe ?_
    refine W_ret ?_
    obtain rfl:=Option.some.inj hr
    exact qr [vS x18] H K
   refine qF H hc15 ?_
   refine W_seq (W_reg ?_)
   refine qg 2 [(45,vB (a0.kind == 5))] H fun fr H=>?_
   refine qe ?_
   rcases csplit hr with ⟨hc19,hr⟩ | ⟨hc19,hr⟩
   ·refine qT H hc19 ?_
    refine W_seq (W_drw ?_)
    refine qg 2 [(48,vL tNode a0.kids .shut)] H fun fr H=>?_
    refine qix tNode 22 .shut hr H fun x20 hr hx20 fr H=>?_
    refine qg 1 [(50,aN x20)] H fun fr H=>?_
    refine qb hr (fun x h s=>ih_F108 _ x h (p0:=.shut)) H fun x21 hr fr H=>?_
    obtain ⟨x22,hx22,hr⟩:=obind hr
    refine qv (.bin .add 9 (.tmp 51) (.const (.string (bs [32]))) (vS x21) (vS (bs [32]))) H (run_cat hx22) fun fr H=>?_
    refine qg 2 [(54,vS a0.name)] H fun fr H=>?_
    obtain ⟨x23,hx23,hr⟩:=obind hr
    refine qv (.bin .add 9 (.tmp 52) (.tmp 54) (vS x22) (vS a0.name)) H (run_cat hx23) fun fr H=>?_
    obtain ⟨x24,hx24,hr⟩:=obind hr
    refine qv (.bin .add 9 (.tmp 55) (.const (.string (bs [32]))) (vS x23) (vS (bs [32]))) H (run_cat hx24) fun fr H=>?_
    refine qg 2 [(58,vL tNode a0.kids .shut)] H fun fr H=>?_
    refine qix tNode 22 .shut hr H fun x25 hr hx25 fr H=>?_
    refine qg 1 [(60,aN x25)] H fun fr H=>?_
    refine qb hr (fun x h s=>ih_F108 _ x h (p0:=.shut)) H fun x26 hr fr H=>?_
    obtain ⟨x27,hx27,hr⟩:=obind hr
    refine qv (.bin .add 9 (.tmp 56) (.tmp 61) (vS x24) (vS x26)) H (run_cat hx27) fun fr H=>?_
    refine qg 1 [(2,vS x27)] H fun fr H=>?_
    refine qe (qd ?_)
    refine W_ret ?_
    obtain rfl:=Option.some.inj hr
    exact qr [vS x27] H K
   refine qF H hc19 ?_
   refine W_seq (W_reg ?_)
   refine qg 2 [(63,vB (a0.kind == 6))] H fun fr H=>?_
   refine qe ?_
   rcases csplit hr with ⟨hc28,hr⟩ | ⟨hc28,hr⟩
   ·refine qT H hc28 ?_
    refine W_seq (W_drw ?_)
    refine qg 2 [(66,vL tNode a0.kids .shut)] H fun fr H=>?_
    refine qix tNode 22 .shut hr H fun x29 hr hx29 fr H=>?_
    refine qg 1 [(68,aN x29)] H fun fr H=>?_
    refine qb hr (fun x h s=>ih_F108 _ x h (p0:=.shut)) H fun x30 hr fr H=>?_
    obtain ⟨x31,hx31,hr⟩:=obind hr
    refine qv (.bin .add 9 (.tmp 69) (.const (.string (bs [32,63,32]))) (vS x30) (vS (bs [32,63,32]))) H (run_cat hx31) fun fr H=>?_
    refine qg 2 [(72,vL tNode a0.kids .shut)] H fun fr H=>?_
    refine qix tNode 22 .shut hr H fun x32 hr hx32 fr H=>?_
    refine qg 1 [(74,aN x32)] H fun fr H=>?_
    refine qb hr (fun x h s=>ih_F108 _ x h (p0:=.shut)) H fun x33 hr fr H=>?_
    obtain ⟨x34,hx34,hr⟩:=obind hr
    refine qv (.bin .add 9 (.tmp 70) (.tmp 75) (vS x31) (vS x33)) H (run_cat hx34) fun fr H=>?_
    obtain ⟨x35,hx35,hr⟩:=obind hr
    refine qv (.bin .add 9 (.tmp 76) (.const (.string (bs [32,58,32]))) (vS x34) (vS (bs [32,58,32]))) H (run_cat hx35) fun fr H=>?_
    refine qg 2 [(79,vL tNode a0.kids .shut)] H fun fr H=>?_
    refine qix tNode 22 .shut hr H fun x36 hr hx36 fr H=>?_
    refine qg 1 [(81,aN x36)] H fun fr H=>?_
    refine qb hr (fun x h s=>ih_F108 _ x h (p0:=.shut)) H fun x37 hr fr H=>?_
    obtain ⟨x38,hx38,hr⟩:=obind hr
    refine qv (.bin .add 9 (.tmp 77) (.tmp 82) (vS x35) (vS x37)) H (run_cat hx38) fun fr H=>?_
    refine qg 1 [(2,vS x38)] H fun fr H=>?_
    refine qe (qd ?_)
    refine W_ret ?_
    obtain rfl:=Option.some.inj hr
    exact qr [vS x38] H K
   refine qF H hc28 ?_
   refine W_seq (W_reg ?_)
   refine qg 2 [(84,vB (a0.kind == 7))] H fun fr H=>?_
   refine qe ?_
   rcases csplit hr with ⟨hc39,hr⟩ | ⟨hc39,hr⟩
   ·refine qT H hc39 ?_
    refine W_seq (W_drw ?_)
    refine qg 2 [(87,vS a0.name)] H fun fr H=>?_
    obtain ⟨x40,hx40,hr⟩:=obind hr
    refine qv (.bin .add 9 (.const (.string (bs [97,108,108,32]))) (.tmp 87) (vS (bs [97,108,108,32])) (vS a0.name)) H (run_cat hx40) fun fr H=>?_
    obtain ⟨x41,hx41,hr⟩:=obind hr
    refine qv (.bin .add 9 (.tmp 88) (.const (.string (bs [32,60,32]))) (vS x40) (vS (bs [32,60,32]))) H (run_cat hx41) fun fr H=>?_
    refine qg 2 [(91,vI a0.n)] H fun fr H=>?_
    refine qb hr (fun x h s=>F107_R n _ x h) H fun x42 hr fr H=>?_
    obtain ⟨x43,hx43,hr⟩:=obind hr
    refine qv (.bin .add 9 (.tmp 89) (.tmp 92) (vS x41) (vS x42)) H (run_cat hx43) fun fr H=>?_
    obtain ⟨x44,hx44,hr⟩:=obind hr
    refine qv (.bin .add 9 (.tmp 93) (.const (.string (bs [32,58,32]))) (vS x43) (vS (bs [32,58,32]))) H (run_cat hx44) fun fr H=>?_
    refine qg 2 [(96,vL tNode a0.kids .shut)] H fun fr H=>?_
    refine qix tNode 22 .shut hr H fun x45 hr hx45 fr H=>?_
    refine qg 1 [(98,aN x45)] H fun fr H=>?_
    refine qb hr (fun x h s=>ih_F108 _ x h (p0:=.shut)) H fun x46 hr fr H=>?_
    obtain ⟨x47,hx47,hr⟩:=obind hr
    refine qv (.bin .add 9 (.tmp 94) (.tmp 99) (vS x44) (vS x46)) H (run_cat hx47) fun fr H=>?_
    refine qg 1 [(2,vS x47)] H fun fr H=>?_
    refine qe (qd ?_)
    refine W_ret ?_
    obtain rfl:=Option.some.inj hr
    exact qr [vS x47] H K
   refine qF H hc39 ?_
   refine W_skip ?_
   refine W_seq (W_drw ?_)
   refine qg 2 [(102,vS a0.name)] H fun fr H=>?_
   obtain ⟨x48,hx48,hr⟩:=obind hr
   refine qv (.bin .add 9 (.const (.string (bs [115,111,109,101,32]))) (.tmp 102) (vS (bs [115,111,109,101,32])) (vS a0.name)) H (run_cat hx48) fun fr H=>?_
   obtain ⟨x49,hx49,hr⟩:=obind hr
   refine qv (.bin .add 9 (.tmp 103) (.const (.string (bs [32,60,32]))) (vS x48) (vS (bs [32,60,32]))) H (run_cat hx49) fun fr H=>?_
   refine qg 2 [(106,vI a0.n)] H fun fr H=>?_
   refine qb hr (fun x h s=>F107_R n _ x h) H fun x50 hr fr H=>?_
   obtain ⟨x51,hx51,hr⟩:=obind hr
   refine qv (.bin .add 9 (.tmp 104) (.tmp 107) (vS x49) (vS x50)) H (run_cat hx51) fun fr H=>?_
   obtain ⟨x52,hx52,hr⟩:=obind hr
   refine qv (.bin .add 9 (.tmp 108) (.const (.string (bs [32,58,32]))) (vS x51) (vS (bs [32,58,32]))) H (run_cat hx52) fun fr H=>?_
   refine qg 2 [(111,vL tNode a0.kids .shut)] H fun fr H=>?_
   refine qix tNode 22 .shut hr H fun x53 hr hx53 fr H=>?_
   refine qg 1 [(113,aN x53)] H fun fr H=>?_
   refine qb hr (fun x h s=>ih_F108 _ x h (p0:=.shut)) H fun x54 hr fr H=>?_
   obtain ⟨x55,hx55,hr⟩:=obind hr
   refine qv (.bin .add 9 (.tmp 109) (.tmp 114) (vS x52) (vS x54)) H (run_cat hx55) fun fr H=>?_
   refine qg 1 [(2,vS x55)] H fun fr H=>?_
   refine qe (qd ?_)
   refine W_ret ?_
   obtain rfl:=Option.some.inj hr
   exact qr [vS x55] H K
theorem F70_R (n:Nat) (a0:Node) (r:ByteArray) (hr:F70 n a0 = some r) {st:St} {p0:Spare}:R Tryz.prog AN 70 [.agg (cNode p0 a0)] st (.ret (vS r)) st:=(F108_RR n).2 a0 r hr
def F71 (_:Node):Option ByteArray :=
 none
theorem F71_R (a0:Node) (r:ByteArray) (hr:F71 a0 = some r) {st:St} {p0:Spare}:R Tryz.prog AN 71 [.agg (cNode p0 a0)] st (.ret (vS r)) st:=by
 unfold F71 at hr
 refine R_pureX [aN a0] [] Tryz.func71 rfl (by simp only [strip,stripL,stripL_cNode,Option.bind_some,Option.map_some]) rfl fun fr st H K=>?_
 cases hr
def F72 (_:Node):Option ByteArray :=
 none
theorem F72_R (a0:Node) (r:ByteArray) (hr:F72 a0 = some r) {st:St} {p0:Spare}:R Tryz.prog AN 72 [.agg (cNode p0 a0)] st (.ret (vS r)) st:=by
 unfold F72 at hr
 refine R_pureX [aN a0] [] Tryz.func72 rfl (by simp only [strip,stripL,stripL_cNode,Option.bind_some,Option.map_some]) rfl fun fr st H K=>?_
 cases hr
def F32 (n:Nat) (a0:Node):Option ByteArray :=
 bif (decide (1≤a0.kind)) && (decide (a0.kind≤8)) then
  ((F70 n a0).bind fun x2 =>
  some x2)
 else
  (bif (decide (20≤a0.kind)) && (decide (a0.kind≤35)) then
   ((F71 a0).bind fun x4 =>
   some x4)
  else
   ((F72 a0).bind fun x5 =>
   some x5))
theorem F32_R (n:Nat) (a0:Node) (r:ByteArray) (hr:F32 n a0 = some r) {st:St} {p0:Spare}:R Tryz.prog AN 32 [.agg (cNode p0 a0)] st (.ret (vS r)) st:=by
 unfold F32 at hr
 refine R_pureX [aN a0] [(0,aN a0)] Tryz.func32 rfl (by simp only [strip,stripL,stripL_cNode,Option.bind_some,Option.map_some]) rfl fun fr st H K=>?_
 refine W_seq (W_reg ?_)
 refine qg 2 [(1,cN a0 0)] H fun fr H=>?_
 refine qe ?_
 refine W_seq (W_block ?_)
 refine W_seq (W_reg ?_)
 refine qg 4 [(7,vB (decide (1≤a0.kind)))] H fun fr H=>?_
 refine qg 4 [(11,vB ((decide (1≤a0.kind)) && (decide (a0.kind≤8))))] H (hs:=by intro _ _; generalize (decide (1≤a0.kind)) = b0; cases b0 <;> kernel_rfl) fun fr H=>?_
 refine qg 1 [(3,vB ((decide (1≤a0.kind)) && (decide (a0.kind≤8))))] H fun fr H=>?_
 refine qe ?_
 rcases csplit hr with ⟨hc1,hr⟩ | ⟨hc1,hr⟩
 ·refine qT H hc1 ?_
  refine W_seq (W_reg ?_)
  refine qg 1 [(12,aN a0)] H fun fr H=>?_
  refine qb hr (fun x h s=>F70_R n _ x h (p0:=.shut)) H fun x2 hr fr H=>?_
  refine qg 1 [(2,vS x2)] H fun fr H=>?_
  refine qe ?_
  refine W_ret ?_
  obtain rfl:=Option.some.inj hr
  exact qr [vS x2] H K
 refine qF H hc1 ?_
 refine W_seq (W_reg ?_)
 refine qg 4 [(18,vB (decide (20≤a0.kind)))] H fun fr H=>?_
 refine qg 4 [(22,vB ((decide (20≤a0.kind)) && (decide (a0.kind≤35))))] H (hs:=by intro _ _; generalize (decide (20≤a0.kind)) = b0; cases b0 <;> kernel_rfl) fun fr H=>?_
 refine qg 1 [(14,vB ((decide (20≤a0.kind)) && (decide (a0.kind≤35))))] H fun fr H=>?_
 refine qe ?_
 rcases csplit hr with ⟨hc3,hr⟩ | ⟨hc3,hr⟩
 ·refine qT H hc3 ?_
  refine W_seq (W_reg ?_)
  refine qg 1 [(23,aN a0)] H fun fr H=>?_
  refine qb hr (fun x h s=>F71_R  _ x h (p0:=.shut)) H fun x4 hr fr H=>?_
  refine qg 1 [(2,vS x4)] H fun fr H=>?_
  refine qe ?_
  refine W_ret ?_
  obtain rfl:=Option.some.inj hr
  exact qr [vS x4] H K
 refine qF H hc3 ?_
 refine W_skip ?_
 refine W_seq (W_reg ?_)
 refine qg 1 [(25,aN a0)] H fun fr H=>?_
 refine qb hr (fun x h s=>F72_R  _ x h (p0:=.shut)) H fun x5 hr fr H=>?_
 refine qg 1 [(2,vS x5)] H fun fr H=>?_
 refine qe ?_
 refine W_ret ?_
 obtain rfl:=Option.some.inj hr
 exact qr [vS x5] H K
def F7 (n:Nat) (a0:Node):Option Bool :=
 (F24 n ).bind fun x1 =>
 (F26 n a0 (400:Int)).bind fun x2 =>
 bif !x2 || (a0.kind == 62) then
  (some x1)
 else
  ((F31 n a0).bind fun x4 =>
  bif !x4 then
   (some x1)
  else
   ((F32 n a0).bind fun x6 =>
   (F33 n x6).bind fun x7 =>
   bif !x7 then
    (some x1)
   else
    ((F29 n x6).bind fun x9 =>
    bif x1 then
     (bif (x9.2.length:Int) == 0 then
      ((F26 n x9.1 (4000:Int)).bind fun x13 =>
      bif x13 then
       ((F34 n x9.1).bind fun x15 =>
       (F34 n a0).bind fun x16 =>
       (F30 n x15 x16).bind fun x17 =>
       bif x17 then
        ((F28 n a0).bind fun x19 =>
        some x19)
       else
        (some false))
      else
       (some false))
     else
      (some false))
    else
     (some false))))
theorem F7_R (n:Nat) (a0:Node) (r:Bool) (hr:F7 n a0 = some r) {st:St} {p0:Spare}:R Tryz.prog AN 7 [.agg (cNode p0 a0)] st (.ret (vB r)) st:=by
 unfold F7 at hr
 refine R_pureX [aN a0] [(0,aN a0)] Tryz.func7 rfl (by simp only [strip,stripL,stripL_cNode,Option.bind_some,Option.map_some]) rfl fun fr st H K=>?_
 refine W_seq (W_reg ?_)
 refine qg 2 [(1,cN a0 0)] H fun fr H=>?_
 refine qe ?_
 refine W_seq (W_reg ?_)
 refine qb hr (fun x h s=>F24_R n x h) H fun x1 hr fr H=>?_
 refine qg 1 [(3,vB x1)] H fun fr H=>?_
 refine qe ?_
 refine W_seq (W_seq ?_)
 refine W_reg ?_
 refine qg 1 [(8,aN a0)] H fun fr H=>?_
 refine qb hr (fun x h s=>F26_R n _ _ x h (p0:=.shut)) H fun x2 hr fr H=>?_
 refine qg 2 [(11,vB !x2)] H fun fr H=>?_
 refine qg 4 [(15,vB (!x2 || (a0.kind == 62)))] H (hs:=by intro _ _; generalize (!x2) = b0; cases b0 <;> kernel_rfl) fun fr H=>?_
 refine qg 1 [(16,vB (!x2 || (a0.kind == 62)))] H fun fr H=>?_
 rcases csplit hr with ⟨hc3,hr⟩ | ⟨hc3,hr⟩
 ·rw [hc3] at H
  refine qg 4 [(20,vB true)] H fun fr H=>?_
  refine qe ?_
  refine qT H rfl ?_
  refine W_seq (W_reg ?_)
  refine qg 2 [(2,vB x1)] H fun fr H=>?_
  refine qe ?_
  refine W_ret ?_
  obtain rfl:=Option.some.inj hr
  exact qr [vB x1] H K
 rw [hc3] at H
 refine qg 1 [(17,aN a0)] H fun fr H=>?_
 refine qb hr (fun x h s=>F31_R n _ x h (p0:=.shut)) H fun x4 hr fr H=>?_
 refine qg 2 [(20,vB !x4)] H fun fr H=>?_
 refine qe ?_
 rcases csplit hr with ⟨hc5,hr⟩ | ⟨hc5,hr⟩
 ·refine qT H hc5 ?_
  refine W_seq (W_reg ?_)
  refine qg 2 [(2,vB x1)] H fun fr H=>?_
  refine qe ?_
  refine W_ret ?_
  obtain rfl:=Option.some.inj hr
  exact qr [vB x1] H K
 refine qF H hc5 ?_
 refine W_skip ?_
 refine W_seq (W_reg ?_)
 refine qg 1 [(22,aN a0)] H fun fr H=>?_
 refine qb hr (fun x h s=>F32_R n _ x h (p0:=.shut)) H fun x6 hr fr H=>?_
 refine qg 1 [(4,vS x6)] H fun fr H=>?_
 refine qe ?_
 refine W_seq (W_seq ?_)
 refine W_reg ?_
 refine qg 1 [(24,vS x6)] H fun fr H=>?_
 refine qb hr (fun x h s=>F33_R n _ x h) H fun x7 hr fr H=>?_
 refine qg 1 [(26,vB !x7)] H fun fr H=>?_
 refine qe ?_
 rcases csplit hr with ⟨hc8,hr⟩ | ⟨hc8,hr⟩
 ·refine qT H hc8 ?_
  refine W_seq (W_reg ?_)
  refine qg 2 [(2,vB x1)] H fun fr H=>?_
  refine qe ?_
  refine W_ret ?_
  obtain rfl:=Option.some.inj hr
  exact qr [vB x1] H K
 refine qF H hc8 ?_
 refine W_skip ?_
 refine W_seq (W_reg ?_)
 refine qg 1 [(29,vS x6)] H fun fr H=>?_
 refine qb hr (fun x h s=>F29_R n _ x h) H fun x9 hr fr H=>?_
 refine qg 3 [(31,aN x9.1),(32,vL tDiag x9.2 .shut)] H fun fr H=>?_
 refine qal 24 [vI 0,vS (bs []),vS (bs []),vI 0,vI 0,vI 0,vB false,vL tNode ([]:List Node) .nil,vI 0] H K fun id10 st K fr H=>?_
 refine qst 24 0 (aN x9.1) [vI x9.1.kind,vS x9.1.name,vS x9.1.other,vI x9.1.n,vI x9.1.len,vI x9.1.init,vB x9.1.ghost,vL tNode x9.1.kids .shut,vI x9.1.pos] 0 H K rfl fun st K fr H=>?_
 refine qg 1 [(6,vL tDiag x9.2 .shut)] H fun fr H=>?_
 refine qe ?_
 refine W_seq (W_drw ?_)
 refine qg 2 [(34,vB x1)] H fun fr H=>?_
 rcases csplit hr with ⟨hc11,hr⟩ | ⟨hc11,hr⟩
 rotate_left
 ·rw [hc11] at H
  refine qg 20 [(2,vB false)] H fun fr H=>?_
  refine qe (qd ?_)
  refine W_ret ?_
  obtain rfl:=Option.some.inj hr
  exact qr [vB false] H K
 rw [hc11] at H
 refine qg 1 [(35,vL tDiag x9.2 .shut)] H fun fr H=>?_
 refine qln tDiag 37 x9.2 .shut H fun fr H=>?_
 refine qg 3 [(39,vB ((x9.2.length:Int) == 0))] H fun fr H=>?_
 rcases csplit hr with ⟨hc12,hr⟩ | ⟨hc12,hr⟩
 rotate_left
 ·rw [hc12] at H
  refine qg 15 [(2,vB false)] H fun fr H=>?_
  refine qe (qd ?_)
  refine W_ret ?_
  obtain rfl:=Option.some.inj hr
  exact qr [vB false] H K
 rw [hc12] at H
 refine qld 24 0 (aN x9.1) 0 H K rfl fun fr H=>?_
 refine qb hr (fun x h s=>F26_R n _ _ x h (p0:=.shut)) H fun x13 hr fr H=>?_
 refine qg 2 [(43,vB x13)] H fun fr H=>?_
 rcases csplit hr with ⟨hc14,hr⟩ | ⟨hc14,hr⟩
 rotate_left
 ·rw [hc14] at H
  refine qg 11 [(2,vB false)] H fun fr H=>?_
  refine qe (qd ?_)
  refine W_ret ?_
  obtain rfl:=Option.some.inj hr
  exact qr [vB false] H K
 rw [hc14] at H
 refine qld 24 0 (aN x9.1) 0 H K rfl fun fr H=>?_
 refine qb hr (fun x h s=>F34_R n _ x h (p0:=.shut)) H fun x15 hr fr H=>?_
 refine qg 1 [(46,aN a0)] H fun fr H=>?_
 refine qb hr (fun x h s=>F34_R n _ x h (p0:=.shut)) H fun x16 hr fr H=>?_
 refine qb hr (fun x h s=>F30_R n _ _ x h (p0:=.shut) (p1:=.shut)) H fun x17 hr fr H=>?_
 refine qg 2 [(50,vB x17)] H fun fr H=>?_
 rcases csplit hr with ⟨hc18,hr⟩ | ⟨hc18,hr⟩
 rotate_left
 ·rw [hc18] at H
  refine qg 4 [(2,vB false)] H fun fr H=>?_
  refine qe (qd ?_)
  refine W_ret ?_
  obtain rfl:=Option.some.inj hr
  exact qr [vB false] H K
 rw [hc18] at H
 refine qg 1 [(51,aN a0)] H fun fr H=>?_
 refine qb hr (fun x h s=>F28_R n _ x h (p0:=.shut)) H fun x19 hr fr H=>?_
 refine qg 2 [(2,vB x19)] H fun fr H=>?_
 refine qe (qd ?_)
 refine W_ret ?_
 obtain rfl:=Option.some.inj hr
 exact qr [vB x19] H K
end Go.Proofs.YtbecjgckobhmpaaGreatDoor
end
