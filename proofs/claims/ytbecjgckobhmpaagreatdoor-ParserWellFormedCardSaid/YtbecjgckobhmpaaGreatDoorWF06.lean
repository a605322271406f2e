/-
  Proved here: a part of what the claim needs (texts YQ12 YQ13 YBL1 YBW1 of the prover's own).
-/
import Derived.Test.YtbecjgckobhmpaaGreatDoorWF05
section
namespace Go.Proofs.YtbecjgckobhmpaaGreatDoor
open Go Go.AM Go.Proofs
set_option maxRecDepth 100000
set_option maxHeartbeats 4000000
def F24 (n:Nat) :Option Bool :=
 (F55 n (bs [97,32,43,32,98])).bind fun x1 =>
 (F29 n (bs [97,32,43,32,98,32,42,32,99,32,61,61,32,100,32,38,38,32,33,101])).bind fun x2 =>
 (F36 (bs [97]) (0:Int)).bind fun x4 =>
 (F36 (bs [98]) (4:Int)).bind fun x5 =>
 (F36 (bs [99]) (8:Int)).bind fun x6 =>
 (F38 (bs [42]) (6:Int) x5 x6).bind fun x7 =>
 (F38 (bs [43]) (2:Int) x4 x7).bind fun x8 =>
 (F36 (bs [100]) (13:Int)).bind fun x10 =>
 (F38 (bs [61,61]) (10:Int) x8 x10).bind fun x11 =>
 (F36 (bs [101]) (19:Int)).bind fun x12 =>
 (F38 (bs [38,38]) (15:Int) x11 (Node.mk 4 (bs []) (bs []) 0 0 0 false ([x12]:List Node) 18)).bind fun x13 =>
 (F29 n (bs [97,32,61,61,32,98,32,61,61,32,99])).bind fun x15 =>
 (F25 n (bs [109,111,100,117,108,101,32,77,32,111,119,110,101,114,32,65,32,123,32,115,104,97,114,101,100,32,120,32,58,32,59,32,115,104,97,114,101,100,32,121,32,58,32,49,59,32,125])).bind fun x17 =>
 (F25 n (bs [116,104,114,101,97,100,32,116,32,61,32,77,46,112,40,49])).bind fun x21 =>
 (bif x1.2.1 == 0 then
   (bif (x1.1.length:Int) == 3 then
    (bif (x2.2.length:Int) == 0 then
     ((F30 n x2.1 x13).bind fun x26 =>
     bif x26 then
      ((F37 n x15.2 (20:Int) (7:Int)).bind fun x28 =>
      bif x28 then
       ((F37 n x17.2 (20:Int) (30:Int)).bind fun x30 =>
       bif x30 then
        ((F30 n x17.1 (Node.mk 62 (bs []) (bs []) 0 0 0 false ([(Node.mk 60 (bs [77]) (bs [65]) 0 0 0 false ([(Node.mk 50 (bs [121]) (bs []) 1 0 0 false ([]:List Node) 32)]:List Node) 0)]:List Node) 0)).bind fun x32 =>
        some x32)
       else
        (some false))
      else
       (some false))
     else
      (some false))
    else
     (some false))
   else
    (some false))
  else
   (some false):Option (Bool)).bind fun j33 =>
 (bif j33 then
   ((F37 n x21.2 (21:Int) (16:Int)).bind fun x35 =>
   bif x35 then
    (bif x21.1.kind == 62 then
     (some ((x21.1.kids.length:Int) == 0))
    else
     (some false))
   else
    (some false))
  else
   (some false):Option (Bool)).bind fun j38 =>
 bif j38 then
  ((F28 n x13).bind fun x40 =>
  bif x40 then
   ((F28 n (Node.mk 62 (bs []) (bs []) 0 0 0 false ([(Node.mk 60 (bs [77]) (bs [65]) 0 0 0 false ([(Node.mk 50 (bs [121]) (bs []) 1 0 0 false ([]:List Node) 32)]:List Node) 0)]:List Node) 0)).bind fun x42 =>
   bif x42 then
    ((F28 n (Node.mk 50 (bs [121]) (bs []) 1 0 0 false ([]:List Node) 32)).bind fun x44 =>
    bif !x44 then
     ((F36 (bs [120]) (7:Int)).bind fun x46 =>
     (stripLeafF x46).bind fun x47 =>
     (F36 (bs [120]) (0:Int)).bind fun x48 =>
     (F30 n x47 x48).bind fun x49 =>
     some x49)
    else
     (some false))
   else
    (some false))
  else
   (some false))
 else
  (some false)
theorem F24_R (n:Nat)  (r:Bool) (hr:F24 n  = some r) {st:St}:R Tryz.prog AN 24 [] st (.ret (vB r)) st:=by
 unfold F24 at hr
 refine R_pureX [] [] Tryz.func24 rfl (by kernel_rfl) rfl fun fr st H K=>?_
 refine W_seq (W_reg ?_)
 refine qg 1 [] H fun fr H=>?_
 refine qe ?_
 refine W_seq (W_reg ?_)
 refine qb hr (fun x h s=>F55_R n _ x h) H fun x1 hr fr H=>?_
 refine qg 7 [(1,vL tToken x1.1 .shut),(2,vI x1.2.1)] H fun fr H=>?_
 refine qe ?_
 refine W_seq (W_reg ?_)
 refine qb hr (fun x h s=>F29_R n _ x h) H fun x2 hr fr H=>?_
 refine qg 3 [(24,aN x2.1),(25,vL tDiag x2.2 .shut)] H fun fr H=>?_
 refine qal 24 [vI 0,vS (bs []),vS (bs []),vI 0,vI 0,vI 0,vB false,vL tNode ([]:List Node) .nil,vI 0] H K fun id3 st K fr H=>?_
 refine qst 24 0 (aN x2.1) [vI x2.1.kind,vS x2.1.name,vS x2.1.other,vI x2.1.n,vI x2.1.len,vI x2.1.init,vB x2.1.ghost,vL tNode x2.1.kids .shut,vI x2.1.pos] 0 H K rfl fun st K fr H=>?_
 refine qg 1 [(5,vL tDiag x2.2 .shut)] H fun fr H=>?_
 refine qe ?_
 refine W_seq (W_reg ?_)
 refine qb hr (fun x h s=>F36_R  _ _ x h) H fun x4 hr fr H=>?_
 refine qb hr (fun x h s=>F36_R  _ _ x h) H fun x5 hr fr H=>?_
 refine qb hr (fun x h s=>F36_R  _ _ x h) H fun x6 hr fr H=>?_
 refine qb hr (fun x h s=>F38_R  _ _ _ _ x h (p0:=.shut) (p1:=.shut)) H fun x7 hr fr H=>?_
 refine qb hr (fun x h s=>F38_R  _ _ _ _ x h (p0:=.shut) (p1:=.shut)) H fun x8 hr fr H=>?_
 refine qal 24 [vI 0,vS (bs []),vS (bs []),vI 0,vI 0,vI 0,vB false,vL tNode ([]:List Node) .nil,vI 0] H K fun id9 st K fr H=>?_
 refine qst 24 0 (aN x8) [vI x8.kind,vS x8.name,vS x8.other,vI x8.n,vI x8.len,vI x8.init,vB x8.ghost,vL tNode x8.kids .shut,vI x8.pos] 0 H K rfl fun st K fr H=>?_
 refine qe ?_
 refine W_seq (W_drw ?_)
 refine qld 24 0 (aN x8) 0 H K rfl fun fr H=>?_
 refine qb hr (fun x h s=>F36_R  _ _ x h) H fun x10 hr fr H=>?_
 refine qb hr (fun x h s=>F38_R  _ _ _ _ x h (p0:=.shut) (p1:=.shut)) H fun x11 hr fr H=>?_
 refine qb hr (fun x h s=>F36_R  _ _ x h) H fun x12 hr fr H=>?_
 refine qv (.buildSlice 22 1 [(0,aN x12)]) H (run_bslice (v:=vL tNode ([x12]:List Node) .full) (v0:=.slice [aN x12] .full) (by kernel_rfl) (by simp only [List.map,vL,tNode_e,eNode_eq,cNode] <;> rfl)) fun fr H=>?_
 refine qg 1 [(36,.agg [vI 4,vS (bs []),vS (bs []),vI 0,vI 0,vI 0,vB false,vL tNode ([x12]:List Node) .shut,vI 18])] H fun fr H=>?_
 refine qb hr (fun x h s=>F38_R  _ _ _ _ x h (p0:=.shut) (p1:=.shut)) H fun x13 hr fr H=>?_
 refine qal 24 [vI 0,vS (bs []),vS (bs []),vI 0,vI 0,vI 0,vB false,vL tNode ([]:List Node) .nil,vI 0] H K fun id14 st K fr H=>?_
 refine qst 24 0 (aN x13) [vI x13.kind,vS x13.name,vS x13.other,vI x13.n,vI x13.len,vI x13.init,vB x13.ghost,vL tNode x13.kids .shut,vI x13.pos] 0 H K rfl fun st K fr H=>?_
 refine qe (qdI K [.look (some 1),0,0,0,0,0,0,.keep [1,2],.put 0] ?_)
 refine W_seq (W_reg ?_)
 refine qb hr (fun x h s=>F29_R n _ x h) H fun x15 hr fr H=>?_
 refine qg 3 [(40,aN x15.1),(41,vL tDiag x15.2 .shut)] H fun fr H=>?_
 refine qal 24 [vI 0,vS (bs []),vS (bs []),vI 0,vI 0,vI 0,vB false,vL tNode ([]:List Node) .nil,vI 0] H K fun id16 st K fr H=>?_
 refine qst 24 0 (aN x15.1) [vI x15.1.kind,vS x15.1.name,vS x15.1.other,vI x15.1.n,vI x15.1.len,vI x15.1.init,vB x15.1.ghost,vL tNode x15.1.kids .shut,vI x15.1.pos] 0 H K rfl fun st K fr H=>?_
 refine qg 1 [(9,vL tDiag x15.2 .shut)] H fun fr H=>?_
 refine qe ?_
 refine W_seq (W_reg ?_)
 refine qb hr (fun x h s=>F25_R n _ x h) H fun x17 hr fr H=>?_
 refine qg 3 [(44,aN x17.1),(45,vL tDiag x17.2 .shut)] H fun fr H=>?_
 refine qal 24 [vI 0,vS (bs []),vS (bs []),vI 0,vI 0,vI 0,vB false,vL tNode ([]:List Node) .nil,vI 0] H K fun id18 st K fr H=>?_
 refine qst 24 0 (aN x17.1) [vI x17.1.kind,vS x17.1.name,vS x17.1.other,vI x17.1.n,vI x17.1.len,vI x17.1.init,vB x17.1.ghost,vL tNode x17.1.kids .shut,vI x17.1.pos] 0 H K rfl fun st K fr H=>?_
 refine qg 1 [(11,vL tDiag x17.2 .shut)] H fun fr H=>?_
 refine qe ?_
 refine W_seq (W_reg ?_)
 refine qg 1 [(46,.agg [vI 50,vS (bs [121]),vS (bs []),vI 1,vI 0,vI 0,vB false,vL tNode ([]:List Node) .nil,vI 32])] H fun fr H=>?_
 refine qal 24 [vI 0,vS (bs []),vS (bs []),vI 0,vI 0,vI 0,vB false,vL tNode ([]:List Node) .nil,vI 0] H K fun id19 st K fr H=>?_
 refine qst 24 0 (.agg [vI 50,vS (bs [121]),vS (bs []),vI 1,vI 0,vI 0,vB false,vL tNode ([]:List Node) .nil,vI 32]) [vI 50,vS (bs [121]),vS (bs []),vI 1,vI 0,vI 0,vB false,vL tNode ([]:List Node) .nil,vI 32] 0 H K rfl fun st K fr H=>?_
 refine qe ?_
 refine W_seq (W_reg ?_)
 refine qld 24 0 (.agg [vI 50,vS (bs [121]),vS (bs []),vI 1,vI 0,vI 0,vB false,vL tNode ([]:List Node) .shut,vI 32]) 0 H K rfl fun fr H=>?_
 refine qv (.buildSlice 22 1 [(0,.agg [vI 50,vS (bs [121]),vS (bs []),vI 1,vI 0,vI 0,vB false,vL tNode ([]:List Node) .shut,vI 32])]) H (run_bslice (v:=vL tNode ([(Node.mk 50 (bs [121]) (bs []) 1 0 0 false ([]:List Node) 32)]:List Node) .full) (v0:=.slice [.agg [vI 50,vS (bs [121]),vS (bs []),vI 1,vI 0,vI 0,vB false,vL tNode ([]:List Node) .shut,vI 32]] .full) (by kernel_rfl) (by simp only [List.map,vL,tNode_e,eNode_eq,cNode] <;> rfl)) fun fr H=>?_
 refine qg 1 [(49,.agg [vI 60,vS (bs [77]),vS (bs [65]),vI 0,vI 0,vI 0,vB false,vL tNode ([(Node.mk 50 (bs [121]) (bs []) 1 0 0 false ([]:List Node) 32)]:List Node) .shut,vI 0])] H fun fr H=>?_
 refine qv (.buildSlice 22 1 [(0,.agg [vI 60,vS (bs [77]),vS (bs [65]),vI 0,vI 0,vI 0,vB false,vL tNode ([(Node.mk 50 (bs [121]) (bs []) 1 0 0 false ([]:List Node) 32)]:List Node) .shut,vI 0])]) H (run_bslice (v:=vL tNode ([(Node.mk 60 (bs [77]) (bs [65]) 0 0 0 false ([(Node.mk 50 (bs [121]) (bs []) 1 0 0 false ([]:List Node) 32)]:List Node) 0)]:List Node) .full) (v0:=.slice [.agg [vI 60,vS (bs [77]),vS (bs [65]),vI 0,vI 0,vI 0,vB false,vL tNode ([(Node.mk 50 (bs [121]) (bs []) 1 0 0 false ([]:List Node) 32)]:List Node) .shut,vI 0]] .full) (by kernel_rfl) (by simp only [List.map,vL,tNode_e,eNode_eq,cNode] <;> rfl)) fun fr H=>?_
 refine qg 1 [(51,.agg [vI 62,vS (bs []),vS (bs []),vI 0,vI 0,vI 0,vB false,vL tNode ([(Node.mk 60 (bs [77]) (bs [65]) 0 0 0 false ([(Node.mk 50 (bs [121]) (bs []) 1 0 0 false ([]:List Node) 32)]:List Node) 0)]:List Node) .shut,vI 0])] H fun fr H=>?_
 refine qal 24 [vI 0,vS (bs []),vS (bs []),vI 0,vI 0,vI 0,vB false,vL tNode ([]:List Node) .nil,vI 0] H K fun id20 st K fr H=>?_
 refine qst 24 0 (.agg [vI 62,vS (bs []),vS (bs []),vI 0,vI 0,vI 0,vB false,vL tNode ([(Node.mk 60 (bs [77]) (bs [65]) 0 0 0 false ([(Node.mk 50 (bs [121]) (bs []) 1 0 0 false ([]:List Node) 32)]:List Node) 0)]:List Node) .shut,vI 0]) [vI 62,vS (bs []),vS (bs []),vI 0,vI 0,vI 0,vB false,vL tNode ([(Node.mk 60 (bs [77]) (bs [65]) 0 0 0 false ([(Node.mk 50 (bs [121]) (bs []) 1 0 0 false ([]:List Node) 32)]:List Node) 0)]:List Node) .shut,vI 0] 0 H K rfl fun st K fr H=>?_
 refine qe ?_
 refine W_seq (W_reg ?_)
 refine qb hr (fun x h s=>F25_R n _ x h) H fun x21 hr fr H=>?_
 refine qg 3 [(54,aN x21.1),(55,vL tDiag x21.2 .shut)] H fun fr H=>?_
 refine qal 24 [vI 0,vS (bs []),vS (bs []),vI 0,vI 0,vI 0,vB false,vL tNode ([]:List Node) .nil,vI 0] H K fun id22 st K fr H=>?_
 refine qst 24 0 (aN x21.1) [vI x21.1.kind,vS x21.1.name,vS x21.1.other,vI x21.1.n,vI x21.1.len,vI x21.1.init,vB x21.1.ghost,vL tNode x21.1.kids .shut,vI x21.1.pos] 0 H K rfl fun st K fr H=>?_
 refine qg 1 [(15,vL tDiag x21.2 .shut)] H fun fr H=>?_
 refine qe ?_
 refine W_seq ?_
 obtain ⟨j33,hj33,hr⟩:=obind hr
 refine W_via (fun e fr st=>e = .normal∧Rd fr [(7,.ptr id14 0),(12,.ptr id19 0),(13,.ptr id20 0),(14,.ptr id22 0),(15,vL tDiag x21.2 .shut),(16,vB j33)]∧HL st [.obj id22 (.cells 24 [vI x21.1.kind,vS x21.1.name,vS x21.1.other,vI x21.1.n,vI x21.1.len,vI x21.1.init,vB x21.1.ghost,vL tNode x21.1.kids .shut,vI x21.1.pos]),.obj id20 (.cells 24 [vI 62,vS (bs []),vS (bs []),vI 0,vI 0,vI 0,vB false,vL tNode ([(Node.mk 60 (bs [77]) (bs [65]) 0 0 0 false ([(Node.mk 50 (bs [121]) (bs []) 1 0 0 false ([]:List Node) 32)]:List Node) 0)]:List Node) .shut,vI 0]),.obj id19 (.cells 24 [vI 50,vS (bs [121]),vS (bs []),vI 1,vI 0,vI 0,vB false,vL tNode ([]:List Node) .nil,vI 32]),.obj id14 (.cells 24 [vI x13.kind,vS x13.name,vS x13.other,vI x13.n,vI x13.len,vI x13.init,vB x13.ghost,vL tNode x13.kids .shut,vI x13.pos])]) ?_ ?_
 ·replace hr:=hj33
  refine W_reg ?_
  refine qg 3 [(58,vB (x1.2.1 == 0))] H fun fr H=>?_
  rcases csplit hr with ⟨hc23,hr⟩ | ⟨hc23,hr⟩
  rotate_left
  ·rw [hc23] at H
   refine qg 28 [(16,vB false)] H fun fr H=>?_
   refine qe ?_
   obtain rfl:=Option.some.inj hr
   exact ⟨rfl,H.tq,K.keep [true,true,true,false,false,true,false,false]⟩
  rw [hc23] at H
  refine qg 1 [(59,vL tToken x1.1 .shut)] H fun fr H=>?_
  refine qln tToken 56 x1.1 .shut H fun fr H=>?_
  refine qg 3 [(63,vB ((x1.1.length:Int) == 3))] H fun fr H=>?_
  rcases csplit hr with ⟨hc24,hr⟩ | ⟨hc24,hr⟩
  rotate_left
  ·rw [hc24] at H
   refine qg 23 [(16,vB false)] H fun fr H=>?_
   refine qe ?_
   obtain rfl:=Option.some.inj hr
   exact ⟨rfl,H.tq,K.keep [true,true,true,false,false,true,false,false]⟩
  rw [hc24] at H
  refine qg 1 [(64,vL tDiag x2.2 .shut)] H fun fr H=>?_
  refine qln tDiag 37 x2.2 .shut H fun fr H=>?_
  refine qg 3 [(68,vB ((x2.2.length:Int) == 0))] H fun fr H=>?_
  rcases csplit hr with ⟨hc25,hr⟩ | ⟨hc25,hr⟩
  rotate_left
  ·rw [hc25] at H
   refine qg 18 [(16,vB false)] H fun fr H=>?_
   refine qe ?_
   obtain rfl:=Option.some.inj hr
   exact ⟨rfl,H.tq,K.keep [true,true,true,false,false,true,false,false]⟩
  rw [hc25] at H
  refine qld 24 0 (aN x2.1) 7 H K rfl fun fr H=>?_
  refine qld 24 0 (aN x13) 5 H K rfl fun fr H=>?_
  refine qb hr (fun x h s=>F30_R n _ _ x h (p0:=.shut) (p1:=.shut)) H fun x26 hr fr H=>?_
  refine qg 2 [(73,vB x26)] H fun fr H=>?_
  rcases csplit hr with ⟨hc27,hr⟩ | ⟨hc27,hr⟩
  rotate_left
  ·rw [hc27] at H
   refine qg 13 [(16,vB false)] H fun fr H=>?_
   refine qe ?_
   obtain rfl:=Option.some.inj hr
   exact ⟨rfl,H.tq,K.keep [true,true,true,false,false,true,false,false]⟩
  rw [hc27] at H
  refine qg 1 [(74,vL tDiag x15.2 .shut)] H fun fr H=>?_
  refine qb hr (fun x h s=>F37_R n _ _ _ x h (p0:=.shut)) H fun x28 hr fr H=>?_
  refine qg 2 [(77,vB x28)] H fun fr H=>?_
  rcases csplit hr with ⟨hc29,hr⟩ | ⟨hc29,hr⟩
  rotate_left
  ·rw [hc29] at H
   refine qg 9 [(16,vB false)] H fun fr H=>?_
   refine qe ?_
   obtain rfl:=Option.some.inj hr
   exact ⟨rfl,H.tq,K.keep [true,true,true,false,false,true,false,false]⟩
  rw [hc29] at H
  refine qg 1 [(78,vL tDiag x17.2 .shut)] H fun fr H=>?_
  refine qb hr (fun x h s=>F37_R n _ _ _ x h (p0:=.shut)) H fun x30 hr fr H=>?_
  refine qg 2 [(81,vB x30)] H fun fr H=>?_
  rcases csplit hr with ⟨hc31,hr⟩ | ⟨hc31,hr⟩
  rotate_left
  ·rw [hc31] at H
   refine qg 5 [(16,vB false)] H fun fr H=>?_
   refine qe ?_
   obtain rfl:=Option.some.inj hr
   exact ⟨rfl,H.tq,K.keep [true,true,true,false,false,true,false,false]⟩
  rw [hc31] at H
  refine qld 24 0 (aN x17.1) 3 H K rfl fun fr H=>?_
  refine qld 24 0 (.agg [vI 62,vS (bs []),vS (bs []),vI 0,vI 0,vI 0,vB false,vL tNode ([(Node.mk 60 (bs [77]) (bs [65]) 0 0 0 false ([(Node.mk 50 (bs [121]) (bs []) 1 0 0 false ([]:List Node) 32)]:List Node) 0)]:List Node) .shut,vI 0]) 1 H K rfl fun fr H=>?_
  refine qb hr (fun x h s=>F30_R n _ _ x h (p0:=.shut) (p1:=.shut)) H fun x32 hr fr H=>?_
  refine qg 2 [(16,vB x32)] H fun fr H=>?_
  refine qe ?_
  obtain rfl:=Option.some.inj hr
  exact ⟨rfl,H.tq,K.keep [true,true,true,false,false,true,false,false]⟩
 rintro e fr st ⟨rfl,H,K⟩
 refine W_seq ?_
 obtain ⟨j38,hj38,hr⟩:=obind hr
 refine W_via (fun e fr st=>e = .normal∧Rd fr [(7,.ptr id14 0),(12,.ptr id19 0),(13,.ptr id20 0),(16,vB j38)]∧HL st [.obj id20 (.cells 24 [vI 62,vS (bs []),vS (bs []),vI 0,vI 0,vI 0,vB false,vL tNode ([(Node.mk 60 (bs [77]) (bs [65]) 0 0 0 false ([(Node.mk 50 (bs [121]) (bs []) 1 0 0 false ([]:List Node) 32)]:List Node) 0)]:List Node) .shut,vI 0]),.obj id19 (.cells 24 [vI 50,vS (bs [121]),vS (bs []),vI 1,vI 0,vI 0,vB false,vL tNode ([]:List Node) .nil,vI 32]),.obj id14 (.cells 24 [vI x13.kind,vS x13.name,vS x13.other,vI x13.n,vI x13.len,vI x13.init,vB x13.ghost,vL tNode x13.kids .shut,vI x13.pos])]) ?_ ?_
 ·replace hr:=hj38
  refine W_reg ?_
  refine qg 2 [(87,vB j33)] H fun fr H=>?_
  rcases csplit hr with ⟨hc34,hr⟩ | ⟨hc34,hr⟩
  rotate_left
  ·rw [hc34] at H
   refine qg 15 [(16,vB false)] H fun fr H=>?_
   refine qe ?_
   obtain rfl:=Option.some.inj hr
   exact ⟨rfl,H.tq,K.keep [false,true,true,true]⟩
  rw [hc34] at H
  refine qg 1 [(88,vL tDiag x21.2 .shut)] H fun fr H=>?_
  refine qb hr (fun x h s=>F37_R n _ _ _ x h (p0:=.shut)) H fun x35 hr fr H=>?_
  refine qg 2 [(91,vB x35)] H fun fr H=>?_
  rcases csplit hr with ⟨hc36,hr⟩ | ⟨hc36,hr⟩
  rotate_left
  ·rw [hc36] at H
   refine qg 11 [(16,vB false)] H fun fr H=>?_
   refine qe ?_
   obtain rfl:=Option.some.inj hr
   exact ⟨rfl,H.tq,K.keep [false,true,true,true]⟩
  rw [hc36] at H
  refine qg 1 [(92,.ptr id22 0)] H fun fr H=>?_
  refine qld 3 0 (vI x21.1.kind) 0 H K rfl fun fr H=>?_
  refine qg 3 [(96,vB (x21.1.kind == 62))] H fun fr H=>?_
  rcases csplit hr with ⟨hc37,hr⟩ | ⟨hc37,hr⟩
  rotate_left
  ·rw [hc37] at H
   refine qg 6 [(16,vB false)] H fun fr H=>?_
   refine qe ?_
   obtain rfl:=Option.some.inj hr
   exact ⟨rfl,H.tq,K.keep [false,true,true,true]⟩
  rw [hc37] at H
  refine qg 1 [(97,.ptr id22 7)] H fun fr H=>?_
  refine qld 22 7 (vL tNode x21.1.kids .shut) 0 H K rfl fun fr H=>?_
  refine qln tNode 22 x21.1.kids .shut H fun fr H=>?_
  refine qg 3 [(16,vB ((x21.1.kids.length:Int) == 0))] H fun fr H=>?_
  refine qe ?_
  obtain rfl:=Option.some.inj hr
  exact ⟨rfl,H.tq,K.keep [false,true,true,true]⟩
 rintro e fr st ⟨rfl,H,K⟩
 refine W_seq (W_reg ?_)
 refine qg 2 [(103,vB j38)] H fun fr H=>?_
 rcases csplit hr with ⟨hc39,hr⟩ | ⟨hc39,hr⟩
 rotate_left
 ·rw [hc39] at H
  refine qg 19 [(0,vB false)] H fun fr H=>?_
  refine qe ?_
  refine W_ret ?_
  obtain rfl:=Option.some.inj hr
  exact qr [vB false] H K
 rw [hc39] at H
 refine qld 24 0 (aN x13) 2 H K rfl fun fr H=>?_
 refine qb hr (fun x h s=>F28_R n _ x h (p0:=.shut)) H fun x40 hr fr H=>?_
 refine qg 2 [(107,vB x40)] H fun fr H=>?_
 rcases csplit hr with ⟨hc41,hr⟩ | ⟨hc41,hr⟩
 rotate_left
 ·rw [hc41] at H
  refine qg 15 [(0,vB false)] H fun fr H=>?_
  refine qe ?_
  refine W_ret ?_
  obtain rfl:=Option.some.inj hr
  exact qr [vB false] H K
 rw [hc41] at H
 refine qld 24 0 (.agg [vI 62,vS (bs []),vS (bs []),vI 0,vI 0,vI 0,vB false,vL tNode ([(Node.mk 60 (bs [77]) (bs [65]) 0 0 0 false ([(Node.mk 50 (bs [121]) (bs []) 1 0 0 false ([]:List Node) 32)]:List Node) 0)]:List Node) .shut,vI 0]) 0 H K rfl fun fr H=>?_
 refine qb hr (fun x h s=>F28_R n _ x h (p0:=.shut)) H fun x42 hr fr H=>?_
 refine qg 2 [(111,vB x42)] H fun fr H=>?_
 rcases csplit hr with ⟨hc43,hr⟩ | ⟨hc43,hr⟩
 rotate_left
 ·rw [hc43] at H
  refine qg 11 [(0,vB false)] H fun fr H=>?_
  refine qe ?_
  refine W_ret ?_
  obtain rfl:=Option.some.inj hr
  exact qr [vB false] H K
 rw [hc43] at H
 refine qld 24 0 (.agg [vI 50,vS (bs [121]),vS (bs []),vI 1,vI 0,vI 0,vB false,vL tNode ([]:List Node) .shut,vI 32]) 1 H K rfl fun fr H=>?_
 refine qb hr (fun x h s=>F28_R n _ x h (p0:=.shut)) H fun x44 hr fr H=>?_
 refine qg 3 [(116,vB !x44)] H fun fr H=>?_
 rcases csplit hr with ⟨hc45,hr⟩ | ⟨hc45,hr⟩
 rotate_left
 ·rw [hc45] at H
  refine qg 6 [(0,vB false)] H fun fr H=>?_
  refine qe ?_
  refine W_ret ?_
  obtain rfl:=Option.some.inj hr
  exact qr [vB false] H K
 rw [hc45] at H
 refine qb hr (fun x h s=>F36_R  _ _ x h) H fun x46 hr fr H=>?_
 refine qb hr (fun x h s=>stripLeaf_R _ x h (sp:=.shut)) H fun x47 hr fr H=>?_
 refine qb hr (fun x h s=>F36_R  _ _ x h) H fun x48 hr fr H=>?_
 refine qb hr (fun x h s=>F30_R n _ _ x h (p0:=.shut) (p1:=.shut)) H fun x49 hr fr H=>?_
 refine qg 2 [(0,vB x49)] H fun fr H=>?_
 refine qe ?_
 refine W_ret ?_
 obtain rfl:=Option.some.inj hr
 exact qr [vB x49] H K
def F60_step (F60:Node→Int→Option Int) (n:Nat) (a0:Node) (a1:Int):Option Int :=
 (iter (σ:=Int × Int) (ρ:=Int) (fun s1=>bif (decide (s1.2 < (a0.kids.length:Int))) && (decide (s1.1≤a1)) then
   ((idxL a0.kids s1.2).bind fun x3 =>
   (F60 x3 (w64 (a1 - s1.1))).bind fun x4 =>
   some (.inl (w64 (s1.1 + x4),w64 (s1.2 + 1))))
  else
   (some (.inr s1.1))) n ((1:Int),(0:Int))).bind fun r5 =>
 some r5
def F60:Nat→Node→Int→Option Int
 | 0,_,_=>none
 | n + 1,a0,a1=>F60_step (F60 n) n a0 a1
theorem F60_RR (n:Nat):(∀ (a0:Node) (a1:Int) (r:Int),F60 n a0 a1 = some r→∀ {st:St} {p0:Spare},R Tryz.prog AN 60 [.agg (cNode p0 a0),vI a1] st (.ret (vI r)) st):=by
 induction n with
 | zero=>(intros; contradiction)
 | succ n ih =>
  have ih_F60:=@ih; clear ih
  intro a0 a1 r hr st p0
  change F60_step (F60 n) n a0 a1 = some r at hr
  unfold F60_step at hr
  refine R_pureX [aN a0,vI a1] [(0,aN a0),(1,vI a1)] Tryz.func60 rfl (by simp only [strip,stripL,stripL_cNode,Option.bind_some,Option.map_some]) rfl fun fr st H K=>?_
  refine W_seq (W_reg ?_)
  refine qg 2 [(2,cN a0 0)] H fun fr H=>?_
  refine qe ?_
  refine W_seq (W_reg ?_)
  refine qg 1 [(5,vI 1)] H fun fr H=>?_
  refine qe ?_
  refine W_seq (W_seq ?_)
  refine W_reg ?_
  refine qg 1 [(6,vI 0)] H fun fr H=>?_
  refine qe ?_
  refine W_block ?_
  obtain ⟨r5,hr5,hr⟩:=obind hr
  refine W_iter hr5 (fun (s1:Int × Int) fr st=>Rd fr [(1,vI a1),(2,cN a0 0),(5,vI s1.1),(6,vI s1.2)]∧HL st []) (fun (r5:Int) e fr st=>e = .exit 0∧Rd fr [(5,vI r5)]∧HL st []) ⟨H.tq,K.keep []⟩ ?_ ?_
  ·intro s1 fr st r hi hr
   obtain ⟨H,K⟩:=hi
   refine W_seq (W_seq ?_)
   refine W_reg ?_
   refine qg 3 [(7,vI s1.2),(9,vL tNode a0.kids .shut)] H fun fr H=>?_
   refine qln tNode 22 a0.kids .shut H fun fr H=>?_
   refine qg 2 [(12,vB (decide (s1.2 < (a0.kids.length:Int))))] H fun fr H=>?_
   refine qg 4 [(16,vB ((decide (s1.2 < (a0.kids.length:Int))) && (decide (s1.1≤a1))))] H (hs:=by intro _ _; generalize (decide (s1.2 < (a0.kids.length:Int))) = b0; cases b0 <;> kernel_rfl) fun fr H=>?_
   refine qe ?_
   rcases csplit hr with ⟨hc2,hr⟩ | ⟨hc2,hr⟩
   rotate_left
   ·refine qF H hc2 ?_
    refine W_exit ?_
    obtain rfl:=Option.some.inj hr
    exact ⟨by simp,⟨rfl,H.tq,K.keep []⟩⟩
   refine qT H hc2 ?_
   refine W_skip ?_
   refine W_seq (W_block ?_)
   refine W_reg ?_
   refine qg 4 [(19,vI s1.1),(21,vL tNode a0.kids .shut),(22,vI s1.2)] H fun fr H=>?_
   refine qix tNode 22 .shut hr H fun x3 hr hx3 fr H=>?_
   refine qg 4 [(24,aN x3),(27,vI (w64 (a1 - s1.1)))] H fun fr H=>?_
   refine qb hr (fun x h s=>ih_F60 _ _ x h (p0:=.shut)) H fun x4 hr fr H=>?_
   refine qg 2 [(5,vI (w64 (s1.1 + x4)))] H fun fr H=>?_
   refine qe ?_
   refine W_reg ?_
   refine qg 3 [(6,vI (w64 (s1.2 + 1)))] H fun fr H=>?_
   refine qe ?_
   obtain rfl:=Option.some.inj hr
   exact ⟨rfl,⟨H.tq,K.keep []⟩⟩
  rintro e fr st ⟨rfl,H,K⟩
  refine W_seq (W_reg ?_)
  refine qg 2 [(4,vI r5)] H fun fr H=>?_
  refine qe ?_
  refine W_ret ?_
  obtain rfl:=Option.some.inj hr
  exact qr [vI r5] H K
theorem F60_R (n:Nat) (a0:Node) (a1:Int) (r:Int) (hr:F60 n a0 a1 = some r) {st:St} {p0:Spare}:R Tryz.prog AN 60 [.agg (cNode p0 a0),vI a1] st (.ret (vI r)) st:=(F60_RR n) a0 a1 r hr
def F26 (n:Nat) (a0:Node) (a1:Int):Option Bool :=
 (F60 n a0 a1).bind fun x1 =>
 some (decide (x1≤a1))
theorem F26_R (n:Nat) (a0:Node) (a1:Int) (r:Bool) (hr:F26 n a0 a1 = some r) {st:St} {p0:Spare}:R Tryz.prog AN 26 [.agg (cNode p0 a0),vI a1] st (.ret (vB r)) st:=by
 unfold F26 at hr
 refine R_pureX [aN a0,vI a1] [(0,aN a0),(1,vI a1)] Tryz.func26 rfl (by simp only [strip,stripL,stripL_cNode,Option.bind_some,Option.map_some]) rfl fun fr st H K=>?_
 refine W_seq (W_reg ?_)
 refine qg 2 [(2,cN a0 0)] H fun fr H=>?_
 refine qe ?_
 refine W_seq (W_reg ?_)
 refine qg 2 [(5,aN a0),(6,vI a1)] H fun fr H=>?_
 refine qb hr (fun x h s=>F60_R n _ _ x h (p0:=.shut)) H fun x1 hr fr H=>?_
 refine qg 3 [(4,vB (decide (x1≤a1)))] H fun fr H=>?_
 refine qe ?_
 refine W_ret ?_
 obtain rfl:=Option.some.inj hr
 exact qr [vB (decide (x1≤a1))] H K
def F34_step (F34:Node→Option Node) (n:Nat) (a0:Node):Option Node :=
 (iter (σ:=Int × Node) (ρ:=Node) (fun s3=>bif decide (s3.1 < (a0.kids.length:Int)) then
   ((idxL a0.kids s3.1).bind fun x5 =>
   (F34 x5).bind fun x6 =>
   (appL 104 s3.2.kids ([x6]:List Node)).bind fun x7 =>
   some (.inl (w64 (s3.1 + 1),(Node.mk s3.2.kind s3.2.name s3.2.other s3.2.n s3.2.len s3.2.init s3.2.ghost x7 s3.2.pos))))
  else
   (some (.inr s3.2))) n ((0:Int),(Node.mk a0.kind a0.name a0.other a0.n a0.len a0.init a0.ghost ([]:List Node) 0))).bind fun r9 =>
 some r9
def F34:Nat→Node→Option Node
 | 0,_=>none
 | n + 1,a0=>F34_step (F34 n) n a0
end Go.Proofs.YtbecjgckobhmpaaGreatDoor
end
section
namespace Go.Proofs.YtbecjgckobhmpaaGreatDoor
open Go Go.AM Go.Proofs
set_option maxRecDepth 100000
set_option maxHeartbeats 4000000
end Go.Proofs.YtbecjgckobhmpaaGreatDoor
end
section
namespace Go.Proofs.YtbecjgckobhmpaaGreatDoor
open Go Go.AM Go.Proofs
set_option maxRecDepth 100000
set_option maxHeartbeats 4000000
end Go.Proofs.YtbecjgckobhmpaaGreatDoor
end
section
namespace Go.Proofs.YtbecjgckobhmpaaGreatDoor
open Go Go.AM Go.Proofs
set_option maxRecDepth 100000
set_option maxHeartbeats 4000000
def F61_step (F61:Node→Int→Int→Option (Int × Bool)) (n:Nat) (a0:Node) (a1:Int) (a2:Int):Option (Int × Bool) :=
 bif decide (a2 < 1) then
  (some ((1:Int),false))
 else
  ((iter (σ:=Int × Int) (ρ:=Int ⊕ Int) (fun s2=>bif (decide (s2.2 < (a0.kids.length:Int))) && (decide (s2.1≤a1)) then
    ((idxL a0.kids s2.2).bind fun x4 =>
    (F61 x4 (w64 (a1 - s2.1)) (w64 (a2 - 1))).bind fun x5 =>
    bif !x5.2 then
     (some (.inr (.inl s2.1)))
    else
     (some (.inl (w64 (s2.1 + x5.1),w64 (s2.2 + 1)))))
   else
    (some (.inr (.inr s2.1)))) n ((1:Int),(0:Int))).bind fun r7=>match r7 with
  | .inl r7a=>some (r7a,false)
  | .inr r7b=>some (r7b,true))
def F61:Nat→Node→Int→Int→Option (Int × Bool)
 | 0,_,_,_=>none
 | n + 1,a0,a1,a2=>F61_step (F61 n) n a0 a1 a2
theorem F61_RR (n:Nat):(∀ (a0:Node) (a1:Int) (a2:Int) (r:Int × Bool),F61 n a0 a1 a2 = some r→∀ {st:St} {p0:Spare},R Tryz.prog AN 61 [.agg (cNode p0 a0),vI a1,vI a2] st (.ret (.tuple [vI r.1,vB r.2])) st):=by
 induction n with
 | zero=>(intros; contradiction)
 | succ n ih =>
  have ih_F61:=@ih; clear ih
  intro a0 a1 a2 r hr st p0
  change F61_step (F61 n) n a0 a1 a2 = some r at hr
  unfold F61_step at hr
  refine R_pureX [aN a0,vI a1,vI a2] [(0,aN a0),(1,vI a1),(2,vI a2)] Tryz.func61 rfl (by simp only [strip,stripL,stripL_cNode,Option.bind_some,Option.map_some]) rfl fun fr st H K=>?_
  refine W_seq (W_reg ?_)
  refine qg 3 [(3,cN a0 0)] H fun fr H=>?_
  refine qe ?_
  refine W_seq (W_seq ?_)
  refine W_reg ?_
  refine qg 2 [(13,vB (decide (a2 < 1)))] H fun fr H=>?_
  refine qe ?_
  rcases csplit hr with ⟨hc1,hr⟩ | ⟨hc1,hr⟩
  ·refine qT H hc1 ?_
   refine W_seq (W_reg ?_)
   refine qg 2 [(6,vI 1),(7,vB false)] H fun fr H=>?_
   refine qe ?_
   refine W_ret ?_
   obtain rfl:=Option.some.inj hr
   exact e_ret [vI 1,vB false] H K (fun _=>resT (by kernel_rfl) (resT (by kernel_rfl) resN)) (fun _=>by kernel_rfl)
  refine qF H hc1 ?_
  refine W_skip ?_
  refine W_seq (W_reg ?_)
  refine qg 1 [(8,vI 1)] H fun fr H=>?_
  refine qe ?_
  refine W_seq (W_seq ?_)
  refine W_reg ?_
  refine qg 1 [(9,vI 0)] H fun fr H=>?_
  refine qe ?_
  refine W_block ?_
  obtain ⟨r7,hr7,hr⟩:=obind hr
  refine W_iter hr7 (fun (s2:Int × Int) fr st=>Rd fr [(1,vI a1),(2,vI a2),(3,cN a0 0),(8,vI s2.1),(9,vI s2.2)]∧HL st []) (fun (r7:Int ⊕ Int) e fr st=>match r7 with | .inl r7a=>(e = .ret∧Rd fr [(6,vI r7a),(7,vB false)]∧HL st []) | .inr r7b=>(e = .exit 0∧Rd fr [(8,vI r7b)]∧HL st [])) ⟨H.tq,K.keep []⟩ ?_ ?_
  ·intro s2 fr st r hi hr
   obtain ⟨H,K⟩:=hi
   refine W_seq (W_seq ?_)
   refine W_reg ?_
   refine qg 3 [(14,vI s2.2),(16,vL tNode a0.kids .shut)] H fun fr H=>?_
   refine qln tNode 22 a0.kids .shut H fun fr H=>?_
   refine qg 2 [(19,vB (decide (s2.2 < (a0.kids.length:Int))))] H fun fr H=>?_
   refine qg 4 [(23,vB ((decide (s2.2 < (a0.kids.length:Int))) && (decide (s2.1≤a1))))] H (hs:=by intro _ _; generalize (decide (s2.2 < (a0.kids.length:Int))) = b0; cases b0 <;> kernel_rfl) fun fr H=>?_
   refine qe ?_
   rcases csplit hr with ⟨hc3,hr⟩ | ⟨hc3,hr⟩
   rotate_left
   ·refine qF H hc3 ?_
    refine W_exit ?_
    obtain rfl:=Option.some.inj hr
    exact ⟨by simp,⟨rfl,H.tq,K.keep []⟩⟩
   refine qT H hc3 ?_
   refine W_skip ?_
   refine W_seq (W_block ?_)
   refine W_seq (W_reg ?_)
   refine qg 3 [(28,vL tNode a0.kids .shut),(29,vI s2.2)] H fun fr H=>?_
   refine qix tNode 22 .shut hr H fun x4 hr hx4 fr H=>?_
   refine qg 6 [(31,aN x4),(34,vI (w64 (a1 - s2.1))),(36,vI (w64 (a2 - 1)))] H fun fr H=>?_
   refine qb hr (fun x h s=>ih_F61 _ _ _ x h (p0:=.shut)) H fun x5 hr fr H=>?_
   refine qg 5 [(10,vI x5.1),(11,vB x5.2)] H fun fr H=>?_
   refine qe ?_
   refine W_seq (W_seq ?_)
   refine W_reg ?_
   refine qg 2 [(41,vB !x5.2)] H fun fr H=>?_
   refine qe ?_
   rcases csplit hr with ⟨hc6,hr⟩ | ⟨hc6,hr⟩
   ·refine qT H hc6 ?_
    refine W_seq (W_reg ?_)
    refine qg 3 [(6,vI s2.1),(7,vB false)] H fun fr H=>?_
    refine qe ?_
    refine W_ret ?_
    obtain rfl:=Option.some.inj hr
    exact ⟨by simp,⟨rfl,H.tq,K.keep []⟩⟩
   refine qF H hc6 ?_
   refine W_skip ?_
   refine W_reg ?_
   refine qg 4 [(8,vI (w64 (s2.1 + x5.1)))] H fun fr H=>?_
   refine qe ?_
   refine W_reg ?_
   refine qg 3 [(9,vI (w64 (s2.2 + 1)))] H fun fr H=>?_
   refine qe ?_
   obtain rfl:=Option.some.inj hr
   exact ⟨rfl,⟨H.tq,K.keep []⟩⟩
  rcases r7 with r7a | r7b
  ·rintro e fr st ⟨rfl,H,K⟩
   obtain rfl:=Option.some.inj hr
   exact e_ret [vI r7a,vB false] H K (fun _=>resT (by kernel_rfl) (resT (by kernel_rfl) resN)) (fun _=>by kernel_rfl)
  rintro e fr st ⟨rfl,H,K⟩
  refine W_seq (W_reg ?_)
  refine qg 3 [(6,vI r7b),(7,vB true)] H fun fr H=>?_
  refine qe ?_
  refine W_ret ?_
  obtain rfl:=Option.some.inj hr
  exact e_ret [vI r7b,vB true] H K (fun _=>resT (by kernel_rfl) (resT (by kernel_rfl) resN)) (fun _=>by kernel_rfl)
theorem F61_R (n:Nat) (a0:Node) (a1:Int) (a2:Int) (r:Int × Bool) (hr:F61 n a0 a1 a2 = some r) {st:St} {p0:Spare}:R Tryz.prog AN 61 [.agg (cNode p0 a0),vI a1,vI a2] st (.ret (.tuple [vI r.1,vB r.2])) st:=(F61_RR n) a0 a1 a2 r hr
def F27 (n:Nat) (a0:Node):Option Bool :=
 (F61 n a0 (1500:Int) (40:Int)).bind fun x1 =>
 some (x1.2 && (decide (x1.1≤1500)))
theorem F27_R (n:Nat) (a0:Node) (r:Bool) (hr:F27 n a0 = some r) {st:St} {p0:Spare}:R Tryz.prog AN 27 [.agg (cNode p0 a0)] st (.ret (vB r)) st:=by
 unfold F27 at hr
 refine R_pureX [aN a0] [(0,aN a0)] Tryz.func27 rfl (by simp only [strip,stripL,stripL_cNode,Option.bind_some,Option.map_some]) rfl fun fr st H K=>?_
 refine W_seq (W_reg ?_)
 refine qg 2 [(1,cN a0 0)] H fun fr H=>?_
 refine qe ?_
 refine W_seq (W_reg ?_)
 refine qg 1 [(6,aN a0)] H fun fr H=>?_
 refine qb hr (fun x h s=>F61_R n _ _ _ x h (p0:=.shut)) H fun x1 hr fr H=>?_
 refine qg 5 [(3,vI x1.1),(4,vB x1.2)] H fun fr H=>?_
 refine qe ?_
 refine W_seq (W_reg ?_)
 refine qg 2 [(11,vB x1.2)] H fun fr H=>?_
 refine qg 3 [(14,vB (x1.2 && (decide (x1.1≤1500))))] H (hs:=by intro _ _; generalize (x1.2) = b0; cases b0 <;> kernel_rfl) fun fr H=>?_
 refine qg 1 [(2,vB (x1.2 && (decide (x1.1≤1500))))] H fun fr H=>?_
 refine qe ?_
 refine W_ret ?_
 obtain rfl:=Option.some.inj hr
 exact qr [vB (x1.2 && (decide (x1.1≤1500)))] H K
def F6 (n:Nat) (a0:ByteArray) (a1:ByteArray):Option Bool :=
 (F24 n ).bind fun x1 =>
 bif (decide (6000 < (a0.size:Int))) || (decide (6000 < (a1.size:Int))) then
  (some x1)
 else
  ((F25 n a0).bind fun x3 =>
  (bif x3.1.kind != 62 then
    (some (.inl ()))
   else
    (bif decide (20 < (x3.2.length:Int)) then
     (some (.inl ()))
    else
     ((F26 n x3.1 (4000:Int)).bind fun x7 =>
     bif !x7 then
      (some (.inl ()))
     else
      (bif (x3.2.length:Int) == 0 then
       ((F28 n x3.1).bind fun x10 =>
       bif !x10 then
        (some (.inl ()))
       else
        (some (.inr ())))
      else
       ((F27 n x3.1).bind fun x11 =>
       bif x11 then
        ((F28 n x3.1).bind fun x13 =>
        bif !x13 then
         (some (.inl ()))
        else
         (some (.inr ())))
       else
        (some (.inr ())))))):Option (Unit ⊕ Unit)).bind fun j16=>match j16 with
  | .inl _=>some false
  | .inr _=>(iter (σ:=Int × Int) (ρ:=Unit ⊕ Unit) (fun s17=>bif decide (s17.2 < (x3.2.length:Int)) then
     ((idxL x3.2 s17.2).bind fun x19 =>
     bif x19.err == 0 then
      (some (.inr (.inl ())))
     else
      ((idxL x3.2 s17.2).bind fun x21 =>
      bif decide (x21.pos≤s17.1) then
       (some (.inr (.inl ())))
      else
       ((idxL x3.2 s17.2).bind fun x23 =>
       bif decide ((a0.size:Int) < x23.pos) then
        (some (.inr (.inl ())))
       else
        ((idxL x3.2 s17.2).bind fun x25 =>
        some (.inl (x25.pos,w64 (s17.2 + 1)))))))
    else
     (some (.inr (.inr ())))) n (((-1):Int),(0:Int))).bind fun r26=>match r26 with
   | .inl _=>some false
   | .inr _=>(F29 n a1).bind fun x27 =>
    bif (x27.2.length:Int) == 0 then
     (bif x1 then
      (bif x27.1.kind != 62 then
       ((F28 n x27.1).bind fun x32 =>
       some x32)
      else
       (some false))
     else
      (some false))
    else
     (bif x1 then
      (bif (x27.2.length:Int) == 1 then
       ((idxL x27.2 0).bind fun x35 =>
       bif x35.err != 0 then
        ((idxL x27.2 0).bind fun x37 =>
        bif decide (0≤x37.pos) then
         ((idxL x27.2 0).bind fun x39 =>
         bif decide (x39.pos≤(a1.size:Int)) then
          ((F30 n x27.1 (Node.mk 0 (bs []) (bs []) 0 0 0 false ([]:List Node) 0)).bind fun x41 =>
          some x41)
         else
          (some false))
        else
         (some false))
       else
        (some false))
      else
       (some false))
     else
      (some false)))
theorem F6_R (n:Nat) (a0:ByteArray) (a1:ByteArray) (r:Bool) (hr:F6 n a0 a1 = some r) {st:St}:R Tryz.prog AN 6 [vS a0,vS a1] st (.ret (vB r)) st:=by
 unfold F6 at hr
 refine R_pureX [vS a0,vS a1] [(0,vS a0),(1,vS a1)] Tryz.func6 rfl (by kernel_rfl) rfl fun fr st H K=>?_
 refine W_seq (W_reg ?_)
 refine qg 1 [] H fun fr H=>?_
 refine qe ?_
 refine W_seq (W_reg ?_)
 refine qb hr (fun x h s=>F24_R n x h) H fun x1 hr fr H=>?_
 refine qg 1 [(5,vB x1)] H fun fr H=>?_
 refine qe ?_
 refine W_seq (W_seq ?_)
 refine W_reg ?_
 refine qg 4 [(16,vB (decide (6000 < (a0.size:Int))))] H fun fr H=>?_
 refine qg 4 [(20,vB ((decide (6000 < (a0.size:Int))) || (decide (6000 < (a1.size:Int)))))] H (hs:=by intro _ _; generalize (decide (6000 < (a0.size:Int))) = b0; cases b0 <;> kernel_rfl) fun fr H=>?_
 refine qe ?_
 rcases csplit hr with ⟨hc2,hr⟩ | ⟨hc2,hr⟩
 ·refine qT H hc2 ?_
  refine W_seq (W_reg ?_)
  refine qg 2 [(4,vB x1)] H fun fr H=>?_
  refine qe ?_
  refine W_ret ?_
  obtain rfl:=Option.some.inj hr
  exact qr [vB x1] H K
 refine qF H hc2 ?_
 refine W_skip ?_
 refine W_seq (W_reg ?_)
 refine qg 1 [(23,vS a0)] H fun fr H=>?_
 refine qb hr (fun x h s=>F25_R n _ x h) H fun x3 hr fr H=>?_
 refine qg 3 [(25,aN x3.1),(26,vL tDiag x3.2 .shut)] H fun fr H=>?_
 refine qal 24 [vI 0,vS (bs []),vS (bs []),vI 0,vI 0,vI 0,vB false,vL tNode ([]:List Node) .nil,vI 0] H K fun id4 st K fr H=>?_
 refine qst 24 0 (aN x3.1) [vI x3.1.kind,vS x3.1.name,vS x3.1.other,vI x3.1.n,vI x3.1.len,vI x3.1.init,vB x3.1.ghost,vL tNode x3.1.kids .shut,vI x3.1.pos] 0 H K rfl fun st K fr H=>?_
 refine qg 1 [(7,vL tDiag x3.2 .shut)] H fun fr H=>?_
 refine qe ?_
 refine W_seq ?_
 obtain ⟨j16,hj16,hr⟩:=obind hr
 refine W_via (fun e fr st=>match j16 with | .inl j16a=>(e = .ret∧Rd fr [(4,vB false)]∧HL st []) | .inr j16b=>(e = .normal∧Rd fr [(0,vS a0),(1,vS a1),(5,vB x1),(7,vL tDiag x3.2 .shut)]∧HL st [])) ?_ ?_
 ·replace hr:=hj16
  refine W_seq (W_reg ?_)
  refine qg 1 [(27,.ptr id4 0)] H fun fr H=>?_
  refine qld 3 0 (vI x3.1.kind) 0 H K rfl fun fr H=>?_
  refine qg 2 [(30,vB (x3.1.kind != 62))] H fun fr H=>?_
  rcases csplit hr with ⟨hc5,hr⟩ | ⟨hc5,hr⟩
  ·rw [hc5] at H
   refine qg 23 [(53,vB true)] H fun fr H=>?_
   refine qe ?_
   refine qT H rfl ?_
   refine W_seq (W_reg ?_)
   refine qg 1 [(4,vB false)] H fun fr H=>?_
   refine qe ?_
   refine W_ret ?_
   obtain rfl:=Option.some.inj hr
   exact ⟨rfl,H.tq,K.keep [false]⟩
  rw [hc5] at H
  refine qg 1 [(31,vL tDiag x3.2 .shut)] H fun fr H=>?_
  refine qln tDiag 37 x3.2 .shut H fun fr H=>?_
  refine qg 3 [(35,vB (decide (20 < (x3.2.length:Int))))] H fun fr H=>?_
  rcases csplit hr with ⟨hc6,hr⟩ | ⟨hc6,hr⟩
  ·rw [hc6] at H
   refine qg 18 [(53,vB true)] H fun fr H=>?_
   refine qe ?_
   refine qT H rfl ?_
   refine W_seq (W_reg ?_)
   refine qg 1 [(4,vB false)] H fun fr H=>?_
   refine qe ?_
   refine W_ret ?_
   obtain rfl:=Option.some.inj hr
   exact ⟨rfl,H.tq,K.keep [false]⟩
  rw [hc6] at H
  refine qld 24 0 (aN x3.1) 0 H K rfl fun fr H=>?_
  refine qb hr (fun x h s=>F26_R n _ _ x h (p0:=.shut)) H fun x7 hr fr H=>?_
  refine qg 3 [(40,vB !x7)] H fun fr H=>?_
  rcases csplit hr with ⟨hc8,hr⟩ | ⟨hc8,hr⟩
  ·rw [hc8] at H
   refine qg 13 [(53,vB true)] H fun fr H=>?_
   refine qe ?_
   refine qT H rfl ?_
   refine W_seq (W_reg ?_)
   refine qg 1 [(4,vB false)] H fun fr H=>?_
   refine qe ?_
   refine W_ret ?_
   obtain rfl:=Option.some.inj hr
   exact ⟨rfl,H.tq,K.keep [false]⟩
  rw [hc8] at H
  refine qg 1 [(41,vL tDiag x3.2 .shut)] H fun fr H=>?_
  refine qln tDiag 37 x3.2 .shut H fun fr H=>?_
  refine qg 2 [(44,vB ((x3.2.length:Int) == 0))] H fun fr H=>?_
  rcases csplit hr with ⟨hc9,hr⟩ | ⟨hc9,hr⟩
  ·rw [hc9] at H
   refine qg 4 [(48,vB true)] H fun fr H=>?_
   refine qld 24 0 (aN x3.1) 0 H K rfl fun fr H=>?_
   refine qb hr (fun x h s=>F28_R n _ x h (p0:=.shut)) H fun x10 hr fr H=>?_
   refine qg 3 [(53,vB !x10)] H fun fr H=>?_
   refine qe ?_
   rcases csplit hr with ⟨hc14,hr⟩ | ⟨hc14,hr⟩
   rotate_left
   ·refine qF H hc14 ?_
    refine W_skip ?_
    obtain rfl:=Option.some.inj hr
    exact ⟨rfl,H.tq,K.keep [false]⟩
   refine qT H hc14 ?_
   refine W_seq (W_reg ?_)
   refine qg 1 [(4,vB false)] H fun fr H=>?_
   refine qe ?_
   refine W_ret ?_
   obtain rfl:=Option.some.inj hr
   exact ⟨rfl,H.tq,K.keep [false]⟩
  rw [hc9] at H
  refine qld 24 0 (aN x3.1) 0 H K rfl fun fr H=>?_
  refine qb hr (fun x h s=>F27_R n _ x h (p0:=.shut)) H fun x11 hr fr H=>?_
  refine qg 2 [(48,vB x11)] H fun fr H=>?_
  rcases csplit hr with ⟨hc12,hr⟩ | ⟨hc12,hr⟩
  rotate_left
  ·rw [hc12] at H
   refine qg 5 [(53,vB false)] H fun fr H=>?_
   refine qe ?_
   refine qF H rfl ?_
   refine W_skip ?_
   obtain rfl:=Option.some.inj hr
   exact ⟨rfl,H.tq,K.keep [false]⟩
  rw [hc12] at H
  refine qld 24 0 (aN x3.1) 0 H K rfl fun fr H=>?_
  refine qb hr (fun x h s=>F28_R n _ x h (p0:=.shut)) H fun x13 hr fr H=>?_
  refine qg 3 [(53,vB !x13)] H fun fr H=>?_
  refine qe ?_
  rcases csplit hr with ⟨hc15,hr⟩ | ⟨hc15,hr⟩
  rotate_left
  ·refine qF H hc15 ?_
   refine W_skip ?_
   obtain rfl:=Option.some.inj hr
   exact ⟨rfl,H.tq,K.keep [false]⟩
  refine qT H hc15 ?_
  refine W_seq (W_reg ?_)
  refine qg 1 [(4,vB false)] H fun fr H=>?_
  refine qe ?_
  refine W_ret ?_
  obtain rfl:=Option.some.inj hr
  exact ⟨rfl,H.tq,K.keep [false]⟩
 rcases j16 with j16a | j16b
 ·rintro e fr st ⟨rfl,H,K⟩
  obtain rfl:=Option.some.inj hr
  exact qr [vB false] H K
 rintro e fr st ⟨rfl,H,K⟩
 refine W_seq (W_reg ?_)
 refine qg 1 [(8,vI (-1))] H fun fr H=>?_
 refine qe ?_
 refine W_seq (W_seq ?_)
 refine W_reg ?_
 refine qg 1 [(9,vI 0)] H fun fr H=>?_
 refine qe ?_
 refine W_block ?_
 obtain ⟨r26,hr26,hr⟩:=obind hr
 refine W_iter hr26 (fun (s17:Int × Int) fr st=>Rd fr [(0,vS a0),(1,vS a1),(5,vB x1),(7,vL tDiag x3.2 .shut),(8,vI s17.1),(9,vI s17.2)]∧HL st []) (fun (r26:Unit ⊕ Unit) e fr st=>match r26 with | .inl r26a=>(e = .ret∧Rd fr [(4,vB false)]∧HL st []) | .inr r26b=>(e = .exit 0∧Rd fr [(1,vS a1),(5,vB x1)]∧HL st [])) ⟨H.tq,K.keep []⟩ ?_ ?_
 ·intro s17 fr st r hi hr
  obtain ⟨H,K⟩:=hi
  refine W_seq (W_seq ?_)
  refine W_reg ?_
  refine qg 2 [(54,vI s17.2),(55,vL tDiag x3.2 .shut)] H fun fr H=>?_
  refine qln tDiag 37 x3.2 .shut H fun fr H=>?_
  refine qg 1 [(57,vB (decide (s17.2 < (x3.2.length:Int))))] H fun fr H=>?_
  refine qe ?_
  rcases csplit hr with ⟨hc18,hr⟩ | ⟨hc18,hr⟩
  rotate_left
  ·refine qF H hc18 ?_
   refine W_exit ?_
   obtain rfl:=Option.some.inj hr
   exact ⟨by simp,⟨rfl,H.tq,K.keep []⟩⟩
  refine qT H hc18 ?_
  refine W_skip ?_
  refine W_seq (W_block ?_)
  refine W_seq (W_seq ?_)
  refine W_reg ?_
  refine qg 2 [(60,vL tDiag x3.2 .shut),(61,vI s17.2)] H fun fr H=>?_
  refine qix tDiag 37 .shut hr H fun x19 hr hx19 fr H=>?_
  refine qg 4 [(66,vB (x19.err == 0))] H fun fr H=>?_
  rcases csplit hr with ⟨hc20,hr⟩ | ⟨hc20,hr⟩
  ·rw [hc20] at H
   refine qg 18 [(84,vB true)] H fun fr H=>?_
   refine qe ?_
   refine qT H rfl ?_
   refine W_seq (W_reg ?_)
   refine qg 1 [(4,vB false)] H fun fr H=>?_
   refine qe ?_
   refine W_ret ?_
   obtain rfl:=Option.some.inj hr
   exact ⟨by simp,⟨rfl,H.tq,K.keep []⟩⟩
  rw [hc20] at H
  refine qg 2 [(67,vL tDiag x3.2 .shut),(68,vI s17.2)] H fun fr H=>?_
  refine qix tDiag 37 .shut hr H fun x21 hr hx21 fr H=>?_
  refine qg 6 [(75,vB (decide (x21.pos≤s17.1)))] H fun fr H=>?_
  rcases csplit hr with ⟨hc22,hr⟩ | ⟨hc22,hr⟩
  ·rw [hc22] at H
   refine qg 9 [(84,vB true)] H fun fr H=>?_
   refine qe ?_
   refine qT H rfl ?_
   refine W_seq (W_reg ?_)
   refine qg 1 [(4,vB false)] H fun fr H=>?_
   refine qe ?_
   refine W_ret ?_
   obtain rfl:=Option.some.inj hr
   exact ⟨by simp,⟨rfl,H.tq,K.keep []⟩⟩
  rw [hc22] at H
  refine qg 2 [(76,vL tDiag x3.2 .shut),(77,vI s17.2)] H fun fr H=>?_
  refine qix tDiag 37 .shut hr H fun x23 hr hx23 fr H=>?_
  refine qg 6 [(84,vB (decide ((a0.size:Int) < x23.pos)))] H fun fr H=>?_
  refine qe ?_
  rcases csplit hr with ⟨hc24,hr⟩ | ⟨hc24,hr⟩
  ·refine qT H hc24 ?_
   refine W_seq (W_reg ?_)
   refine qg 1 [(4,vB false)] H fun fr H=>?_
   refine qe ?_
   refine W_ret ?_
   obtain rfl:=Option.some.inj hr
   exact ⟨by simp,⟨rfl,H.tq,K.keep []⟩⟩
  refine qF H hc24 ?_
  refine W_skip ?_
  refine W_reg ?_
  refine qg 2 [(85,vL tDiag x3.2 .shut),(86,vI s17.2)] H fun fr H=>?_
  refine qix tDiag 37 .shut hr H fun x25 hr hx25 fr H=>?_
  refine qg 3 [(8,vI x25.pos)] H fun fr H=>?_
  refine qe ?_
  refine W_reg ?_
  refine qg 3 [(9,vI (w64 (s17.2 + 1)))] H fun fr H=>?_
  refine qe ?_
  obtain rfl:=Option.some.inj hr
  exact ⟨rfl,⟨H.tq,K.keep []⟩⟩
 rcases r26 with r26a | r26b
 ·rintro e fr st ⟨rfl,H,K⟩
  obtain rfl:=Option.some.inj hr
  exact qr [vB false] H K
 rintro e fr st ⟨rfl,H,K⟩
 refine W_seq (W_reg ?_)
 refine qg 1 [(91,vS a1)] H fun fr H=>?_
 refine qb hr (fun x h s=>F29_R n _ x h) H fun x27 hr fr H=>?_
 refine qg 3 [(93,aN x27.1),(94,vL tDiag x27.2 .shut)] H fun fr H=>?_
 refine qal 24 [vI 0,vS (bs []),vS (bs []),vI 0,vI 0,vI 0,vB false,vL tNode ([]:List Node) .nil,vI 0] H K fun id28 st K fr H=>?_
 refine qst 24 0 (aN x27.1) [vI x27.1.kind,vS x27.1.name,vS x27.1.other,vI x27.1.n,vI x27.1.len,vI x27.1.init,vB x27.1.ghost,vL tNode x27.1.kids .shut,vI x27.1.pos] 0 H K rfl fun st K fr H=>?_
 refine qg 1 [(11,vL tDiag x27.2 .shut)] H fun fr H=>?_
 refine qe ?_
 refine W_seq (W_seq ?_)
 refine W_reg ?_
 refine qg 1 [(95,vL tDiag x27.2 .shut)] H fun fr H=>?_
 refine qln tDiag 37 x27.2 .shut H fun fr H=>?_
 refine qg 1 [(97,vB ((x27.2.length:Int) == 0))] H fun fr H=>?_
 refine qe ?_
 rcases csplit hr with ⟨hc29,hr⟩ | ⟨hc29,hr⟩
 ·refine qT H hc29 ?_
  refine W_seq (W_reg ?_)
  refine qg 2 [(99,vB x1)] H fun fr H=>?_
  rcases csplit hr with ⟨hc30,hr⟩ | ⟨hc30,hr⟩
  rotate_left
  ·rw [hc30] at H
   refine qg 9 [(4,vB false)] H fun fr H=>?_
   refine qe ?_
   refine W_ret ?_
   obtain rfl:=Option.some.inj hr
   exact qr [vB false] H K
  rw [hc30] at H
  refine qg 1 [(100,.ptr id28 0)] H fun fr H=>?_
  refine qld 3 0 (vI x27.1.kind) 0 H K rfl fun fr H=>?_
  refine qg 3 [(104,vB (x27.1.kind != 62))] H fun fr H=>?_
  rcases csplit hr with ⟨hc31,hr⟩ | ⟨hc31,hr⟩
  rotate_left
  ·rw [hc31] at H
   refine qg 4 [(4,vB false)] H fun fr H=>?_
   refine qe ?_
   refine W_ret ?_
   obtain rfl:=Option.some.inj hr
   exact qr [vB false] H K
  rw [hc31] at H
  refine qld 24 0 (aN x27.1) 0 H K rfl fun fr H=>?_
  refine qb hr (fun x h s=>F28_R n _ x h (p0:=.shut)) H fun x32 hr fr H=>?_
  refine qg 2 [(4,vB x32)] H fun fr H=>?_
  refine qe ?_
  refine W_ret ?_
  obtain rfl:=Option.some.inj hr
  exact qr [vB x32] H K
 refine qF H hc29 ?_
 refine W_skip ?_
 refine W_seq (W_reg ?_)
 refine qg 2 [(109,vB x1)] H fun fr H=>?_
 rcases csplit hr with ⟨hc33,hr⟩ | ⟨hc33,hr⟩
 rotate_left
 ·rw [hc33] at H
  refine qg 33 [(4,vB false)] H fun fr H=>?_
  refine qe ?_
  refine W_ret ?_
  obtain rfl:=Option.some.inj hr
  exact qr [vB false] H K
 rw [hc33] at H
 refine qg 1 [(110,vL tDiag x27.2 .shut)] H fun fr H=>?_
 refine qln tDiag 37 x27.2 .shut H fun fr H=>?_
 refine qg 3 [(114,vB ((x27.2.length:Int) == 1))] H fun fr H=>?_
 rcases csplit hr with ⟨hc34,hr⟩ | ⟨hc34,hr⟩
 rotate_left
 ·rw [hc34] at H
  refine qg 28 [(4,vB false)] H fun fr H=>?_
  refine qe ?_
  refine W_ret ?_
  obtain rfl:=Option.some.inj hr
  exact qr [vB false] H K
 rw [hc34] at H
 refine qg 1 [(115,vL tDiag x27.2 .shut)] H fun fr H=>?_
 refine qix tDiag 37 .shut hr H fun x35 hr hx35 fr H=>?_
 refine qg 5 [(121,vB (x35.err != 0))] H fun fr H=>?_
 rcases csplit hr with ⟨hc36,hr⟩ | ⟨hc36,hr⟩
 rotate_left
 ·rw [hc36] at H
  refine qg 21 [(4,vB false)] H fun fr H=>?_
  refine qe ?_
  refine W_ret ?_
  obtain rfl:=Option.some.inj hr
  exact qr [vB false] H K
 rw [hc36] at H
 refine qg 1 [(122,vL tDiag x27.2 .shut)] H fun fr H=>?_
 refine qix tDiag 37 .shut hr H fun x37 hr hx37 fr H=>?_
 refine qg 5 [(128,vB (decide (0≤x37.pos)))] H fun fr H=>?_
 rcases csplit hr with ⟨hc38,hr⟩ | ⟨hc38,hr⟩
 rotate_left
 ·rw [hc38] at H
  refine qg 14 [(4,vB false)] H fun fr H=>?_
  refine qe ?_
  refine W_ret ?_
  obtain rfl:=Option.some.inj hr
  exact qr [vB false] H K
 rw [hc38] at H
 refine qg 1 [(129,vL tDiag x27.2 .shut)] H fun fr H=>?_
 refine qix tDiag 37 .shut hr H fun x39 hr hx39 fr H=>?_
 refine qg 7 [(137,vB (decide (x39.pos≤(a1.size:Int))))] H fun fr H=>?_
 rcases csplit hr with ⟨hc40,hr⟩ | ⟨hc40,hr⟩
 rotate_left
 ·rw [hc40] at H
  refine qg 5 [(4,vB false)] H fun fr H=>?_
  refine qe ?_
  refine W_ret ?_
  obtain rfl:=Option.some.inj hr
  exact qr [vB false] H K
 rw [hc40] at H
 refine qld 24 0 (aN x27.1) 0 H K rfl fun fr H=>?_
 refine qg 1 [(139,.agg [vI 0,vS (bs []),vS (bs []),vI 0,vI 0,vI 0,vB false,vL tNode ([]:List Node) .nil,vI 0])] H fun fr H=>?_
 refine qb hr (fun x h s=>F30_R n _ _ x h (p0:=.shut) (p1:=.nil)) H fun x41 hr fr H=>?_
 refine qg 2 [(4,vB x41)] H fun fr H=>?_
 refine qe ?_
 refine W_ret ?_
 obtain rfl:=Option.some.inj hr
 exact qr [vB x41] H K
end Go.Proofs.YtbecjgckobhmpaaGreatDoor
end
