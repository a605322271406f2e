/-
  Proved here: a part of what the claim needs (texts YQ12 YQ13 of the prover's own).
-/
import Derived.Test.YtbecjgckobhmpaaGreatDoorPV05
section
namespace Go.Proofs.YtbecjgckobhmpaaGreatDoor
open Go Go.AM Go.Proofs
set_option maxRecDepth 100000
set_option maxHeartbeats 4000000
def F24 (n:Nat) :Option Bool :=
 (F55 n (bs [97,32,43,32,98])).bind fun x1 =>
 (F29 n (bs [97,32,43,32,98,32,42,32,99,32,61,61,32,100,32,38,38,32,33,101])).bind fun x2 =>
 (F36 (bs [97]) (0:Int)).bind fun x4 =>
 (F36 (bs [98]) (4:Int)).bind fun x5 =>
 (F36 (bs [99]) (8:Int)).bind fun x6 =>
 (F38 (bs [42]) (6:Int) x5 x6).bind fun x7 =>
 (F38 (bs [43]) (2:Int) x4 x7).bind fun x8 =>
 (F36 (bs [100]) (13:Int)).bind fun x10 =>
 (F38 (bs [61,61]) (10:Int) x8 x10).bind fun x11 =>
 (F36 (bs [101]) (19:Int)).bind fun x12 =>
 (F38 (bs [38,38]) (15:Int) x11 (Node.mk 4 (bs []) (bs []) 0 0 0 false ([x12]:List Node) 18)).bind fun x13 =>
 (F29 n (bs [97,32,61,61,32,98,32,61,61,32,99])).bind fun x15 =>
 (F25 n (bs [109,111,100,117,108,101,32,77,32,111,119,110,101,114,32,65,32,123,32,115,104,97,114,101,100,32,120,32,58,32,59,32,115,104,97,114,101,100,32,121,32,58,32,49,59,32,125])).bind fun x17 =>
 (F25 n (bs [116,104,114,101,97,100,32,116,32,61,32,77,46,112,40,49])).bind fun x21 =>
 (bif x1.2.1 == 0 then
   (bif (x1.1.length:Int) == 3 then
    (bif (x2.2.length:Int) == 0 then
     ((F30 n x2.1 x13).bind fun x26 =>
     bif x26 then
      ((F37 n x15.2 (20:Int) (7:Int)).bind fun x28 =>
      bif x28 then
       ((F37 n x17.2 (20:Int) (30:Int)).bind fun x30 =>
       bif x30 then
        ((F30 n x17.1 (Node.mk 62 (bs []) (bs []) 0 0 0 false ([(Node.mk 60 (bs [77]) (bs [65]) 0 0 0 false ([(Node.mk 50 (bs [121]) (bs []) 1 0 0 false ([]:List Node) 32)]:List Node) 0)]:List Node) 0)).bind fun x32 =>
        some x32)
       else
        (some false))
      else
       (some false))
     else
      (some false))
    else
     (some false))
   else
    (some false))
  else
   (some false):Option (Bool)).bind fun j33 =>
 (bif j33 then
   ((F37 n x21.2 (21:Int) (16:Int)).bind fun x35 =>
   bif x35 then
    (bif x21.1.kind == 62 then
     (some ((x21.1.kids.length:Int) == 0))
    else
     (some false))
   else
    (some false))
  else
   (some false):Option (Bool)).bind fun j38 =>
 bif j38 then
  ((F28 n x13).bind fun x40 =>
  bif x40 then
   ((F28 n (Node.mk 62 (bs []) (bs []) 0 0 0 false ([(Node.mk 60 (bs [77]) (bs [65]) 0 0 0 false ([(Node.mk 50 (bs [121]) (bs []) 1 0 0 false ([]:List Node) 32)]:List Node) 0)]:List Node) 0)).bind fun x42 =>
   bif x42 then
    ((F28 n (Node.mk 50 (bs [121]) (bs []) 1 0 0 false ([]:List Node) 32)).bind fun x44 =>
    bif !x44 then
     ((F36 (bs [120]) (7:Int)).bind fun x46 =>
     (stripLeafF x46).bind fun x47 =>
     (F36 (bs [120]) (0:Int)).bind fun x48 =>
     (F30 n x47 x48).bind fun x49 =>
     some x49)
    else
     (some false))
   else
    (some false))
  else
   (some false))
 else
  (some false)
theorem F24_R (n:Nat)  (r:Bool) (hr:F24 n  = some r) {st:St}:R Tryz.prog AN 24 [] st (.ret (vB r)) st:=by
 unfold F24 at hr
 refine R_pureX [] [] Tryz.func24 rfl (by kernel_rfl) rfl fun fr st H K=>?_
 refine W_seq (W_reg ?_)
 refine qg 1 [] H fun fr H=>?_
 refine qe ?_
 refine W_seq (W_reg ?_)
 refine qb hr (fun x h s=>F55_R n _ x h) H fun x1 hr fr H=>?_
 refine qg 7 [(1,vL tToken x1.1 .shut),(2,vI x1.2.1)] H fun fr H=>?_
 refine qe ?_
 refine W_seq (W_reg ?_)
 refine qb hr (fun x h s=>F29_R n _ x h) H fun x2 hr fr H=>?_
 refine qg 3 [(24,aN x2.1),(25,vL tDiag x2.2 .shut)] H fun fr H=>?_
 refine qal 24 [vI 0,vS (bs []),vS (bs []),vI 0,vI 0,vI 0,vB false,vL tNode ([]:List Node) .nil,vI 0] H K fun id3 st K fr H=>?_
 refine qst 24 0 (aN x2.1) [vI x2.1.kind,vS x2.1.name,vS x2.1.other,vI x2.1.n,vI x2.1.len,vI x2.1.init,vB x2.1.ghost,vL tNode x2.1.kids .shut,vI x2.1.pos] 0 H K rfl fun st K fr H=>?_
 refine qg 1 [(5,vL tDiag x2.2 .shut)] H fun fr H=>?_
 refine qe ?_
 refine W_seq (W_reg ?_)
 refine qb hr (fun x h s=>F36_R  _ _ x h) H fun x4 hr fr H=>?_
 refine qb hr (fun x h s=>F36_R  _ _ x h) H fun x5 hr fr H=>?_
 refine qb hr (fun x h s=>F36_R  _ _ x h) H fun x6 hr fr H=>?_
 refine qb hr (fun x h s=>F38_R  _ _ _ _ x h (p0:=.shut) (p1:=.shut)) H fun x7 hr fr H=>?_
 refine qb hr (fun x h s=>F38_R  _ _ _ _ x h (p0:=.shut) (p1:=.shut)) H fun x8 hr fr H=>?_
 refine qal 24 [vI 0,vS (bs []),vS (bs []),vI 0,vI 0,vI 0,vB false,vL tNode ([]:List Node) .nil,vI 0] H K fun id9 st K fr H=>?_
 refine qst 24 0 (aN x8) [vI x8.kind,vS x8.name,vS x8.other,vI x8.n,vI x8.len,vI x8.init,vB x8.ghost,vL tNode x8.kids .shut,vI x8.pos] 0 H K rfl fun st K fr H=>?_
 refine qe ?_
 refine W_seq (W_drw ?_)
 refine qld 24 0 (aN x8) 0 H K rfl fun fr H=>?_
 refine qb hr (fun x h s=>F36_R  _ _ x h) H fun x10 hr fr H=>?_
 refine qb hr (fun x h s=>F38_R  _ _ _ _ x h (p0:=.shut) (p1:=.shut)) H fun x11 hr fr H=>?_
 refine qb hr (fun x h s=>F36_R  _ _ x h) H fun x12 hr fr H=>?_
 refine qv (.buildSlice 22 1 [(0,aN x12)]) H (run_bslice (v:=vL tNode ([x12]:List Node) .full) (v0:=.slice [aN x12] .full) (by kernel_rfl) (by simp only [List.map,vL,tNode_e,eNode_eq,cNode] <;> rfl)) fun fr H=>?_
 refine qg 1 [(36,.agg [vI 4,vS (bs []),vS (bs []),vI 0,vI 0,vI 0,vB false,vL tNode ([x12]:List Node) .shut,vI 18])] H fun fr H=>?_
 refine qb hr (fun x h s=>F38_R  _ _ _ _ x h (p0:=.shut) (p1:=.shut)) H fun x13 hr fr H=>?_
 refine qal 24 [vI 0,vS (bs []),vS (bs []),vI 0,vI 0,vI 0,vB false,vL tNode ([]:List Node) .nil,vI 0] H K fun id14 st K fr H=>?_
 refine qst 24 0 (aN x13) [vI x13.kind,vS x13.name,vS x13.other,vI x13.n,vI x13.len,vI x13.init,vB x13.ghost,vL tNode x13.kids .shut,vI x13.pos] 0 H K rfl fun st K fr H=>?_
 refine qe (qdI K [.look (some 1),0,0,0,0,0,0,.keep [1,2],.put 0] ?_)
 refine W_seq (W_reg ?_)
 refine qb hr (fun x h s=>F29_R n _ x h) H fun x15 hr fr H=>?_
 refine qg 3 [(40,aN x15.1),(41,vL tDiag x15.2 .shut)] H fun fr H=>?_
 refine qal 24 [vI 0,vS (bs []),vS (bs []),vI 0,vI 0,vI 0,vB false,vL tNode ([]:List Node) .nil,vI 0] H K fun id16 st K fr H=>?_
 refine qst 24 0 (aN x15.1) [vI x15.1.kind,vS x15.1.name,vS x15.1.other,vI x15.1.n,vI x15.1.len,vI x15.1.init,vB x15.1.ghost,vL tNode x15.1.kids .shut,vI x15.1.pos] 0 H K rfl fun st K fr H=>?_
 refine qg 1 [(9,vL tDiag x15.2 .shut)] H fun fr H=>?_
 refine qe ?_
 refine W_seq (W_reg ?_)
 refine qb hr (fun x h s=>F25_R n _ x h) H fun x17 hr fr H=>?_
 refine qg 3 [(44,aN x17.1),(45,vL tDiag x17.2 .shut)] H fun fr H=>?_
 refine qal 24 [vI 0,vS (bs []),vS (bs []),vI 0,vI 0,vI 0,vB false,vL tNode ([]:List Node) .nil,vI 0] H K fun id18 st K fr H=>?_
 refine qst 24 0 (aN x17.1) [vI x17.1.kind,vS x17.1.name,vS x17.1.other,vI x17.1.n,vI x17.1.len,vI x17.1.init,vB x17.1.ghost,vL tNode x17.1.kids .shut,vI x17.1.pos] 0 H K rfl fun st K fr H=>?_
 refine qg 1 [(11,vL tDiag x17.2 .shut)] H fun fr H=>?_
 refine qe ?_
 refine W_seq (W_reg ?_)
 refine qg 1 [(46,.agg [vI 50,vS (bs [121]),vS (bs []),vI 1,vI 0,vI 0,vB false,vL tNode ([]:List Node) .nil,vI 32])] H fun fr H=>?_
 refine qal 24 [vI 0,vS (bs []),vS (bs []),vI 0,vI 0,vI 0,vB false,vL tNode ([]:List Node) .nil,vI 0] H K fun id19 st K fr H=>?_
 refine qst 24 0 (.agg [vI 50,vS (bs [121]),vS (bs []),vI 1,vI 0,vI 0,vB false,vL tNode ([]:List Node) .nil,vI 32]) [vI 50,vS (bs [121]),vS (bs []),vI 1,vI 0,vI 0,vB false,vL tNode ([]:List Node) .nil,vI 32] 0 H K rfl fun st K fr H=>?_
 refine qe ?_
 refine W_seq (W_reg ?_)
 refine qld 24 0 (.agg [vI 50,vS (bs [121]),vS (bs []),vI 1,vI 0,vI 0,vB false,vL tNode ([]:List Node) .shut,vI 32]) 0 H K rfl fun fr H=>?_
 refine qv (.buildSlice 22 1 [(0,.agg [vI 50,vS (bs [121]),vS (bs []),vI 1,vI 0,vI 0,vB false,vL tNode ([]:List Node) .shut,vI 32])]) H (run_bslice (v:=vL tNode ([(Node.mk 50 (bs [121]) (bs []) 1 0 0 false ([]:List Node) 32)]:List Node) .full) (v0:=.slice [.agg [vI 50,vS (bs [121]),vS (bs []),vI 1,vI 0,vI 0,vB false,vL tNode ([]:List Node) .shut,vI 32]] .full) (by kernel_rfl) (by simp only [List.map,vL,tNode_e,eNode_eq,cNode] <;> rfl)) fun fr H=>?_
 refine qg 1 [(49,.agg [vI 60,vS (bs [77]),vS (bs [65]),vI 0,vI 0,vI 0,vB false,vL tNode ([(Node.mk 50 (bs [121]) (bs []) 1 0 0 false ([]:List Node) 32)]:List Node) .shut,vI 0])] H fun fr H=>?_
 refine qv (.buildSlice 22 1 [(0,.agg [vI 60,vS (bs [77]),vS (bs [65]),vI 0,vI 0,vI 0,vB false,vL tNode ([(Node.mk 50 (bs [121]) (bs []) 1 0 0 false ([]:List Node) 32)]:List Node) .shut,vI 0])]) H (run_bslice (v:=vL tNode ([(Node.mk 60 (bs [77]) (bs [65]) 0 0 0 false ([(Node.mk 50 (bs [121]) (bs []) 1 0 0 false ([]:List Node) 32)]:List Node) 0)]:List Node) .full) (v0:=.slice [.agg [vI 60,vS (bs [77]),vS (bs [65]),vI 0,vI 0,vI 0,vB false,vL tNode ([(Node.mk 50 (bs [121]) (bs []) 1 0 0 false ([]:List Node) 32)]:List Node) .shut,vI 0]] .full) (by kernel_rfl) (by simp only [List.map,vL,tNode_e,eNode_eq,cNode] <;> rfl)) fun fr H=>?_
 refine qg 1 [(51,.agg [vI 62,vS (bs []),vS (bs []),vI 0,vI 0,vI 0,vB false,vL tNode ([(Node.mk 60 (bs [77]) (bs [65]) 0 0 0 false ([(Node.mk 50 (bs [121]) (bs []) 1 0 0 false ([]:List Node) 32)]:List Node) 0)]:List Node) .shut,vI 0])] H fun fr H=>?_
 refine qal 24 [vI 0,vS (bs []),vS (bs []),vI 0,vI 0,vI 0,vB false,vL tNode ([]:List Node) .nil,vI 0] H K fun id20 st K fr H=>?_
 refine qst 24 0 (.agg [vI 62,vS (bs []),vS (bs []),vI 0,vI 0,vI 0,vB false,vL tNode ([(Node.mk 60 (bs [77]) (bs [65]) 0 0 0 false ([(Node.mk 50 (bs [121]) (bs []) 1 0 0 false ([]:List Node) 32)]:List Node) 0)]:List Node) .shut,vI 0]) [vI 62,vS (bs []),vS (bs []),vI 0,vI 0,vI 0,vB false,vL tNode ([(Node.mk 60 (bs [77]) (bs [65]) 0 0 0 false ([(Node.mk 50 (bs [121]) (bs []) 1 0 0 false ([]:List Node) 32)]:List Node) 0)]:List Node) .shut,vI 0] 0 H K rfl fun st K fr H=>?_
 refine qe ?_
 refine W_seq (W_reg ?_)
 refine qb hr (fun x h s=>F25_R n _ x h) H fun x21 hr fr H=>?_
 refine qg 3 [(54,aN x21.1),(55,vL tDiag x21.2 .shut)] H fun fr H=>?_
 refine qal 24 [vI 0,vS (bs []),vS (bs []),vI 0,vI 0,vI 0,vB false,vL tNode ([]:List Node) .nil,vI 0] H K fun id22 st K fr H=>?_
 refine qst 24 0 (aN x21.1) [vI x21.1.kind,vS x21.1.name,vS x21.1.other,vI x21.1.n,vI x21.1.len,vI x21.1.init,vB x21.1.ghost,vL tNode x21.1.kids .shut,vI x21.1.pos] 0 H K rfl fun st K fr H=>?_
 refine qg 1 [(15,vL tDiag x21.2 .shut)] H fun fr H=>?_
 refine qe ?_
 refine W_seq ?_
 obtain ⟨j33,hj33,hr⟩:=obind hr
 refine W_via (fun e fr st=>e = .normal∧Rd fr [(7,.ptr id14 0),(12,.ptr id19 0),(13,.ptr id20 0),(14,.ptr id22 0),(15,vL tDiag x21.2 .shut),(16,vB j33)]∧HL st [.obj id22 (.cells 24 [vI x21.1.kind,vS x21.1.name,vS x21.1.other,vI x21.1.n,vI x21.1.len,vI x21.1.init,vB x21.1.ghost,vL tNode x21.1.kids .shut,vI x21.1.pos]),.obj id20 (.cells 24 [vI 62,vS (bs []),vS (bs []),vI 0,vI 0,vI 0,vB false,vL tNode ([(Node.mk 60 (bs [77]) (bs [65]) 0 0 0 false ([(Node.mk 50 (bs [121]) (bs []) 1 0 0 false ([]:List Node) 32)]:List Node) 0)]:List Node) .shut,vI 0]),.obj id19 (.cells 24 [vI 50,vS (bs [121]),vS (bs []),vI 1,vI 0,vI 0,vB false,vL tNode ([]:List Node) .nil,vI 32]),.obj id14 (.cells 24 [vI x13.kind,vS x13.name,vS x13.other,vI x13.n,vI x13.len,vI x13.init,vB x13.ghost,vL tNode x13.kids .shut,vI x13.pos])]) ?_ ?_
 ·replace hr:=hj33
  refine W_reg ?_
  refine qg 3 [(58,vB (x1.2.1 == 0))] H fun fr H=>?_
  rcases csplit hr with ⟨hc23,hr⟩ | ⟨hc23,hr⟩
  rotate_left
  ·rw [hc23] at H
   refine qg 28 [(16,vB false)] H fun fr H=>?_
   refine qe ?_
   obtain rfl:=Option.some.inj hr
   exact ⟨rfl,H.tq,K.keep [true,true,true,false,false,true,false,false]⟩
  rw [hc23] at H
  refine qg 1 [(59,vL tToken x1.1 .shut)] H fun fr H=>?_
  refine qln tToken 56 x1.1 .shut H fun fr H=>?_
  refine qg 3 [(63,vB ((x1.1.length:Int) == 3))] H fun fr H=>?_
  rcases csplit hr with ⟨hc24,hr⟩ | ⟨hc24,hr⟩
  rotate_left
  ·rw [hc24] at H
   refine qg 23 [(16,vB false)] H fun fr H=>?_
   refine qe ?_
   obtain rfl:=Option.some.inj hr
   exact ⟨rfl,H.tq,K.keep [true,true,true,false,false,true,false,false]⟩
  rw [hc24] at H
  refine qg 1 [(64,vL tDiag x2.2 .shut)] H fun fr H=>?_
  refine qln tDiag 37 x2.2 .shut H fun fr H=>?_
  refine qg 3 [(68,vB ((x2.2.length:Int) == 0))] H fun fr H=>?_
  rcases csplit hr with ⟨hc25,hr⟩ | ⟨hc25,hr⟩
  rotate_left
  ·rw [hc25] at H
   refine qg 18 [(16,vB false)] H fun fr H=>?_
   refine qe ?_
   obtain rfl:=Option.some.inj hr
   exact ⟨rfl,H.tq,K.keep [true,true,true,false,false,true,false,false]⟩
  rw [hc25] at H
  refine qld 24 0 (aN x2.1) 7 H K rfl fun fr H=>?_
  refine qld 24 0 (aN x13) 5 H K rfl fun fr H=>?_
  refine qb hr (fun x h s=>F30_R n _ _ x h (p0:=.shut) (p1:=.shut)) H fun x26 hr fr H=>?_
  refine qg 2 [(73,vB x26)] H fun fr H=>?_
  rcases csplit hr with ⟨hc27,hr⟩ | ⟨hc27,hr⟩
  rotate_left
  ·rw [hc27] at H
   refine qg 13 [(16,vB false)] H fun fr H=>?_
   refine qe ?_
   obtain rfl:=Option.some.inj hr
   exact ⟨rfl,H.tq,K.keep [true,true,true,false,false,true,false,false]⟩
  rw [hc27] at H
  refine qg 1 [(74,vL tDiag x15.2 .shut)] H fun fr H=>?_
  refine qb hr (fun x h s=>F37_R n _ _ _ x h (p0:=.shut)) H fun x28 hr fr H=>?_
  refine qg 2 [(77,vB x28)] H fun fr H=>?_
  rcases csplit hr with ⟨hc29,hr⟩ | ⟨hc29,hr⟩
  rotate_left
  ·rw [hc29] at H
   refine qg 9 [(16,vB false)] H fun fr H=>?_
   refine qe ?_
   obtain rfl:=Option.some.inj hr
   exact ⟨rfl,H.tq,K.keep [true,true,true,false,false,true,false,false]⟩
  rw [hc29] at H
  refine qg 1 [(78,vL tDiag x17.2 .shut)] H fun fr H=>?_
  refine qb hr (fun x h s=>F37_R n _ _ _ x h (p0:=.shut)) H fun x30 hr fr H=>?_
  refine qg 2 [(81,vB x30)] H fun fr H=>?_
  rcases csplit hr with ⟨hc31,hr⟩ | ⟨hc31,hr⟩
  rotate_left
  ·rw [hc31] at H
   refine qg 5 [(16,vB false)] H fun fr H=>?_
   refine qe ?_
   obtain rfl:=Option.some.inj hr
   exact ⟨rfl,H.tq,K.keep [true,true,true,false,false,true,false,false]⟩
  rw [hc31] at H
  refine qld 24 0 (aN x17.1) 3 H K rfl fun fr H=>?_
  refine qld 24 0 (.agg [vI 62,vS (bs []),vS (bs []),vI 0,vI 0,vI 0,vB false,vL tNode ([(Node.mk 60 (bs [77]) (bs [65]) 0 0 0 false ([(Node.mk 50 (bs [121]) (bs []) 1 0 0 false ([]:List Node) 32)]:List Node) 0)]:List Node) .shut,vI 0]) 1 H K rfl fun fr H=>?_
  refine qb hr (fun x h s=>F30_R n _ _ x h (p0:=.shut) (p1:=.shut)) H fun x32 hr fr H=>?_
  refine qg 2 [(16,vB x32)] H fun fr H=>?_
  refine qe ?_
  obtain rfl:=Option.some.inj hr
  exact ⟨rfl,H.tq,K.keep [true,true,true,false,false,true,false,false]⟩
 rintro e fr st ⟨rfl,H,K⟩
 refine W_seq ?_
 obtain ⟨j38,hj38,hr⟩:=obind hr
 refine W_via (fun e fr st=>e = .normal∧Rd fr [(7,.ptr id14 0),(12,.ptr id19 0),(13,.ptr id20 0),(16,vB j38)]∧HL st [.obj id20 (.cells 24 [vI 62,vS (bs []),vS (bs []),vI 0,vI 0,vI 0,vB false,vL tNode ([(Node.mk 60 (bs [77]) (bs [65]) 0 0 0 false ([(Node.mk 50 (bs [121]) (bs []) 1 0 0 false ([]:List Node) 32)]:List Node) 0)]:List Node) .shut,vI 0]),.obj id19 (.cells 24 [vI 50,vS (bs [121]),vS (bs []),vI 1,vI 0,vI 0,vB false,vL tNode ([]:List Node) .nil,vI 32]),.obj id14 (.cells 24 [vI x13.kind,vS x13.name,vS x13.other,vI x13.n,vI x13.len,vI x13.init,vB x13.ghost,vL tNode x13.kids .shut,vI x13.pos])]) ?_ ?_
 ·replace hr:=hj38
  refine W_reg ?_
  refine qg 2 [(87,vB j33)] H fun fr H=>?_
  rcases csplit hr with ⟨hc34,hr⟩ | ⟨hc34,hr⟩
  rotate_left
  ·rw [hc34] at H
   refine qg 15 [(16,vB false)] H fun fr H=>?_
   refine qe ?_
   obtain rfl:=Option.some.inj hr
   exact ⟨rfl,H.tq,K.keep [false,true,true,true]⟩
  rw [hc34] at H
  refine qg 1 [(88,vL tDiag x21.2 .shut)] H fun fr H=>?_
  refine qb hr (fun x h s=>F37_R n _ _ _ x h (p0:=.shut)) H fun x35 hr fr H=>?_
  refine qg 2 [(91,vB x35)] H fun fr H=>?_
  rcases csplit hr with ⟨hc36,hr⟩ | ⟨hc36,hr⟩
  rotate_left
  ·rw [hc36] at H
   refine qg 11 [(16,vB false)] H fun fr H=>?_
   refine qe ?_
   obtain rfl:=Option.some.inj hr
   exact ⟨rfl,H.tq,K.keep [false,true,true,true]⟩
  rw [hc36] at H
  refine qg 1 [(92,.ptr id22 0)] H fun fr H=>?_
  refine qld 3 0 (vI x21.1.kind) 0 H K rfl fun fr H=>?_
  refine qg 3 [(96,vB (x21.1.kind == 62))] H fun fr H=>?_
  rcases csplit hr with ⟨hc37,hr⟩ | ⟨hc37,hr⟩
  rotate_left
  ·rw [hc37] at H
   refine qg 6 [(16,vB false)] H fun fr H=>?_
   refine qe ?_
   obtain rfl:=Option.some.inj hr
   exact ⟨rfl,H.tq,K.keep [false,true,true,true]⟩
  rw [hc37] at H
  refine qg 1 [(97,.ptr id22 7)] H fun fr H=>?_
  refine qld 22 7 (vL tNode x21.1.kids .shut) 0 H K rfl fun fr H=>?_
  refine qln tNode 22 x21.1.kids .shut H fun fr H=>?_
  refine qg 3 [(16,vB ((x21.1.kids.length:Int) == 0))] H fun fr H=>?_
  refine qe ?_
  obtain rfl:=Option.some.inj hr
  exact ⟨rfl,H.tq,K.keep [false,true,true,true]⟩
 rintro e fr st ⟨rfl,H,K⟩
 refine W_seq (W_reg ?_)
 refine qg 2 [(103,vB j38)] H fun fr H=>?_
 rcases csplit hr with ⟨hc39,hr⟩ | ⟨hc39,hr⟩
 rotate_left
 ·rw [hc39] at H
  refine qg 19 [(0,vB false)] H fun fr H=>?_
  refine qe ?_
  refine W_ret ?_
  obtain rfl:=Option.some.inj hr
  exact qr [vB false] H K
 rw [hc39] at H
 refine qld 24 0 (aN x13) 2 H K rfl fun fr H=>?_
 refine qb hr (fun x h s=>F28_R n _ x h (p0:=.shut)) H fun x40 hr fr H=>?_
 refine qg 2 [(107,vB x40)] H fun fr H=>?_
 rcases csplit hr with ⟨hc41,hr⟩ | ⟨hc41,hr⟩
 rotate_left
 ·rw [hc41] at H
  refine qg 15 [(0,vB false)] H fun fr H=>?_
  refine qe ?_
  refine W_ret ?_
  obtain rfl:=Option.some.inj hr
  exact qr [vB false] H K
 rw [hc41] at H
 refine qld 24 0 (.agg [vI 62,vS (bs []),vS (bs []),vI 0,vI 0,vI 0,vB false,vL tNode ([(Node.mk 60 (bs [77]) (bs [65]) 0 0 0 false ([(Node.mk 50 (bs [121]) (bs []) 1 0 0 false ([]:List Node) 32)]:List Node) 0)]:List Node) .shut,vI 0]) 0 H K rfl fun fr H=>?_
 refine qb hr (fun x h s=>F28_R n _ x h (p0:=.shut)) H fun x42 hr fr H=>?_
 refine qg 2 [(111,vB x42)] H fun fr H=>?_
 rcases csplit hr with ⟨hc43,hr⟩ | ⟨hc43,hr⟩
 rotate_left
 ·rw [hc43] at H
  refine qg 11 [(0,vB false)] H fun fr H=>?_
  refine qe ?_
  refine W_ret ?_
  obtain rfl:=Option.some.inj hr
  exact qr [vB false] H K
 rw [hc43] at H
 refine qld 24 0 (.agg [vI 50,vS (bs [121]),vS (bs []),vI 1,vI 0,vI 0,vB false,vL tNode ([]:List Node) .shut,vI 32]) 1 H K rfl fun fr H=>?_
 refine qb hr (fun x h s=>F28_R n _ x h (p0:=.shut)) H fun x44 hr fr H=>?_
 refine qg 3 [(116,vB !x44)] H fun fr H=>?_
 rcases csplit hr with ⟨hc45,hr⟩ | ⟨hc45,hr⟩
 rotate_left
 ·rw [hc45] at H
  refine qg 6 [(0,vB false)] H fun fr H=>?_
  refine qe ?_
  refine W_ret ?_
  obtain rfl:=Option.some.inj hr
  exact qr [vB false] H K
 rw [hc45] at H
 refine qb hr (fun x h s=>F36_R  _ _ x h) H fun x46 hr fr H=>?_
 refine qb hr (fun x h s=>stripLeaf_R _ x h (sp:=.shut)) H fun x47 hr fr H=>?_
 refine qb hr (fun x h s=>F36_R  _ _ x h) H fun x48 hr fr H=>?_
 refine qb hr (fun x h s=>F30_R n _ _ x h (p0:=.shut) (p1:=.shut)) H fun x49 hr fr H=>?_
 refine qg 2 [(0,vB x49)] H fun fr H=>?_
 refine qe ?_
 refine W_ret ?_
 obtain rfl:=Option.some.inj hr
 exact qr [vB x49] H K
def F73 :Option ((List (List ByteArray))) :=
 some ([([(bs [124,124])]:List ByteArray),([(bs [38,38])]:List ByteArray),([(bs [61,61]),(bs [33,61]),(bs [60]),(bs [60,61])]:List ByteArray),([(bs [124])]:List ByteArray),([(bs [94])]:List ByteArray),([(bs [38])]:List ByteArray),([(bs [43]),(bs [45])]:List ByteArray),([(bs [42])]:List ByteArray)]:List (List ByteArray))
theorem F73_R  (r:(List (List ByteArray))) (hr:F73  = some r) {st:St}:R Tryz.prog AN 73 [] st (.ret (vL (tL tS) r .shut)) st:=by
 unfold F73 at hr
 refine R_pureX [] [] Tryz.func73 rfl (by kernel_rfl) rfl fun fr st H K=>?_
 refine W_seq (W_reg ?_)
 refine qg 1 [] H fun fr H=>?_
 refine qe ?_
 refine W_seq (W_reg ?_)
 refine qbs tS 30 ([(bs [124,124])]:List ByteArray) H fun fr H=>?_
 refine qbs tS 30 ([(bs [38,38])]:List ByteArray) H fun fr H=>?_
 refine qbs tS 30 ([(bs [61,61]),(bs [33,61]),(bs [60]),(bs [60,61])]:List ByteArray) H fun fr H=>?_
 refine qbs tS 30 ([(bs [124])]:List ByteArray) H fun fr H=>?_
 refine qbs tS 30 ([(bs [94])]:List ByteArray) H fun fr H=>?_
 refine qbs tS 30 ([(bs [38])]:List ByteArray) H fun fr H=>?_
 refine qbs tS 30 ([(bs [43]),(bs [45])]:List ByteArray) H fun fr H=>?_
 refine qbs tS 30 ([(bs [42])]:List ByteArray) H fun fr H=>?_
 refine qbs (tL tS) 98 ([([(bs [124,124])]:List ByteArray),([(bs [38,38])]:List ByteArray),([(bs [61,61]),(bs [33,61]),(bs [60]),(bs [60,61])]:List ByteArray),([(bs [124])]:List ByteArray),([(bs [94])]:List ByteArray),([(bs [38])]:List ByteArray),([(bs [43]),(bs [45])]:List ByteArray),([(bs [42])]:List ByteArray)]:List (List ByteArray)) H fun fr H=>?_
 refine qg 1 [(0,vL (tL tS) ([([(bs [124,124])]:List ByteArray),([(bs [38,38])]:List ByteArray),([(bs [61,61]),(bs [33,61]),(bs [60]),(bs [60,61])]:List ByteArray),([(bs [124])]:List ByteArray),([(bs [94])]:List ByteArray),([(bs [38])]:List ByteArray),([(bs [43]),(bs [45])]:List ByteArray),([(bs [42])]:List ByteArray)]:List (List ByteArray)) .full)] H fun fr H=>?_
 refine qe ?_
 refine W_ret ?_
 obtain rfl:=Option.some.inj hr
 exact qr [vL (tL tS) ([([(bs [124,124])]:List ByteArray),([(bs [38,38])]:List ByteArray),([(bs [61,61]),(bs [33,61]),(bs [60]),(bs [60,61])]:List ByteArray),([(bs [124])]:List ByteArray),([(bs [94])]:List ByteArray),([(bs [38])]:List ByteArray),([(bs [43]),(bs [45])]:List ByteArray),([(bs [42])]:List ByteArray)]:List (List ByteArray)) .full] H K (hs:=fun _=>by simp only [strip,stripL_ET,Option.map_some,oneOf] <;> rfl)
def F35 (n:Nat) :Option ((List ByteArray) × (List Int)) :=
 (F73 ).bind fun x1 =>
 (iter (σ:=(List ByteArray) × (List Int) × Int) (ρ:=((List ByteArray) × (List Int))) (fun s2=>bif decide (s2.2.2 < (x1.length:Int)) then
   ((iter (σ:=(List ByteArray) × (List Int) × Int) (ρ:=((List ByteArray) × (List Int))) (fun s4=>(idxL x1 s2.2.2).bind fun x5 =>
    bif decide (s4.2.2 < (x5.length:Int)) then
     ((idxL x1 s2.2.2).bind fun x7 =>
     (idxL x7 s4.2.2).bind fun x8 =>
     (appL 16 s4.1 ([x8]:List ByteArray)).bind fun x9 =>
     (appL 8 s4.2.1 ([w64 (s2.2.2 + 1)]:List Int)).bind fun x11 =>
     some (.inl (x9,x11,w64 (s4.2.2 + 1))))
    else
     (some (.inr (s4.1,s4.2.1)))) n (s2.1,s2.2.1,(0:Int))).bind fun r13 =>
   some (.inl (r13.1,r13.2,w64 (s2.2.2 + 1))))
  else
   (some (.inr (s2.1,s2.2.1)))) n (([(bs [61,61,62])]:List ByteArray),([0]:List Int),(0:Int))).bind fun r14 =>
 some (r14.1,r14.2)
theorem F35_R (n:Nat)  (r:(List ByteArray) × (List Int)) (hr:F35 n  = some r) {st:St}:R Tryz.prog AN 35 [] st (.ret (.tuple [vL tS r.1 .shut,vL (tI .i64) r.2 .shut])) st:=by
 unfold F35 at hr
 refine R_pureX [] [] Tryz.func35 rfl (by kernel_rfl) rfl fun fr st H K=>?_
 refine W_seq (W_reg ?_)
 refine qg 2 [] H fun fr H=>?_
 refine qe ?_
 refine W_seq (W_reg ?_)
 refine qbs tS 30 ([(bs [61,61,62])]:List ByteArray) H fun fr H=>?_
 refine qbs (tI .i64) 48 ([0]:List Int) H fun fr H=>?_
 refine qg 2 [(2,vL tS ([(bs [61,61,62])]:List ByteArray) .full),(3,vL (tI .i64) ([0]:List Int) .full)] H fun fr H=>?_
 refine qe ?_
 refine W_seq (W_reg ?_)
 refine qb hr (fun x h s=>F73_R  x h) H fun x1 hr fr H=>?_
 refine qg 1 [(4,vL (tL tS) x1 .shut)] H fun fr H=>?_
 refine qe ?_
 refine W_seq (W_seq ?_)
 refine W_reg ?_
 refine qg 1 [(5,vI 0)] H fun fr H=>?_
 refine qe ?_
 refine W_block ?_
 obtain ⟨r14,hr14,hr⟩:=obind hr
 refine W_iter hr14 (fun (s2:(List ByteArray) × (List Int) × Int) fr st=>∃ (s2sp0 s2sp1:Spare),Rd fr [(2,vL tS s2.1 s2sp0),(3,vL (tI .i64) s2.2.1 s2sp1),(4,vL (tL tS) x1 .shut),(5,vI s2.2.2)]∧HL st [.own s2sp0,.own s2sp1]) (fun (r14:((List ByteArray) × (List Int))) e fr st=>e = .exit 0∧∃ (r14sp0 r14sp1:Spare),Rd fr [(2,vL tS r14.1 r14sp0),(3,vL (tI .i64) r14.2 r14sp1)]∧HL st [.own r14sp0,.own r14sp1]) ⟨.full,.full,H.tq,(((K.keep []).full).full)⟩ ?_ ?_
 ·intro s2 fr st r hi hr
  obtain ⟨s2sp0,s2sp1,H,K⟩:=hi
  refine W_seq (W_seq ?_)
  refine W_reg ?_
  refine qg 2 [(10,vI s2.2.2),(11,vL (tL tS) x1 .shut)] H fun fr H=>?_
  refine qln (tL tS) 98 x1 .shut H fun fr H=>?_
  refine qg 1 [(13,vB (decide (s2.2.2 < (x1.length:Int))))] H fun fr H=>?_
  refine qe ?_
  rcases csplit hr with ⟨hc3,hr⟩ | ⟨hc3,hr⟩
  rotate_left
  ·refine qF H hc3 ?_
   refine W_exit ?_
   obtain rfl:=Option.some.inj hr
   exact ⟨by simp,⟨rfl,s2sp0,s2sp1,H.tq,K.keep [true,true]⟩⟩
  refine qT H hc3 ?_
  refine W_skip ?_
  refine W_seq (W_block ?_)
  refine W_seq (W_reg ?_)
  refine qg 1 [(6,vI 0)] H fun fr H=>?_
  refine qe ?_
  refine W_block ?_
  obtain ⟨r13,hr13,hr⟩:=obind hr
  refine W_iter hr13 (fun (s4:(List ByteArray) × (List Int) × Int) fr st=>∃ (s4sp0 s4sp1:Spare),Rd fr [(2,vL tS s4.1 s4sp0),(3,vL (tI .i64) s4.2.1 s4sp1),(4,vL (tL tS) x1 .shut),(5,vI s2.2.2),(6,vI s4.2.2)]∧HL st [.own s4sp0,.own s4sp1]) (fun (r13:((List ByteArray) × (List Int))) e fr st=>e = .exit 2∧∃ (r13sp0 r13sp1:Spare),Rd fr [(2,vL tS r13.1 r13sp0),(3,vL (tI .i64) r13.2 r13sp1),(4,vL (tL tS) x1 .shut),(5,vI s2.2.2)]∧HL st [.own r13sp0,.own r13sp1]) ⟨s2sp0,s2sp1,H.tq,K.keep [true,true]⟩ ?_ ?_
  ·intro s4 fr st r hi hr
   obtain ⟨s4sp0,s4sp1,H,K⟩:=hi
   refine W_seq (W_seq ?_)
   refine W_reg ?_
   refine qg 3 [(16,vI s4.2.2),(17,vL (tL tS) x1 .shut),(18,vI s2.2.2)] H fun fr H=>?_
   refine qix (tL tS) 98 .shut hr H fun x5 hr hx5 fr H=>?_
   refine qg 1 [(20,vL tS x5 .shut)] H fun fr H=>?_
   refine qln tS 30 x5 .shut H fun fr H=>?_
   refine qg 1 [(22,vB (decide (s4.2.2 < (x5.length:Int))))] H fun fr H=>?_
   refine qe ?_
   rcases csplit hr with ⟨hc6,hr⟩ | ⟨hc6,hr⟩
   rotate_left
   ·refine qF H hc6 ?_
    refine W_exit ?_
    obtain rfl:=Option.some.inj hr
    exact ⟨by simp,⟨rfl,s4sp0,s4sp1,H.tq,K.keep [true,true]⟩⟩
   refine qT H hc6 ?_
   refine W_skip ?_
   refine W_seq (W_block ?_)
   refine W_seq (W_reg ?_)
   refine qg 3 [(25,vL tS s4.1 s4sp0),(26,vL (tL tS) x1 .shut),(27,vI s2.2.2)] H fun fr H=>?_
   refine qix (tL tS) 98 .shut hr H fun x7 hr hx7 fr H=>?_
   refine qg 2 [(29,vL tS x7 .shut),(30,vI s4.2.2)] H fun fr H=>?_
   refine qix tS 30 .shut hr H fun x8 hr hx8 fr H=>?_
   refine qg 1 [(32,vS x8)] H fun fr H=>?_
   refine qbs tS 30 ([x8]:List ByteArray) H fun fr H=>?_
   refine qapp tS 16 30 30 .full hr 0 H K rfl fun x9 hr sp10 st K fr H=>?_
   refine qg 1 [(2,vL tS x9 sp10)] H fun fr H=>?_
   refine qe ?_
   refine W_reg ?_
   refine qg 3 [(35,vL (tI .i64) s4.2.1 s4sp1),(37,vI (w64 (s2.2.2 + 1)))] H fun fr H=>?_
   refine qbs (tI .i64) 48 ([w64 (s2.2.2 + 1)]:List Int) H fun fr H=>?_
   refine qapp (tI .i64) 8 48 48 .full hr 1 H K rfl fun x11 hr sp12 st K fr H=>?_
   refine qg 1 [(3,vL (tI .i64) x11 sp12)] H fun fr H=>?_
   refine qe ?_
   refine W_reg ?_
   refine qg 3 [(6,vI (w64 (s4.2.2 + 1)))] H fun fr H=>?_
   refine qe ?_
   obtain rfl:=Option.some.inj hr
   exact ⟨rfl,⟨sp10,sp12,H.tq,K.keep [true,true]⟩⟩
  rintro e fr st ⟨rfl,r13sp0,r13sp1,H,K⟩
  refine W_reg ?_
  refine qg 3 [(5,vI (w64 (s2.2.2 + 1)))] H fun fr H=>?_
  refine qe ?_
  obtain rfl:=Option.some.inj hr
  exact ⟨rfl,⟨r13sp0,r13sp1,H.tq,K.keep [true,true]⟩⟩
 rintro e fr st ⟨rfl,r14sp0,r14sp1,H,K⟩
 refine W_seq (W_reg ?_)
 refine qg 4 [(0,vL tS r14.1 r14sp0),(1,vL (tI .i64) r14.2 r14sp1)] H fun fr H=>?_
 refine qe ?_
 refine W_ret ?_
 obtain rfl:=Option.some.inj hr
 exact e_ret [vL tS r14.1 r14sp0,vL (tI .i64) r14.2 r14sp1] H K (fun _=>resT (by kernel_rfl) (resT (by kernel_rfl) resN)) (fun _=>by simp only [strip,stripL,stripL_ET,Option.bind_some,Option.map_some,oneOf] <;> rfl)
def F60_step (F60:Node→Int→Option Int) (n:Nat) (a0:Node) (a1:Int):Option Int :=
 (iter (σ:=Int × Int) (ρ:=Int) (fun s1=>bif (decide (s1.2 < (a0.kids.length:Int))) && (decide (s1.1≤a1)) then
   ((idxL a0.kids s1.2).bind fun x3 =>
   (F60 x3 (w64 (a1 - s1.1))).bind fun x4 =>
   some (.inl (w64 (s1.1 + x4),w64 (s1.2 + 1))))
  else
   (some (.inr s1.1))) n ((1:Int),(0:Int))).bind fun r5 =>
 some r5
def F60:Nat→Node→Int→Option Int
 | 0,_,_=>none
 | n + 1,a0,a1=>F60_step (F60 n) n a0 a1
theorem F60_RR (n:Nat):(∀ (a0:Node) (a1:Int) (r:Int),F60 n a0 a1 = some r→∀ {st:St} {p0:Spare},R Tryz.prog AN 60 [.agg (cNode p0 a0),vI a1] st (.ret (vI r)) st):=by
 induction n with
 | zero=>(intros; contradiction)
 | succ n ih =>
  have ih_F60:=@ih; clear ih
  intro a0 a1 r hr st p0
  change F60_step (F60 n) n a0 a1 = some r at hr
  unfold F60_step at hr
  refine R_pureX [aN a0,vI a1] [(0,aN a0),(1,vI a1)] Tryz.func60 rfl (by simp only [strip,stripL,stripL_cNode,Option.bind_some,Option.map_some]) rfl fun fr st H K=>?_
  refine W_seq (W_reg ?_)
  refine qg 2 [(2,cN a0 0)] H fun fr H=>?_
  refine qe ?_
  refine W_seq (W_reg ?_)
  refine qg 1 [(5,vI 1)] H fun fr H=>?_
  refine qe ?_
  refine W_seq (W_seq ?_)
  refine W_reg ?_
  refine qg 1 [(6,vI 0)] H fun fr H=>?_
  refine qe ?_
  refine W_block ?_
  obtain ⟨r5,hr5,hr⟩:=obind hr
  refine W_iter hr5 (fun (s1:Int × Int) fr st=>Rd fr [(1,vI a1),(2,cN a0 0),(5,vI s1.1),(6,vI s1.2)]∧HL st []) (fun (r5:Int) e fr st=>e = .exit 0∧Rd fr [(5,vI r5)]∧HL st []) ⟨H.tq,K.keep []⟩ ?_ ?_
  ·intro s1 fr st r hi hr
   obtain ⟨H,K⟩:=hi
   refine W_seq (W_seq ?_)
   refine W_reg ?_
   refine qg 3 [(7,vI s1.2),(9,vL tNode a0.kids .shut)] H fun fr H=>?_
   refine qln tNode 22 a0.kids .shut H fun fr H=>?_
   refine qg 2 [(12,vB (decide (s1.2 < (a0.kids.length:Int))))] H fun fr H=>?_
   refine qg 4 [(16,vB ((decide (s1.2 < (a0.kids.length:Int))) && (decide (s1.1≤a1))))] H (hs:=by intro _ _; generalize (decide (s1.2 < (a0.kids.length:Int))) = b0; cases b0 <;> kernel_rfl) fun fr H=>?_
   refine qe ?_
   rcases csplit hr with ⟨hc2,hr⟩ | ⟨hc2,hr⟩
   rotate_left
   ·refine qF H hc2 ?_
    refine W_exit ?_
    obtain rfl:=Option.some.inj hr
    exact ⟨by simp,⟨rfl,H.tq,K.keep []⟩⟩
   refine qT H hc2 ?_
   refine W_skip ?_
   refine W_seq (W_block ?_)
   refine W_reg ?_
   refine qg 4 [(19,vI s1.1),(21,vL tNode a0.kids .shut),(22,vI s1.2)] H fun fr H=>?_
   refine qix tNode 22 .shut hr H fun x3 hr hx3 fr H=>?_
   refine qg 4 [(24,aN x3),(27,vI (w64 (a1 - s1.1)))] H fun fr H=>?_
   refine qb hr (fun x h s=>ih_F60 _ _ x h (p0:=.shut)) H fun x4 hr fr H=>?_
   refine qg 2 [(5,vI (w64 (s1.1 + x4)))] H fun fr H=>?_
   refine qe ?_
   refine W_reg ?_
   refine qg 3 [(6,vI (w64 (s1.2 + 1)))] H fun fr H=>?_
   refine qe ?_
   obtain rfl:=Option.some.inj hr
   exact ⟨rfl,⟨H.tq,K.keep []⟩⟩
  rintro e fr st ⟨rfl,H,K⟩
  refine W_seq (W_reg ?_)
  refine qg 2 [(4,vI r5)] H fun fr H=>?_
  refine qe ?_
  refine W_ret ?_
  obtain rfl:=Option.some.inj hr
  exact qr [vI r5] H K
theorem F60_R (n:Nat) (a0:Node) (a1:Int) (r:Int) (hr:F60 n a0 a1 = some r) {st:St} {p0:Spare}:R Tryz.prog AN 60 [.agg (cNode p0 a0),vI a1] st (.ret (vI r)) st:=(F60_RR n) a0 a1 r hr
def F26 (n:Nat) (a0:Node) (a1:Int):Option Bool :=
 (F60 n a0 a1).bind fun x1 =>
 some (decide (x1≤a1))
theorem F26_R (n:Nat) (a0:Node) (a1:Int) (r:Bool) (hr:F26 n a0 a1 = some r) {st:St} {p0:Spare}:R Tryz.prog AN 26 [.agg (cNode p0 a0),vI a1] st (.ret (vB r)) st:=by
 unfold F26 at hr
 refine R_pureX [aN a0,vI a1] [(0,aN a0),(1,vI a1)] Tryz.func26 rfl (by simp only [strip,stripL,stripL_cNode,Option.bind_some,Option.map_some]) rfl fun fr st H K=>?_
 refine W_seq (W_reg ?_)
 refine qg 2 [(2,cN a0 0)] H fun fr H=>?_
 refine qe ?_
 refine W_seq (W_reg ?_)
 refine qg 2 [(5,aN a0),(6,vI a1)] H fun fr H=>?_
 refine qb hr (fun x h s=>F60_R n _ _ x h (p0:=.shut)) H fun x1 hr fr H=>?_
 refine qg 3 [(4,vB (decide (x1≤a1)))] H fun fr H=>?_
 refine qe ?_
 refine W_ret ?_
 obtain rfl:=Option.some.inj hr
 exact qr [vB (decide (x1≤a1))] H K
def F34_step (F34:Node→Option Node) (n:Nat) (a0:Node):Option Node :=
 (iter (σ:=Int × Node) (ρ:=Node) (fun s3=>bif decide (s3.1 < (a0.kids.length:Int)) then
   ((idxL a0.kids s3.1).bind fun x5 =>
   (F34 x5).bind fun x6 =>
   (appL 104 s3.2.kids ([x6]:List Node)).bind fun x7 =>
   some (.inl (w64 (s3.1 + 1),(Node.mk s3.2.kind s3.2.name s3.2.other s3.2.n s3.2.len s3.2.init s3.2.ghost x7 s3.2.pos))))
  else
   (some (.inr s3.2))) n ((0:Int),(Node.mk a0.kind a0.name a0.other a0.n a0.len a0.init a0.ghost ([]:List Node) 0))).bind fun r9 =>
 some r9
def F34:Nat→Node→Option Node
 | 0,_=>none
 | n + 1,a0=>F34_step (F34 n) n a0
theorem F34_RR (n:Nat):(∀ (a0:Node) (r:Node),F34 n a0 = some r→∀ {st:St} {p0:Spare},R Tryz.prog AN 34 [.agg (cNode p0 a0)] st (.ret (aN r)) st):=by
 induction n with
 | zero=>(intros; contradiction)
 | succ n ih =>
  have ih_F34:=@ih; clear ih
  intro a0 r hr st p0
  change F34_step (F34 n) n a0 = some r at hr
  unfold F34_step at hr
  refine R_pureX [aN a0] [(0,aN a0)] Tryz.func34 rfl (by simp only [strip,stripL,stripL_cNode,Option.bind_some,Option.map_some]) rfl fun fr st H K=>?_
  refine W_seq (W_reg ?_)
  refine qg 1 [(1,cN a0 0)] H fun fr H=>?_
  refine qal 24 [vI 0,vS (bs []),vS (bs []),vI 0,vI 0,vI 0,vB false,vL tNode ([]:List Node) .nil,vI 0] H K fun id1 st K fr H=>?_
  refine qe ?_
  refine W_seq (W_reg ?_)
  refine qg 1 [(5,aN a0)] H fun fr H=>?_
  refine qal 24 [vI 0,vS (bs []),vS (bs []),vI 0,vI 0,vI 0,vB false,vL tNode ([]:List Node) .nil,vI 0] H K fun id2 st K fr H=>?_
  refine qst 24 0 (aN a0) [vI a0.kind,vS a0.name,vS a0.other,vI a0.n,vI a0.len,vI a0.init,vB a0.ghost,vL tNode a0.kids .shut,vI a0.pos] 0 H K rfl fun st K fr H=>?_
  refine qe ?_
  refine W_seq (W_reg ?_)
  refine qg 1 [(6,.ptr id2 8)] H fun fr H=>?_
  refine qst 3 8 (vI 0) [vI a0.kind,vS a0.name,vS a0.other,vI a0.n,vI a0.len,vI a0.init,vB a0.ghost,vL tNode a0.kids .shut,vI 0] 0 H K rfl fun st K fr H=>?_
  refine qe ?_
  refine W_seq (W_reg ?_)
  refine qg 1 [(7,.ptr id2 7)] H fun fr H=>?_
  refine qst 22 7 (vL tNode ([]:List Node) .nil) [vI a0.kind,vS a0.name,vS a0.other,vI a0.n,vI a0.len,vI a0.init,vB a0.ghost,vL tNode ([]:List Node) .nil,vI 0] 0 H K rfl fun st K fr H=>?_
  refine qe ?_
  refine W_seq (W_seq ?_)
  refine W_reg ?_
  refine qg 1 [(4,vI 0)] H fun fr H=>?_
  refine qe ?_
  refine W_block ?_
  obtain ⟨r9,hr9,hr⟩:=obind hr
  refine W_iter hr9 (fun (s3:Int × Node) fr st=>∃ (s3sp0:Spare),Rd fr [(1,cN a0 0),(2,.ptr id1 0),(3,.ptr id2 0),(4,vI s3.1)]∧HL st [.own s3sp0,.obj id2 (.cells 24 [vI s3.2.kind,vS s3.2.name,vS s3.2.other,vI s3.2.n,vI s3.2.len,vI s3.2.init,vB s3.2.ghost,vL tNode s3.2.kids s3sp0,vI s3.2.pos]),.obj id1 (.cells 24 [vI 0,vS (bs []),vS (bs []),vI 0,vI 0,vI 0,vB false,vL tNode ([]:List Node) .nil,vI 0])]) (fun (r9:Node) e fr st=>e = .exit 0∧∃ (r9sp0:Spare),Rd fr [(2,.ptr id1 0),(3,.ptr id2 0)]∧HL st [.own r9sp0,.obj id2 (.cells 24 [vI r9.kind,vS r9.name,vS r9.other,vI r9.n,vI r9.len,vI r9.init,vB r9.ghost,vL tNode r9.kids r9sp0,vI r9.pos]),.obj id1 (.cells 24 [vI 0,vS (bs []),vS (bs []),vI 0,vI 0,vI 0,vB false,vL tNode ([]:List Node) .nil,vI 0])]) ⟨.nil,H.tq,((K.keep [true,true]).nilo)⟩ ?_ ?_
  ·intro s3 fr st r hi hr
   obtain ⟨s3sp0,H,K⟩:=hi
   refine W_seq (W_seq ?_)
   refine W_reg ?_
   refine qg 3 [(8,vI s3.1),(10,vL tNode a0.kids .shut)] H fun fr H=>?_
   refine qln tNode 22 a0.kids .shut H fun fr H=>?_
   refine qg 1 [(12,vB (decide (s3.1 < (a0.kids.length:Int))))] H fun fr H=>?_
   refine qe ?_
   rcases csplit hr with ⟨hc4,hr⟩ | ⟨hc4,hr⟩
   rotate_left
   ·refine qF H hc4 ?_
    refine W_exit ?_
    obtain rfl:=Option.some.inj hr
    exact ⟨by simp,⟨rfl,s3sp0,H.tq,K.keep [true,true,true]⟩⟩
   refine qT H hc4 ?_
   refine W_skip ?_
   refine W_seq (W_block ?_)
   refine W_drw ?_
   refine qg 1 [(15,.ptr id2 7)] H fun fr H=>?_
   refine qld 22 7 (vL tNode s3.2.kids s3sp0) 1 H K rfl fun fr H=>?_
   refine qg 3 [(18,vL tNode a0.kids .shut),(19,vI s3.1)] H fun fr H=>?_
   refine qix tNode 22 .shut hr H fun x5 hr hx5 fr H=>?_
   refine qg 1 [(21,aN x5)] H fun fr H=>?_
   refine qb hr (fun x h s=>ih_F34 _ x h (p0:=.shut)) H fun x6 hr fr H=>?_
   refine qv (.buildSlice 22 1 [(0,aN x6)]) H (run_bslice (v:=vL tNode ([x6]:List Node) .full) (v0:=.slice [aN x6] .full) (by kernel_rfl) (by simp only [List.map,vL,tNode_e,eNode_eq,cNode] <;> rfl)) fun fr H=>?_
   refine qapp tNode 104 22 22 .full hr 0 H K rfl fun x7 hr sp8 st K fr H=>?_
   refine qg 1 [(25,.ptr id2 7)] H fun fr H=>?_
   refine qst 22 7 (vL tNode x7 sp8) [vI s3.2.kind,vS s3.2.name,vS s3.2.other,vI s3.2.n,vI s3.2.len,vI s3.2.init,vB s3.2.ghost,vL tNode x7 sp8,vI s3.2.pos] 1 H K rfl fun st K fr H=>?_
   refine qe (qdI K [0,.look (some 0),0,0,0,0,0,0,0,.keep [],0,.put 0] ?_)
   refine W_reg ?_
   refine qg 3 [(4,vI (w64 (s3.1 + 1)))] H fun fr H=>?_
   refine qe ?_
   obtain rfl:=Option.some.inj hr
   exact ⟨rfl,⟨sp8,H.tq,K.keep [true,true,true]⟩⟩
  rintro e fr st ⟨rfl,r9sp0,H,K⟩
  refine W_seq (W_reg ?_)
  refine qld 24 0 (aN r9) 1 H K rfl fun fr H=>?_
  refine qst 24 0 (aN r9) [vI r9.kind,vS r9.name,vS r9.other,vI r9.n,vI r9.len,vI r9.init,vB r9.ghost,vL tNode r9.kids .shut,vI r9.pos] 2 H K rfl fun st K fr H=>?_
  refine qe ?_
  refine W_ret ?_
  obtain rfl:=Option.some.inj hr
  exact e_ret [aN r9] H K (fun _=>resC id1 0 24 [vI r9.kind,vS r9.name,vS r9.other,vI r9.n,vI r9.len,vI r9.init,vB r9.ghost,vL tNode r9.kids .shut,vI r9.pos] 2 (by kernel_rfl) rfl (by kernel_rfl) resN) (fun _=>by simp only [strip,stripL_cNode,Option.map_some,oneOf] <;> rfl)
theorem F34_R (n:Nat) (a0:Node) (r:Node) (hr:F34 n a0 = some r) {st:St} {p0:Spare}:R Tryz.prog AN 34 [.agg (cNode p0 a0)] st (.ret (aN r)) st:=(F34_RR n) a0 r hr
end Go.Proofs.YtbecjgckobhmpaaGreatDoor
end
section
namespace Go.Proofs.YtbecjgckobhmpaaGreatDoor
open Go Go.AM Go.Proofs
set_option maxRecDepth 100000
set_option maxHeartbeats 4000000
def F8 (n:Nat) (a0:Int) (a1:Int) (a2:Bool):Option Bool :=
 (F24 n ).bind fun x1 =>
 (F35 n ).bind fun x2 =>
 (remI (w64 a0) (x2.1.length:Int)).bind fun x3 =>
 (remI (w64 a1) (x2.1.length:Int)).bind fun x4 =>
 (F36 (bs [97]) (0:Int)).bind fun x5 =>
 (F36 (bs [98]) (0:Int)).bind fun x6 =>
 (F36 (bs [99]) (0:Int)).bind fun x7 =>
 (idxL x2.1 x3).bind fun x11 =>
 (catS (bs [97,32]) x11).bind fun x12 =>
 (catS x12 (bs [32,98,32])).bind fun x13 =>
 (idxL x2.1 x4).bind fun x14 =>
 (catS x13 x14).bind fun x15 =>
 (catS x15 (bs [32,99])).bind fun x16 =>
 (idxL x2.1 x3).bind fun x17 =>
 (catS (bs [97,32]) x17).bind fun x18 =>
 (catS x18 (bs [32,98,32])).bind fun x19 =>
 (bif a2 then
   ((catS (bs [33]) x16).bind fun x21 =>
   some (x21,w64 ((x19.size:Int) + 1),(Node.mk 4 (bs []) (bs []) 0 0 0 false ([x5]:List Node) 0)))
  else
   (some (x16,(x19.size:Int),x5)):Option ((ByteArray × Int × Node))).bind fun j22 =>
 (F29 n j22.1).bind fun x23 =>
 (catS j22.1 (bs [32,63,32,97,32,58,32,98])).bind fun x25 =>
 (F29 n x25).bind fun x26 =>
 (F26 n x23.1 (4000:Int)).bind fun x28 =>
 bif !x28 then
  (some false)
 else
  ((F26 n x26.1 (4000:Int)).bind fun x30 =>
  bif !x30 then
   (some false)
  else
   (((idxL x2.2 x3).bind fun x32 =>
    bif x32 == 3 then
     ((idxL x2.2 x4).bind fun x34 =>
     some (x34 == 3))
    else
     (some false):Option (Bool)).bind fun j35 =>
   bif j35 then
    (bif x1 then
     ((F37 n x23.2 (20:Int) j22.2.1).bind fun x38 =>
     bif x38 then
      ((F37 n x26.2 (20:Int) j22.2.1).bind fun x40 =>
      some x40)
     else
      (some false))
    else
     (some false))
   else
    ((idxL x2.1 x4).bind fun x41 =>
    (idxL x2.1 x3).bind fun x42 =>
    (F38 x42 (0:Int) j22.2.2 x6).bind fun x43 =>
    (F38 x41 (0:Int) x43 x7).bind fun x44 =>
    (((idxL x2.2 x4).bind fun x46 =>
      (idxL x2.2 x3).bind fun x47 =>
      bif decide (x47 < x46) then
       (some true)
      else
       ((idxL x2.2 x3).bind fun x49 =>
       bif x49 == 0 then
        ((idxL x2.2 x4).bind fun x51 =>
        some (x51 == 0))
       else
        (some false)):Option (Bool)).bind fun j52 =>
     bif j52 then
      ((idxL x2.1 x3).bind fun x54 =>
      (idxL x2.1 x4).bind fun x55 =>
      (F38 x55 (0:Int) x6 x7).bind fun x56 =>
      (F38 x54 (0:Int) j22.2.2 x56).bind fun x57 =>
      some x57)
     else
      (some x44):Option (Node)).bind fun j58 =>
    (F36 (bs [97]) (0:Int)).bind fun x59 =>
    (F36 (bs [98]) (0:Int)).bind fun x60 =>
    bif x1 then
     (bif (x23.2.length:Int) == 0 then
      (bif (x26.2.length:Int) == 0 then
       ((F34 n x23.1).bind fun x65 =>
       (F30 n x65 j58).bind fun x66 =>
       bif x66 then
        ((F34 n x26.1).bind fun x68 =>
        (F30 n x68 (Node.mk 6 (bs []) (bs []) 0 0 0 false ([j58,x59,x60]:List Node) 0)).bind fun x69 =>
        some x69)
       else
        (some false))
      else
       (some false))
     else
      (some false))
    else
     (some false))))
theorem F8_R (n:Nat) (a0:Int) (a1:Int) (a2:Bool) (r:Bool) (hr:F8 n a0 a1 a2 = some r) {st:St}:R Tryz.prog AN 8 [vU a0,vU a1,vB a2] st (.ret (vB r)) st:=by
 unfold F8 at hr
 refine R_pureX [vU a0,vU a1,vB a2] [(0,vU a0),(1,vU a1),(2,vB a2)] Tryz.func8 rfl (by kernel_rfl) rfl fun fr st H K=>?_
 refine W_seq (W_reg ?_)
 refine qg 1 [] H fun fr H=>?_
 refine qe ?_
 refine W_seq (W_reg ?_)
 refine qb hr (fun x h s=>F24_R n x h) H fun x1 hr fr H=>?_
 refine qg 1 [(7,vB x1)] H fun fr H=>?_
 refine qe ?_
 refine W_seq (W_reg ?_)
 refine qb hr (fun x h s=>F35_R n x h) H fun x2 hr fr H=>?_
 refine qg 5 [(8,vL tS x2.1 .shut),(9,vL (tI .i64) x2.2 .shut)] H fun fr H=>?_
 refine qe ?_
 refine W_seq (W_drw ?_)
 refine qg 3 [(29,vI (w64 a0)),(30,vL tS x2.1 .shut)] H fun fr H=>?_
 refine qln tS 30 x2.1 .shut H fun fr H=>?_
 obtain ⟨x3,hx3,hr⟩:=obind hr
 refine qv (.bin .rem 3 (.tmp 29) (.tmp 31) (vI (w64 a0)) (vI (x2.1.length:Int))) H (run_rem hx3) fun fr H=>?_
 refine qg 3 [(34,vI (w64 a1)),(35,vL tS x2.1 .shut)] H fun fr H=>?_
 refine qln tS 30 x2.1 .shut H fun fr H=>?_
 obtain ⟨x4,hx4,hr⟩:=obind hr
 refine qv (.bin .rem 3 (.tmp 34) (.tmp 36) (vI (w64 a1)) (vI (x2.1.length:Int))) H (run_rem hx4) fun fr H=>?_
 refine qg 2 [(10,vI x3),(11,vI x4)] H fun fr H=>?_
 refine qe (qd ?_)
 refine W_seq (W_reg ?_)
 refine qb hr (fun x h s=>F36_R  _ _ x h) H fun x5 hr fr H=>?_
 refine qb hr (fun x h s=>F36_R  _ _ x h) H fun x6 hr fr H=>?_
 refine qb hr (fun x h s=>F36_R  _ _ x h) H fun x7 hr fr H=>?_
 refine qal 24 [vI 0,vS (bs []),vS (bs []),vI 0,vI 0,vI 0,vB false,vL tNode ([]:List Node) .nil,vI 0] H K fun id8 st K fr H=>?_
 refine qal 24 [vI 0,vS (bs []),vS (bs []),vI 0,vI 0,vI 0,vB false,vL tNode ([]:List Node) .nil,vI 0] H K fun id9 st K fr H=>?_
 refine qal 24 [vI 0,vS (bs []),vS (bs []),vI 0,vI 0,vI 0,vB false,vL tNode ([]:List Node) .nil,vI 0] H K fun id10 st K fr H=>?_
 refine qst 24 0 (aN x5) [vI x5.kind,vS x5.name,vS x5.other,vI x5.n,vI x5.len,vI x5.init,vB x5.ghost,vL tNode x5.kids .shut,vI x5.pos] 2 H K rfl fun st K fr H=>?_
 refine qst 24 0 (aN x6) [vI x6.kind,vS x6.name,vS x6.other,vI x6.n,vI x6.len,vI x6.init,vB x6.ghost,vL tNode x6.kids .shut,vI x6.pos] 1 H K rfl fun st K fr H=>?_
 refine qst 24 0 (aN x7) [vI x7.kind,vS x7.name,vS x7.other,vI x7.n,vI x7.len,vI x7.init,vB x7.ghost,vL tNode x7.kids .shut,vI x7.pos] 0 H K rfl fun st K fr H=>?_
 refine qe ?_
 refine W_seq (W_drw ?_)
 refine qg 2 [(41,vL tS x2.1 .shut),(42,vI x3)] H fun fr H=>?_
 refine qix tS 30 .shut hr H fun x11 hr hx11 fr H=>?_
 refine qg 1 [(44,vS x11)] H fun fr H=>?_
 obtain ⟨x12,hx12,hr⟩:=obind hr
 refine qv (.bin .add 9 (.const (.string (bs [97,32]))) (.tmp 44) (vS (bs [97,32])) (vS x11)) H (run_cat hx12) fun fr H=>?_
 obtain ⟨x13,hx13,hr⟩:=obind hr
 refine qv (.bin .add 9 (.tmp 45) (.const (.string (bs [32,98,32]))) (vS x12) (vS (bs [32,98,32]))) H (run_cat hx13) fun fr H=>?_
 refine qg 2 [(47,vL tS x2.1 .shut),(48,vI x4)] H fun fr H=>?_
 refine qix tS 30 .shut hr H fun x14 hr hx14 fr H=>?_
 refine qg 1 [(50,vS x14)] H fun fr H=>?_
 obtain ⟨x15,hx15,hr⟩:=obind hr
 refine qv (.bin .add 9 (.tmp 46) (.tmp 50) (vS x13) (vS x14)) H (run_cat hx15) fun fr H=>?_
 obtain ⟨x16,hx16,hr⟩:=obind hr
 refine qv (.bin .add 9 (.tmp 51) (.const (.string (bs [32,99]))) (vS x15) (vS (bs [32,99]))) H (run_cat hx16) fun fr H=>?_
 refine qg 1 [(15,vS x16)] H fun fr H=>?_
 refine qe (qd ?_)
 refine W_seq (W_reg ?_)
 refine qg 2 [(53,vL tS x2.1 .shut),(54,vI x3)] H fun fr H=>?_
 refine qix tS 30 .shut hr H fun x17 hr hx17 fr H=>?_
 refine qg 1 [(56,vS x17)] H fun fr H=>?_
 obtain ⟨x18,hx18,hr⟩:=obind hr
 refine qv (.bin .add 9 (.const (.string (bs [97,32]))) (.tmp 56) (vS (bs [97,32])) (vS x17)) H (run_cat hx18) fun fr H=>?_
 obtain ⟨x19,hx19,hr⟩:=obind hr
 refine qv (.bin .add 9 (.tmp 57) (.const (.string (bs [32,98,32]))) (vS x18) (vS (bs [32,98,32]))) H (run_cat hx19) fun fr H=>?_
 refine qg 2 [(16,vI (x19.size:Int))] H fun fr H=>?_
 refine qe ?_
 refine W_seq ?_
 obtain ⟨j22,hj22,hr⟩:=obind hr
 refine W_via (fun e fr st=>e = .normal∧Rd fr [(7,vB x1),(8,vL tS x2.1 .shut),(9,vL (tI .i64) x2.2 .shut),(10,vI x3),(11,vI x4),(12,.ptr id8 0),(13,.ptr id9 0),(14,.ptr id10 0),(15,vS j22.1),(16,vI j22.2.1)]∧HL st [.obj id10 (.cells 24 [vI x7.kind,vS x7.name,vS x7.other,vI x7.n,vI x7.len,vI x7.init,vB x7.ghost,vL tNode x7.kids .shut,vI x7.pos]),.obj id9 (.cells 24 [vI x6.kind,vS x6.name,vS x6.other,vI x6.n,vI x6.len,vI x6.init,vB x6.ghost,vL tNode x6.kids .shut,vI x6.pos]),.obj id8 (.cells 24 [vI j22.2.2.kind,vS j22.2.2.name,vS j22.2.2.other,vI j22.2.2.n,vI j22.2.2.len,vI j22.2.2.init,vB j22.2.2.ghost,vL tNode j22.2.2.kids .shut,vI j22.2.2.pos])]) ?_ ?_
 ·replace hr:=hj22
  refine W_seq (W_reg ?_)
  refine qg 1 [(60,vB a2)] H fun fr H=>?_
  refine qe ?_
  rcases csplit hr with ⟨hc20,hr⟩ | ⟨hc20,hr⟩
  rotate_left
  ·refine qF H hc20 ?_
   refine W_skip ?_
   obtain rfl:=Option.some.inj hr
   exact ⟨rfl,H.tq,K.keep [true,true,true]⟩
  refine qT H hc20 ?_
  refine W_seq (W_reg ?_)
  refine qld 24 0 (aN x5) 2 H K rfl fun fr H=>?_
  refine qv (.buildSlice 22 1 [(0,aN x5)]) H (run_bslice (v:=vL tNode ([x5]:List Node) .full) (v0:=.slice [aN x5] .full) (by kernel_rfl) (by simp only [List.map,vL,tNode_e,eNode_eq,cNode] <;> rfl)) fun fr H=>?_
  refine qg 1 [(63,.agg [vI 4,vS (bs []),vS (bs []),vI 0,vI 0,vI 0,vB false,vL tNode ([x5]:List Node) .shut,vI 0])] H fun fr H=>?_
  refine qst 24 0 (.agg [vI 4,vS (bs []),vS (bs []),vI 0,vI 0,vI 0,vB false,vL tNode ([x5]:List Node) .shut,vI 0]) [vI 4,vS (bs []),vS (bs []),vI 0,vI 0,vI 0,vB false,vL tNode ([x5]:List Node) .shut,vI 0] 2 H K rfl fun st K fr H=>?_
  refine qe ?_
  refine W_seq (W_reg ?_)
  refine qg 1 [(64,vS x16)] H fun fr H=>?_
  obtain ⟨x21,hx21,hr⟩:=obind hr
  refine qv (.bin .add 9 (.const (.string (bs [33]))) (.tmp 64) (vS (bs [33])) (vS x16)) H (run_cat hx21) fun fr H=>?_
  refine qg 1 [(15,vS x21)] H fun fr H=>?_
  refine qe ?_
  refine W_reg ?_
  refine qg 3 [(16,vI (w64 ((x19.size:Int) + 1)))] H fun fr H=>?_
  refine qe ?_
  obtain rfl:=Option.some.inj hr
  exact ⟨rfl,H.tq,K.keep [true,true,true]⟩
 rintro e fr st ⟨rfl,H,K⟩
 refine W_seq (W_reg ?_)
 refine qg 1 [(69,vS j22.1)] H fun fr H=>?_
 refine qb hr (fun x h s=>F29_R n _ x h) H fun x23 hr fr H=>?_
 refine qg 3 [(71,aN x23.1),(72,vL tDiag x23.2 .shut)] H fun fr H=>?_
 refine qal 24 [vI 0,vS (bs []),vS (bs []),vI 0,vI 0,vI 0,vB false,vL tNode ([]:List Node) .nil,vI 0] H K fun id24 st K fr H=>?_
 refine qst 24 0 (aN x23.1) [vI x23.1.kind,vS x23.1.name,vS x23.1.other,vI x23.1.n,vI x23.1.len,vI x23.1.init,vB x23.1.ghost,vL tNode x23.1.kids .shut,vI x23.1.pos] 0 H K rfl fun st K fr H=>?_
 refine qg 1 [(18,vL tDiag x23.2 .shut)] H fun fr H=>?_
 refine qe ?_
 refine W_seq (W_reg ?_)
 refine qg 1 [(74,vS j22.1)] H fun fr H=>?_
 obtain ⟨x25,hx25,hr⟩:=obind hr
 refine qv (.bin .add 9 (.tmp 74) (.const (.string (bs [32,63,32,97,32,58,32,98]))) (vS j22.1) (vS (bs [32,63,32,97,32,58,32,98]))) H (run_cat hx25) fun fr H=>?_
 refine qb hr (fun x h s=>F29_R n _ x h) H fun x26 hr fr H=>?_
 refine qg 3 [(77,aN x26.1),(78,vL tDiag x26.2 .shut)] H fun fr H=>?_
 refine qal 24 [vI 0,vS (bs []),vS (bs []),vI 0,vI 0,vI 0,vB false,vL tNode ([]:List Node) .nil,vI 0] H K fun id27 st K fr H=>?_
 refine qst 24 0 (aN x26.1) [vI x26.1.kind,vS x26.1.name,vS x26.1.other,vI x26.1.n,vI x26.1.len,vI x26.1.init,vB x26.1.ghost,vL tNode x26.1.kids .shut,vI x26.1.pos] 0 H K rfl fun st K fr H=>?_
 refine qg 1 [(20,vL tDiag x26.2 .shut)] H fun fr H=>?_
 refine qe ?_
 refine W_seq (W_seq ?_)
 refine W_reg ?_
 refine qld 24 0 (aN x23.1) 1 H K rfl fun fr H=>?_
 refine qb hr (fun x h s=>F26_R n _ _ x h (p0:=.shut)) H fun x28 hr fr H=>?_
 refine qg 2 [(82,vB !x28)] H fun fr H=>?_
 rcases csplit hr with ⟨hc29,hr⟩ | ⟨hc29,hr⟩
 ·rw [hc29] at H
  refine qg 4 [(86,vB true)] H fun fr H=>?_
  refine qe ?_
  refine qT H rfl ?_
  refine W_seq (W_reg ?_)
  refine qg 1 [(6,vB false)] H fun fr H=>?_
  refine qe ?_
  refine W_ret ?_
  obtain rfl:=Option.some.inj hr
  exact qr [vB false] H K
 rw [hc29] at H
 refine qld 24 0 (aN x26.1) 0 H K rfl fun fr H=>?_
 refine qb hr (fun x h s=>F26_R n _ _ x h (p0:=.shut)) H fun x30 hr fr H=>?_
 refine qg 2 [(86,vB !x30)] H fun fr H=>?_
 refine qe ?_
 rcases csplit hr with ⟨hc31,hr⟩ | ⟨hc31,hr⟩
 ·refine qT H hc31 ?_
  refine W_seq (W_reg ?_)
  refine qg 1 [(6,vB false)] H fun fr H=>?_
  refine qe ?_
  refine W_ret ?_
  obtain rfl:=Option.some.inj hr
  exact qr [vB false] H K
 refine qF H hc31 ?_
 refine W_skip ?_
 refine W_seq (W_seq ?_)
 obtain ⟨j35,hj35,hr⟩:=obind hr
 refine W_via (fun e fr st=>e = .normal∧Rd fr [(7,vB x1),(8,vL tS x2.1 .shut),(9,vL (tI .i64) x2.2 .shut),(10,vI x3),(11,vI x4),(12,.ptr id8 0),(13,.ptr id9 0),(14,.ptr id10 0),(16,vI j22.2.1),(17,.ptr id24 0),(18,vL tDiag x23.2 .shut),(19,.ptr id27 0),(20,vL tDiag x26.2 .shut),(98,vB j35)]∧HL st [.obj id27 (.cells 24 [vI x26.1.kind,vS x26.1.name,vS x26.1.other,vI x26.1.n,vI x26.1.len,vI x26.1.init,vB x26.1.ghost,vL tNode x26.1.kids .shut,vI x26.1.pos]),.obj id24 (.cells 24 [vI x23.1.kind,vS x23.1.name,vS x23.1.other,vI x23.1.n,vI x23.1.len,vI x23.1.init,vB x23.1.ghost,vL tNode x23.1.kids .shut,vI x23.1.pos]),.obj id10 (.cells 24 [vI x7.kind,vS x7.name,vS x7.other,vI x7.n,vI x7.len,vI x7.init,vB x7.ghost,vL tNode x7.kids .shut,vI x7.pos]),.obj id9 (.cells 24 [vI x6.kind,vS x6.name,vS x6.other,vI x6.n,vI x6.len,vI x6.init,vB x6.ghost,vL tNode x6.kids .shut,vI x6.pos]),.obj id8 (.cells 24 [vI j22.2.2.kind,vS j22.2.2.name,vS j22.2.2.other,vI j22.2.2.n,vI j22.2.2.len,vI j22.2.2.init,vB j22.2.2.ghost,vL tNode j22.2.2.kids .shut,vI j22.2.2.pos])]) ?_ ?_
 ·replace hr:=hj35
  refine W_reg ?_
  refine qg 2 [(87,vL (tI .i64) x2.2 .shut),(88,vI x3)] H fun fr H=>?_
  refine qix (tI .i64) 48 .shut hr H fun x32 hr hx32 fr H=>?_
  refine qg 3 [(92,vB (x32 == 3))] H fun fr H=>?_
  rcases csplit hr with ⟨hc33,hr⟩ | ⟨hc33,hr⟩
  rotate_left
  ·rw [hc33] at H
   refine qg 6 [(98,vB false)] H fun fr H=>?_
   refine qe ?_
   obtain rfl:=Option.some.inj hr
   exact ⟨rfl,H.tq,K.keep [true,true,true,true,true]⟩
  rw [hc33] at H
  refine qg 2 [(93,vL (tI .i64) x2.2 .shut),(94,vI x4)] H fun fr H=>?_
  refine qix (tI .i64) 48 .shut hr H fun x34 hr hx34 fr H=>?_
  refine qg 3 [(98,vB (x34 == 3))] H fun fr H=>?_
  refine qe ?_
  obtain rfl:=Option.some.inj hr
  exact ⟨rfl,H.tq,K.keep [true,true,true,true,true]⟩
 rintro e fr st ⟨rfl,H,K⟩
 rcases csplit hr with ⟨hc36,hr⟩ | ⟨hc36,hr⟩
 ·refine qT H hc36 ?_
  refine W_seq (W_reg ?_)
  refine qg 2 [(100,vB x1)] H fun fr H=>?_
  rcases csplit hr with ⟨hc37,hr⟩ | ⟨hc37,hr⟩
  rotate_left
  ·rw [hc37] at H
   refine qg 10 [(6,vB false)] H fun fr H=>?_
   refine qe ?_
   refine W_ret ?_
   obtain rfl:=Option.some.inj hr
   exact qr [vB false] H K
  rw [hc37] at H
  refine qg 2 [(101,vL tDiag x23.2 .shut),(102,vI j22.2.1)] H fun fr H=>?_
  refine qb hr (fun x h s=>F37_R n _ _ _ x h (p0:=.shut)) H fun x38 hr fr H=>?_
  refine qg 2 [(105,vB x38)] H fun fr H=>?_
  rcases csplit hr with ⟨hc39,hr⟩ | ⟨hc39,hr⟩
  rotate_left
  ·rw [hc39] at H
   refine qg 5 [(6,vB false)] H fun fr H=>?_
   refine qe ?_
   refine W_ret ?_
   obtain rfl:=Option.some.inj hr
   exact qr [vB false] H K
  rw [hc39] at H
  refine qg 2 [(106,vL tDiag x26.2 .shut),(107,vI j22.2.1)] H fun fr H=>?_
  refine qb hr (fun x h s=>F37_R n _ _ _ x h (p0:=.shut)) H fun x40 hr fr H=>?_
  refine qg 2 [(6,vB x40)] H fun fr H=>?_
  refine qe ?_
  refine W_ret ?_
  obtain rfl:=Option.some.inj hr
  exact qr [vB x40] H K
 refine qF H hc36 ?_
 refine W_skip ?_
 refine W_seq (W_drw ?_)
 refine qg 2 [(110,vL tS x2.1 .shut),(111,vI x4)] H fun fr H=>?_
 refine qix tS 30 .shut hr H fun x41 hr hx41 fr H=>?_
 refine qg 3 [(113,vS x41),(114,vL tS x2.1 .shut),(115,vI x3)] H fun fr H=>?_
 refine qix tS 30 .shut hr H fun x42 hr hx42 fr H=>?_
 refine qg 1 [(117,vS x42)] H fun fr H=>?_
 refine qld 24 0 (aN j22.2.2) 4 H K rfl fun fr H=>?_
 refine qld 24 0 (aN x6) 3 H K rfl fun fr H=>?_
 refine qb hr (fun x h s=>F38_R  _ _ _ _ x h (p0:=.shut) (p1:=.shut)) H fun x43 hr fr H=>?_
 refine qld 24 0 (aN x7) 2 H K rfl fun fr H=>?_
 refine qb hr (fun x h s=>F38_R  _ _ _ _ x h (p0:=.shut) (p1:=.shut)) H fun x44 hr fr H=>?_
 refine qal 24 [vI 0,vS (bs []),vS (bs []),vI 0,vI 0,vI 0,vB false,vL tNode ([]:List Node) .nil,vI 0] H K fun id45 st K fr H=>?_
 refine qst 24 0 (aN x44) [vI x44.kind,vS x44.name,vS x44.other,vI x44.n,vI x44.len,vI x44.init,vB x44.ghost,vL tNode x44.kids .shut,vI x44.pos] 0 H K rfl fun st K fr H=>?_
 refine qe (qdI K [0,0,0,0,0,0,0,0,.look (some 5),.look (some 4),0,.look (some 3),0,.keep [1,2,3,4,5],.put 0] ?_)
 refine W_seq ?_
 obtain ⟨j58,hj58,hr⟩:=obind hr
 refine W_via (fun e fr st=>e = .normal∧Rd fr [(7,vB x1),(17,.ptr id24 0),(18,vL tDiag x23.2 .shut),(19,.ptr id27 0),(20,vL tDiag x26.2 .shut),(21,.ptr id45 0)]∧HL st [.obj id45 (.cells 24 [vI j58.kind,vS j58.name,vS j58.other,vI j58.n,vI j58.len,vI j58.init,vB j58.ghost,vL tNode j58.kids .shut,vI j58.pos]),.obj id27 (.cells 24 [vI x26.1.kind,vS x26.1.name,vS x26.1.other,vI x26.1.n,vI x26.1.len,vI x26.1.init,vB x26.1.ghost,vL tNode x26.1.kids .shut,vI x26.1.pos]),.obj id24 (.cells 24 [vI x23.1.kind,vS x23.1.name,vS x23.1.other,vI x23.1.n,vI x23.1.len,vI x23.1.init,vB x23.1.ghost,vL tNode x23.1.kids .shut,vI x23.1.pos])]) ?_ ?_
 ·replace hr:=hj58
  refine W_seq ?_
  obtain ⟨j52,hj52,hr⟩:=obind hr
  refine W_via (fun e fr st=>e = .normal∧Rd fr [(7,vB x1),(8,vL tS x2.1 .shut),(10,vI x3),(11,vI x4),(12,.ptr id8 0),(13,.ptr id9 0),(14,.ptr id10 0),(17,.ptr id24 0),(18,vL tDiag x23.2 .shut),(19,.ptr id27 0),(20,vL tDiag x26.2 .shut),(21,.ptr id45 0),(145,vB j52)]∧HL st [.obj id45 (.cells 24 [vI x44.kind,vS x44.name,vS x44.other,vI x44.n,vI x44.len,vI x44.init,vB x44.ghost,vL tNode x44.kids .shut,vI x44.pos]),.obj id27 (.cells 24 [vI x26.1.kind,vS x26.1.name,vS x26.1.other,vI x26.1.n,vI x26.1.len,vI x26.1.init,vB x26.1.ghost,vL tNode x26.1.kids .shut,vI x26.1.pos]),.obj id24 (.cells 24 [vI x23.1.kind,vS x23.1.name,vS x23.1.other,vI x23.1.n,vI x23.1.len,vI x23.1.init,vB x23.1.ghost,vL tNode x23.1.kids .shut,vI x23.1.pos]),.obj id10 (.cells 24 [vI x7.kind,vS x7.name,vS x7.other,vI x7.n,vI x7.len,vI x7.init,vB x7.ghost,vL tNode x7.kids .shut,vI x7.pos]),.obj id9 (.cells 24 [vI x6.kind,vS x6.name,vS x6.other,vI x6.n,vI x6.len,vI x6.init,vB x6.ghost,vL tNode x6.kids .shut,vI x6.pos]),.obj id8 (.cells 24 [vI j22.2.2.kind,vS j22.2.2.name,vS j22.2.2.other,vI j22.2.2.n,vI j22.2.2.len,vI j22.2.2.init,vB j22.2.2.ghost,vL tNode j22.2.2.kids .shut,vI j22.2.2.pos])]) ?_ ?_
  ·replace hr:=hj52
   refine W_drw ?_
   refine qg 2 [(123,vL (tI .i64) x2.2 .shut),(124,vI x4)] H fun fr H=>?_
   refine qix (tI .i64) 48 .shut hr H fun x46 hr hx46 fr H=>?_
   refine qg 3 [(126,vI x46),(127,vL (tI .i64) x2.2 .shut),(128,vI x3)] H fun fr H=>?_
   refine qix (tI .i64) 48 .shut hr H fun x47 hr hx47 fr H=>?_
   refine qg 3 [(132,vB (decide (x47 < x46)))] H fun fr H=>?_
   rcases csplit hr with ⟨hc48,hr⟩ | ⟨hc48,hr⟩
   ·rw [hc48] at H
    refine qg 13 [(145,vB true)] H fun fr H=>?_
    refine qe (qd ?_)
    obtain rfl:=Option.some.inj hr
    exact ⟨rfl,H.tq,K.keep [true,true,true,true,true,true]⟩
   rw [hc48] at H
   refine qg 2 [(133,vL (tI .i64) x2.2 .shut),(134,vI x3)] H fun fr H=>?_
   refine qix (tI .i64) 48 .shut hr H fun x49 hr hx49 fr H=>?_
   refine qg 3 [(138,vB (x49 == 0))] H fun fr H=>?_
   rcases csplit hr with ⟨hc50,hr⟩ | ⟨hc50,hr⟩
   rotate_left
   ·rw [hc50] at H
    refine qg 7 [(145,vB false)] H fun fr H=>?_
    refine qe (qd ?_)
    obtain rfl:=Option.some.inj hr
    exact ⟨rfl,H.tq,K.keep [true,true,true,true,true,true]⟩
   rw [hc50] at H
   refine qg 2 [(139,vL (tI .i64) x2.2 .shut),(140,vI x4)] H fun fr H=>?_
   refine qix (tI .i64) 48 .shut hr H fun x51 hr hx51 fr H=>?_
   refine qg 4 [(145,vB (x51 == 0))] H fun fr H=>?_
   refine qe (qd ?_)
   obtain rfl:=Option.some.inj hr
   exact ⟨rfl,H.tq,K.keep [true,true,true,true,true,true]⟩
  rintro e fr st ⟨rfl,H,K⟩
  rcases csplit hr with ⟨hc53,hr⟩ | ⟨hc53,hr⟩
  rotate_left
  ·refine qF H hc53 ?_
   refine W_skip ?_
   obtain rfl:=Option.some.inj hr
   exact ⟨rfl,H.tq,K.keep [true,true,true,false,false,false]⟩
  refine qT H hc53 ?_
  refine W_drw ?_
  refine qg 2 [(146,vL tS x2.1 .shut),(147,vI x3)] H fun fr H=>?_
  refine qix tS 30 .shut hr H fun x54 hr hx54 fr H=>?_
  refine qg 1 [(149,vS x54)] H fun fr H=>?_
  refine qld 24 0 (aN j22.2.2) 5 H K rfl fun fr H=>?_
  refine qg 2 [(151,vL tS x2.1 .shut),(152,vI x4)] H fun fr H=>?_
  refine qix tS 30 .shut hr H fun x55 hr hx55 fr H=>?_
  refine qg 1 [(154,vS x55)] H fun fr H=>?_
  refine qld 24 0 (aN x6) 4 H K rfl fun fr H=>?_
  refine qld 24 0 (aN x7) 3 H K rfl fun fr H=>?_
  refine qb hr (fun x h s=>F38_R  _ _ _ _ x h (p0:=.shut) (p1:=.shut)) H fun x56 hr fr H=>?_
  refine qb hr (fun x h s=>F38_R  _ _ _ _ x h (p0:=.shut) (p1:=.shut)) H fun x57 hr fr H=>?_
  refine qst 24 0 (aN x57) [vI x57.kind,vS x57.name,vS x57.other,vI x57.n,vI x57.len,vI x57.init,vB x57.ghost,vL tNode x57.kids .shut,vI x57.pos] 0 H K rfl fun st K fr H=>?_
  refine qe (qdI K [0,0,0,0,.look (some 5),0,0,0,0,.look (some 4),.look (some 3),0,0,.put 0] ?_)
  obtain rfl:=Option.some.inj hr
  exact ⟨rfl,H.tq,K.keep [true,true,true,false,false,false]⟩
 rintro e fr st ⟨rfl,H,K⟩
 refine W_seq (W_drw ?_)
 refine qld 24 0 (aN j58) 0 H K rfl fun fr H=>?_
 refine qb hr (fun x h s=>F36_R  _ _ x h) H fun x59 hr fr H=>?_
 refine qb hr (fun x h s=>F36_R  _ _ x h) H fun x60 hr fr H=>?_
 refine qv (.buildSlice 22 3 [(0,aN j58),(1,aN x59),(2,aN x60)]) H (run_bslice (v:=vL tNode ([j58,x59,x60]:List Node) .full) (v0:=.slice [aN j58,aN x59,aN x60] .full) (by kernel_rfl) (by simp only [List.map,vL,tNode_e,eNode_eq,cNode] <;> rfl)) fun fr H=>?_
 refine qg 1 [(163,.agg [vI 6,vS (bs []),vS (bs []),vI 0,vI 0,vI 0,vB false,vL tNode ([j58,x59,x60]:List Node) .shut,vI 0])] H fun fr H=>?_
 refine qal 24 [vI 0,vS (bs []),vS (bs []),vI 0,vI 0,vI 0,vB false,vL tNode ([]:List Node) .nil,vI 0] H K fun id61 st K fr H=>?_
 refine qst 24 0 (.agg [vI 6,vS (bs []),vS (bs []),vI 0,vI 0,vI 0,vB false,vL tNode ([j58,x59,x60]:List Node) .shut,vI 0]) [vI 6,vS (bs []),vS (bs []),vI 0,vI 0,vI 0,vB false,vL tNode ([j58,x59,x60]:List Node) .shut,vI 0] 0 H K rfl fun st K fr H=>?_
 refine qe (qdI K [.look (some 1),0,0,0,0,.keep [1,2,3],.put 0] ?_)
 refine W_seq (W_drw ?_)
 refine qg 2 [(165,vB x1)] H fun fr H=>?_
 rcases csplit hr with ⟨hc62,hr⟩ | ⟨hc62,hr⟩
 rotate_left
 ·rw [hc62] at H
  refine qg 22 [(6,vB false)] H fun fr H=>?_
  refine qe (qd ?_)
  refine W_ret ?_
  obtain rfl:=Option.some.inj hr
  exact qr [vB false] H K
 rw [hc62] at H
 refine qg 1 [(166,vL tDiag x23.2 .shut)] H fun fr H=>?_
 refine qln tDiag 37 x23.2 .shut H fun fr H=>?_
 refine qg 3 [(170,vB ((x23.2.length:Int) == 0))] H fun fr H=>?_
 rcases csplit hr with ⟨hc63,hr⟩ | ⟨hc63,hr⟩
 rotate_left
 ·rw [hc63] at H
  refine qg 17 [(6,vB false)] H fun fr H=>?_
  refine qe (qd ?_)
  refine W_ret ?_
  obtain rfl:=Option.some.inj hr
  exact qr [vB false] H K
 rw [hc63] at H
 refine qg 1 [(171,vL tDiag x26.2 .shut)] H fun fr H=>?_
 refine qln tDiag 37 x26.2 .shut H fun fr H=>?_
 refine qg 3 [(175,vB ((x26.2.length:Int) == 0))] H fun fr H=>?_
 rcases csplit hr with ⟨hc64,hr⟩ | ⟨hc64,hr⟩
 rotate_left
 ·rw [hc64] at H
  refine qg 12 [(6,vB false)] H fun fr H=>?_
  refine qe (qd ?_)
  refine W_ret ?_
  obtain rfl:=Option.some.inj hr
  exact qr [vB false] H K
 rw [hc64] at H
 refine qld 24 0 (aN x23.1) 3 H K rfl fun fr H=>?_
 refine qb hr (fun x h s=>F34_R n _ x h (p0:=.shut)) H fun x65 hr fr H=>?_
 refine qld 24 0 (aN j58) 1 H K rfl fun fr H=>?_
 refine qb hr (fun x h s=>F30_R n _ _ x h (p0:=.shut) (p1:=.shut)) H fun x66 hr fr H=>?_
 refine qg 2 [(181,vB x66)] H fun fr H=>?_
 rcases csplit hr with ⟨hc67,hr⟩ | ⟨hc67,hr⟩
 rotate_left
 ·rw [hc67] at H
  refine qg 6 [(6,vB false)] H fun fr H=>?_
  refine qe (qd ?_)
  refine W_ret ?_
  obtain rfl:=Option.some.inj hr
  exact qr [vB false] H K
 rw [hc67] at H
 refine qld 24 0 (aN x26.1) 2 H K rfl fun fr H=>?_
 refine qb hr (fun x h s=>F34_R n _ x h (p0:=.shut)) H fun x68 hr fr H=>?_
 refine qld 24 0 (.agg [vI 6,vS (bs []),vS (bs []),vI 0,vI 0,vI 0,vB false,vL tNode ([j58,x59,x60]:List Node) .shut,vI 0]) 0 H K rfl fun fr H=>?_
 refine qb hr (fun x h s=>F30_R n _ _ x h (p0:=.shut) (p1:=.shut)) H fun x69 hr fr H=>?_
 refine qg 2 [(6,vB x69)] H fun fr H=>?_
 refine qe (qd ?_)
 refine W_ret ?_
 obtain rfl:=Option.some.inj hr
 exact qr [vB x69] H K
end Go.Proofs.YtbecjgckobhmpaaGreatDoor
end
