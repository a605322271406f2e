/-
  Proved here: a part of what the claim needs (texts YQ12 YQ13 YBL1 YBW1 YW4 YBR1 of the prover's own).
-/
import Derived.Test.YtbecjgckobhmpaaGreatDoorRE05
section
namespace Go.Proofs.YtbecjgckobhmpaaGreatDoor
open Go Go.AM Go.Proofs
set_option maxRecDepth 100000
set_option maxHeartbeats 4000000
def F24 (n:Nat) :Option Bool :=
 (F55 n (bs [97,32,43,32,98])).bind fun x1 =>
 (F29 n (bs [97,32,43,32,98,32,42,32,99,32,61,61,32,100,32,38,38,32,33,101])).bind fun x2 =>
 (F36 (bs [97]) (0:Int)).bind fun x4 =>
 (F36 (bs [98]) (4:Int)).bind fun x5 =>
 (F36 (bs [99]) (8:Int)).bind fun x6 =>
 (F38 (bs [42]) (6:Int) x5 x6).bind fun x7 =>
 (F38 (bs [43]) (2:Int) x4 x7).bind fun x8 =>
 (F36 (bs [100]) (13:Int)).bind fun x10 =>
 (F38 (bs [61,61]) (10:Int) x8 x10).bind fun x11 =>
 (F36 (bs [101]) (19:Int)).bind fun x12 =>
 (F38 (bs [38,38]) (15:Int) x11 (Node.mk 4 (bs []) (bs []) 0 0 0 false ([x12]:List Node) 18)).bind fun x13 =>
 (F29 n (bs [97,32,61,61,32,98,32,61,61,32,99])).bind fun x15 =>
 (F25 n (bs [109,111,100,117,108,101,32,77,32,111,119,110,101,114,32,65,32,123,32,115,104,97,114,101,100,32,120,32,58,32,59,32,115,104,97,114,101,100,32,121,32,58,32,49,59,32,125])).bind fun x17 =>
 (F25 n (bs [116,104,114,101,97,100,32,116,32,61,32,77,46,112,40,49])).bind fun x21 =>
 (bif x1.2.1 == 0 then
   (bif (x1.1.length:Int) == 3 then
    (bif (x2.2.length:Int) == 0 then
     ((F30 n x2.1 x13).bind fun x26 =>
     bif x26 then
      ((F37 n x15.2 (20:Int) (7:Int)).bind fun x28 =>
      bif x28 then
       ((F37 n x17.2 (20:Int) (30:Int)).bind fun x30 =>
       bif x30 then
        ((F30 n x17.1 (Node.mk 62 (bs []) (bs []) 0 0 0 false ([(Node.mk 60 (bs [77]) (bs [65]) 0 0 0 false ([(Node.mk 50 (bs [121]) (bs []) 1 0 0 false ([]:List Node) 32)]:List Node) 0)]:List Node) 0)).bind fun x32 =>
        some x32)
       else
        (some false))
      else
       (some false))
     else
      (some false))
    else
     (some false))
   else
    (some false))
  else
   (some false):Option (Bool)).bind fun j33 =>
 (bif j33 then
   ((F37 n x21.2 (21:Int) (16:Int)).bind fun x35 =>
   bif x35 then
    (bif x21.1.kind == 62 then
     (some ((x21.1.kids.length:Int) == 0))
    else
     (some false))
   else
    (some false))
  else
   (some false):Option (Bool)).bind fun j38 =>
 bif j38 then
  ((F28 n x13).bind fun x40 =>
  bif x40 then
   ((F28 n (Node.mk 62 (bs []) (bs []) 0 0 0 false ([(Node.mk 60 (bs [77]) (bs [65]) 0 0 0 false ([(Node.mk 50 (bs [121]) (bs []) 1 0 0 false ([]:List Node) 32)]:List Node) 0)]:List Node) 0)).bind fun x42 =>
   bif x42 then
    ((F28 n (Node.mk 50 (bs [121]) (bs []) 1 0 0 false ([]:List Node) 32)).bind fun x44 =>
    bif !x44 then
     ((F36 (bs [120]) (7:Int)).bind fun x46 =>
     (stripLeafF x46).bind fun x47 =>
     (F36 (bs [120]) (0:Int)).bind fun x48 =>
     (F30 n x47 x48).bind fun x49 =>
     some x49)
    else
     (some false))
   else
    (some false))
  else
   (some false))
 else
  (some false)
theorem F24_R (n:Nat)  (r:Bool) (hr:F24 n  = some r) {st:St}:R Tryz.prog AN 24 [] st (.ret (vB r)) st:=by
 unfold F24 at hr
 refine R_pureX [] [] Tryz.func24 rfl (by kernel_rfl) rfl fun fr st H K=>?_
 refine W_seq (W_reg ?_)
 refine qg 1 [] H fun fr H=>?_
 refine qe ?_
 refine W_seq (W_reg ?_)
 refine qb hr (fun x h s=>F55_R n _ x h) H fun x1 hr fr H=>?_
 refine qg 7 [(1,vL tToken x1.1 .shut),(2,vI x1.2.1)] H fun fr H=>?_
 refine qe ?_
 refine W_seq (W_reg ?_)
 refine qb hr (fun x h s=>F29_R n _ x h) H fun x2 hr fr H=>?_
 refine qg 3 [(24,aN x2.1),(25,vL tDiag x2.2 .shut)] H fun fr H=>?_
 refine qal 24 [vI 0,vS (bs []),vS (bs []),vI 0,vI 0,vI 0,vB false,vL tNode ([]:List Node) .nil,vI 0] H K fun id3 st K fr H=>?_
 refine qst 24 0 (aN x2.1) [vI x2.1.kind,vS x2.1.name,vS x2.1.other,vI x2.1.n,vI x2.1.len,vI x2.1.init,vB x2.1.ghost,vL tNode x2.1.kids .shut,vI x2.1.pos] 0 H K rfl fun st K fr H=>?_
 refine qg 1 [(5,vL tDiag x2.2 .shut)] H fun fr H=>?_
 refine qe ?_
 refine W_seq (W_reg ?_)
 refine qb hr (fun x h s=>F36_R  _ _ x h) H fun x4 hr fr H=>?_
 refine qb hr (fun x h s=>F36_R  _ _ x h) H fun x5 hr fr H=>?_
 refine qb hr (fun x h s=>F36_R  _ _ x h) H fun x6 hr fr H=>?_
 refine qb hr (fun x h s=>F38_R  _ _ _ _ x h (p0:=.shut) (p1:=.shut)) H fun x7 hr fr H=>?_
 refine qb hr (fun x h s=>F38_R  _ _ _ _ x h (p0:=.shut) (p1:=.shut)) H fun x8 hr fr H=>?_
 refine qal 24 [vI 0,vS (bs []),vS (bs []),vI 0,vI 0,vI 0,vB false,vL tNode ([]:List Node) .nil,vI 0] H K fun id9 st K fr H=>?_
 refine qst 24 0 (aN x8) [vI x8.kind,vS x8.name,vS x8.other,vI x8.n,vI x8.len,vI x8.init,vB x8.ghost,vL tNode x8.kids .shut,vI x8.pos] 0 H K rfl fun st K fr H=>?_
 refine qe ?_
 refine W_seq (W_drw ?_)
 refine qld 24 0 (aN x8) 0 H K rfl fun fr H=>?_
 refine qb hr (fun x h s=>F36_R  _ _ x h) H fun x10 hr fr H=>?_
 refine qb hr (fun x h s=>F38_R  _ _ _ _ x h (p0:=.shut) (p1:=.shut)) H fun x11 hr fr H=>?_
 refine qb hr (fun x h s=>F36_R  _ _ x h) H fun x12 hr fr H=>?_
 refine qv (.buildSlice 22 1 [(0,aN x12)]) H (run_bslice (v:=vL tNode ([x12]:List Node) .full) (v0:=.slice [aN x12] .full) (by kernel_rfl) (by simp only [List.map,vL,tNode_e,eNode_eq,cNode] <;> rfl)) fun fr H=>?_
 refine qg 1 [(36,.agg [vI 4,vS (bs []),vS (bs []),vI 0,vI 0,vI 0,vB false,vL tNode ([x12]:List Node) .shut,vI 18])] H fun fr H=>?_
 refine qb hr (fun x h s=>F38_R  _ _ _ _ x h (p0:=.shut) (p1:=.shut)) H fun x13 hr fr H=>?_
 refine qal 24 [vI 0,vS (bs []),vS (bs []),vI 0,vI 0,vI 0,vB false,vL tNode ([]:List Node) .nil,vI 0] H K fun id14 st K fr H=>?_
 refine qst 24 0 (aN x13) [vI x13.kind,vS x13.name,vS x13.other,vI x13.n,vI x13.len,vI x13.init,vB x13.ghost,vL tNode x13.kids .shut,vI x13.pos] 0 H K rfl fun st K fr H=>?_
 refine qe (qdI K [.look (some 1),0,0,0,0,0,0,.keep [1,2],.put 0] ?_)
 refine W_seq (W_reg ?_)
 refine qb hr (fun x h s=>F29_R n _ x h) H fun x15 hr fr H=>?_
 refine qg 3 [(40,aN x15.1),(41,vL tDiag x15.2 .shut)] H fun fr H=>?_
 refine qal 24 [vI 0,vS (bs []),vS (bs []),vI 0,vI 0,vI 0,vB false,vL tNode ([]:List Node) .nil,vI 0] H K fun id16 st K fr H=>?_
 refine qst 24 0 (aN x15.1) [vI x15.1.kind,vS x15.1.name,vS x15.1.other,vI x15.1.n,vI x15.1.len,vI x15.1.init,vB x15.1.ghost,vL tNode x15.1.kids .shut,vI x15.1.pos] 0 H K rfl fun st K fr H=>?_
 refine qg 1 [(9,vL tDiag x15.2 .shut)] H fun fr H=>?_
 refine qe ?_
 refine W_seq (W_reg ?_)
 refine qb hr (fun x h s=>F25_R n _ x h) H fun x17 hr fr H=>?_
 refine qg 3 [(44,aN x17.1),(45,vL tDiag x17.2 .shut)] H fun fr H=>?_
 refine qal 24 [vI 0,vS (bs []),vS (bs []),vI 0,vI 0,vI 0,vB false,vL tNode ([]:List Node) .nil,vI 0] H K fun id18 st K fr H=>?_
 refine qst 24 0 (aN x17.1) [vI x17.1.kind,vS x17.1.name,vS x17.1.other,vI x17.1.n,vI x17.1.len,vI x17.1.init,vB x17.1.ghost,vL tNode x17.1.kids .shut,vI x17.1.pos] 0 H K rfl fun st K fr H=>?_
 refine qg 1 [(11,vL tDiag x17.2 .shut)] H fun fr H=>?_
 refine qe ?_
 refine W_seq (W_reg ?_)
 refine qg 1 [(46,.agg [vI 50,vS (bs [121]),vS (bs []),vI 1,vI 0,vI 0,vB false,vL tNode ([]:List Node) .nil,vI 32])] H fun fr H=>?_
 refine qal 24 [vI 0,vS (bs []),vS (bs []),vI 0,vI 0,vI 0,vB false,vL tNode ([]:List Node) .nil,vI 0] H K fun id19 st K fr H=>?_
 refine qst 24 0 (.agg [vI 50,vS (bs [121]),vS (bs []),vI 1,vI 0,vI 0,vB false,vL tNode ([]:List Node) .nil,vI 32]) [vI 50,vS (bs [121]),vS (bs []),vI 1,vI 0,vI 0,vB false,vL tNode ([]:List Node) .nil,vI 32] 0 H K rfl fun st K fr H=>?_
 refine qe ?_
 refine W_seq (W_reg ?_)
 refine qld 24 0 (.agg [vI 50,vS (bs [121]),vS (bs []),vI 1,vI 0,vI 0,vB false,vL tNode ([]:List Node) .shut,vI 32]) 0 H K rfl fun fr H=>?_
 refine qv (.buildSlice 22 1 [(0,.agg [vI 50,vS (bs [121]),vS (bs []),vI 1,vI 0,vI 0,vB false,vL tNode ([]:List Node) .shut,vI 32])]) H (run_bslice (v:=vL tNode ([(Node.mk 50 (bs [121]) (bs []) 1 0 0 false ([]:List Node) 32)]:List Node) .full) (v0:=.slice [.agg [vI 50,vS (bs [121]),vS (bs []),vI 1,vI 0,vI 0,vB false,vL tNode ([]:List Node) .shut,vI 32]] .full) (by kernel_rfl) (by simp only [List.map,vL,tNode_e,eNode_eq,cNode] <;> rfl)) fun fr H=>?_
 refine qg 1 [(49,.agg [vI 60,vS (bs [77]),vS (bs [65]),vI 0,vI 0,vI 0,vB false,vL tNode ([(Node.mk 50 (bs [121]) (bs []) 1 0 0 false ([]:List Node) 32)]:List Node) .shut,vI 0])] H fun fr H=>?_
 refine qv (.buildSlice 22 1 [(0,.agg [vI 60,vS (bs [77]),vS (bs [65]),vI 0,vI 0,vI 0,vB false,vL tNode ([(Node.mk 50 (bs [121]) (bs []) 1 0 0 false ([]:List Node) 32)]:List Node) .shut,vI 0])]) H (run_bslice (v:=vL tNode ([(Node.mk 60 (bs [77]) (bs [65]) 0 0 0 false ([(Node.mk 50 (bs [121]) (bs []) 1 0 0 false ([]:List Node) 32)]:List Node) 0)]:List Node) .full) (v0:=.slice [.agg [vI 60,vS (bs [77]),vS (bs [65]),vI 0,vI 0,vI 0,vB false,vL tNode ([(Node.mk 50 (bs [121]) (bs []) 1 0 0 false ([]:List Node) 32)]:List Node) .shut,vI 0]] .full) (by kernel_rfl) (by simp only [List.map,vL,tNode_e,eNode_eq,cNode] <;> rfl)) fun fr H=>?_
 refine qg 1 [(51,.agg [vI 62,vS (bs []),vS (bs []),vI 0,vI 0,vI 0,vB false,vL tNode ([(Node.mk 60 (bs [77]) (bs [65]) 0 0 0 false ([(Node.mk 50 (bs [121]) (bs []) 1 0 0 false ([]:List Node) 32)]:List Node) 0)]:List Node) .shut,vI 0])] H fun fr H=>?_
 refine qal 24 [vI 0,vS (bs []),vS (bs []),vI 0,vI 0,vI 0,vB false,vL tNode ([]:List Node) .nil,vI 0] H K fun id20 st K fr H=>?_
 refine qst 24 0 (.agg [vI 62,vS (bs []),vS (bs []),vI 0,vI 0,vI 0,vB false,vL tNode ([(Node.mk 60 (bs [77]) (bs [65]) 0 0 0 false ([(Node.mk 50 (bs [121]) (bs []) 1 0 0 false ([]:List Node) 32)]:List Node) 0)]:List Node) .shut,vI 0]) [vI 62,vS (bs []),vS (bs []),vI 0,vI 0,vI 0,vB false,vL tNode ([(Node.mk 60 (bs [77]) (bs [65]) 0 0 0 false ([(Node.mk 50 (bs [121]) (bs []) 1 0 0 false ([]:List Node) 32)]:List Node) 0)]:List Node) .shut,vI 0] 0 H K rfl fun st K fr H=>?_
 refine qe ?_
 refine W_seq (W_reg ?_)
 refine qb hr (fun x h s=>F25_R n _ x h) H fun x21 hr fr H=>?_
 refine qg 3 [(54,aN x21.1),(55,vL tDiag x21.2 .shut)] H fun fr H=>?_
 refine qal 24 [vI 0,vS (bs []),vS (bs []),vI 0,vI 0,vI 0,vB false,vL tNode ([]:List Node) .nil,vI 0] H K fun id22 st K fr H=>?_
 refine qst 24 0 (aN x21.1) [vI x21.1.kind,vS x21.1.name,vS x21.1.other,vI x21.1.n,vI x21.1.len,vI x21.1.init,vB x21.1.ghost,vL tNode x21.1.kids .shut,vI x21.1.pos] 0 H K rfl fun st K fr H=>?_
 refine qg 1 [(15,vL tDiag x21.2 .shut)] H fun fr H=>?_
 refine qe ?_
 refine W_seq ?_
 obtain ⟨j33,hj33,hr⟩:=obind hr
 refine W_via (fun e fr st=>e = .normal∧Rd fr [(7,.ptr id14 0),(12,.ptr id19 0),(13,.ptr id20 0),(14,.ptr id22 0),(15,vL tDiag x21.2 .shut),(16,vB j33)]∧HL st [.obj id22 (.cells 24 [vI x21.1.kind,vS x21.1.name,vS x21.1.other,vI x21.1.n,vI x21.1.len,vI x21.1.init,vB x21.1.ghost,vL tNode x21.1.kids .shut,vI x21.1.pos]),.obj id20 (.cells 24 [vI 62,vS (bs []),vS (bs []),vI 0,vI 0,vI 0,vB false,vL tNode ([(Node.mk 60 (bs [77]) (bs [65]) 0 0 0 false ([(Node.mk 50 (bs [121]) (bs []) 1 0 0 false ([]:List Node) 32)]:List Node) 0)]:List Node) .shut,vI 0]),.obj id19 (.cells 24 [vI 50,vS (bs [121]),vS (bs []),vI 1,vI 0,vI 0,vB false,vL tNode ([]:List Node) .nil,vI 32]),.obj id14 (.cells 24 [vI x13.kind,vS x13.name,vS x13.other,vI x13.n,vI x13.len,vI x13.init,vB x13.ghost,vL tNode x13.kids .shut,vI x13.pos])]) ?_ ?_
 ·replace hr:=hj33
  refine W_reg ?_
  refine qg 3 [(58,vB (x1.2.1 == 0))] H fun fr H=>?_
  rcases csplit hr with ⟨hc23,hr⟩ | ⟨hc23,hr⟩
  rotate_left
  ·rw [hc23] at H
   refine qg 28 [(16,vB false)] H fun fr H=>?_
   refine qe ?_
   obtain rfl:=Option.some.inj hr
   exact ⟨rfl,H.tq,K.keep [true,true,true,false,false,true,false,false]⟩
  rw [hc23] at H
  refine qg 1 [(59,vL tToken x1.1 .shut)] H fun fr H=>?_
  refine qln tToken 56 x1.1 .shut H fun fr H=>?_
  refine qg 3 [(63,vB ((x1.1.length:Int) == 3))] H fun fr H=>?_
  rcases csplit hr with ⟨hc24,hr⟩ | ⟨hc24,hr⟩
  rotate_left
  ·rw [hc24] at H
   refine qg 23 [(16,vB false)] H fun fr H=>?_
   refine qe ?_
   obtain rfl:=Option.some.inj hr
   exact ⟨rfl,H.tq,K.keep [true,true,true,false,false,true,false,false]⟩
  rw [hc24] at H
  refine qg 1 [(64,vL tDiag x2.2 .shut)] H fun fr H=>?_
  refine qln tDiag 37 x2.2 .shut H fun fr H=>?_
  refine qg 3 [(68,vB ((x2.2.length:Int) == 0))] H fun fr H=>?_
  rcases csplit hr with ⟨hc25,hr⟩ | ⟨hc25,hr⟩
  rotate_left
  ·rw [hc25] at H
   refine qg 18 [(16,vB false)] H fun fr H=>?_
   refine qe ?_
   obtain rfl:=Option.some.inj hr
   exact ⟨rfl,H.tq,K.keep [true,true,true,false,false,true,false,false]⟩
  rw [hc25] at H
  refine qld 24 0 (aN x2.1) 7 H K rfl fun fr H=>?_
  refine qld 24 0 (aN x13) 5 H K rfl fun fr H=>?_
  refine qb hr (fun x h s=>F30_R n _ _ x h (p0:=.shut) (p1:=.shut)) H fun x26 hr fr H=>?_
  refine qg 2 [(73,vB x26)] H fun fr H=>?_
  rcases csplit hr with ⟨hc27,hr⟩ | ⟨hc27,hr⟩
  rotate_left
  ·rw [hc27] at H
   refine qg 13 [(16,vB false)] H fun fr H=>?_
   refine qe ?_
   obtain rfl:=Option.some.inj hr
   exact ⟨rfl,H.tq,K.keep [true,true,true,false,false,true,false,false]⟩
  rw [hc27] at H
  refine qg 1 [(74,vL tDiag x15.2 .shut)] H fun fr H=>?_
  refine qb hr (fun x h s=>F37_R n _ _ _ x h (p0:=.shut)) H fun x28 hr fr H=>?_
  refine qg 2 [(77,vB x28)] H fun fr H=>?_
  rcases csplit hr with ⟨hc29,hr⟩ | ⟨hc29,hr⟩
  rotate_left
  ·rw [hc29] at H
   refine qg 9 [(16,vB false)] H fun fr H=>?_
   refine qe ?_
   obtain rfl:=Option.some.inj hr
   exact ⟨rfl,H.tq,K.keep [true,true,true,false,false,true,false,false]⟩
  rw [hc29] at H
  refine qg 1 [(78,vL tDiag x17.2 .shut)] H fun fr H=>?_
  refine qb hr (fun x h s=>F37_R n _ _ _ x h (p0:=.shut)) H fun x30 hr fr H=>?_
  refine qg 2 [(81,vB x30)] H fun fr H=>?_
  rcases csplit hr with ⟨hc31,hr⟩ | ⟨hc31,hr⟩
  rotate_left
  ·rw [hc31] at H
   refine qg 5 [(16,vB false)] H fun fr H=>?_
   refine qe ?_
   obtain rfl:=Option.some.inj hr
   exact ⟨rfl,H.tq,K.keep [true,true,true,false,false,true,false,false]⟩
  rw [hc31] at H
  refine qld 24 0 (aN x17.1) 3 H K rfl fun fr H=>?_
  refine qld 24 0 (.agg [vI 62,vS (bs []),vS (bs []),vI 0,vI 0,vI 0,vB false,vL tNode ([(Node.mk 60 (bs [77]) (bs [65]) 0 0 0 false ([(Node.mk 50 (bs [121]) (bs []) 1 0 0 false ([]:List Node) 32)]:List Node) 0)]:List Node) .shut,vI 0]) 1 H K rfl fun fr H=>?_
  refine qb hr (fun x h s=>F30_R n _ _ x h (p0:=.shut) (p1:=.shut)) H fun x32 hr fr H=>?_
  refine qg 2 [(16,vB x32)] H fun fr H=>?_
  refine qe ?_
  obtain rfl:=Option.some.inj hr
  exact ⟨rfl,H.tq,K.keep [true,true,true,false,false,true,false,false]⟩
 rintro e fr st ⟨rfl,H,K⟩
 refine W_seq ?_
 obtain ⟨j38,hj38,hr⟩:=obind hr
 refine W_via (fun e fr st=>e = .normal∧Rd fr [(7,.ptr id14 0),(12,.ptr id19 0),(13,.ptr id20 0),(16,vB j38)]∧HL st [.obj id20 (.cells 24 [vI 62,vS (bs []),vS (bs []),vI 0,vI 0,vI 0,vB false,vL tNode ([(Node.mk 60 (bs [77]) (bs [65]) 0 0 0 false ([(Node.mk 50 (bs [121]) (bs []) 1 0 0 false ([]:List Node) 32)]:List Node) 0)]:List Node) .shut,vI 0]),.obj id19 (.cells 24 [vI 50,vS (bs [121]),vS (bs []),vI 1,vI 0,vI 0,vB false,vL tNode ([]:List Node) .nil,vI 32]),.obj id14 (.cells 24 [vI x13.kind,vS x13.name,vS x13.other,vI x13.n,vI x13.len,vI x13.init,vB x13.ghost,vL tNode x13.kids .shut,vI x13.pos])]) ?_ ?_
 ·replace hr:=hj38
  refine W_reg ?_
  refine qg 2 [(87,vB j33)] H fun fr H=>?_
  rcases csplit hr with ⟨hc34,hr⟩ | ⟨hc34,hr⟩
  rotate_left
  ·rw [hc34] at H
   refine qg 15 [(16,vB false)] H fun fr H=>?_
   refine qe ?_
   obtain rfl:=Option.some.inj hr
   exact ⟨rfl,H.tq,K.keep [false,true,true,true]⟩
  rw [hc34] at H
  refine qg 1 [(88,vL tDiag x21.2 .shut)] H fun fr H=>?_
  refine qb hr (fun x h s=>F37_R n _ _ _ x h (p0:=.shut)) H fun x35 hr fr H=>?_
  refine qg 2 [(91,vB x35)] H fun fr H=>?_
  rcases csplit hr with ⟨hc36,hr⟩ | ⟨hc36,hr⟩
  rotate_left
  ·rw [hc36] at H
   refine qg 11 [(16,vB false)] H fun fr H=>?_
   refine qe ?_
   obtain rfl:=Option.some.inj hr
   exact ⟨rfl,H.tq,K.keep [false,true,true,true]⟩
  rw [hc36] at H
  refine qg 1 [(92,.ptr id22 0)] H fun fr H=>?_
  refine qld 3 0 (vI x21.1.kind) 0 H K rfl fun fr H=>?_
  refine qg 3 [(96,vB (x21.1.kind == 62))] H fun fr H=>?_
  rcases csplit hr with ⟨hc37,hr⟩ | ⟨hc37,hr⟩
  rotate_left
  ·rw [hc37] at H
   refine qg 6 [(16,vB false)] H fun fr H=>?_
   refine qe ?_
   obtain rfl:=Option.some.inj hr
   exact ⟨rfl,H.tq,K.keep [false,true,true,true]⟩
  rw [hc37] at H
  refine qg 1 [(97,.ptr id22 7)] H fun fr H=>?_
  refine qld 22 7 (vL tNode x21.1.kids .shut) 0 H K rfl fun fr H=>?_
  refine qln tNode 22 x21.1.kids .shut H fun fr H=>?_
  refine qg 3 [(16,vB ((x21.1.kids.length:Int) == 0))] H fun fr H=>?_
  refine qe ?_
  obtain rfl:=Option.some.inj hr
  exact ⟨rfl,H.tq,K.keep [false,true,true,true]⟩
 rintro e fr st ⟨rfl,H,K⟩
 refine W_seq (W_reg ?_)
 refine qg 2 [(103,vB j38)] H fun fr H=>?_
 rcases csplit hr with ⟨hc39,hr⟩ | ⟨hc39,hr⟩
 rotate_left
 ·rw [hc39] at H
  refine qg 19 [(0,vB false)] H fun fr H=>?_
  refine qe ?_
  refine W_ret ?_
  obtain rfl:=Option.some.inj hr
  exact qr [vB false] H K
 rw [hc39] at H
 refine qld 24 0 (aN x13) 2 H K rfl fun fr H=>?_
 refine qb hr (fun x h s=>F28_R n _ x h (p0:=.shut)) H fun x40 hr fr H=>?_
 refine qg 2 [(107,vB x40)] H fun fr H=>?_
 rcases csplit hr with ⟨hc41,hr⟩ | ⟨hc41,hr⟩
 rotate_left
 ·rw [hc41] at H
  refine qg 15 [(0,vB false)] H fun fr H=>?_
  refine qe ?_
  refine W_ret ?_
  obtain rfl:=Option.some.inj hr
  exact qr [vB false] H K
 rw [hc41] at H
 refine qld 24 0 (.agg [vI 62,vS (bs []),vS (bs []),vI 0,vI 0,vI 0,vB false,vL tNode ([(Node.mk 60 (bs [77]) (bs [65]) 0 0 0 false ([(Node.mk 50 (bs [121]) (bs []) 1 0 0 false ([]:List Node) 32)]:List Node) 0)]:List Node) .shut,vI 0]) 0 H K rfl fun fr H=>?_
 refine qb hr (fun x h s=>F28_R n _ x h (p0:=.shut)) H fun x42 hr fr H=>?_
 refine qg 2 [(111,vB x42)] H fun fr H=>?_
 rcases csplit hr with ⟨hc43,hr⟩ | ⟨hc43,hr⟩
 rotate_left
 ·rw [hc43] at H
  refine qg 11 [(0,vB false)] H fun fr H=>?_
  refine qe ?_
  refine W_ret ?_
  obtain rfl:=Option.some.inj hr
  exact qr [vB false] H K
 rw [hc43] at H
 refine qld 24 0 (.agg [vI 50,vS (bs [121]),vS (bs []),vI 1,vI 0,vI 0,vB false,vL tNode ([]:List Node) .shut,vI 32]) 1 H K rfl fun fr H=>?_
 refine qb hr (fun x h s=>F28_R n _ x h (p0:=.shut)) H fun x44 hr fr H=>?_
 refine qg 3 [(116,vB !x44)] H fun fr H=>?_
 rcases csplit hr with ⟨hc45,hr⟩ | ⟨hc45,hr⟩
 rotate_left
 ·rw [hc45] at H
  refine qg 6 [(0,vB false)] H fun fr H=>?_
  refine qe ?_
  refine W_ret ?_
  obtain rfl:=Option.some.inj hr
  exact qr [vB false] H K
 rw [hc45] at H
 refine qb hr (fun x h s=>F36_R  _ _ x h) H fun x46 hr fr H=>?_
 refine qb hr (fun x h s=>stripLeaf_R _ x h (sp:=.shut)) H fun x47 hr fr H=>?_
 refine qb hr (fun x h s=>F36_R  _ _ x h) H fun x48 hr fr H=>?_
 refine qb hr (fun x h s=>F30_R n _ _ x h (p0:=.shut) (p1:=.shut)) H fun x49 hr fr H=>?_
 refine qg 2 [(0,vB x49)] H fun fr H=>?_
 refine qe ?_
 refine W_ret ?_
 obtain rfl:=Option.some.inj hr
 exact qr [vB x49] H K
def F60_step (F60:Node→Int→Option Int) (n:Nat) (a0:Node) (a1:Int):Option Int :=
 (iter (σ:=Int × Int) (ρ:=Int) (fun s1=>bif (decide (s1.2 < (a0.kids.length:Int))) && (decide (s1.1≤a1)) then
   ((idxL a0.kids s1.2).bind fun x3 =>
   (F60 x3 (w64 (a1 - s1.1))).bind fun x4 =>
   some (.inl (w64 (s1.1 + x4),w64 (s1.2 + 1))))
  else
   (some (.inr s1.1))) n ((1:Int),(0:Int))).bind fun r5 =>
 some r5
def F60:Nat→Node→Int→Option Int
 | 0,_,_=>none
 | n + 1,a0,a1=>F60_step (F60 n) n a0 a1
theorem F60_RR (n:Nat):(∀ (a0:Node) (a1:Int) (r:Int),F60 n a0 a1 = some r→∀ {st:St} {p0:Spare},R Tryz.prog AN 60 [.agg (cNode p0 a0),vI a1] st (.ret (vI r)) st):=by
 induction n with
 | zero=>(intros; contradiction)
 | succ n ih =>
  have ih_F60:=@ih; clear ih
  intro a0 a1 r hr st p0
  change F60_step (F60 n) n a0 a1 = some r at hr
  unfold F60_step at hr
  refine R_pureX [aN a0,vI a1] [(0,aN a0),(1,vI a1)] Tryz.func60 rfl (by simp only [strip,stripL,stripL_cNode,Option.bind_some,Option.map_some]) rfl fun fr st H K=>?_
  refine W_seq (W_reg ?_)
  refine qg 2 [(2,cN a0 0)] H fun fr H=>?_
  refine qe ?_
  refine W_seq (W_reg ?_)
  refine qg 1 [(5,vI 1)] H fun fr H=>?_
  refine qe ?_
  refine W_seq (W_seq ?_)
  refine W_reg ?_
  refine qg 1 [(6,vI 0)] H fun fr H=>?_
  refine qe ?_
  refine W_block ?_
  obtain ⟨r5,hr5,hr⟩:=obind hr
  refine W_iter hr5 (fun (s1:Int × Int) fr st=>Rd fr [(1,vI a1),(2,cN a0 0),(5,vI s1.1),(6,vI s1.2)]∧HL st []) (fun (r5:Int) e fr st=>e = .exit 0∧Rd fr [(5,vI r5)]∧HL st []) ⟨H.tq,K.keep []⟩ ?_ ?_
  ·intro s1 fr st r hi hr
   obtain ⟨H,K⟩:=hi
   refine W_seq (W_seq ?_)
   refine W_reg ?_
   refine qg 3 [(7,vI s1.2),(9,vL tNode a0.kids .shut)] H fun fr H=>?_
   refine qln tNode 22 a0.kids .shut H fun fr H=>?_
   refine qg 2 [(12,vB (decide (s1.2 < (a0.kids.length:Int))))] H fun fr H=>?_
   refine qg 4 [(16,vB ((decide (s1.2 < (a0.kids.length:Int))) && (decide (s1.1≤a1))))] H (hs:=by intro _ _; generalize (decide (s1.2 < (a0.kids.length:Int))) = b0; cases b0 <;> kernel_rfl) fun fr H=>?_
   refine qe ?_
   rcases csplit hr with ⟨hc2,hr⟩ | ⟨hc2,hr⟩
   rotate_left
   ·refine qF H hc2 ?_
    refine W_exit ?_
    obtain rfl:=Option.some.inj hr
    exact ⟨by simp,⟨rfl,H.tq,K.keep []⟩⟩
   refine qT H hc2 ?_
   refine W_skip ?_
   refine W_seq (W_block ?_)
   refine W_reg ?_
   refine qg 4 [(19,vI s1.1),(21,vL tNode a0.kids .shut),(22,vI s1.2)] H fun fr H=>?_
   refine qix tNode 22 .shut hr H fun x3 hr hx3 fr H=>?_
   refine qg 4 [(24,aN x3),(27,vI (w64 (a1 - s1.1)))] H fun fr H=>?_
   refine qb hr (fun x h s=>ih_F60 _ _ x h (p0:=.shut)) H fun x4 hr fr H=>?_
   refine qg 2 [(5,vI (w64 (s1.1 + x4)))] H fun fr H=>?_
   refine qe ?_
   refine W_reg ?_
   refine qg 3 [(6,vI (w64 (s1.2 + 1)))] H fun fr H=>?_
   refine qe ?_
   obtain rfl:=Option.some.inj hr
   exact ⟨rfl,⟨H.tq,K.keep []⟩⟩
  rintro e fr st ⟨rfl,H,K⟩
  refine W_seq (W_reg ?_)
  refine qg 2 [(4,vI r5)] H fun fr H=>?_
  refine qe ?_
  refine W_ret ?_
  obtain rfl:=Option.some.inj hr
  exact qr [vI r5] H K
theorem F60_R (n:Nat) (a0:Node) (a1:Int) (r:Int) (hr:F60 n a0 a1 = some r) {st:St} {p0:Spare}:R Tryz.prog AN 60 [.agg (cNode p0 a0),vI a1] st (.ret (vI r)) st:=(F60_RR n) a0 a1 r hr
def F26 (n:Nat) (a0:Node) (a1:Int):Option Bool :=
 (F60 n a0 a1).bind fun x1 =>
 some (decide (x1≤a1))
theorem F26_R (n:Nat) (a0:Node) (a1:Int) (r:Bool) (hr:F26 n a0 a1 = some r) {st:St} {p0:Spare}:R Tryz.prog AN 26 [.agg (cNode p0 a0),vI a1] st (.ret (vB r)) st:=by
 unfold F26 at hr
 refine R_pureX [aN a0,vI a1] [(0,aN a0),(1,vI a1)] Tryz.func26 rfl (by simp only [strip,stripL,stripL_cNode,Option.bind_some,Option.map_some]) rfl fun fr st H K=>?_
 refine W_seq (W_reg ?_)
 refine qg 2 [(2,cN a0 0)] H fun fr H=>?_
 refine qe ?_
 refine W_seq (W_reg ?_)
 refine qg 2 [(5,aN a0),(6,vI a1)] H fun fr H=>?_
 refine qb hr (fun x h s=>F60_R n _ _ x h (p0:=.shut)) H fun x1 hr fr H=>?_
 refine qg 3 [(4,vB (decide (x1≤a1)))] H fun fr H=>?_
 refine qe ?_
 refine W_ret ?_
 obtain rfl:=Option.some.inj hr
 exact qr [vB (decide (x1≤a1))] H K
def F34_step (F34:Node→Option Node) (n:Nat) (a0:Node):Option Node :=
 (iter (σ:=Int × Node) (ρ:=Node) (fun s3=>bif decide (s3.1 < (a0.kids.length:Int)) then
   ((idxL a0.kids s3.1).bind fun x5 =>
   (F34 x5).bind fun x6 =>
   (appL 104 s3.2.kids ([x6]:List Node)).bind fun x7 =>
   some (.inl (w64 (s3.1 + 1),(Node.mk s3.2.kind s3.2.name s3.2.other s3.2.n s3.2.len s3.2.init s3.2.ghost x7 s3.2.pos))))
  else
   (some (.inr s3.2))) n ((0:Int),(Node.mk a0.kind a0.name a0.other a0.n a0.len a0.init a0.ghost ([]:List Node) 0))).bind fun r9 =>
 some r9
def F34:Nat→Node→Option Node
 | 0,_=>none
 | n + 1,a0=>F34_step (F34 n) n a0
theorem F34_RR (n:Nat):(∀ (a0:Node) (r:Node),F34 n a0 = some r→∀ {st:St} {p0:Spare},R Tryz.prog AN 34 [.agg (cNode p0 a0)] st (.ret (aN r)) st):=by
 induction n with
 | zero=>(intros; contradiction)
 | succ n ih =>
  have ih_F34:=@ih; clear ih
  intro a0 r hr st p0
  change F34_step (F34 n) n a0 = some r at hr
  unfold F34_step at hr
  refine R_pureX [aN a0] [(0,aN a0)] Tryz.func34 rfl (by simp only [strip,stripL,stripL_cNode,Option.bind_some,Option.map_some]) rfl fun fr st H K=>?_
  refine W_seq (W_reg ?_)
  refine qg 1 [(1,cN a0 0)] H fun fr H=>?_
  refine qal 24 [vI 0,vS (bs []),vS (bs []),vI 0,vI 0,vI 0,vB false,vL tNode ([]:List Node) .nil,vI 0] H K fun id1 st K fr H=>?_
  refine qe ?_
  refine W_seq (W_reg ?_)
  refine qg 1 [(5,aN a0)] H fun fr H=>?_
  refine qal 24 [vI 0,vS (bs []),vS (bs []),vI 0,vI 0,vI 0,vB false,vL tNode ([]:List Node) .nil,vI 0] H K fun id2 st K fr H=>?_
  refine qst 24 0 (aN a0) [vI a0.kind,vS a0.name,vS a0.other,vI a0.n,vI a0.len,vI a0.init,vB a0.ghost,vL tNode a0.kids .shut,vI a0.pos] 0 H K rfl fun st K fr H=>?_
  refine qe ?_
  refine W_seq (W_reg ?_)
  refine qg 1 [(6,.ptr id2 8)] H fun fr H=>?_
  refine qst 3 8 (vI 0) [vI a0.kind,vS a0.name,vS a0.other,vI a0.n,vI a0.len,vI a0.init,vB a0.ghost,vL tNode a0.kids .shut,vI 0] 0 H K rfl fun st K fr H=>?_
  refine qe ?_
  refine W_seq (W_reg ?_)
  refine qg 1 [(7,.ptr id2 7)] H fun fr H=>?_
  refine qst 22 7 (vL tNode ([]:List Node) .nil) [vI a0.kind,vS a0.name,vS a0.other,vI a0.n,vI a0.len,vI a0.init,vB a0.ghost,vL tNode ([]:List Node) .nil,vI 0] 0 H K rfl fun st K fr H=>?_
  refine qe ?_
  refine W_seq (W_seq ?_)
  refine W_reg ?_
  refine qg 1 [(4,vI 0)] H fun fr H=>?_
  refine qe ?_
  refine W_block ?_
  obtain ⟨r9,hr9,hr⟩:=obind hr
  refine W_iter hr9 (fun (s3:Int × Node) fr st=>∃ (s3sp0:Spare),Rd fr [(1,cN a0 0),(2,.ptr id1 0),(3,.ptr id2 0),(4,vI s3.1)]∧HL st [.own s3sp0,.obj id2 (.cells 24 [vI s3.2.kind,vS s3.2.name,vS s3.2.other,vI s3.2.n,vI s3.2.len,vI s3.2.init,vB s3.2.ghost,vL tNode s3.2.kids s3sp0,vI s3.2.pos]),.obj id1 (.cells 24 [vI 0,vS (bs []),vS (bs []),vI 0,vI 0,vI 0,vB false,vL tNode ([]:List Node) .nil,vI 0])]) (fun (r9:Node) e fr st=>e = .exit 0∧∃ (r9sp0:Spare),Rd fr [(2,.ptr id1 0),(3,.ptr id2 0)]∧HL st [.own r9sp0,.obj id2 (.cells 24 [vI r9.kind,vS r9.name,vS r9.other,vI r9.n,vI r9.len,vI r9.init,vB r9.ghost,vL tNode r9.kids r9sp0,vI r9.pos]),.obj id1 (.cells 24 [vI 0,vS (bs []),vS (bs []),vI 0,vI 0,vI 0,vB false,vL tNode ([]:List Node) .nil,vI 0])]) ⟨.nil,H.tq,((K.keep [true,true]).nilo)⟩ ?_ ?_
  ·intro s3 fr st r hi hr
   obtain ⟨s3sp0,H,K⟩:=hi
   refine W_seq (W_seq ?_)
   refine W_reg ?_
   refine qg 3 [(8,vI s3.1),(10,vL tNode a0.kids .shut)] H fun fr H=>?_
   refine qln tNode 22 a0.kids .shut H fun fr H=>?_
   refine qg 1 [(12,vB (decide (s3.1 < (a0.kids.length:Int))))] H fun fr H=>?_
   refine qe ?_
   rcases csplit hr with ⟨hc4,hr⟩ | ⟨hc4,hr⟩
   rotate_left
   ·refine qF H hc4 ?_
    refine W_exit ?_
    obtain rfl:=Option.some.inj hr
    exact ⟨by simp,⟨rfl,s3sp0,H.tq,K.keep [true,true,true]⟩⟩
   refine qT H hc4 ?_
   refine W_skip ?_
   refine W_seq (W_block ?_)
   refine W_drw ?_
   refine qg 1 [(15,.ptr id2 7)] H fun fr H=>?_
   refine qld 22 7 (vL tNode s3.2.kids s3sp0) 1 H K rfl fun fr H=>?_
   refine qg 3 [(18,vL tNode a0.kids .shut),(19,vI s3.1)] H fun fr H=>?_
   refine qix tNode 22 .shut hr H fun x5 hr hx5 fr H=>?_
   refine qg 1 [(21,aN x5)] H fun fr H=>?_
   refine qb hr (fun x h s=>ih_F34 _ x h (p0:=.shut)) H fun x6 hr fr H=>?_
   refine qv (.buildSlice 22 1 [(0,aN x6)]) H (run_bslice (v:=vL tNode ([x6]:List Node) .full) (v0:=.slice [aN x6] .full) (by kernel_rfl) (by simp only [List.map,vL,tNode_e,eNode_eq,cNode] <;> rfl)) fun fr H=>?_
   refine qapp tNode 104 22 22 .full hr 0 H K rfl fun x7 hr sp8 st K fr H=>?_
   refine qg 1 [(25,.ptr id2 7)] H fun fr H=>?_
   refine qst 22 7 (vL tNode x7 sp8) [vI s3.2.kind,vS s3.2.name,vS s3.2.other,vI s3.2.n,vI s3.2.len,vI s3.2.init,vB s3.2.ghost,vL tNode x7 sp8,vI s3.2.pos] 1 H K rfl fun st K fr H=>?_
   refine qe (qdI K [0,.look (some 0),0,0,0,0,0,0,0,.keep [],0,.put 0] ?_)
   refine W_reg ?_
   refine qg 3 [(4,vI (w64 (s3.1 + 1)))] H fun fr H=>?_
   refine qe ?_
   obtain rfl:=Option.some.inj hr
   exact ⟨rfl,⟨sp8,H.tq,K.keep [true,true,true]⟩⟩
  rintro e fr st ⟨rfl,r9sp0,H,K⟩
  refine W_seq (W_reg ?_)
  refine qld 24 0 (aN r9) 1 H K rfl fun fr H=>?_
  refine qst 24 0 (aN r9) [vI r9.kind,vS r9.name,vS r9.other,vI r9.n,vI r9.len,vI r9.init,vB r9.ghost,vL tNode r9.kids .shut,vI r9.pos] 2 H K rfl fun st K fr H=>?_
  refine qe ?_
  refine W_ret ?_
  obtain rfl:=Option.some.inj hr
  exact e_ret [aN r9] H K (fun _=>resC id1 0 24 [vI r9.kind,vS r9.name,vS r9.other,vI r9.n,vI r9.len,vI r9.init,vB r9.ghost,vL tNode r9.kids .shut,vI r9.pos] 2 (by kernel_rfl) rfl (by kernel_rfl) resN) (fun _=>by simp only [strip,stripL_cNode,Option.map_some,oneOf] <;> rfl)
theorem F34_R (n:Nat) (a0:Node) (r:Node) (hr:F34 n a0 = some r) {st:St} {p0:Spare}:R Tryz.prog AN 34 [.agg (cNode p0 a0)] st (.ret (aN r)) st:=(F34_RR n) a0 r hr
end Go.Proofs.YtbecjgckobhmpaaGreatDoor
end
section
namespace Go.Proofs.YtbecjgckobhmpaaGreatDoor
open Go Go.AM Go.Proofs
set_option maxRecDepth 100000
set_option maxHeartbeats 4000000
end Go.Proofs.YtbecjgckobhmpaaGreatDoor
end
section
namespace Go.Proofs.YtbecjgckobhmpaaGreatDoor
open Go Go.AM Go.Proofs
set_option maxRecDepth 100000
set_option maxHeartbeats 4000000
def F113 (a0:ByteArray) (a1:Int) (a2:ByteArray):Option Bool :=
 bif decide ((w64 (a1 + (a2.size:Int)))≤(a0.size:Int)) then
  ((subS a0 a1 (w64 (a1 + (a2.size:Int)))).bind fun x2 =>
  some (strEq x2 a2))
 else
  (some false)
theorem F113_R (a0:ByteArray) (a1:Int) (a2:ByteArray) (r:Bool) (hr:F113 a0 a1 a2 = some r) {st:St}:R Tryz.prog AN 113 [vS a0,vI a1,vS a2] st (.ret (vB r)) st:=by
 unfold F113 at hr
 refine R_pureX [vS a0,vI a1,vS a2] [(0,vS a0),(1,vI a1),(2,vS a2)] Tryz.func113 rfl (by kernel_rfl) rfl fun fr st H K=>?_
 refine W_seq (W_reg ?_)
 refine qg 1 [] H fun fr H=>?_
 refine qe ?_
 refine W_seq (W_reg ?_)
 refine qg 8 [(14,vB (decide ((w64 (a1 + (a2.size:Int)))≤(a0.size:Int))))] H fun fr H=>?_
 rcases csplit hr with ⟨hc1,hr⟩ | ⟨hc1,hr⟩
 rotate_left
 ·rw [hc1] at H
  refine qg 11 [(6,vB false)] H fun fr H=>?_
  refine qe ?_
  refine W_ret ?_
  obtain rfl:=Option.some.inj hr
  exact qr [vB false] H K
 rw [hc1] at H
 refine qg 6 [(15,vS a0),(16,vI a1),(20,vI (w64 (a1 + (a2.size:Int))))] H fun fr H=>?_
 obtain ⟨x2,hx2,hr⟩:=obind hr
 refine qv (.slice 9 (vS a0) (some (vI a1)) (some (vI (w64 (a1 + (a2.size:Int)))))) H (run_subS (by kernel_rfl) hx2) fun fr H=>?_
 refine qg 4 [(6,vB (strEq x2 a2))] H fun fr H=>?_
 refine qe ?_
 refine W_ret ?_
 obtain rfl:=Option.some.inj hr
 exact qr [vB (strEq x2 a2)] H K
def F114 (a0:Int):Option Bool :=
 some ((((a0 == 32) || (a0 == 9)) || (a0 == 10)) || (a0 == 13))
theorem F114_R (a0:Int) (r:Bool) (hr:F114 a0 = some r) {st:St}:R Tryz.prog AN 114 [vU a0] st (.ret (vB r)) st:=by
 unfold F114 at hr
 refine R_pureX [vU a0] [(0,vU a0)] Tryz.func114 rfl (by kernel_rfl) rfl fun fr st H K=>?_
 refine W_seq (W_reg ?_)
 refine qg 1 [] H fun fr H=>?_
 refine qe ?_
 refine W_seq (W_reg ?_)
 refine qg 3 [(5,vB (a0 == 32))] H fun fr H=>?_
 refine qg 3 [(8,vB ((a0 == 32) || (a0 == 9)))] H (hs:=by intro _ _; generalize (a0 == 32) = b0; cases b0 <;> kernel_rfl) fun fr H=>?_
 refine qg 1 [(9,vB ((a0 == 32) || (a0 == 9)))] H fun fr H=>?_
 refine qg 3 [(12,vB (((a0 == 32) || (a0 == 9)) || (a0 == 10)))] H (hs:=by intro _ _; generalize ((a0 == 32) || (a0 == 9)) = b0; cases b0 <;> kernel_rfl) fun fr H=>?_
 refine qg 1 [(13,vB (((a0 == 32) || (a0 == 9)) || (a0 == 10)))] H fun fr H=>?_
 refine qg 3 [(16,vB ((((a0 == 32) || (a0 == 9)) || (a0 == 10)) || (a0 == 13)))] H (hs:=by intro _ _; generalize (((a0 == 32) || (a0 == 9)) || (a0 == 10)) = b0; cases b0 <;> kernel_rfl) fun fr H=>?_
 refine qg 1 [(2,vB ((((a0 == 32) || (a0 == 9)) || (a0 == 10)) || (a0 == 13)))] H fun fr H=>?_
 refine qe ?_
 refine W_ret ?_
 obtain rfl:=Option.some.inj hr
 exact qr [vB ((((a0 == 32) || (a0 == 9)) || (a0 == 10)) || (a0 == 13))] H K
def F74 (n:Nat) (a0:ByteArray) (a1:Int):Option Int :=
 (iter (σ:=Int) (ρ:=Int ⊕ Int) (fun s1=>bif decide (s1 < (a0.size:Int)) then
   ((F113 a0 s1 (bs [47,47])).bind fun x3 =>
   bif x3 then
    ((iter (σ:=Int) (ρ:=Int) (fun s5=>bif decide (s5 < (a0.size:Int)) then
      ((idxS a0 s5).bind fun x7 =>
      bif x7 != 10 then
       (some (.inl (w64 (s5 + 1))))
      else
       (some (.inr s5)))
     else
      (some (.inr s5))) n s1).bind fun r9 =>
    some (.inl r9))
   else
    ((idxS a0 s1).bind fun x10 =>
    (F114 x10).bind fun x11 =>
    bif x11 then
     (some (.inl (w64 (s1 + 1))))
    else
     (some (.inr (.inl s1)))))
  else
   (some (.inr (.inr s1)))) n a1).bind fun r13=>match r13 with
 | .inl r13a=>some r13a
 | .inr r13b=>some r13b
theorem F74_R (n:Nat) (a0:ByteArray) (a1:Int) (r:Int) (hr:F74 n a0 a1 = some r) {st:St}:R Tryz.prog AN 74 [vS a0,vI a1] st (.ret (vI r)) st:=by
 unfold F74 at hr
 refine R_pureX [vS a0,vI a1] [(0,vS a0),(1,vI a1)] Tryz.func74 rfl (by kernel_rfl) rfl fun fr st H K=>?_
 refine W_seq (W_reg ?_)
 refine qg 1 [] H fun fr H=>?_
 refine qe ?_
 refine W_seq (W_block ?_)
 obtain ⟨r13,hr13,hr⟩:=obind hr
 refine W_iter hr13 (fun (s1:Int) fr st=>Rd fr [(0,vS a0),(1,vI s1)]∧HL st []) (fun (r13:Int ⊕ Int) e fr st=>match r13 with | .inl r13a=>(e = .ret∧Rd fr [(4,vI r13a)]∧HL st []) | .inr r13b=>(e = .exit 0∧Rd fr [(1,vI r13b)]∧HL st [])) ⟨H.tq,K.keep []⟩ ?_ ?_
 ·intro s1 fr st r hi hr
  obtain ⟨H,K⟩:=hi
  refine W_seq (W_seq ?_)
  refine W_reg ?_
  refine qg 4 [(8,vB (decide (s1 < (a0.size:Int))))] H fun fr H=>?_
  refine qe ?_
  rcases csplit hr with ⟨hc2,hr⟩ | ⟨hc2,hr⟩
  rotate_left
  ·refine qF H hc2 ?_
   refine W_exit ?_
   obtain rfl:=Option.some.inj hr
   exact ⟨by simp,⟨rfl,H.tq,K.keep []⟩⟩
  refine qT H hc2 ?_
  refine W_skip ?_
  refine W_block ?_
  refine W_seq (W_reg ?_)
  refine qg 2 [(9,vS a0),(10,vI s1)] H fun fr H=>?_
  refine qb hr (fun x h s=>F113_R  _ _ _ x h) H fun x3 hr fr H=>?_
  refine qe ?_
  rcases csplit hr with ⟨hc4,hr⟩ | ⟨hc4,hr⟩
  rotate_left
  ·refine qF H hc4 ?_
   refine W_seq (W_reg ?_)
   refine qg 2 [(24,vS a0),(25,vI s1)] H fun fr H=>?_
   obtain ⟨x10,hx10,hr⟩:=obind hr
   refine qv (.index 9 (vS a0) (vI s1)) H (run_idxS (by kernel_rfl) hx10) fun fr H=>?_
   refine qb hr (fun x h s=>F114_R  _ x h) H fun x11 hr fr H=>?_
   refine qe ?_
   rcases csplit hr with ⟨hc12,hr⟩ | ⟨hc12,hr⟩
   ·refine qT H hc12 ?_
    refine W_reg ?_
    refine qg 3 [(1,vI (w64 (s1 + 1)))] H fun fr H=>?_
    refine qe ?_
    obtain rfl:=Option.some.inj hr
    exact ⟨rfl,⟨H.tq,K.keep []⟩⟩
   refine qF H hc12 ?_
   refine W_seq (W_reg ?_)
   refine qg 2 [(4,vI s1)] H fun fr H=>?_
   refine qe ?_
   refine W_ret ?_
   obtain rfl:=Option.some.inj hr
   exact ⟨by simp,⟨rfl,H.tq,K.keep []⟩⟩
  refine qT H hc4 ?_
  refine W_block ?_
  obtain ⟨r9,hr9,hr⟩:=obind hr
  refine W_iter hr9 (fun (s5:Int) fr st=>Rd fr [(0,vS a0),(1,vI s5)]∧HL st []) (fun (r9:Int) e fr st=>e = .exit 2∧Rd fr [(0,vS a0),(1,vI r9)]∧HL st []) ⟨H.tq,K.keep []⟩ ?_ ?_
  ·intro s5 fr st r hi hr
   obtain ⟨H,K⟩:=hi
   refine W_seq (W_seq ?_)
   refine W_reg ?_
   refine qg 5 [(16,vB (decide (s5 < (a0.size:Int))))] H fun fr H=>?_
   rcases csplit hr with ⟨hc6,hr⟩ | ⟨hc6,hr⟩
   rotate_left
   ·rw [hc6] at H
    refine qg 5 [(21,vB false)] H fun fr H=>?_
    refine qe ?_
    refine qF H rfl ?_
    refine W_exit ?_
    obtain rfl:=Option.some.inj hr
    exact ⟨by simp,⟨rfl,H.tq,K.keep []⟩⟩
   rw [hc6] at H
   refine qg 2 [(17,vS a0),(18,vI s5)] H fun fr H=>?_
   obtain ⟨x7,hx7,hr⟩:=obind hr
   refine qv (.index 9 (vS a0) (vI s5)) H (run_idxS (by kernel_rfl) hx7) fun fr H=>?_
   refine qg 2 [(21,vB (x7 != 10))] H fun fr H=>?_
   refine qe ?_
   rcases csplit hr with ⟨hc8,hr⟩ | ⟨hc8,hr⟩
   rotate_left
   ·refine qF H hc8 ?_
    refine W_exit ?_
    obtain rfl:=Option.some.inj hr
    exact ⟨by simp,⟨rfl,H.tq,K.keep []⟩⟩
   refine qT H hc8 ?_
   refine W_skip ?_
   refine W_block ?_
   refine W_reg ?_
   refine qg 3 [(1,vI (w64 (s5 + 1)))] H fun fr H=>?_
   refine qe ?_
   obtain rfl:=Option.some.inj hr
   exact ⟨rfl,⟨H.tq,K.keep []⟩⟩
  rintro e fr st ⟨rfl,H,K⟩
  obtain rfl:=Option.some.inj hr
  exact ⟨rfl,⟨H.tq,K.keep []⟩⟩
 rcases r13 with r13a | r13b
 ·rintro e fr st ⟨rfl,H,K⟩
  obtain rfl:=Option.some.inj hr
  exact qr [vI r13a] H K
 rintro e fr st ⟨rfl,H,K⟩
 refine W_seq (W_reg ?_)
 refine qg 2 [(4,vI r13b)] H fun fr H=>?_
 refine qe ?_
 refine W_ret ?_
 obtain rfl:=Option.some.inj hr
 exact qr [vI r13b] H K
def F115 (a0:Int):Option Bool :=
 some (((decide (97≤a0)) && (decide (a0≤122))) || ((decide (65≤a0)) && (decide (a0≤90))))
theorem F115_R (a0:Int) (r:Bool) (hr:F115 a0 = some r) {st:St}:R Tryz.prog AN 115 [vU a0] st (.ret (vB r)) st:=by
 unfold F115 at hr
 refine R_pureX [vU a0] [(0,vU a0)] Tryz.func115 rfl (by kernel_rfl) rfl fun fr st H K=>?_
 refine W_seq (W_reg ?_)
 refine qg 1 [] H fun fr H=>?_
 refine qe ?_
 refine W_seq (W_reg ?_)
 refine qg 3 [(5,vB (decide (97≤a0)))] H fun fr H=>?_
 refine qg 3 [(8,vB ((decide (97≤a0)) && (decide (a0≤122))))] H (hs:=by intro _ _; generalize (decide (97≤a0)) = b0; cases b0 <;> kernel_rfl) fun fr H=>?_
 refine qg 1 [(9,vB ((decide (97≤a0)) && (decide (a0≤122))))] H fun fr H=>?_
 refine qseg 7 [(16,vB (((decide (97≤a0)) && (decide (a0≤122))) || ((decide (65≤a0)) && (decide (a0≤90)))))] H ?_ ?_
 ·cases hg1:((decide (97≤a0)) && (decide (a0≤122)))
  ·rw [hg1] at H
   refine seg_go 4 3 [(12,vB (decide (65≤a0)))] H fun fr H=>?_
   cases hg2:(decide (65≤a0))
   ·rw [hg2] at H
    refine seg_go 0 4 [(16,vB false)] H fun fr H=>?_
    exact seg_end (by (try simp only [hg1,hg2]); exact H.tq)
   ·rw [hg2] at H
    refine seg_go 0 4 [(16,vB (decide (a0≤90)))] H fun fr H=>?_
    exact seg_end (by (try simp only [hg1,hg2]); exact H.tq)
  ·rw [hg1] at H
   refine seg_go 0 7 [(16,vB true)] H fun fr H=>?_
   exact seg_end (by (try simp only [hg1]); exact H.tq)
 intro fr H
 refine qg 1 [(2,vB (((decide (97≤a0)) && (decide (a0≤122))) || ((decide (65≤a0)) && (decide (a0≤90)))))] H fun fr H=>?_
 refine qe ?_
 refine W_ret ?_
 obtain rfl:=Option.some.inj hr
 exact qr [vB (((decide (97≤a0)) && (decide (a0≤122))) || ((decide (65≤a0)) && (decide (a0≤90))))] H K
def F117 (a0:Int):Option Bool :=
 some ((decide (48≤a0)) && (decide (a0≤57)))
theorem F117_R (a0:Int) (r:Bool) (hr:F117 a0 = some r) {st:St}:R Tryz.prog AN 117 [vU a0] st (.ret (vB r)) st:=by
 unfold F117 at hr
 refine R_pureX [vU a0] [(0,vU a0)] Tryz.func117 rfl (by kernel_rfl) rfl fun fr st H K=>?_
 refine W_seq (W_reg ?_)
 refine qg 1 [] H fun fr H=>?_
 refine qe ?_
 refine W_seq (W_reg ?_)
 refine qg 3 [(5,vB (decide (48≤a0)))] H fun fr H=>?_
 refine qg 3 [(8,vB ((decide (48≤a0)) && (decide (a0≤57))))] H (hs:=by intro _ _; generalize (decide (48≤a0)) = b0; cases b0 <;> kernel_rfl) fun fr H=>?_
 refine qg 1 [(2,vB ((decide (48≤a0)) && (decide (a0≤57))))] H fun fr H=>?_
 refine qe ?_
 refine W_ret ?_
 obtain rfl:=Option.some.inj hr
 exact qr [vB ((decide (48≤a0)) && (decide (a0≤57)))] H K
def F116 (n:Nat) (a0:ByteArray) (a1:Int):Option (Token × Bool) :=
 (iter (σ:=Int) (ρ:=Int) (fun s2=>bif decide (s2 < (a0.size:Int)) then
   ((idxS a0 s2).bind fun x4 =>
   (F115 x4).bind fun x5 =>
   bif x5 then
    (some (.inl (w64 (s2 + 1))))
   else
    ((idxS a0 s2).bind fun x7 =>
    (F117 x7).bind fun x8 =>
    bif x8 then
     (some (.inl (w64 (s2 + 1))))
    else
     ((idxS a0 s2).bind fun x10 =>
     bif x10 == 95 then
      (some (.inl (w64 (s2 + 1))))
     else
      (some (.inr s2)))))
  else
   (some (.inr s2))) n a1).bind fun r12 =>
 (subS a0 a1 r12).bind fun x13 =>
 some ((Token.mk 1 x13 a1),(decide ((w64 (r12 - a1))≤16)))
theorem F116_R (n:Nat) (a0:ByteArray) (a1:Int) (r:Token × Bool) (hr:F116 n a0 a1 = some r) {st:St}:R Tryz.prog AN 116 [vS a0,vI a1] st (.ret (.tuple [.agg (cToken r.1),vB r.2])) st:=by
 unfold F116 at hr
 refine R_pureX [vS a0,vI a1] [(0,vS a0),(1,vI a1)] Tryz.func116 rfl (by kernel_rfl) rfl fun fr st H K=>?_
 refine W_seq (W_reg ?_)
 refine qal 61 [vI 0,vS (bs []),vI 0] H K fun id1 st K fr H=>?_
 refine qg 1 [] H fun fr H=>?_
 refine qe ?_
 refine W_seq (W_reg ?_)
 refine qg 2 [(6,vI a1)] H fun fr H=>?_
 refine qe ?_
 refine W_seq (W_block ?_)
 obtain ⟨r12,hr12,hr⟩:=obind hr
 refine W_iter hr12 (fun (s2:Int) fr st=>Rd fr [(0,vS a0),(1,vI a1),(4,.ptr id1 0),(6,vI s2)]∧HL st [.obj id1 (.cells 61 [vI 0,vS (bs []),vI 0])]) (fun (r12:Int) e fr st=>e = .exit 0∧Rd fr [(0,vS a0),(1,vI a1),(4,.ptr id1 0),(6,vI r12)]∧HL st [.obj id1 (.cells 61 [vI 0,vS (bs []),vI 0])]) ⟨H.tq,K.keep [true]⟩ ?_ ?_
 ·intro s2 fr st r hi hr
  obtain ⟨H,K⟩:=hi
  refine W_seq (W_seq ?_)
  refine W_reg ?_
  refine qg 5 [(12,vB (decide (s2 < (a0.size:Int))))] H fun fr H=>?_
  rcases csplit hr with ⟨hc3,hr⟩ | ⟨hc3,hr⟩
  rotate_left
  ·rw [hc3] at H
   refine qg 17 [(29,vB false)] H fun fr H=>?_
   refine qe ?_
   refine qF H rfl ?_
   refine W_exit ?_
   obtain rfl:=Option.some.inj hr
   exact ⟨by simp,⟨rfl,H.tq,K.keep [true]⟩⟩
  rw [hc3] at H
  refine qg 2 [(13,vS a0),(14,vI s2)] H fun fr H=>?_
  obtain ⟨x4,hx4,hr⟩:=obind hr
  refine qv (.index 9 (vS a0) (vI s2)) H (run_idxS (by kernel_rfl) hx4) fun fr H=>?_
  refine qb hr (fun x h s=>F115_R  _ x h) H fun x5 hr fr H=>?_
  refine qg 1 [(17,vB x5)] H fun fr H=>?_
  rcases csplit hr with ⟨hc6,hr⟩ | ⟨hc6,hr⟩
  ·rw [hc6] at H
   refine qg 12 [(29,vB true)] H fun fr H=>?_
   refine qe ?_
   refine qT H rfl ?_
   refine W_skip ?_
   refine W_block ?_
   refine W_reg ?_
   refine qg 3 [(6,vI (w64 (s2 + 1)))] H fun fr H=>?_
   refine qe ?_
   obtain rfl:=Option.some.inj hr
   exact ⟨rfl,⟨H.tq,K.keep [true]⟩⟩
  rw [hc6] at H
  refine qg 2 [(18,vS a0),(19,vI s2)] H fun fr H=>?_
  obtain ⟨x7,hx7,hr⟩:=obind hr
  refine qv (.index 9 (vS a0) (vI s2)) H (run_idxS (by kernel_rfl) hx7) fun fr H=>?_
  refine qb hr (fun x h s=>F117_R  _ x h) H fun x8 hr fr H=>?_
  refine qg 2 [(23,vB x8)] H fun fr H=>?_
  rcases csplit hr with ⟨hc9,hr⟩ | ⟨hc9,hr⟩
  ·rw [hc9] at H
   refine qg 6 [(29,vB true)] H fun fr H=>?_
   refine qe ?_
   refine qT H rfl ?_
   refine W_skip ?_
   refine W_block ?_
   refine W_reg ?_
   refine qg 3 [(6,vI (w64 (s2 + 1)))] H fun fr H=>?_
   refine qe ?_
   obtain rfl:=Option.some.inj hr
   exact ⟨rfl,⟨H.tq,K.keep [true]⟩⟩
  rw [hc9] at H
  refine qg 2 [(24,vS a0),(25,vI s2)] H fun fr H=>?_
  obtain ⟨x10,hx10,hr⟩:=obind hr
  refine qv (.index 9 (vS a0) (vI s2)) H (run_idxS (by kernel_rfl) hx10) fun fr H=>?_
  refine qg 3 [(29,vB (x10 == 95))] H fun fr H=>?_
  refine qe ?_
  rcases csplit hr with ⟨hc11,hr⟩ | ⟨hc11,hr⟩
  rotate_left
  ·refine qF H hc11 ?_
   refine W_exit ?_
   obtain rfl:=Option.some.inj hr
   exact ⟨by simp,⟨rfl,H.tq,K.keep [true]⟩⟩
  refine qT H hc11 ?_
  refine W_skip ?_
  refine W_block ?_
  refine W_reg ?_
  refine qg 3 [(6,vI (w64 (s2 + 1)))] H fun fr H=>?_
  refine qe ?_
  obtain rfl:=Option.some.inj hr
  exact ⟨rfl,⟨H.tq,K.keep [true]⟩⟩
 rintro e fr st ⟨rfl,H,K⟩
 refine W_seq (W_reg ?_)
 refine qg 3 [(32,vS a0),(33,vI a1),(34,vI r12)] H fun fr H=>?_
 obtain ⟨x13,hx13,hr⟩:=obind hr
 refine qv (.slice 9 (vS a0) (some (vI a1)) (some (vI r12))) H (run_subS (by kernel_rfl) hx13) fun fr H=>?_
 refine qg 6 [(37,.agg [vI 1,vS x13,vI a1]),(41,vB (decide ((w64 (r12 - a1))≤16)))] H fun fr H=>?_
 refine qst 61 0 (.agg [vI 1,vS x13,vI a1]) [vI 1,vS x13,vI a1] 0 H K rfl fun st K fr H=>?_
 refine qg 1 [(5,vB (decide ((w64 (r12 - a1))≤16)))] H fun fr H=>?_
 refine qe ?_
 refine W_ret ?_
 obtain rfl:=Option.some.inj hr
 exact e_ret [.agg [vI 1,vS x13,vI a1],vB (decide ((w64 (r12 - a1))≤16))] H K (fun _=>resC id1 0 61 [vI 1,vS x13,vI a1] 0 (by kernel_rfl) rfl (by kernel_rfl) (resT (by kernel_rfl) resN)) (fun _=>by kernel_rfl)
def F118 (n:Nat) (a0:ByteArray) (a1:Int):Option (Token × Bool) :=
 (iter (σ:=Int) (ρ:=Int) (fun s2=>bif decide (s2 < (a0.size:Int)) then
   ((idxS a0 s2).bind fun x4 =>
   (F117 x4).bind fun x5 =>
   bif x5 then
    (some (.inl (w64 (s2 + 1))))
   else
    (some (.inr s2)))
  else
   (some (.inr s2))) n a1).bind fun r7 =>
 (bif decide ((w64 (r7 - a1))≤9) then
   ((idxS a0 a1).bind fun x9 =>
   some ((x9 != 48) || (r7 == (w64 (a1 + 1)))))
  else
   (some false):Option (Bool)).bind fun j10 =>
 (bif decide (r7 < (a0.size:Int)) then
   ((idxS a0 r7).bind fun x12 =>
   (F115 x12).bind fun x13 =>
   bif x13 then
    (some false)
   else
    ((idxS a0 r7).bind fun x15 =>
    bif x15 == 95 then
     (some false)
    else
     (some j10)))
  else
   (some j10):Option (Bool)).bind fun j17 =>
 (subS a0 a1 r7).bind fun x18 =>
 some ((Token.mk 2 x18 a1),j17)
theorem F118_R (n:Nat) (a0:ByteArray) (a1:Int) (r:Token × Bool) (hr:F118 n a0 a1 = some r) {st:St}:R Tryz.prog AN 118 [vS a0,vI a1] st (.ret (.tuple [.agg (cToken r.1),vB r.2])) st:=by
 unfold F118 at hr
 refine R_pureX [vS a0,vI a1] [(0,vS a0),(1,vI a1)] Tryz.func118 rfl (by kernel_rfl) rfl fun fr st H K=>?_
 refine W_seq (W_reg ?_)
 refine qal 61 [vI 0,vS (bs []),vI 0] H K fun id1 st K fr H=>?_
 refine qg 1 [] H fun fr H=>?_
 refine qe ?_
 refine W_seq (W_reg ?_)
 refine qg 2 [(6,vI a1)] H fun fr H=>?_
 refine qe ?_
 refine W_seq (W_block ?_)
 obtain ⟨r7,hr7,hr⟩:=obind hr
 refine W_iter hr7 (fun (s2:Int) fr st=>Rd fr [(0,vS a0),(1,vI a1),(4,.ptr id1 0),(6,vI s2)]∧HL st [.obj id1 (.cells 61 [vI 0,vS (bs []),vI 0])]) (fun (r7:Int) e fr st=>e = .exit 0∧Rd fr [(0,vS a0),(1,vI a1),(4,.ptr id1 0),(6,vI r7)]∧HL st [.obj id1 (.cells 61 [vI 0,vS (bs []),vI 0])]) ⟨H.tq,K.keep [true]⟩ ?_ ?_
 ·intro s2 fr st r hi hr
  obtain ⟨H,K⟩:=hi
  refine W_seq (W_seq ?_)
  refine W_reg ?_
  refine qg 5 [(13,vB (decide (s2 < (a0.size:Int))))] H fun fr H=>?_
  rcases csplit hr with ⟨hc3,hr⟩ | ⟨hc3,hr⟩
  rotate_left
  ·rw [hc3] at H
   refine qg 5 [(18,vB false)] H fun fr H=>?_
   refine qe ?_
   refine qF H rfl ?_
   refine W_exit ?_
   obtain rfl:=Option.some.inj hr
   exact ⟨by simp,⟨rfl,H.tq,K.keep [true]⟩⟩
  rw [hc3] at H
  refine qg 2 [(14,vS a0),(15,vI s2)] H fun fr H=>?_
  obtain ⟨x4,hx4,hr⟩:=obind hr
  refine qv (.index 9 (vS a0) (vI s2)) H (run_idxS (by kernel_rfl) hx4) fun fr H=>?_
  refine qb hr (fun x h s=>F117_R  _ x h) H fun x5 hr fr H=>?_
  refine qg 1 [(18,vB x5)] H fun fr H=>?_
  refine qe ?_
  rcases csplit hr with ⟨hc6,hr⟩ | ⟨hc6,hr⟩
  rotate_left
  ·refine qF H hc6 ?_
   refine W_exit ?_
   obtain rfl:=Option.some.inj hr
   exact ⟨by simp,⟨rfl,H.tq,K.keep [true]⟩⟩
  refine qT H hc6 ?_
  refine W_skip ?_
  refine W_block ?_
  refine W_reg ?_
  refine qg 3 [(6,vI (w64 (s2 + 1)))] H fun fr H=>?_
  refine qe ?_
  obtain rfl:=Option.some.inj hr
  exact ⟨rfl,⟨H.tq,K.keep [true]⟩⟩
 rintro e fr st ⟨rfl,H,K⟩
 refine W_seq ?_
 obtain ⟨j10,hj10,hr⟩:=obind hr
 refine W_via (fun e fr st=>e = .normal∧Rd fr [(0,vS a0),(1,vI a1),(4,.ptr id1 0),(6,vI r7),(7,vB j10)]∧HL st [.obj id1 (.cells 61 [vI 0,vS (bs []),vI 0])]) ?_ ?_
 ·replace hr:=hj10
  refine W_reg ?_
  refine qg 5 [(25,vB (decide ((w64 (r7 - a1))≤9)))] H fun fr H=>?_
  rcases csplit hr with ⟨hc8,hr⟩ | ⟨hc8,hr⟩
  rotate_left
  ·rw [hc8] at H
   refine qg 12 [(7,vB false)] H fun fr H=>?_
   refine qe ?_
   obtain rfl:=Option.some.inj hr
   exact ⟨rfl,H.tq,K.keep [true]⟩
  rw [hc8] at H
  refine qg 2 [(26,vS a0),(27,vI a1)] H fun fr H=>?_
  obtain ⟨x9,hx9,hr⟩:=obind hr
  refine qv (.index 9 (vS a0) (vI a1)) H (run_idxS (by kernel_rfl) hx9) fun fr H=>?_
  refine qg 2 [(30,vB (x9 != 48))] H fun fr H=>?_
  refine qg 6 [(36,vB ((x9 != 48) || (r7 == (w64 (a1 + 1)))))] H (hs:=by intro _ _; generalize (x9 != 48) = b0; cases b0 <;> kernel_rfl) fun fr H=>?_
  refine qg 1 [(7,vB ((x9 != 48) || (r7 == (w64 (a1 + 1)))))] H fun fr H=>?_
  refine qe ?_
  obtain rfl:=Option.some.inj hr
  exact ⟨rfl,H.tq,K.keep [true]⟩
 rintro e fr st ⟨rfl,H,K⟩
 refine W_seq ?_
 obtain ⟨j17,hj17,hr⟩:=obind hr
 refine W_via (fun e fr st=>e = .normal∧Rd fr [(0,vS a0),(1,vI a1),(4,.ptr id1 0),(6,vI r7),(7,vB j17)]∧HL st [.obj id1 (.cells 61 [vI 0,vS (bs []),vI 0])]) ?_ ?_
 ·replace hr:=hj17
  refine W_seq (W_reg ?_)
  refine qg 5 [(41,vB (decide (r7 < (a0.size:Int))))] H fun fr H=>?_
  rcases csplit hr with ⟨hc11,hr⟩ | ⟨hc11,hr⟩
  rotate_left
  ·rw [hc11] at H
   refine qg 11 [(52,vB false)] H fun fr H=>?_
   refine qe ?_
   refine qF H rfl ?_
   refine W_skip ?_
   obtain rfl:=Option.some.inj hr
   exact ⟨rfl,H.tq,K.keep [true]⟩
  rw [hc11] at H
  refine qg 2 [(42,vS a0),(43,vI r7)] H fun fr H=>?_
  obtain ⟨x12,hx12,hr⟩:=obind hr
  refine qv (.index 9 (vS a0) (vI r7)) H (run_idxS (by kernel_rfl) hx12) fun fr H=>?_
  refine qb hr (fun x h s=>F115_R  _ x h) H fun x13 hr fr H=>?_
  refine qg 1 [(46,vB x13)] H fun fr H=>?_
  rcases csplit hr with ⟨hc14,hr⟩ | ⟨hc14,hr⟩
  ·rw [hc14] at H
   refine qg 6 [(52,vB true)] H fun fr H=>?_
   refine qe ?_
   refine qT H rfl ?_
   refine W_reg ?_
   refine qg 1 [(7,vB false)] H fun fr H=>?_
   refine qe ?_
   obtain rfl:=Option.some.inj hr
   exact ⟨rfl,H.tq,K.keep [true]⟩
  rw [hc14] at H
  refine qg 2 [(47,vS a0),(48,vI r7)] H fun fr H=>?_
  obtain ⟨x15,hx15,hr⟩:=obind hr
  refine qv (.index 9 (vS a0) (vI r7)) H (run_idxS (by kernel_rfl) hx15) fun fr H=>?_
  refine qg 3 [(52,vB (x15 == 95))] H fun fr H=>?_
  refine qe ?_
  rcases csplit hr with ⟨hc16,hr⟩ | ⟨hc16,hr⟩
  rotate_left
  ·refine qF H hc16 ?_
   refine W_skip ?_
   obtain rfl:=Option.some.inj hr
   exact ⟨rfl,H.tq,K.keep [true]⟩
  refine qT H hc16 ?_
  refine W_reg ?_
  refine qg 1 [(7,vB false)] H fun fr H=>?_
  refine qe ?_
  obtain rfl:=Option.some.inj hr
  exact ⟨rfl,H.tq,K.keep [true]⟩
 rintro e fr st ⟨rfl,H,K⟩
 refine W_seq (W_reg ?_)
 refine qg 3 [(53,vS a0),(54,vI a1),(55,vI r7)] H fun fr H=>?_
 obtain ⟨x18,hx18,hr⟩:=obind hr
 refine qv (.slice 9 (vS a0) (some (vI a1)) (some (vI r7))) H (run_subS (by kernel_rfl) hx18) fun fr H=>?_
 refine qg 3 [(58,.agg [vI 2,vS x18,vI a1]),(59,vB j17)] H fun fr H=>?_
 refine qst 61 0 (.agg [vI 2,vS x18,vI a1]) [vI 2,vS x18,vI a1] 0 H K rfl fun st K fr H=>?_
 refine qg 1 [(5,vB j17)] H fun fr H=>?_
 refine qe ?_
 refine W_ret ?_
 obtain rfl:=Option.some.inj hr
 exact e_ret [.agg [vI 2,vS x18,vI a1],vB j17] H K (fun _=>resC id1 0 61 [vI 2,vS x18,vI a1] 0 (by kernel_rfl) rfl (by kernel_rfl) (resT (by kernel_rfl) resN)) (fun _=>by kernel_rfl)
def F119 :Option ((List ByteArray)) :=
 some ([(bs [61,61,62]),(bs [58,61]),(bs [61,61]),(bs [33,61]),(bs [60,61]),(bs [38,38]),(bs [124,124]),(bs [123]),(bs [125]),(bs [40]),(bs [41]),(bs [91]),(bs [93]),(bs [59]),(bs [58]),(bs [44]),(bs [46]),(bs [63]),(bs [61]),(bs [33]),(bs [60]),(bs [38]),(bs [124]),(bs [94]),(bs [43]),(bs [45]),(bs [42])]:List ByteArray)
theorem F119_R  (r:(List ByteArray)) (hr:F119  = some r) {st:St}:R Tryz.prog AN 119 [] st (.ret (vL tS r .shut)) st:=by
 unfold F119 at hr
 refine R_pureX [] [] Tryz.func119 rfl (by kernel_rfl) rfl fun fr st H K=>?_
 refine W_seq (W_reg ?_)
 refine qg 1 [] H fun fr H=>?_
 refine qe ?_
 refine W_seq (W_reg ?_)
 refine qbs tS 30 ([(bs [61,61,62]),(bs [58,61]),(bs [61,61]),(bs [33,61]),(bs [60,61]),(bs [38,38]),(bs [124,124]),(bs [123]),(bs [125]),(bs [40]),(bs [41]),(bs [91]),(bs [93]),(bs [59]),(bs [58]),(bs [44]),(bs [46]),(bs [63]),(bs [61]),(bs [33]),(bs [60]),(bs [38]),(bs [124]),(bs [94]),(bs [43]),(bs [45]),(bs [42])]:List ByteArray) H fun fr H=>?_
 refine qg 1 [(0,vL tS ([(bs [61,61,62]),(bs [58,61]),(bs [61,61]),(bs [33,61]),(bs [60,61]),(bs [38,38]),(bs [124,124]),(bs [123]),(bs [125]),(bs [40]),(bs [41]),(bs [91]),(bs [93]),(bs [59]),(bs [58]),(bs [44]),(bs [46]),(bs [63]),(bs [61]),(bs [33]),(bs [60]),(bs [38]),(bs [124]),(bs [94]),(bs [43]),(bs [45]),(bs [42])]:List ByteArray) .full)] H fun fr H=>?_
 refine qe ?_
 refine W_ret ?_
 obtain rfl:=Option.some.inj hr
 exact qr [vL tS ([(bs [61,61,62]),(bs [58,61]),(bs [61,61]),(bs [33,61]),(bs [60,61]),(bs [38,38]),(bs [124,124]),(bs [123]),(bs [125]),(bs [40]),(bs [41]),(bs [91]),(bs [93]),(bs [59]),(bs [58]),(bs [44]),(bs [46]),(bs [63]),(bs [61]),(bs [33]),(bs [60]),(bs [38]),(bs [124]),(bs [94]),(bs [43]),(bs [45]),(bs [42])]:List ByteArray) .full] H K (hs:=fun _=>by simp only [strip,stripL_ET,Option.map_some,oneOf] <;> rfl)
def F75 (n:Nat) (a0:ByteArray) (a1:Int):Option (Token × Bool) :=
 (idxS a0 a1).bind fun x2 =>
 (F115 x2).bind fun x3 =>
 bif x3 then
  ((F116 n a0 a1).bind fun x5 =>
  some (x5.1,x5.2))
 else
  ((idxS a0 a1).bind fun x6 =>
  (F117 x6).bind fun x7 =>
  bif x7 then
   ((F118 n a0 a1).bind fun x9 =>
   some (x9.1,x9.2))
  else
   ((F119 ).bind fun x10 =>
   (iter (σ:=Int) (ρ:=Token ⊕ Unit) (fun s11=>bif decide (s11 < (x10.length:Int)) then
     ((idxL x10 s11).bind fun x13 =>
     (F113 a0 a1 x13).bind fun x14 =>
     bif x14 then
      ((idxL x10 s11).bind fun x16 =>
      some (.inr (.inl (Token.mk 3 x16 a1))))
     else
      (some (.inl (w64 (s11 + 1)))))
    else
     (some (.inr (.inr ())))) n (0:Int)).bind fun r17=>match r17 with
   | .inl r17a=>some (r17a,true)
   | .inr _=>some ((Token.mk 0 (bs []) 0),false)))
theorem F75_R (n:Nat) (a0:ByteArray) (a1:Int) (r:Token × Bool) (hr:F75 n a0 a1 = some r) {st:St}:R Tryz.prog AN 75 [vS a0,vI a1] st (.ret (.tuple [.agg (cToken r.1),vB r.2])) st:=by
 unfold F75 at hr
 refine R_pureX [vS a0,vI a1] [(0,vS a0),(1,vI a1)] Tryz.func75 rfl (by kernel_rfl) rfl fun fr st H K=>?_
 refine W_seq (W_reg ?_)
 refine qal 61 [vI 0,vS (bs []),vI 0] H K fun id1 st K fr H=>?_
 refine qg 1 [] H fun fr H=>?_
 refine qe ?_
 refine W_seq (W_seq ?_)
 refine W_reg ?_
 refine qg 2 [(8,vS a0),(9,vI a1)] H fun fr H=>?_
 obtain ⟨x2,hx2,hr⟩:=obind hr
 refine qv (.index 9 (vS a0) (vI a1)) H (run_idxS (by kernel_rfl) hx2) fun fr H=>?_
 refine qb hr (fun x h s=>F115_R  _ x h) H fun x3 hr fr H=>?_
 refine qe ?_
 rcases csplit hr with ⟨hc4,hr⟩ | ⟨hc4,hr⟩
 ·refine qT H hc4 ?_
  refine W_seq (W_reg ?_)
  refine qg 2 [(12,vS a0),(13,vI a1)] H fun fr H=>?_
  refine qb hr (fun x h s=>F116_R n _ _ x h) H fun x5 hr fr H=>?_
  refine qg 2 [(15,.agg (cToken x5.1)),(16,vB x5.2)] H fun fr H=>?_
  refine qst 61 0 (.agg (cToken x5.1)) [vI x5.1.kind,vS x5.1.text,vI x5.1.pos] 0 H K rfl fun st K fr H=>?_
  refine qg 1 [(5,vB x5.2)] H fun fr H=>?_
  refine qe ?_
  refine W_ret ?_
  obtain rfl:=Option.some.inj hr
  exact e_ret [.agg (cToken x5.1),vB x5.2] H K (fun _=>resC id1 0 61 [vI x5.1.kind,vS x5.1.text,vI x5.1.pos] 0 (by kernel_rfl) rfl (by kernel_rfl) (resT (by kernel_rfl) resN)) (fun _=>by kernel_rfl)
 refine qF H hc4 ?_
 refine W_skip ?_
 refine W_seq (W_seq ?_)
 refine W_reg ?_
 refine qg 2 [(17,vS a0),(18,vI a1)] H fun fr H=>?_
 obtain ⟨x6,hx6,hr⟩:=obind hr
 refine qv (.index 9 (vS a0) (vI a1)) H (run_idxS (by kernel_rfl) hx6) fun fr H=>?_
 refine qb hr (fun x h s=>F117_R  _ x h) H fun x7 hr fr H=>?_
 refine qe ?_
 rcases csplit hr with ⟨hc8,hr⟩ | ⟨hc8,hr⟩
 ·refine qT H hc8 ?_
  refine W_seq (W_reg ?_)
  refine qg 2 [(21,vS a0),(22,vI a1)] H fun fr H=>?_
  refine qb hr (fun x h s=>F118_R n _ _ x h) H fun x9 hr fr H=>?_
  refine qg 2 [(24,.agg (cToken x9.1)),(25,vB x9.2)] H fun fr H=>?_
  refine qst 61 0 (.agg (cToken x9.1)) [vI x9.1.kind,vS x9.1.text,vI x9.1.pos] 0 H K rfl fun st K fr H=>?_
  refine qg 1 [(5,vB x9.2)] H fun fr H=>?_
  refine qe ?_
  refine W_ret ?_
  obtain rfl:=Option.some.inj hr
  exact e_ret [.agg (cToken x9.1),vB x9.2] H K (fun _=>resC id1 0 61 [vI x9.1.kind,vS x9.1.text,vI x9.1.pos] 0 (by kernel_rfl) rfl (by kernel_rfl) (resT (by kernel_rfl) resN)) (fun _=>by kernel_rfl)
 refine qF H hc8 ?_
 refine W_skip ?_
 refine W_seq (W_reg ?_)
 refine qb hr (fun x h s=>F119_R  x h) H fun x10 hr fr H=>?_
 refine qg 1 [(6,vL tS x10 .shut)] H fun fr H=>?_
 refine qe ?_
 refine W_seq (W_seq ?_)
 refine W_reg ?_
 refine qg 1 [(7,vI 0)] H fun fr H=>?_
 refine qe ?_
 refine W_block ?_
 obtain ⟨r17,hr17,hr⟩:=obind hr
 refine W_iter hr17 (fun (s11:Int) fr st=>Rd fr [(0,vS a0),(1,vI a1),(4,.ptr id1 0),(6,vL tS x10 .shut),(7,vI s11)]∧HL st [.obj id1 (.cells 61 [vI 0,vS (bs []),vI 0])]) (fun (r17:Token ⊕ Unit) e fr st=>match r17 with | .inl r17a=>(e = .ret∧Rd fr [(4,.ptr id1 0),(5,vB true)]∧HL st [.obj id1 (.cells 61 [vI r17a.kind,vS r17a.text,vI r17a.pos])]) | .inr r17b=>(e = .exit 0∧Rd fr [(4,.ptr id1 0)]∧HL st [.obj id1 (.cells 61 [vI 0,vS (bs []),vI 0])])) ⟨H.tq,K.keep [true]⟩ ?_ ?_
 ·intro s11 fr st r hi hr
  obtain ⟨H,K⟩:=hi
  refine W_seq (W_seq ?_)
  refine W_reg ?_
  refine qg 2 [(27,vI s11),(28,vL tS x10 .shut)] H fun fr H=>?_
  refine qln tS 30 x10 .shut H fun fr H=>?_
  refine qg 1 [(30,vB (decide (s11 < (x10.length:Int))))] H fun fr H=>?_
  refine qe ?_
  rcases csplit hr with ⟨hc12,hr⟩ | ⟨hc12,hr⟩
  rotate_left
  ·refine qF H hc12 ?_
   refine W_exit ?_
   obtain rfl:=Option.some.inj hr
   exact ⟨by simp,⟨rfl,H.tq,K.keep [true]⟩⟩
  refine qT H hc12 ?_
  refine W_skip ?_
  refine W_seq (W_block ?_)
  refine W_seq (W_reg ?_)
  refine qg 4 [(33,vS a0),(34,vI a1),(35,vL tS x10 .shut),(36,vI s11)] H fun fr H=>?_
  refine qix tS 30 .shut hr H fun x13 hr hx13 fr H=>?_
  refine qg 1 [(38,vS x13)] H fun fr H=>?_
  refine qb hr (fun x h s=>F113_R  _ _ _ x h) H fun x14 hr fr H=>?_
  refine qe ?_
  rcases csplit hr with ⟨hc15,hr⟩ | ⟨hc15,hr⟩
  rotate_left
  ·refine qF H hc15 ?_
   refine W_skip ?_
   refine W_reg ?_
   refine qg 3 [(7,vI (w64 (s11 + 1)))] H fun fr H=>?_
   refine qe ?_
   obtain rfl:=Option.some.inj hr
   exact ⟨rfl,⟨H.tq,K.keep [true]⟩⟩
  refine qT H hc15 ?_
  refine W_seq (W_reg ?_)
  refine qg 2 [(40,vL tS x10 .shut),(41,vI s11)] H fun fr H=>?_
  refine qix tS 30 .shut hr H fun x16 hr hx16 fr H=>?_
  refine qg 3 [(45,.agg [vI 3,vS x16,vI a1])] H fun fr H=>?_
  refine qst 61 0 (.agg [vI 3,vS x16,vI a1]) [vI 3,vS x16,vI a1] 0 H K rfl fun st K fr H=>?_
  refine qg 1 [(5,vB true)] H fun fr H=>?_
  refine qe ?_
  refine W_ret ?_
  obtain rfl:=Option.some.inj hr
  exact ⟨by simp,⟨rfl,H.tq,K.keep [true]⟩⟩
 rcases r17 with r17a | r17b
 ·rintro e fr st ⟨rfl,H,K⟩
  obtain rfl:=Option.some.inj hr
  exact e_ret [.agg (cToken r17a),vB true] H K (fun _=>resC id1 0 61 [vI r17a.kind,vS r17a.text,vI r17a.pos] 0 (by kernel_rfl) rfl (by kernel_rfl) (resT (by kernel_rfl) resN)) (fun _=>by kernel_rfl)
 rintro e fr st ⟨rfl,H,K⟩
 refine W_seq (W_reg ?_)
 refine qg 1 [(46,.agg [vI 0,vS (bs []),vI 0])] H fun fr H=>?_
 refine qst 61 0 (.agg [vI 0,vS (bs []),vI 0]) [vI 0,vS (bs []),vI 0] 0 H K rfl fun st K fr H=>?_
 refine qg 1 [(5,vB false)] H fun fr H=>?_
 refine qe ?_
 refine W_ret ?_
 obtain rfl:=Option.some.inj hr
 exact e_ret [.agg [vI 0,vS (bs []),vI 0],vB false] H K (fun _=>resC id1 0 61 [vI 0,vS (bs []),vI 0] 0 (by kernel_rfl) rfl (by kernel_rfl) (resT (by kernel_rfl) resN)) (fun _=>by kernel_rfl)
def F39 (n:Nat) (a0:ByteArray):Option ((List Token) × Int × Int) :=
 bif decide (4000 < (a0.size:Int)) then
  (some (([]:List Token),(2:Int),(0:Int)))
 else
  ((F74 n a0 (0:Int)).bind fun x2 =>
  (iter (σ:=(List Token) × Int) (ρ:=(Int × Int) ⊕ ((List Token))) (fun s3=>bif decide (s3.2 < (a0.size:Int)) then
    (bif decide (1500≤(s3.1.length:Int)) then
     (some (.inr (.inl ((2:Int),s3.2))))
    else
     ((F75 n a0 s3.2).bind fun x6 =>
     bif !x6.2 then
      (some (.inr (.inl ((10:Int),s3.2))))
     else
      ((appL 32 s3.1 ([x6.1]:List Token)).bind fun x9 =>
      (F74 n a0 (w64 (s3.2 + (x6.1.text.size:Int)))).bind fun x11 =>
      some (.inl (x9,x11)))))
   else
    (some (.inr (.inr s3.1)))) n (([]:List Token),x2)).bind fun r12=>match r12 with
  | .inl r12a=>some (([]:List Token),r12a.1,r12a.2)
  | .inr r12b=>some (r12b,(0:Int),(0:Int)))
theorem F39_R (n:Nat) (a0:ByteArray) (r:(List Token) × Int × Int) (hr:F39 n a0 = some r) {st:St}:R Tryz.prog AN 39 [vS a0] st (.ret (.tuple [vL tToken r.1 .shut,vI r.2.1,vI r.2.2])) st:=by
 unfold F39 at hr
 refine R_pureX [vS a0] [(0,vS a0)] Tryz.func39 rfl (by kernel_rfl) rfl fun fr st H K=>?_
 refine W_seq (W_reg ?_)
 refine qg 3 [] H fun fr H=>?_
 refine qe ?_
 refine W_seq (W_seq ?_)
 refine W_reg ?_
 refine qg 3 [(11,vB (decide (4000 < (a0.size:Int))))] H fun fr H=>?_
 refine qe ?_
 rcases csplit hr with ⟨hc1,hr⟩ | ⟨hc1,hr⟩
 ·refine qT H hc1 ?_
  refine W_seq (W_reg ?_)
  refine qg 3 [(2,vL tToken ([]:List Token) .nil),(3,vI 2),(4,vI 0)] H fun fr H=>?_
  refine qe ?_
  refine W_ret ?_
  obtain rfl:=Option.some.inj hr
  exact e_ret [vL tToken ([]:List Token) .nil,vI 2,vI 0] H K (fun _=>resT (by kernel_rfl) (resT (by kernel_rfl) (resT (by kernel_rfl) resN))) (fun _=>by simp only [strip,stripL,stripL_ET,Option.bind_some,Option.map_some,oneOf] <;> rfl)
 refine qF H hc1 ?_
 refine W_skip ?_
 refine W_seq (W_reg ?_)
 refine qg 1 [(5,vL tToken ([]:List Token) .nil)] H fun fr H=>?_
 refine qe ?_
 refine W_seq (W_reg ?_)
 refine qg 1 [(12,vS a0)] H fun fr H=>?_
 refine qb hr (fun x h s=>F74_R n _ _ x h) H fun x2 hr fr H=>?_
 refine qg 1 [(6,vI x2)] H fun fr H=>?_
 refine qe ?_
 refine W_seq (W_block ?_)
 obtain ⟨r12,hr12,hr⟩:=obind hr
 refine W_iter hr12 (fun (s3:(List Token) × Int) fr st=>∃ (s3sp0:Spare),Rd fr [(0,vS a0),(5,vL tToken s3.1 s3sp0),(6,vI s3.2)]∧HL st [.own s3sp0]) (fun (r12:(Int × Int) ⊕ ((List Token))) e fr st=>match r12 with | .inl r12a=>(e = .ret∧Rd fr [(2,vL tToken ([]:List Token) .nil),(3,vI r12a.1),(4,vI r12a.2)]∧HL st []) | .inr r12b=>(e = .exit 0∧∃ (r12bsp0:Spare),Rd fr [(5,vL tToken r12b r12bsp0)]∧HL st [.own r12bsp0])) ⟨.nil,H.tq,((K.keep []).nilo)⟩ ?_ ?_
 ·intro s3 fr st r hi hr
  obtain ⟨s3sp0,H,K⟩:=hi
  refine W_seq (W_seq ?_)
  refine W_reg ?_
  refine qg 4 [(17,vB (decide (s3.2 < (a0.size:Int))))] H fun fr H=>?_
  refine qe ?_
  rcases csplit hr with ⟨hc4,hr⟩ | ⟨hc4,hr⟩
  rotate_left
  ·refine qF H hc4 ?_
   refine W_exit ?_
   obtain rfl:=Option.some.inj hr
   exact ⟨by simp,⟨rfl,s3sp0,H.tq,K.keep [true]⟩⟩
  refine qT H hc4 ?_
  refine W_skip ?_
  refine W_block ?_
  refine W_seq (W_seq ?_)
  refine W_reg ?_
  refine qg 1 [(18,vL tToken s3.1 s3sp0)] H fun fr H=>?_
  refine qln tToken 56 s3.1 s3sp0 H fun fr H=>?_
  refine qg 1 [(20,vB (decide (1500≤(s3.1.length:Int))))] H fun fr H=>?_
  refine qe ?_
  rcases csplit hr with ⟨hc5,hr⟩ | ⟨hc5,hr⟩
  ·refine qT H hc5 ?_
   refine W_seq (W_reg ?_)
   refine qg 4 [(2,vL tToken ([]:List Token) .nil),(3,vI 2),(4,vI s3.2)] H fun fr H=>?_
   refine qe ?_
   refine W_ret ?_
   obtain rfl:=Option.some.inj hr
   exact ⟨by simp,⟨rfl,H.tq,K.keep [false]⟩⟩
  refine qF H hc5 ?_
  refine W_skip ?_
  refine W_seq (W_reg ?_)
  refine qg 2 [(23,vS a0),(24,vI s3.2)] H fun fr H=>?_
  refine qb hr (fun x h s=>F75_R n _ _ x h) H fun x6 hr fr H=>?_
  refine qg 3 [(26,.agg (cToken x6.1)),(27,vB x6.2)] H fun fr H=>?_
  refine qal 61 [vI 0,vS (bs []),vI 0] H K fun id7 st K fr H=>?_
  refine qst 61 0 (.agg (cToken x6.1)) [vI x6.1.kind,vS x6.1.text,vI x6.1.pos] 0 H K rfl fun st K fr H=>?_
  refine qg 1 [(8,vB x6.2)] H fun fr H=>?_
  refine qe ?_
  refine W_seq (W_seq ?_)
  refine W_reg ?_
  refine qg 2 [(29,vB !x6.2)] H fun fr H=>?_
  refine qe ?_
  rcases csplit hr with ⟨hc8,hr⟩ | ⟨hc8,hr⟩
  ·refine qT H hc8 ?_
   refine W_seq (W_reg ?_)
   refine qg 4 [(2,vL tToken ([]:List Token) .nil),(3,vI 10),(4,vI s3.2)] H fun fr H=>?_
   refine qe ?_
   refine W_ret ?_
   obtain rfl:=Option.some.inj hr
   exact ⟨by simp,⟨rfl,H.tq,K.keep [false,false]⟩⟩
  refine qF H hc8 ?_
  refine W_skip ?_
  refine W_seq (W_reg ?_)
  refine qg 1 [(31,vL tToken s3.1 s3sp0)] H fun fr H=>?_
  refine qld 61 0 (.agg (cToken x6.1)) 0 H K rfl fun fr H=>?_
  refine qbs tToken 56 ([x6.1]:List Token) H fun fr H=>?_
  refine qapp tToken 32 56 56 .full hr 1 H K rfl fun x9 hr sp10 st K fr H=>?_
  refine qg 1 [(5,vL tToken x9 sp10)] H fun fr H=>?_
  refine qe ?_
  refine W_reg ?_
  refine qg 3 [(35,vS a0),(36,vI s3.2),(37,.ptr id7 1)] H fun fr H=>?_
  refine qld 9 1 (vS x6.1.text) 0 H K rfl fun fr H=>?_
  refine qg 2 [(40,vI (w64 (s3.2 + (x6.1.text.size:Int))))] H fun fr H=>?_
  refine qb hr (fun x h s=>F74_R n _ _ x h) H fun x11 hr fr H=>?_
  refine qg 1 [(6,vI x11)] H fun fr H=>?_
  refine qe ?_
  obtain rfl:=Option.some.inj hr
  exact ⟨rfl,⟨sp10,H.tq,K.keep [false,true]⟩⟩
 rcases r12 with r12a | r12b
 ·rintro e fr st ⟨rfl,H,K⟩
  obtain rfl:=Option.some.inj hr
  exact e_ret [vL tToken ([]:List Token) .nil,vI r12a.1,vI r12a.2] H K (fun _=>resT (by kernel_rfl) (resT (by kernel_rfl) (resT (by kernel_rfl) resN))) (fun _=>by simp only [strip,stripL,stripL_ET,Option.bind_some,Option.map_some,oneOf] <;> rfl)
 rintro e fr st ⟨rfl,r12bsp0,H,K⟩
 refine W_seq (W_reg ?_)
 refine qg 4 [(2,vL tToken r12b r12bsp0),(3,vI 0),(4,vI 0)] H fun fr H=>?_
 refine qe ?_
 refine W_ret ?_
 obtain rfl:=Option.some.inj hr
 exact e_ret [vL tToken r12b r12bsp0,vI 0,vI 0] H K (fun _=>resT (by kernel_rfl) (resT (by kernel_rfl) (resT (by kernel_rfl) resN))) (fun _=>by simp only [strip,stripL,stripL_ET,Option.bind_some,Option.map_some,oneOf] <;> rfl)
def F33 (n:Nat) (a0:ByteArray):Option Bool :=
 bif decide (6000 < (a0.size:Int)) then
  (some false)
 else
  ((F39 n a0).bind fun x2 =>
  some (x2.2.1 == 0))
theorem F33_R (n:Nat) (a0:ByteArray) (r:Bool) (hr:F33 n a0 = some r) {st:St}:R Tryz.prog AN 33 [vS a0] st (.ret (vB r)) st:=by
 unfold F33 at hr
 refine R_pureX [vS a0] [(0,vS a0)] Tryz.func33 rfl (by kernel_rfl) rfl fun fr st H K=>?_
 refine W_seq (W_reg ?_)
 refine qg 1 [] H fun fr H=>?_
 refine qe ?_
 refine W_seq (W_seq ?_)
 refine W_reg ?_
 refine qg 3 [(8,vB (decide (6000 < (a0.size:Int))))] H fun fr H=>?_
 refine qe ?_
 rcases csplit hr with ⟨hc1,hr⟩ | ⟨hc1,hr⟩
 ·refine qT H hc1 ?_
  refine W_seq (W_reg ?_)
  refine qg 1 [(2,vB false)] H fun fr H=>?_
  refine qe ?_
  refine W_ret ?_
  obtain rfl:=Option.some.inj hr
  exact qr [vB false] H K
 refine qF H hc1 ?_
 refine W_skip ?_
 refine W_seq (W_reg ?_)
 refine qg 1 [(10,vS a0)] H fun fr H=>?_
 refine qb hr (fun x h s=>F39_R n _ x h) H fun x2 hr fr H=>?_
 refine qg 7 [(4,vI x2.2.1)] H fun fr H=>?_
 refine qe ?_
 refine W_seq (W_reg ?_)
 refine qg 3 [(2,vB (x2.2.1 == 0))] H fun fr H=>?_
 refine qe ?_
 refine W_ret ?_
 obtain rfl:=Option.some.inj hr
 exact qr [vB (x2.2.1 == 0)] H K
end Go.Proofs.YtbecjgckobhmpaaGreatDoor
end
section
namespace Go.Proofs.YtbecjgckobhmpaaGreatDoor
open Go Go.AM Go.Proofs
set_option maxRecDepth 100000
set_option maxHeartbeats 4000000
def F61_step (F61:Node→Int→Int→Option (Int × Bool)) (n:Nat) (a0:Node) (a1:Int) (a2:Int):Option (Int × Bool) :=
 bif decide (a2 < 1) then
  (some ((1:Int),false))
 else
  ((iter (σ:=Int × Int) (ρ:=Int ⊕ Int) (fun s2=>bif (decide (s2.2 < (a0.kids.length:Int))) && (decide (s2.1≤a1)) then
    ((idxL a0.kids s2.2).bind fun x4 =>
    (F61 x4 (w64 (a1 - s2.1)) (w64 (a2 - 1))).bind fun x5 =>
    bif !x5.2 then
     (some (.inr (.inl s2.1)))
    else
     (some (.inl (w64 (s2.1 + x5.1),w64 (s2.2 + 1)))))
   else
    (some (.inr (.inr s2.1)))) n ((1:Int),(0:Int))).bind fun r7=>match r7 with
  | .inl r7a=>some (r7a,false)
  | .inr r7b=>some (r7b,true))
def F61:Nat→Node→Int→Int→Option (Int × Bool)
 | 0,_,_,_=>none
 | n + 1,a0,a1,a2=>F61_step (F61 n) n a0 a1 a2
end Go.Proofs.YtbecjgckobhmpaaGreatDoor
end
section
namespace Go.AM
open Go
section
variable {P:Program} {A:Ann} {f:FuncId} {fr:Fr} {st:St} {env:Env} {rs:List Res}
theorem R_ownX {g:FuncId} {fn:Func} {c:Code} {args:List AV} {τ:Type} {v:τ→AV} {post:τ→List Res} (env:Env) (hf:P.funcs[g]? = some fn) (hb:fn.body = some c) (he:looksUp (frame0 args) (env.map Prod.fst) = env.map Prod.snd)
  (h:∀ fr,Rd fr env→W P A g c fr st (endsG P fn fun got st=>∃ q,got = .ret (v q)∧HL st (post q))) (hok:formOk fn c args.length = true:=by kernel_rfl):∃ q st',R P A g args st (.ret (v q)) st'∧HL st' (post q):=by
 obtain ⟨got',st',hr,q,rfl,hp⟩:=R_bodyG hf hb hok (h _ (Rd.of_looksUp he))
 exact ⟨q,st',hr,hp⟩
theorem e_retQ {fn:Func} {τ:Type} {v:τ→AV} {post:τ→List Res} (vs:List AV) (H:Rd fr env) (K:HL st rs) (hr:∀ fr,ResL P rs (puts fr env) fn.results.toList vs) (q:τ) (hg:oneOf vs = v q) (hp:HL st (post q)) :
  endsG P fn (fun got st=>∃ q,got = .ret (v q)∧HL st (post q)) .ret fr st:=by
 have h1:=hr fr
 rw [H.puts] at h1
 exact ⟨_,results_one (P:=P) (ResL_ok K _ _ h1),q,by rw [hg],hp⟩
end
end Go.AM
end
section
namespace Go.Proofs.YtbecjgckobhmpaaGreatDoor
open Go Go.AM Go.Proofs
set_option maxRecDepth 100000
set_option maxHeartbeats 4000000
def F43_step (F43:Node→(List Int)→Option ((List Int))) (n:Nat) (a0:Node) (a1:List Int):Option ((List Int)) :=
 (iter (σ:=(List Int) × Int) (ρ:=((List Int))) (fun s1=>bif decide (s1.2 < (a0.kids.length:Int)) then
   ((bif (((a0.kind == 62) || (a0.kind == 60)) || (a0.kind == 51)) || (a0.kind == 34) then
     ((idxL a0.kids s1.2).bind fun x4 =>
     (appL 8 s1.1 ([x4.pos]:List Int)).bind fun x5 =>
     some x5)
    else
     (some s1.1):Option (((List Int)))).bind fun j7 =>
   (idxL a0.kids s1.2).bind fun x8 =>
   (F43 x8 j7).bind fun x9 =>
   some (.inl (x9,w64 (s1.2 + 1))))
  else
   (some (.inr s1.1))) n (a1,(0:Int))).bind fun r11 =>
 some r11
def F43:Nat→Node→(List Int)→Option ((List Int))
 | 0,_,_=>none
 | n + 1,a0,a1=>F43_step (F43 n) n a0 a1
theorem F43_RR (n:Nat):(∀ (a0:Node) (a1:List Int) (r:(List Int)),F43 n a0 a1 = some r→∀ {st:St} {rs:List Res} {p0 p1:Spare} (_:HL st (.own p1 :: rs)),∃ (q:Spare) (st':St),R Tryz.prog AN 43 [.agg (cNode p0 a0),vL (tI .i64) a1 p1] st (.ret (vL (tI .i64) r q)) st'∧HL st' (.own q :: rs)):=by
 induction n with
 | zero=>(intros; contradiction)
 | succ n ih =>
  have ih_F43:=@ih; clear ih
  intro a0 a1 r hr st rs p0 p1 K
  change F43_step (F43 n) n a0 a1 = some r at hr
  unfold F43_step at hr
  refine R_ownX (v:=fun q=>vL (tI .i64) r q) (post:=fun q=>.own q :: rs) [(0,.agg (cNode p0 a0)),(1,vL (tI .i64) a1 p1)] Tryz.func43 rfl rfl fun fr H=>?_
  refine W_seq (W_reg ?_)
  refine qg 2 [(2,.cptr (cNode p0 a0) 0)] H fun fr H=>?_
  refine qe ?_
  refine W_seq (W_reg ?_)
  refine qg 4 [(10,vB (a0.kind == 62))] H fun fr H=>?_
  refine qg 4 [(14,vB ((a0.kind == 62) || (a0.kind == 60)))] H (hs:=by intro _ _; generalize (a0.kind == 62) = b0; cases b0 <;> kernel_rfl) fun fr H=>?_
  refine qg 1 [(15,vB ((a0.kind == 62) || (a0.kind == 60)))] H fun fr H=>?_
  refine qg 4 [(19,vB (((a0.kind == 62) || (a0.kind == 60)) || (a0.kind == 51)))] H (hs:=by intro _ _; generalize ((a0.kind == 62) || (a0.kind == 60)) = b0; cases b0 <;> kernel_rfl) fun fr H=>?_
  refine qg 1 [(20,vB (((a0.kind == 62) || (a0.kind == 60)) || (a0.kind == 51)))] H fun fr H=>?_
  refine qg 4 [(24,vB ((((a0.kind == 62) || (a0.kind == 60)) || (a0.kind == 51)) || (a0.kind == 34)))] H (hs:=by intro _ _; generalize (((a0.kind == 62) || (a0.kind == 60)) || (a0.kind == 51)) = b0; cases b0 <;> kernel_rfl) fun fr H=>?_
  refine qg 1 [(5,vB ((((a0.kind == 62) || (a0.kind == 60)) || (a0.kind == 51)) || (a0.kind == 34)))] H fun fr H=>?_
  refine qe ?_
  refine W_seq (W_seq ?_)
  refine W_reg ?_
  refine qg 1 [(6,vI 0)] H fun fr H=>?_
  refine qe ?_
  refine W_block ?_
  obtain ⟨r11,hr11,hr⟩:=obind hr
  refine W_iter hr11 (fun (s1:(List Int) × Int) fr st=>∃ (s1sp0:Spare),Rd fr [(1,vL (tI .i64) s1.1 s1sp0),(2,.cptr (cNode p0 a0) 0),(5,vB ((((a0.kind == 62) || (a0.kind == 60)) || (a0.kind == 51)) || (a0.kind == 34))),(6,vI s1.2)]∧HL st (.own s1sp0 :: rs)) (fun (r11:((List Int))) e fr st=>e = .exit 0∧∃ (r11sp0:Spare),Rd fr [(1,vL (tI .i64) r11 r11sp0)]∧HL st (.own r11sp0 :: rs)) ⟨p1,H.tq,K.keep [true]⟩ ?_ ?_
  ·intro s1 fr st r hi hr
   obtain ⟨s1sp0,H,K⟩:=hi
   refine W_seq (W_seq ?_)
   refine W_reg ?_
   refine qg 3 [(25,vI s1.2),(27,vL tNode a0.kids p0)] H fun fr H=>?_
   refine qln tNode 22 a0.kids p0 H fun fr H=>?_
   refine qg 1 [(29,vB (decide (s1.2 < (a0.kids.length:Int))))] H fun fr H=>?_
   refine qe ?_
   rcases csplit hr with ⟨hc2,hr⟩ | ⟨hc2,hr⟩
   rotate_left
   ·refine qF H hc2 ?_
    refine W_exit ?_
    obtain rfl:=Option.some.inj hr
    exact ⟨by simp,⟨rfl,s1sp0,H.tq,K.keep [true]⟩⟩
   refine qT H hc2 ?_
   refine W_skip ?_
   refine W_seq (W_block ?_)
   refine W_seq ?_
   obtain ⟨j7,hj7,hr⟩:=obind hr
   refine W_via (fun e fr st=>e = .normal∧∃ (j7sp0:Spare),Rd fr [(1,vL (tI .i64) j7 j7sp0),(2,.cptr (cNode p0 a0) 0),(5,vB ((((a0.kind == 62) || (a0.kind == 60)) || (a0.kind == 51)) || (a0.kind == 34))),(6,vI s1.2)]∧HL st (.own j7sp0 :: rs)) ?_ ?_
   ·replace hr:=hj7
    refine W_seq (W_reg ?_)
    refine qg 1 [(32,vB ((((a0.kind == 62) || (a0.kind == 60)) || (a0.kind == 51)) || (a0.kind == 34)))] H fun fr H=>?_
    refine qe ?_
    rcases csplit hr with ⟨hc3,hr⟩ | ⟨hc3,hr⟩
    rotate_left
    ·refine qF H hc3 ?_
     refine W_skip ?_
     obtain rfl:=Option.some.inj hr
     exact ⟨rfl,s1sp0,H.tq,K.keep [true]⟩
    refine qT H hc3 ?_
    refine W_reg ?_
    refine qg 4 [(33,vL (tI .i64) s1.1 s1sp0),(35,vL tNode a0.kids p0),(36,vI s1.2)] H fun fr H=>?_
    refine qix tNode 22 p0 hr H fun x4 hr hx4 fr H=>?_
    refine qg 2 [(39,vI x4.pos)] H fun fr H=>?_
    refine qbs (tI .i64) 48 ([x4.pos]:List Int) H fun fr H=>?_
    refine qapp (tI .i64) 8 48 48 .full hr 0 H K rfl fun x5 hr sp6 st K fr H=>?_
    refine qg 1 [(1,vL (tI .i64) x5 sp6)] H fun fr H=>?_
    refine qe ?_
    obtain rfl:=Option.some.inj hr
    exact ⟨rfl,sp6,H.tq,K.keep [true]⟩
   rintro e fr st ⟨rfl,j7sp0,H,K⟩
   refine W_reg ?_
   refine qg 3 [(43,vL tNode a0.kids p0),(44,vI s1.2)] H fun fr H=>?_
   refine qix tNode 22 p0 hr H fun x8 hr hx8 fr H=>?_
   refine qg 2 [(46,aN x8),(47,vL (tI .i64) j7 j7sp0)] H fun fr H=>?_
   refine qqb (v:=fun x q=>vL (tI .i64) x q) hr (fun x h=>ih_F43 _ _ x h (p0:=.shut) (p1:=j7sp0) (K.front 0 rfl)) H fun x9 hr sp10 st K fr H=>?_
   refine qg 1 [(1,vL (tI .i64) x9 sp10)] H fun fr H=>?_
   refine qe ?_
   refine W_reg ?_
   refine qg 3 [(6,vI (w64 (s1.2 + 1)))] H fun fr H=>?_
   refine qe ?_
   obtain rfl:=Option.some.inj hr
   exact ⟨rfl,⟨sp10,H.tq,K.keep [true]⟩⟩
  rintro e fr st ⟨rfl,r11sp0,H,K⟩
  refine W_seq (W_reg ?_)
  refine qg 2 [(4,vL (tI .i64) r11 r11sp0)] H fun fr H=>?_
  refine qe ?_
  refine W_ret ?_
  obtain rfl:=Option.some.inj hr
  exact e_retQ (v:=fun q=>vL (tI .i64) r11 q) (post:=fun q=>.own q :: rs) [vL (tI .i64) r11 r11sp0] H K (fun _=>resT (by kernel_rfl) resN) r11sp0 rfl (K.keep [true])
theorem F43_R (n:Nat) (a0:Node) (a1:List Int) (r:(List Int)) (hr:F43 n a0 a1 = some r) {st:St} {rs:List Res} {p0 p1:Spare} (K:HL st (.own p1 :: rs)):∃ (q:Spare) (st':St),R Tryz.prog AN 43 [.agg (cNode p0 a0),vL (tI .i64) a1 p1] st (.ret (vL (tI .i64) r q)) st'∧HL st' (.own q :: rs):=(F43_RR n) a0 a1 r hr K
def F11 (n:Nat) (a0:ByteArray) (a1:Int):Option Bool :=
 (F24 n ).bind fun x1 =>
 bif decide (6000 < (a0.size:Int)) then
  (some x1)
 else
  ((F25 n a0).bind fun x3 =>
  bif decide (0 < (x3.2.length:Int)) then
   (some x1)
  else
   ((F26 n x3.1 (4000:Int)).bind fun x6 =>
   bif !x6 then
    (some x1)
   else
    ((F43 n x3.1 ([]:List Int)).bind fun x8 =>
    (appL 8 x8 ([(a0.size:Int)]:List Int)).bind fun x10 =>
    (remI (w64 a1) (x10.length:Int)).bind fun x12 =>
    (idxL x10 x12).bind fun x13 =>
    bif (decide (x13 < 0)) || (decide ((a0.size:Int) < x13)) then
     (some false)
    else
     ((subS a0 0 x13).bind fun x15 =>
     (bif x13 == (a0.size:Int) then
       ((catS x15 (bs [10])).bind fun x17 =>
       some x17)
      else
       (some x15):Option (ByteArray)).bind fun j18 =>
     (catS j18 (bs [63,59,32])).bind fun x19 =>
     (subS a0 x13 (a0.size:Int)).bind fun x20 =>
     (catS x19 x20).bind fun x21 =>
     (F33 n x21).bind fun x22 =>
     bif !x22 then
      (some x1)
     else
      ((F25 n x21).bind fun x24 =>
      bif x1 then
       ((F37 n x24.2 (20:Int) (j18.size:Int)).bind fun x27 =>
       bif x27 then
        ((F26 n x24.1 (4000:Int)).bind fun x29 =>
        bif x29 then
         ((F34 n x3.1).bind fun x31 =>
         (F34 n x24.1).bind fun x32 =>
         (F30 n x31 x32).bind fun x33 =>
         some x33)
        else
         (some false))
       else
        (some false))
      else
       (some false))))))
theorem F11_R (n:Nat) (a0:ByteArray) (a1:Int) (r:Bool) (hr:F11 n a0 a1 = some r) {st:St}:R Tryz.prog AN 11 [vS a0,.sc (.int .u16 a1)] st (.ret (vB r)) st:=by
 unfold F11 at hr
 refine R_pureX [vS a0,.sc (.int .u16 a1)] [(0,vS a0),(1,.sc (.int .u16 a1))] Tryz.func11 rfl (by kernel_rfl) rfl fun fr st H K=>?_
 refine W_seq (W_reg ?_)
 refine qg 1 [] H fun fr H=>?_
 refine qe ?_
 refine W_seq (W_reg ?_)
 refine qb hr (fun x h s=>F24_R n x h) H fun x1 hr fr H=>?_
 refine qg 1 [(5,vB x1)] H fun fr H=>?_
 refine qe ?_
 refine W_seq (W_seq ?_)
 refine W_reg ?_
 refine qg 3 [(17,vB (decide (6000 < (a0.size:Int))))] H fun fr H=>?_
 refine qe ?_
 rcases csplit hr with ⟨hc2,hr⟩ | ⟨hc2,hr⟩
 ·refine qT H hc2 ?_
  refine W_seq (W_reg ?_)
  refine qg 2 [(4,vB x1)] H fun fr H=>?_
  refine qe ?_
  refine W_ret ?_
  obtain rfl:=Option.some.inj hr
  exact qr [vB x1] H K
 refine qF H hc2 ?_
 refine W_skip ?_
 refine W_seq (W_reg ?_)
 refine qg 1 [(20,vS a0)] H fun fr H=>?_
 refine qb hr (fun x h s=>F25_R n _ x h) H fun x3 hr fr H=>?_
 refine qg 3 [(22,aN x3.1),(23,vL tDiag x3.2 .shut)] H fun fr H=>?_
 refine qal 24 [vI 0,vS (bs []),vS (bs []),vI 0,vI 0,vI 0,vB false,vL tNode ([]:List Node) .nil,vI 0] H K fun id4 st K fr H=>?_
 refine qst 24 0 (aN x3.1) [vI x3.1.kind,vS x3.1.name,vS x3.1.other,vI x3.1.n,vI x3.1.len,vI x3.1.init,vB x3.1.ghost,vL tNode x3.1.kids .shut,vI x3.1.pos] 0 H K rfl fun st K fr H=>?_
 refine qg 1 [(7,vL tDiag x3.2 .shut)] H fun fr H=>?_
 refine qe ?_
 refine W_seq (W_seq ?_)
 refine W_reg ?_
 refine qg 1 [(24,vL tDiag x3.2 .shut)] H fun fr H=>?_
 refine qln tDiag 37 x3.2 .shut H fun fr H=>?_
 refine qg 2 [(27,vB (decide (0 < (x3.2.length:Int))))] H fun fr H=>?_
 rcases csplit hr with ⟨hc5,hr⟩ | ⟨hc5,hr⟩
 ·rw [hc5] at H
  refine qg 4 [(31,vB true)] H fun fr H=>?_
  refine qe ?_
  refine qT H rfl ?_
  refine W_seq (W_reg ?_)
  refine qg 2 [(4,vB x1)] H fun fr H=>?_
  refine qe ?_
  refine W_ret ?_
  obtain rfl:=Option.some.inj hr
  exact qr [vB x1] H K
 rw [hc5] at H
 refine qld 24 0 (aN x3.1) 0 H K rfl fun fr H=>?_
 refine qb hr (fun x h s=>F26_R n _ _ x h (p0:=.shut)) H fun x6 hr fr H=>?_
 refine qg 2 [(31,vB !x6)] H fun fr H=>?_
 refine qe ?_
 rcases csplit hr with ⟨hc7,hr⟩ | ⟨hc7,hr⟩
 ·refine qT H hc7 ?_
  refine W_seq (W_reg ?_)
  refine qg 2 [(4,vB x1)] H fun fr H=>?_
  refine qe ?_
  refine W_ret ?_
  obtain rfl:=Option.some.inj hr
  exact qr [vB x1] H K
 refine qF H hc7 ?_
 refine W_skip ?_
 refine W_seq (W_reg ?_)
 refine qld 24 0 (aN x3.1) 0 H K rfl fun fr H=>?_
 refine qqb (v:=fun x q=>vL (tI .i64) x q) hr (fun x h=>F43_R n _ _ x h (p0:=.shut) (p1:=.nil) ((K.nilo).front 0 rfl)) H fun x8 hr sp9 st K fr H=>?_
 refine qg 2 [(36,vI (a0.size:Int))] H fun fr H=>?_
 refine qbs (tI .i64) 48 ([(a0.size:Int)]:List Int) H fun fr H=>?_
 refine qapp (tI .i64) 8 48 48 .full hr 0 H K rfl fun x10 hr sp11 st K fr H=>?_
 refine qg 1 [(8,vL (tI .i64) x10 sp11)] H fun fr H=>?_
 refine qe ?_
 refine W_seq (W_reg ?_)
 refine qg 4 [(39,vL (tI .i64) x10 sp11),(41,vI (w64 a1)),(42,vL (tI .i64) x10 sp11)] H fun fr H=>?_
 refine qln (tI .i64) 48 x10 sp11 H fun fr H=>?_
 obtain ⟨x12,hx12,hr⟩:=obind hr
 refine qv (.bin .rem 3 (.tmp 41) (.tmp 43) (vI (w64 a1)) (vI (x10.length:Int))) H (run_rem hx12) fun fr H=>?_
 refine qix (tI .i64) 48 sp11 hr H fun x13 hr hx13 fr H=>?_
 refine qg 2 [(9,vI x13)] H fun fr H=>?_
 refine qe ?_
 refine W_seq (W_seq ?_)
 refine W_reg ?_
 refine qg 3 [(49,vB (decide (x13 < 0)))] H fun fr H=>?_
 refine qg 5 [(54,vB ((decide (x13 < 0)) || (decide ((a0.size:Int) < x13))))] H (hs:=by intro _ _; generalize (decide (x13 < 0)) = b0; cases b0 <;> kernel_rfl) fun fr H=>?_
 refine qe ?_
 rcases csplit hr with ⟨hc14,hr⟩ | ⟨hc14,hr⟩
 ·refine qT H hc14 ?_
  refine W_seq (W_reg ?_)
  refine qg 1 [(4,vB false)] H fun fr H=>?_
  refine qe ?_
  refine W_ret ?_
  obtain rfl:=Option.some.inj hr
  exact qr [vB false] H K
 refine qF H hc14 ?_
 refine W_skip ?_
 refine W_seq (W_reg ?_)
 refine qg 2 [(55,vS a0),(56,vI x13)] H fun fr H=>?_
 obtain ⟨x15,hx15,hr⟩:=obind hr
 refine qv (.slice 9 (vS a0) none (some (vI x13))) H (run_subS_hi (by kernel_rfl) hx15) fun fr H=>?_
 refine qg 1 [(10,vS x15)] H fun fr H=>?_
 refine qe ?_
 refine W_seq ?_
 obtain ⟨j18,hj18,hr⟩:=obind hr
 refine W_via (fun e fr st=>e = .normal∧Rd fr [(0,vS a0),(5,vB x1),(6,.ptr id4 0),(9,vI x13),(10,vS j18)]∧HL st [.obj id4 (.cells 24 [vI x3.1.kind,vS x3.1.name,vS x3.1.other,vI x3.1.n,vI x3.1.len,vI x3.1.init,vB x3.1.ghost,vL tNode x3.1.kids .shut,vI x3.1.pos])]) ?_ ?_
 ·replace hr:=hj18
  refine W_seq (W_reg ?_)
  refine qg 4 [(61,vB (x13 == (a0.size:Int)))] H fun fr H=>?_
  refine qe ?_
  rcases csplit hr with ⟨hc16,hr⟩ | ⟨hc16,hr⟩
  rotate_left
  ·refine qF H hc16 ?_
   refine W_skip ?_
   obtain rfl:=Option.some.inj hr
   exact ⟨rfl,H.tq,K.keep [false,true]⟩
  refine qT H hc16 ?_
  refine W_reg ?_
  refine qg 1 [(62,vS x15)] H fun fr H=>?_
  obtain ⟨x17,hx17,hr⟩:=obind hr
  refine qv (.bin .add 9 (.tmp 62) (.const (.string (bs [10]))) (vS x15) (vS (bs [10]))) H (run_cat hx17) fun fr H=>?_
  refine qg 1 [(10,vS x17)] H fun fr H=>?_
  refine qe ?_
  obtain rfl:=Option.some.inj hr
  exact ⟨rfl,H.tq,K.keep [false,true]⟩
 rintro e fr st ⟨rfl,H,K⟩
 refine W_seq (W_reg ?_)
 refine qg 1 [(64,vS j18)] H fun fr H=>?_
 obtain ⟨x19,hx19,hr⟩:=obind hr
 refine qv (.bin .add 9 (.tmp 64) (.const (.string (bs [63,59,32]))) (vS j18) (vS (bs [63,59,32]))) H (run_cat hx19) fun fr H=>?_
 refine qg 2 [(66,vS a0),(67,vI x13)] H fun fr H=>?_
 obtain ⟨x20,hx20,hr⟩:=obind hr
 refine qv (.slice 9 (vS a0) (some (vI x13)) none) H (run_subS_lo (by kernel_rfl) hx20) fun fr H=>?_
 obtain ⟨x21,hx21,hr⟩:=obind hr
 refine qv (.bin .add 9 (.tmp 65) (.tmp 68) (vS x19) (vS x20)) H (run_cat hx21) fun fr H=>?_
 refine qg 1 [(11,vS x21)] H fun fr H=>?_
 refine qe ?_
 refine W_seq (W_seq ?_)
 refine W_reg ?_
 refine qg 1 [(70,vS x21)] H fun fr H=>?_
 refine qb hr (fun x h s=>F33_R n _ x h) H fun x22 hr fr H=>?_
 refine qg 1 [(72,vB !x22)] H fun fr H=>?_
 refine qe ?_
 rcases csplit hr with ⟨hc23,hr⟩ | ⟨hc23,hr⟩
 ·refine qT H hc23 ?_
  refine W_seq (W_reg ?_)
  refine qg 2 [(4,vB x1)] H fun fr H=>?_
  refine qe ?_
  refine W_ret ?_
  obtain rfl:=Option.some.inj hr
  exact qr [vB x1] H K
 refine qF H hc23 ?_
 refine W_skip ?_
 refine W_seq (W_reg ?_)
 refine qg 1 [(75,vS x21)] H fun fr H=>?_
 refine qb hr (fun x h s=>F25_R n _ x h) H fun x24 hr fr H=>?_
 refine qg 3 [(77,aN x24.1),(78,vL tDiag x24.2 .shut)] H fun fr H=>?_
 refine qal 24 [vI 0,vS (bs []),vS (bs []),vI 0,vI 0,vI 0,vB false,vL tNode ([]:List Node) .nil,vI 0] H K fun id25 st K fr H=>?_
 refine qst 24 0 (aN x24.1) [vI x24.1.kind,vS x24.1.name,vS x24.1.other,vI x24.1.n,vI x24.1.len,vI x24.1.init,vB x24.1.ghost,vL tNode x24.1.kids .shut,vI x24.1.pos] 0 H K rfl fun st K fr H=>?_
 refine qg 1 [(13,vL tDiag x24.2 .shut)] H fun fr H=>?_
 refine qe ?_
 refine W_seq (W_drw ?_)
 refine qg 2 [(80,vB x1)] H fun fr H=>?_
 rcases csplit hr with ⟨hc26,hr⟩ | ⟨hc26,hr⟩
 rotate_left
 ·rw [hc26] at H
  refine qg 17 [(4,vB false)] H fun fr H=>?_
  refine qe (qd ?_)
  refine W_ret ?_
  obtain rfl:=Option.some.inj hr
  exact qr [vB false] H K
 rw [hc26] at H
 refine qg 3 [(81,vL tDiag x24.2 .shut),(83,vI (j18.size:Int))] H fun fr H=>?_
 refine qb hr (fun x h s=>F37_R n _ _ _ x h (p0:=.shut)) H fun x27 hr fr H=>?_
 refine qg 2 [(86,vB x27)] H fun fr H=>?_
 rcases csplit hr with ⟨hc28,hr⟩ | ⟨hc28,hr⟩
 rotate_left
 ·rw [hc28] at H
  refine qg 11 [(4,vB false)] H fun fr H=>?_
  refine qe (qd ?_)
  refine W_ret ?_
  obtain rfl:=Option.some.inj hr
  exact qr [vB false] H K
 rw [hc28] at H
 refine qld 24 0 (aN x24.1) 0 H K rfl fun fr H=>?_
 refine qb hr (fun x h s=>F26_R n _ _ x h (p0:=.shut)) H fun x29 hr fr H=>?_
 refine qg 2 [(90,vB x29)] H fun fr H=>?_
 rcases csplit hr with ⟨hc30,hr⟩ | ⟨hc30,hr⟩
 rotate_left
 ·rw [hc30] at H
  refine qg 7 [(4,vB false)] H fun fr H=>?_
  refine qe (qd ?_)
  refine W_ret ?_
  obtain rfl:=Option.some.inj hr
  exact qr [vB false] H K
 rw [hc30] at H
 refine qld 24 0 (aN x3.1) 1 H K rfl fun fr H=>?_
 refine qb hr (fun x h s=>F34_R n _ x h (p0:=.shut)) H fun x31 hr fr H=>?_
 refine qld 24 0 (aN x24.1) 0 H K rfl fun fr H=>?_
 refine qb hr (fun x h s=>F34_R n _ x h (p0:=.shut)) H fun x32 hr fr H=>?_
 refine qb hr (fun x h s=>F30_R n _ _ x h (p0:=.shut) (p1:=.shut)) H fun x33 hr fr H=>?_
 refine qg 2 [(4,vB x33)] H fun fr H=>?_
 refine qe (qd ?_)
 refine W_ret ?_
 obtain rfl:=Option.some.inj hr
 exact qr [vB x33] H K
end Go.Proofs.YtbecjgckobhmpaaGreatDoor
end
