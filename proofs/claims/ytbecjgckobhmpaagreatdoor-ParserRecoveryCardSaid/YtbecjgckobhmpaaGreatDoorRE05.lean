/-
  Proved here: a part of what the claim needs (texts YQ6 YQ7 YQ8 YQ9 YQ10 YQ11 of the prover's own).
-/
import Derived.Test.YtbecjgckobhmpaaGreatDoorRE04
section
namespace Go.Proofs.YtbecjgckobhmpaaGreatDoor
open Go Go.AM Go.Proofs
set_option maxRecDepth 100000
set_option maxHeartbeats 4000000
def F217_step (_:Node→RS→Option ((Node ⊕ Bad) × RS)) (_:Node→RS→Option ((Node ⊕ Bad) × RS)) (_:RS→Option ((Node ⊕ Bad) × RS)) (_:Bool→RS→Option ((((List Node)) ⊕ Bad) × RS)) (F151:RS→Option ((Node ⊕ Bad) × RS)) (n:Nat) (a0:Node) (s:RS):Option ((Node ⊕ Bad) × RS) :=
 pbind (F67 n s) fun x3 s5 =>
 pbind (pbind (F88 (bs [118,97,114,105,97,110,116]) s5) fun x8 s10 =>
  bif x8 then
   (pbind (F67 n s10) fun x12 s14 =>
   some (.inl x12,s14))
  else
   (some (.inl (Node.mk 63 (bs []) (bs []) 0 0 0 false ([]:List Node) a0.pos),s10)):Option (((Node) ⊕ Bad) × RS)) fun j15 j15s =>
 pbind (F151 j15s) fun x16 s18 =>
 some (.inl (Node.mk 32 a0.name a0.other a0.n a0.len a0.init a0.ghost ([x3,j15,x16]:List Node) a0.pos),s18)
def F216_step (_:Node→RS→Option ((Node ⊕ Bad) × RS)) (_:Node→RS→Option ((Node ⊕ Bad) × RS)) (_:RS→Option ((Node ⊕ Bad) × RS)) (_:Bool→RS→Option ((((List Node)) ⊕ Bad) × RS)) (F151:RS→Option ((Node ⊕ Bad) × RS)) (n:Nat) (a0:Node) (s:RS):Option ((Node ⊕ Bad) × RS) :=
 pbind (F67 n s) fun x3 s5 =>
 pbind (F151 s5) fun x7 s9 =>
 pbind (pbind (F88 (bs [101,108,115,101]) s9) fun x12 s14 =>
  bif x12 then
   (pbind (F151 s14) fun x16 s18 =>
   some (.inl x16,s18))
  else
   (some (.inl (Node.mk 34 (bs []) (bs []) 0 0 0 false ([]:List Node) a0.pos),s14)):Option (((Node) ⊕ Bad) × RS)) fun j19 j19s =>
 some (.inl (Node.mk 31 a0.name a0.other a0.n a0.len a0.init a0.ghost ([x3,x7,j19]:List Node) a0.pos),j19s)
def F195_step (F217:Node→RS→Option ((Node ⊕ Bad) × RS)) (F216:Node→RS→Option ((Node ⊕ Bad) × RS)) (_:RS→Option ((Node ⊕ Bad) × RS)) (_:Bool→RS→Option ((((List Node)) ⊕ Bad) × RS)) (_:RS→Option ((Node ⊕ Bad) × RS)) (n:Nat) (s:RS):Option ((Node ⊕ Bad) × RS) :=
 (F91 s).bind fun x2 =>
 pbind (F88 (bs [105,102]) s) fun x4 s6 =>
 bif x4 then
  (pbind (F216 (Node.mk 0 (bs []) (bs []) 0 0 0 false ([]:List Node) x2) s6) fun x8 s10 =>
  some (.inl x8,s10))
 else
  (pbind (F88 (bs [119,104,105,108,101]) s6) fun x11 s13 =>
  bif x11 then
   (pbind (F217 (Node.mk 0 (bs []) (bs []) 0 0 0 false ([]:List Node) x2) s13) fun x15 s17 =>
   some (.inl x15,s17))
  else
   (pbind (F88 (bs [97,115,115,101,114,116]) s13) fun x18 s20 =>
   bif x18 then
    (pbind (F67 n s20) fun x22 s24 =>
    pbind (F93 (bs [59]) s24) fun _ s130 =>
    some (.inl (Node.mk 20 (bs []) (bs []) 0 0 0 false ([x22]:List Node) x2),s130))
   else
    (pbind (F88 (bs [97,119,97,105,116]) s20) fun x25 s27 =>
    bif x25 then
     (pbind (F67 n s27) fun x29 s31 =>
     pbind (F93 (bs [59]) s31) fun _ s133 =>
     some (.inl (Node.mk 29 (bs []) (bs []) 0 0 0 false ([x29]:List Node) x2),s133))
    else
     (pbind (F88 (bs [102,101,110,99,101]) s27) fun x32 s34 =>
     bif x32 then
      (pbind (F93 (bs [59]) s34) fun _ s136 =>
      some (.inl (Node.mk 26 (bs []) (bs []) 0 0 0 false ([]:List Node) x2),s136))
     else
      (pbind (F88 (bs [115,107,105,112]) s34) fun x36 s38 =>
      bif x36 then
       (pbind (F93 (bs [59]) s38) fun _ s139 =>
       some (.inl (Node.mk 30 (bs []) (bs []) 0 0 0 false ([]:List Node) x2),s139))
      else
       (pbind (F88 (bs [97,116,111,109,105,99]) s38) fun x40 s42 =>
       bif x40 then
        (pbind (F218 n x2 s42) fun x44 s46 =>
        pbind (F93 (bs [59]) s46) fun _ s142 =>
        some (.inl (Node.mk 22 (bs []) (bs []) 0 0 0 false x44 x2),s142))
       else
        (pbind (F88 (bs [99,97,115]) s42) fun x47 s49 =>
        bif x47 then
         (pbind (F219 n s49) fun x51 s53 =>
         pbind (F93 (bs [59]) s53) fun _ s145 =>
         some (.inl (Node.mk 23 (bs []) (bs []) 0 0 0 false x51 x2),s145))
        else
         (pbind (F88 (bs [97,99,113,117,105,114,101]) s49) fun x54 s56 =>
         bif x54 then
          (pbind (F152 n s56) fun x58 s60 =>
          pbind (F93 (bs [59]) s60) fun _ s148 =>
          some (.inl (Node.mk 24 x58 (bs []) 0 0 0 false ([]:List Node) x2),s148))
         else
          (pbind (F88 (bs [102,114,101,101]) s56) fun x61 s63 =>
          bif x61 then
           (pbind (F152 n s63) fun x65 s67 =>
           pbind (F93 (bs [59]) s67) fun _ s151 =>
           some (.inl (Node.mk 25 x65 (bs []) 0 0 0 false ([]:List Node) x2),s151))
          else
           (pbind (F88 (bs [115,112,97,119,110]) s63) fun x68 s70 =>
           bif x68 then
            (pbind (F92 s70) fun x72 s74 =>
            pbind (F93 (bs [59]) s74) fun _ s154 =>
            some (.inl (Node.mk 27 x72 (bs []) 0 0 0 false ([]:List Node) x2),s154))
           else
            (pbind (F88 (bs [106,111,105,110]) s70) fun x75 s77 =>
            bif x75 then
             (pbind (F92 s77) fun x79 s81 =>
             pbind (F93 (bs [59]) s81) fun _ s157 =>
             some (.inl (Node.mk 28 x79 (bs []) 0 0 0 false ([]:List Node) x2),s157))
            else
             (pbind (F88 (bs [99,97,108,108]) s77) fun x82 s84 =>
             bif x82 then
              (pbind (F152 n s84) fun x86 s88 =>
              pbind (F93 (bs [40]) s88) fun _ s91 =>
              pbind (F149_2 n (bs [41]) s91) fun x92 s94 =>
              pbind (F93 (bs [59]) s94) fun _ s160 =>
              some (.inl (Node.mk 33 x86 (bs []) 0 0 0 false x92 x2),s160))
             else
              (pbind (F88 (bs [103,104,111,115,116]) s84) fun x96 s98 =>
              bif x96 then
               (pbind (F93 (bs [108,111,99,97,108]) s98) fun _ s102 =>
               pbind (F193 (Node.mk 35 (bs []) (bs []) 0 0 0 true ([]:List Node) x2) s102) fun x103 s105 =>
               pbind (F93 (bs [59]) s105) fun _ s163 =>
               some (.inl x103,s163))
              else
               (pbind (F88 (bs [108,111,99,97,108]) s98) fun x106 s108 =>
               bif x106 then
                (pbind (F193 (Node.mk 35 (bs []) (bs []) 0 0 0 false ([]:List Node) x2) s108) fun x110 s112 =>
                pbind (F93 (bs [59]) s112) fun _ s166 =>
                some (.inl x110,s166))
               else
                (pbind (pbind (F88 (bs [114,101,108,101,97,115,101]) s108) fun x113 s115 =>
                 bif x113 then
                  (some (.inl (Node.mk 21 (bs []) (bs []) 1 0 0 false ([]:List Node) x2),s115))
                 else
                  (some (.inl (Node.mk 21 (bs []) (bs []) 0 0 0 false ([]:List Node) x2),s115)):Option (((Node) ⊕ Bad) × RS)) fun j117 j117s =>
                pbind (F220 n j117s) fun x118 s120 =>
                pbind (F221 n s120) fun x122 s124 =>
                (appL 104 x118 x122).bind fun x125 =>
                pbind (F93 (bs [59]) s124) fun _ s169 =>
                some (.inl (Node.mk j117.kind j117.name j117.other j117.n j117.len j117.init j117.ghost x125 j117.pos),s169))))))))))))))))
def F57_3_step (_:Node→RS→Option ((Node ⊕ Bad) × RS)) (_:Node→RS→Option ((Node ⊕ Bad) × RS)) (F195:RS→Option ((Node ⊕ Bad) × RS)) (_:Bool→RS→Option ((((List Node)) ⊕ Bad) × RS)) (_:RS→Option ((Node ⊕ Bad) × RS)) (n:Nat) (a0:Bool) (s:RS):Option ((((List Node)) ⊕ Bad) × RS) :=
 pbind (iterP (σ:=(List Node)) (ρ:=((List Node))) (ε:=Bad) (S:=RS) (fun s1 s1s=>bif s1s.next == (s1s.toks.length:Int) then
   (bif a0 then
    (pbind (F68 s1s) fun _ s6 =>
    some (.inl (.inr s1),s6))
   else
    (some (.inl (.inr s1),s1s)))
  else
   (pbind (bif a0 then
     (pbind (F88 (bs [125]) s1s) fun x8 s10 =>
     bif x8 then
      (some (.inl (.inl ()),s10))
     else
      (some (.inl (.inr ()),s10)))
    else
     (some (.inl (.inr ()),s1s)):Option (((Unit ⊕ Unit) ⊕ Bad) × RS)) fun j12 j12s=>match j12 with
   | .inl _=>some (.inl (.inr s1),j12s)
   | .inr _=>(guardF (F195 j12s)).bind fun x13 =>
    bif x13.1.2.1 == 0 then
     ((appL 104 s1 ([x13.1.1]:List Node)).bind fun x18 =>
     some (.inl (.inl x18),x13.2))
    else
     (pbind (F89 x13.1.2.1 x13.1.2.2 x13.2) fun _ s22 =>
     pbind (F90 n a0 s22) fun _ s25 =>
     some (.inl (.inl s1),s25)))) n ([]:List Node) s) fun r26 r26s =>
 some (.inl r26,r26s)
def F151_step (_:Node→RS→Option ((Node ⊕ Bad) × RS)) (_:Node→RS→Option ((Node ⊕ Bad) × RS)) (_:RS→Option ((Node ⊕ Bad) × RS)) (F57_3:Bool→RS→Option ((((List Node)) ⊕ Bad) × RS)) (_:RS→Option ((Node ⊕ Bad) × RS)) (_:Nat) (s:RS):Option ((Node ⊕ Bad) × RS) :=
 (F91 s).bind fun x2 =>
 pbind (F93 (bs [123]) s) fun _ s6 =>
 pbind (F57_3 true s6) fun x7 s9 =>
 some (.inl (Node.mk 34 (bs []) (bs []) 0 0 0 false x7 x2),s9)
mutual
def F217:Nat→Node→RS→Option ((Node ⊕ Bad) × RS)
 | 0,_,_=>none
 | n + 1,a0,s=>F217_step (F217 n) (F216 n) (F195 n) (F57_3 n) (F151 n) n a0 s
def F216:Nat→Node→RS→Option ((Node ⊕ Bad) × RS)
 | 0,_,_=>none
 | n + 1,a0,s=>F216_step (F217 n) (F216 n) (F195 n) (F57_3 n) (F151 n) n a0 s
def F195:Nat→RS→Option ((Node ⊕ Bad) × RS)
 | 0,_=>none
 | n + 1,s=>F195_step (F217 n) (F216 n) (F195 n) (F57_3 n) (F151 n) n s
def F57_3:Nat→Bool→RS→Option ((((List Node)) ⊕ Bad) × RS)
 | 0,_,_=>none
 | n + 1,a0,s=>F57_3_step (F217 n) (F216 n) (F195 n) (F57_3 n) (F151 n) n a0 s
def F151:Nat→RS→Option ((Node ⊕ Bad) × RS)
 | 0,_=>none
 | n + 1,s=>F151_step (F217 n) (F216 n) (F195 n) (F57_3 n) (F151 n) n s
end
theorem F217_RR (n:Nat):(∀ (a0:Node) (s:RS) (r:Node ⊕ Bad) (s2:RS),F217 n a0 s = some (r,s2)→∀ {st:St} {rs:List Res} {i0:Nat} {p p0:Spare} (_:HL st (.rd i0 87 p (rdC s p) :: rs)),∃ (q:Spare) (st':St),R Tryz.prog AN 217 [.ptr i0 0,.agg (cNode p0 a0)] st (gotE encW (fun v=>aN v) r) st'∧HL st' (.rd i0 87 q (rdC s2 q) :: rs))∧(∀ (a0:Node) (s:RS) (r:Node ⊕ Bad) (s2:RS),F216 n a0 s = some (r,s2)→∀ {st:St} {rs:List Res} {i0:Nat} {p p0:Spare} (_:HL st (.rd i0 87 p (rdC s p) :: rs)),∃ (q:Spare) (st':St),R Tryz.prog AN 216 [.ptr i0 0,.agg (cNode p0 a0)] st (gotE encW (fun v=>aN v) r) st'∧HL st' (.rd i0 87 q (rdC s2 q) :: rs))∧(∀ (s:RS) (r:Node ⊕ Bad) (s2:RS),F195 n s = some (r,s2)→∀ {st:St} {rs:List Res} {i0:Nat} {p:Spare} (_:HL st (.rd i0 87 p (rdC s p) :: rs)),∃ (q:Spare) (st':St),R Tryz.prog AN 195 [.ptr i0 0] st (gotE encW (fun v=>aN v) r) st'∧HL st' (.rd i0 87 q (rdC s2 q) :: rs))∧(∀ (a0:Bool) (s:RS) (r:((List Node)) ⊕ Bad) (s2:RS),F57_3 n a0 s = some (r,s2)→∀ {st:St} {rs:List Res} {i0:Nat} {p:Spare} (_:HL st (.rd i0 87 p (rdC s p) :: rs)),∃ (q:Spare) (st':St),R Tryz.prog AN 57 [.ptr i0 0,vB a0,.fn 195 [.ptr i0 0] []] st (gotE encW (fun v=>vL tNode v .shut) r) st'∧HL st' (.rd i0 87 q (rdC s2 q) :: rs))∧(∀ (s:RS) (r:Node ⊕ Bad) (s2:RS),F151 n s = some (r,s2)→∀ {st:St} {rs:List Res} {i0:Nat} {p:Spare} (_:HL st (.rd i0 87 p (rdC s p) :: rs)),∃ (q:Spare) (st':St),R Tryz.prog AN 151 [.ptr i0 0] st (gotE encW (fun v=>aN v) r) st'∧HL st' (.rd i0 87 q (rdC s2 q) :: rs)):=by
 induction n with
 | zero=>exact ⟨by intros; contradiction,by intros; contradiction,by intros; contradiction,by intros; contradiction,by intros; contradiction⟩
 | succ n ih =>
  obtain ⟨ih_F217,ih_F216,ih_F195,ih_F57_3,ih_F151⟩:=ih
  refine ⟨?_,?_,?_,?_,?_⟩
  ·intro a0 s r s2 hr st rs i0 p p0 K
   change F217_step (F217 n) (F216 n) (F195 n) (F57_3 n) (F151 n) n a0 s = some (r,s2) at hr
   unfold F217_step at hr
   refine R_panX (ew:=encW) (enc:=fun v (q:Spare)=>aN v) (post:=fun s (q:Spare)=>.rd i0 87 q (rdC s q) :: rs) [(0,.ptr i0 0),(1,.agg (cNode p0 a0))] Tryz.func217 rfl rfl fun fr Q H hp hq=>?_
   refine W_seq (W_reg ?_)
   refine qbx 24 (.agg (cNode p0 a0)) [vI a0.kind,vS a0.name,vS a0.other,vI a0.n,vI a0.len,vI a0.init,vB a0.ghost,vL tNode a0.kids p0,vI a0.pos] H K fun id1 st K fr H=>?_
   refine qal 24 [vI 0,vS (bs []),vS (bs []),vI 0,vI 0,vI 0,vB false,vL tNode ([]:List Node) .nil,vI 0] H K fun id2 st K fr H=>?_
   refine qe ?_
   refine W_seq (W_reg ?_)
   refine qg 1 [(7,.ptr id1 0)] H fun fr H=>?_
   refine qst 3 0 (vI 32) [vI 32,vS a0.name,vS a0.other,vI a0.n,vI a0.len,vI a0.init,vB a0.ghost,vL tNode a0.kids p0,vI a0.pos] 1 H K rfl fun st K fr H=>?_
   refine qe ?_
   refine W_seq (W_reg ?_)
   refine qg 1 [(8,.ptr i0 0)] H fun fr H=>?_
   refine qp [] [] hr (fun a s h=>F67_R n _ a s h (K.front 2 rfl)) K H (fun e s h q st K=>hp e s h q _ _ (K.keep [true,false,false])) fun x3 s5 hr sp4 st K fr H=>?_
   refine qal 24 [vI 0,vS (bs []),vS (bs []),vI 0,vI 0,vI 0,vB false,vL tNode ([]:List Node) .nil,vI 0] H K fun id6 st K fr H=>?_
   refine qst 24 0 (aN x3) [vI x3.kind,vS x3.name,vS x3.other,vI x3.n,vI x3.len,vI x3.init,vB x3.ghost,vL tNode x3.kids .shut,vI x3.pos] 0 H K rfl fun st K fr H=>?_
   refine qe ?_
   refine W_seq (W_reg ?_)
   refine qg 1 [(10,.ptr id1 8)] H fun fr H=>?_
   refine qld 3 8 (vI a0.pos) 3 H K rfl fun fr H=>?_
   refine qg 1 [(12,.agg [vI 63,vS (bs []),vS (bs []),vI 0,vI 0,vI 0,vB false,vL tNode ([]:List Node) .nil,vI a0.pos])] H fun fr H=>?_
   refine qal 24 [vI 0,vS (bs []),vS (bs []),vI 0,vI 0,vI 0,vB false,vL tNode ([]:List Node) .nil,vI 0] H K fun id7 st K fr H=>?_
   refine qst 24 0 (.agg [vI 63,vS (bs []),vS (bs []),vI 0,vI 0,vI 0,vB false,vL tNode ([]:List Node) .nil,vI a0.pos]) [vI 63,vS (bs []),vS (bs []),vI 0,vI 0,vI 0,vB false,vL tNode ([]:List Node) .nil,vI a0.pos] 0 H K rfl fun st K fr H=>?_
   refine qe ?_
   refine W_seq ?_
   refine W_viaP (fun j15 j15s e fr st=>e = .normal∧∃ (j15sp0 j15q:Spare),Rd fr [(0,.ptr i0 0),(3,.ptr id1 0),(4,.ptr id2 0),(5,.ptr id6 0),(6,.ptr id7 0)]∧HL st (.rd i0 87 j15q (rdC j15s j15q) :: .obj id7 (.cells 24 [vI j15.kind,vS j15.name,vS j15.other,vI j15.n,vI j15.len,vI j15.init,vB j15.ghost,vL tNode j15.kids j15sp0,vI j15.pos]) :: .obj id6 (.cells 24 [vI x3.kind,vS x3.name,vS x3.other,vI x3.n,vI x3.len,vI x3.init,vB x3.ghost,vL tNode x3.kids .shut,vI x3.pos]) :: .obj id2 (.cells 24 [vI 0,vS (bs []),vS (bs []),vI 0,vI 0,vI 0,vB false,vL tNode ([]:List Node) .nil,vI 0]) :: .obj id1 (.cells 24 [vI 32,vS a0.name,vS a0.other,vI a0.n,vI a0.len,vI a0.init,vB a0.ghost,vL tNode a0.kids p0,vI a0.pos]) :: rs)) hr hp ?_ ?_
   ·intro y Q hr hp hq
    refine W_seq (W_reg ?_)
    refine qg 1 [(13,.ptr i0 0)] H fun fr H=>?_
    refine qp [] [] hr (fun a s h=>F88_R  _ _ a s h (K.front 2 rfl)) K H (fun e s h q st K=>hp e s h q _ _ (K.keep [true,false,false,false,false])) fun x8 s10 hr sp9 st K fr H=>?_
    refine qe ?_
    rcases csplit hr with ⟨hc11,hr⟩ | ⟨hc11,hr⟩
    rotate_left
    ·refine qF H hc11 ?_
     refine W_skip ?_
     exact hq _ _ (sj hr).symm _ _ _ ⟨rfl,.nil,sp9,H.tq,K⟩
    refine qT H hc11 ?_
    refine W_reg ?_
    refine qg 1 [(15,.ptr i0 0)] H fun fr H=>?_
    refine qp [] [] hr (fun a s h=>F67_R n _ a s h K) K H (fun e s h q st K=>hp e s h q _ _ (K.keep [true,false,false,false,false])) fun x12 s14 hr sp13 st K fr H=>?_
    refine qst 24 0 (aN x12) [vI x12.kind,vS x12.name,vS x12.other,vI x12.n,vI x12.len,vI x12.init,vB x12.ghost,vL tNode x12.kids .shut,vI x12.pos] 1 H K rfl fun st K fr H=>?_
    refine qe ?_
    exact hq _ _ (sj hr).symm _ _ _ ⟨rfl,.shut,sp13,H.tq,K⟩
   intro j15 j15s hr
   rintro e fr st ⟨rfl,j15sp0,j15q,H,K⟩
   refine W_seq (W_drw ?_)
   refine qld 24 0 (aN x3) 2 H K rfl fun fr H=>?_
   refine qld 24 0 (aN j15) 1 H K rfl fun fr H=>?_
   refine qg 1 [(19,.ptr i0 0)] H fun fr H=>?_
   refine qp [1,2,3,4] [1,2,3,4] hr (fun a s h=>ih_F151 _ a s h K) K H (fun e s h q st K=>qdP K [.look (some 2),.look (some 1),0] (hp e s h q _ _ (K.keep [true,false,false,false,false]))) fun x16 s18 hr sp17 st K fr H=>?_
   refine qv (.buildSlice 22 3 [(0,aN x3),(1,aN j15),(2,aN x16)]) H (run_bslice (v:=vL tNode ([x3,j15,x16]:List Node) .full) (v0:=.slice [aN x3,aN j15,aN x16] .full) (by kernel_rfl) (by simp only [List.map,vL,tNode_e,eNode_eq,cNode] <;> rfl)) fun fr H=>?_
   refine qg 1 [(22,.ptr id1 7)] H fun fr H=>?_
   refine qst 22 7 (vL tNode ([x3,j15,x16]:List Node) .full) [vI 32,vS a0.name,vS a0.other,vI a0.n,vI a0.len,vI a0.init,vB a0.ghost,vL tNode ([x3,j15,x16]:List Node) .full,vI a0.pos] 4 H K rfl fun st K fr H=>?_
   refine qe (qdI K [.look (some 2),.look (some 1),0,.keep [1,2,3,4],0,0,.put 4] ?_)
   refine W_seq (W_reg ?_)
   refine qld 24 0 (.agg [vI 32,vS a0.name,vS a0.other,vI a0.n,vI a0.len,vI a0.init,vB a0.ghost,vL tNode ([x3,j15,x16]:List Node) .shut,vI a0.pos]) 4 H K rfl fun fr H=>?_
   refine qst 24 0 (.agg [vI 32,vS a0.name,vS a0.other,vI a0.n,vI a0.len,vI a0.init,vB a0.ghost,vL tNode ([x3,j15,x16]:List Node) .shut,vI a0.pos]) [vI 32,vS a0.name,vS a0.other,vI a0.n,vI a0.len,vI a0.init,vB a0.ghost,vL tNode ([x3,j15,x16]:List Node) .shut,vI a0.pos] 3 H K rfl fun st K fr H=>?_
   refine qe ?_
   refine W_ret ?_
   exact hq _ _ (sj hr).symm sp17 _ _ _ (e_retV [.agg [vI 32,vS a0.name,vS a0.other,vI a0.n,vI a0.len,vI a0.init,vB a0.ghost,vL tNode ([x3,j15,x16]:List Node) .shut,vI a0.pos]] H K (fun _=>resC id2 0 24 [vI 32,vS a0.name,vS a0.other,vI a0.n,vI a0.len,vI a0.init,vB a0.ghost,vL tNode ([x3,j15,x16]:List Node) .shut,vI a0.pos] 3 (by kernel_rfl) rfl (by kernel_rfl) resN) ((K).keep [true,false,false,false,false]))
  ·intro a0 s r s2 hr st rs i0 p p0 K
   change F216_step (F217 n) (F216 n) (F195 n) (F57_3 n) (F151 n) n a0 s = some (r,s2) at hr
   unfold F216_step at hr
   refine R_panX (ew:=encW) (enc:=fun v (q:Spare)=>aN v) (post:=fun s (q:Spare)=>.rd i0 87 q (rdC s q) :: rs) [(0,.ptr i0 0),(1,.agg (cNode p0 a0))] Tryz.func216 rfl rfl fun fr Q H hp hq=>?_
   refine W_seq (W_reg ?_)
   refine qbx 24 (.agg (cNode p0 a0)) [vI a0.kind,vS a0.name,vS a0.other,vI a0.n,vI a0.len,vI a0.init,vB a0.ghost,vL tNode a0.kids p0,vI a0.pos] H K fun id1 st K fr H=>?_
   refine qal 24 [vI 0,vS (bs []),vS (bs []),vI 0,vI 0,vI 0,vB false,vL tNode ([]:List Node) .nil,vI 0] H K fun id2 st K fr H=>?_
   refine qe ?_
   refine W_seq (W_reg ?_)
   refine qg 1 [(8,.ptr id1 0)] H fun fr H=>?_
   refine qst 3 0 (vI 31) [vI 31,vS a0.name,vS a0.other,vI a0.n,vI a0.len,vI a0.init,vB a0.ghost,vL tNode a0.kids p0,vI a0.pos] 1 H K rfl fun st K fr H=>?_
   refine qe ?_
   refine W_seq (W_reg ?_)
   refine qg 1 [(9,.ptr i0 0)] H fun fr H=>?_
   refine qp [] [] hr (fun a s h=>F67_R n _ a s h (K.front 2 rfl)) K H (fun e s h q st K=>hp e s h q _ _ (K.keep [true,false,false])) fun x3 s5 hr sp4 st K fr H=>?_
   refine qal 24 [vI 0,vS (bs []),vS (bs []),vI 0,vI 0,vI 0,vB false,vL tNode ([]:List Node) .nil,vI 0] H K fun id6 st K fr H=>?_
   refine qst 24 0 (aN x3) [vI x3.kind,vS x3.name,vS x3.other,vI x3.n,vI x3.len,vI x3.init,vB x3.ghost,vL tNode x3.kids .shut,vI x3.pos] 0 H K rfl fun st K fr H=>?_
   refine qe ?_
   refine W_seq (W_reg ?_)
   refine qg 1 [(11,.ptr i0 0)] H fun fr H=>?_
   refine qp [] [] hr (fun a s h=>ih_F151 _ a s h (K.front 1 rfl)) K H (fun e s h q st K=>hp e s h q _ _ (K.keep [true,false,false,false])) fun x7 s9 hr sp8 st K fr H=>?_
   refine qal 24 [vI 0,vS (bs []),vS (bs []),vI 0,vI 0,vI 0,vB false,vL tNode ([]:List Node) .nil,vI 0] H K fun id10 st K fr H=>?_
   refine qst 24 0 (aN x7) [vI x7.kind,vS x7.name,vS x7.other,vI x7.n,vI x7.len,vI x7.init,vB x7.ghost,vL tNode x7.kids .shut,vI x7.pos] 0 H K rfl fun st K fr H=>?_
   refine qe ?_
   refine W_seq (W_reg ?_)
   refine qg 1 [(13,.ptr id1 8)] H fun fr H=>?_
   refine qld 3 8 (vI a0.pos) 4 H K rfl fun fr H=>?_
   refine qg 1 [(15,.agg [vI 34,vS (bs []),vS (bs []),vI 0,vI 0,vI 0,vB false,vL tNode ([]:List Node) .nil,vI a0.pos])] H fun fr H=>?_
   refine qal 24 [vI 0,vS (bs []),vS (bs []),vI 0,vI 0,vI 0,vB false,vL tNode ([]:List Node) .nil,vI 0] H K fun id11 st K fr H=>?_
   refine qst 24 0 (.agg [vI 34,vS (bs []),vS (bs []),vI 0,vI 0,vI 0,vB false,vL tNode ([]:List Node) .nil,vI a0.pos]) [vI 34,vS (bs []),vS (bs []),vI 0,vI 0,vI 0,vB false,vL tNode ([]:List Node) .nil,vI a0.pos] 0 H K rfl fun st K fr H=>?_
   refine qe ?_
   refine W_seq ?_
   refine W_viaP (fun j19 j19s e fr st=>e = .normal∧∃ (j19sp0 j19q:Spare),Rd fr [(3,.ptr id1 0),(4,.ptr id2 0),(5,.ptr id6 0),(6,.ptr id10 0),(7,.ptr id11 0)]∧HL st (.rd i0 87 j19q (rdC j19s j19q) :: .obj id11 (.cells 24 [vI j19.kind,vS j19.name,vS j19.other,vI j19.n,vI j19.len,vI j19.init,vB j19.ghost,vL tNode j19.kids j19sp0,vI j19.pos]) :: .obj id10 (.cells 24 [vI x7.kind,vS x7.name,vS x7.other,vI x7.n,vI x7.len,vI x7.init,vB x7.ghost,vL tNode x7.kids .shut,vI x7.pos]) :: .obj id6 (.cells 24 [vI x3.kind,vS x3.name,vS x3.other,vI x3.n,vI x3.len,vI x3.init,vB x3.ghost,vL tNode x3.kids .shut,vI x3.pos]) :: .obj id2 (.cells 24 [vI 0,vS (bs []),vS (bs []),vI 0,vI 0,vI 0,vB false,vL tNode ([]:List Node) .nil,vI 0]) :: .obj id1 (.cells 24 [vI 31,vS a0.name,vS a0.other,vI a0.n,vI a0.len,vI a0.init,vB a0.ghost,vL tNode a0.kids p0,vI a0.pos]) :: rs)) hr hp ?_ ?_
   ·intro y Q hr hp hq
    refine W_seq (W_reg ?_)
    refine qg 1 [(16,.ptr i0 0)] H fun fr H=>?_
    refine qp [] [] hr (fun a s h=>F88_R  _ _ a s h (K.front 2 rfl)) K H (fun e s h q st K=>hp e s h q _ _ (K.keep [true,false,false,false,false,false])) fun x12 s14 hr sp13 st K fr H=>?_
    refine qe ?_
    rcases csplit hr with ⟨hc15,hr⟩ | ⟨hc15,hr⟩
    rotate_left
    ·refine qF H hc15 ?_
     refine W_skip ?_
     exact hq _ _ (sj hr).symm _ _ _ ⟨rfl,.nil,sp13,H.tq,K⟩
    refine qT H hc15 ?_
    refine W_reg ?_
    refine qg 1 [(18,.ptr i0 0)] H fun fr H=>?_
    refine qp [] [] hr (fun a s h=>ih_F151 _ a s h K) K H (fun e s h q st K=>hp e s h q _ _ (K.keep [true,false,false,false,false,false])) fun x16 s18 hr sp17 st K fr H=>?_
    refine qst 24 0 (aN x16) [vI x16.kind,vS x16.name,vS x16.other,vI x16.n,vI x16.len,vI x16.init,vB x16.ghost,vL tNode x16.kids .shut,vI x16.pos] 1 H K rfl fun st K fr H=>?_
    refine qe ?_
    exact hq _ _ (sj hr).symm _ _ _ ⟨rfl,.shut,sp17,H.tq,K⟩
   intro j19 j19s hr
   rintro e fr st ⟨rfl,j19sp0,j19q,H,K⟩
   refine W_seq (W_reg ?_)
   refine qld 24 0 (aN x3) 3 H K rfl fun fr H=>?_
   refine qld 24 0 (aN x7) 2 H K rfl fun fr H=>?_
   refine qld 24 0 (aN j19) 1 H K rfl fun fr H=>?_
   refine qv (.buildSlice 22 3 [(0,aN x3),(1,aN x7),(2,aN j19)]) H (run_bslice (v:=vL tNode ([x3,x7,j19]:List Node) .full) (v0:=.slice [aN x3,aN x7,aN j19] .full) (by kernel_rfl) (by simp only [List.map,vL,tNode_e,eNode_eq,cNode] <;> rfl)) fun fr H=>?_
   refine qg 1 [(24,.ptr id1 7)] H fun fr H=>?_
   refine qst 22 7 (vL tNode ([x3,x7,j19]:List Node) .full) [vI 31,vS a0.name,vS a0.other,vI a0.n,vI a0.len,vI a0.init,vB a0.ghost,vL tNode ([x3,x7,j19]:List Node) .full,vI a0.pos] 5 H K rfl fun st K fr H=>?_
   refine qe ?_
   refine W_seq (W_reg ?_)
   refine qld 24 0 (.agg [vI 31,vS a0.name,vS a0.other,vI a0.n,vI a0.len,vI a0.init,vB a0.ghost,vL tNode ([x3,x7,j19]:List Node) .shut,vI a0.pos]) 5 H K rfl fun fr H=>?_
   refine qst 24 0 (.agg [vI 31,vS a0.name,vS a0.other,vI a0.n,vI a0.len,vI a0.init,vB a0.ghost,vL tNode ([x3,x7,j19]:List Node) .shut,vI a0.pos]) [vI 31,vS a0.name,vS a0.other,vI a0.n,vI a0.len,vI a0.init,vB a0.ghost,vL tNode ([x3,x7,j19]:List Node) .shut,vI a0.pos] 4 H K rfl fun st K fr H=>?_
   refine qe ?_
   refine W_ret ?_
   exact hq _ _ (sj hr).symm j19q _ _ _ (e_retV [.agg [vI 31,vS a0.name,vS a0.other,vI a0.n,vI a0.len,vI a0.init,vB a0.ghost,vL tNode ([x3,x7,j19]:List Node) .shut,vI a0.pos]] H K (fun _=>resC id2 0 24 [vI 31,vS a0.name,vS a0.other,vI a0.n,vI a0.len,vI a0.init,vB a0.ghost,vL tNode ([x3,x7,j19]:List Node) .shut,vI a0.pos] 4 (by kernel_rfl) rfl (by kernel_rfl) resN) ((K).keep [true,false,false,false,false,false]))
  ·intro s r s2 hr st rs i0 p K
   change F195_step (F217 n) (F216 n) (F195 n) (F57_3 n) (F151 n) n s = some (r,s2) at hr
   unfold F195_step at hr
   refine R_panX (ew:=encW) (enc:=fun v (q:Spare)=>aN v) (post:=fun s (q:Spare)=>.rd i0 87 q (rdC s q) :: rs) [(0,.ptr i0 0)] Tryz.func195 rfl rfl fun fr Q H hp hq=>?_
   refine W_seq (W_reg ?_)
   refine qal 24 [vI 0,vS (bs []),vS (bs []),vI 0,vI 0,vI 0,vB false,vL tNode ([]:List Node) .nil,vI 0] H K fun id1 st K fr H=>?_
   refine qe ?_
   refine W_seq (W_reg ?_)
   refine qg 1 [(4,.ptr i0 0)] H fun fr H=>?_
   refine ql hr (fun x h=>F91_R  _ x h (K.front 1 rfl)) H fun x2 hr fr H=>?_
   refine qg 1 [(6,.agg [vI 0,vS (bs []),vS (bs []),vI 0,vI 0,vI 0,vB false,vL tNode ([]:List Node) .nil,vI x2])] H fun fr H=>?_
   refine qal 24 [vI 0,vS (bs []),vS (bs []),vI 0,vI 0,vI 0,vB false,vL tNode ([]:List Node) .nil,vI 0] H K fun id3 st K fr H=>?_
   refine qst 24 0 (.agg [vI 0,vS (bs []),vS (bs []),vI 0,vI 0,vI 0,vB false,vL tNode ([]:List Node) .nil,vI x2]) [vI 0,vS (bs []),vS (bs []),vI 0,vI 0,vI 0,vB false,vL tNode ([]:List Node) .nil,vI x2] 0 H K rfl fun st K fr H=>?_
   refine qe ?_
   refine W_seq (W_block ?_)
   refine W_seq (W_reg ?_)
   refine qg 1 [(21,.ptr i0 0)] H fun fr H=>?_
   refine qp [] [] hr (fun a s h=>F88_R  _ _ a s h (K.front 2 rfl)) K H (fun e s h q st K=>hp e s h q _ _ (K.keep [true,false,false])) fun x4 s6 hr sp5 st K fr H=>?_
   refine qg 1 [(20,vB x4)] H fun fr H=>?_
   refine qe ?_
   rcases csplit hr with ⟨hc7,hr⟩ | ⟨hc7,hr⟩
   ·refine qT H hc7 ?_
    refine W_seq (W_reg ?_)
    refine qg 1 [(23,.ptr i0 0)] H fun fr H=>?_
    refine qld 24 0 (.agg [vI 0,vS (bs []),vS (bs []),vI 0,vI 0,vI 0,vB false,vL tNode ([]:List Node) .shut,vI x2]) 1 H K rfl fun fr H=>?_
    refine qp [] [] hr (fun a s h=>ih_F216 _ _ a s h (p0:=.shut) K) K H (fun e s h q st K=>hp e s h q _ _ (K.keep [true,false,false])) fun x8 s10 hr sp9 st K fr H=>?_
    refine qst 24 0 (aN x8) [vI x8.kind,vS x8.name,vS x8.other,vI x8.n,vI x8.len,vI x8.init,vB x8.ghost,vL tNode x8.kids .shut,vI x8.pos] 2 H K rfl fun st K fr H=>?_
    refine qe ?_
    refine W_ret ?_
    exact hq _ _ (sj hr).symm sp9 _ _ _ (e_retV [aN x8] H K (fun _=>resC id1 0 24 [vI x8.kind,vS x8.name,vS x8.other,vI x8.n,vI x8.len,vI x8.init,vB x8.ghost,vL tNode x8.kids .shut,vI x8.pos] 2 (by kernel_rfl) rfl (by kernel_rfl) resN) ((K).keep [true,false,false]))
   refine qF H hc7 ?_
   refine W_seq (W_reg ?_)
   refine qg 1 [(27,.ptr i0 0)] H fun fr H=>?_
   refine qp [] [] hr (fun a s h=>F88_R  _ _ a s h K) K H (fun e s h q st K=>hp e s h q _ _ (K.keep [true,false,false])) fun x11 s13 hr sp12 st K fr H=>?_
   refine qg 1 [(26,vB x11)] H fun fr H=>?_
   refine qe ?_
   rcases csplit hr with ⟨hc14,hr⟩ | ⟨hc14,hr⟩
   ·refine qT H hc14 ?_
    refine W_seq (W_reg ?_)
    refine qg 1 [(29,.ptr i0 0)] H fun fr H=>?_
    refine qld 24 0 (.agg [vI 0,vS (bs []),vS (bs []),vI 0,vI 0,vI 0,vB false,vL tNode ([]:List Node) .shut,vI x2]) 1 H K rfl fun fr H=>?_
    refine qp [] [] hr (fun a s h=>ih_F217 _ _ a s h (p0:=.shut) K) K H (fun e s h q st K=>hp e s h q _ _ (K.keep [true,false,false])) fun x15 s17 hr sp16 st K fr H=>?_
    refine qst 24 0 (aN x15) [vI x15.kind,vS x15.name,vS x15.other,vI x15.n,vI x15.len,vI x15.init,vB x15.ghost,vL tNode x15.kids .shut,vI x15.pos] 2 H K rfl fun st K fr H=>?_
    refine qe ?_
    refine W_ret ?_
    exact hq _ _ (sj hr).symm sp16 _ _ _ (e_retV [aN x15] H K (fun _=>resC id1 0 24 [vI x15.kind,vS x15.name,vS x15.other,vI x15.n,vI x15.len,vI x15.init,vB x15.ghost,vL tNode x15.kids .shut,vI x15.pos] 2 (by kernel_rfl) rfl (by kernel_rfl) resN) ((K).keep [true,false,false]))
   refine qF H hc14 ?_
   refine W_seq (W_reg ?_)
   refine qg 1 [(33,.ptr i0 0)] H fun fr H=>?_
   refine qp [] [] hr (fun a s h=>F88_R  _ _ a s h K) K H (fun e s h q st K=>hp e s h q _ _ (K.keep [true,false,false])) fun x18 s20 hr sp19 st K fr H=>?_
   refine qg 1 [(32,vB x18)] H fun fr H=>?_
   refine qe ?_
   rcases csplit hr with ⟨hc21,hr⟩ | ⟨hc21,hr⟩
   ·refine qT H hc21 ?_
    refine W_reg ?_
    refine qg 1 [(35,.ptr i0 0)] H fun fr H=>?_
    refine qp [] [] hr (fun a s h=>F67_R n _ a s h K) K H (fun e s h q st K=>hp e s h q _ _ (K.keep [true,false,false])) fun x22 s24 hr sp23 st K fr H=>?_
    refine qv (.buildSlice 22 1 [(0,aN x22)]) H (run_bslice (v:=vL tNode ([x22]:List Node) .full) (v0:=.slice [aN x22] .full) (by kernel_rfl) (by simp only [List.map,vL,tNode_e,eNode_eq,cNode] <;> rfl)) fun fr H=>?_
    refine qg 1 [(38,.ptr id3 0)] H fun fr H=>?_
    refine qst 3 0 (vI 20) [vI 20,vS (bs []),vS (bs []),vI 0,vI 0,vI 0,vB false,vL tNode ([]:List Node) .nil,vI x2] 1 H K rfl fun st K fr H=>?_
    refine qg 1 [(39,.ptr id3 7)] H fun fr H=>?_
    refine qst 22 7 (vL tNode ([x22]:List Node) .full) [vI 20,vS (bs []),vS (bs []),vI 0,vI 0,vI 0,vB false,vL tNode ([x22]:List Node) .full,vI x2] 1 H K rfl fun st K fr H=>?_
    refine qe ?_
    refine W_seq (W_reg ?_)
    refine qg 1 [(133,.ptr i0 0)] H fun fr H=>?_
    refine qp [] [] hr (fun a s h=>F93_R  _ _ a s h K) K H (fun e s h q st K=>hp e s h q _ _ (K.keep [true,false,false])) fun x128 s130 hr sp129 st K fr H=>?_
    refine qe ?_
    refine W_seq (W_reg ?_)
    refine qld 24 0 (.agg [vI 20,vS (bs []),vS (bs []),vI 0,vI 0,vI 0,vB false,vL tNode ([x22]:List Node) .shut,vI x2]) 1 H K rfl fun fr H=>?_
    refine qst 24 0 (.agg [vI 20,vS (bs []),vS (bs []),vI 0,vI 0,vI 0,vB false,vL tNode ([x22]:List Node) .shut,vI x2]) [vI 20,vS (bs []),vS (bs []),vI 0,vI 0,vI 0,vB false,vL tNode ([x22]:List Node) .shut,vI x2] 2 H K rfl fun st K fr H=>?_
    refine qe ?_
    refine W_ret ?_
    exact hq _ _ (sj hr).symm sp129 _ _ _ (e_retV [.agg [vI 20,vS (bs []),vS (bs []),vI 0,vI 0,vI 0,vB false,vL tNode ([x22]:List Node) .shut,vI x2]] H K (fun _=>resC id1 0 24 [vI 20,vS (bs []),vS (bs []),vI 0,vI 0,vI 0,vB false,vL tNode ([x22]:List Node) .shut,vI x2] 2 (by kernel_rfl) rfl (by kernel_rfl) resN) ((K).keep [true,false,false]))
   refine qF H hc21 ?_
   refine W_seq (W_reg ?_)
   refine qg 1 [(41,.ptr i0 0)] H fun fr H=>?_
   refine qp [] [] hr (fun a s h=>F88_R  _ _ a s h K) K H (fun e s h q st K=>hp e s h q _ _ (K.keep [true,false,false])) fun x25 s27 hr sp26 st K fr H=>?_
   refine qg 1 [(40,vB x25)] H fun fr H=>?_
   refine qe ?_
   rcases csplit hr with ⟨hc28,hr⟩ | ⟨hc28,hr⟩
   ·refine qT H hc28 ?_
    refine W_reg ?_
    refine qg 1 [(43,.ptr i0 0)] H fun fr H=>?_
    refine qp [] [] hr (fun a s h=>F67_R n _ a s h K) K H (fun e s h q st K=>hp e s h q _ _ (K.keep [true,false,false])) fun x29 s31 hr sp30 st K fr H=>?_
    refine qv (.buildSlice 22 1 [(0,aN x29)]) H (run_bslice (v:=vL tNode ([x29]:List Node) .full) (v0:=.slice [aN x29] .full) (by kernel_rfl) (by simp only [List.map,vL,tNode_e,eNode_eq,cNode] <;> rfl)) fun fr H=>?_
    refine qg 1 [(46,.ptr id3 0)] H fun fr H=>?_
    refine qst 3 0 (vI 29) [vI 29,vS (bs []),vS (bs []),vI 0,vI 0,vI 0,vB false,vL tNode ([]:List Node) .nil,vI x2] 1 H K rfl fun st K fr H=>?_
    refine qg 1 [(47,.ptr id3 7)] H fun fr H=>?_
    refine qst 22 7 (vL tNode ([x29]:List Node) .full) [vI 29,vS (bs []),vS (bs []),vI 0,vI 0,vI 0,vB false,vL tNode ([x29]:List Node) .full,vI x2] 1 H K rfl fun st K fr H=>?_
    refine qe ?_
    refine W_seq (W_reg ?_)
    refine qg 1 [(133,.ptr i0 0)] H fun fr H=>?_
    refine qp [] [] hr (fun a s h=>F93_R  _ _ a s h K) K H (fun e s h q st K=>hp e s h q _ _ (K.keep [true,false,false])) fun x131 s133 hr sp132 st K fr H=>?_
    refine qe ?_
    refine W_seq (W_reg ?_)
    refine qld 24 0 (.agg [vI 29,vS (bs []),vS (bs []),vI 0,vI 0,vI 0,vB false,vL tNode ([x29]:List Node) .shut,vI x2]) 1 H K rfl fun fr H=>?_
    refine qst 24 0 (.agg [vI 29,vS (bs []),vS (bs []),vI 0,vI 0,vI 0,vB false,vL tNode ([x29]:List Node) .shut,vI x2]) [vI 29,vS (bs []),vS (bs []),vI 0,vI 0,vI 0,vB false,vL tNode ([x29]:List Node) .shut,vI x2] 2 H K rfl fun st K fr H=>?_
    refine qe ?_
    refine W_ret ?_
    exact hq _ _ (sj hr).symm sp132 _ _ _ (e_retV [.agg [vI 29,vS (bs []),vS (bs []),vI 0,vI 0,vI 0,vB false,vL tNode ([x29]:List Node) .shut,vI x2]] H K (fun _=>resC id1 0 24 [vI 29,vS (bs []),vS (bs []),vI 0,vI 0,vI 0,vB false,vL tNode ([x29]:List Node) .shut,vI x2] 2 (by kernel_rfl) rfl (by kernel_rfl) resN) ((K).keep [true,false,false]))
   refine qF H hc28 ?_
   refine W_seq (W_reg ?_)
   refine qg 1 [(49,.ptr i0 0)] H fun fr H=>?_
   refine qp [] [] hr (fun a s h=>F88_R  _ _ a s h K) K H (fun e s h q st K=>hp e s h q _ _ (K.keep [true,false,false])) fun x32 s34 hr sp33 st K fr H=>?_
   refine qg 1 [(48,vB x32)] H fun fr H=>?_
   refine qe ?_
   rcases csplit hr with ⟨hc35,hr⟩ | ⟨hc35,hr⟩
   ·refine qT H hc35 ?_
    refine W_reg ?_
    refine qg 1 [(51,.ptr id3 0)] H fun fr H=>?_
    refine qst 3 0 (vI 26) [vI 26,vS (bs []),vS (bs []),vI 0,vI 0,vI 0,vB false,vL tNode ([]:List Node) .nil,vI x2] 1 H K rfl fun st K fr H=>?_
    refine qe ?_
    refine W_seq (W_reg ?_)
    refine qg 1 [(133,.ptr i0 0)] H fun fr H=>?_
    refine qp [] [] hr (fun a s h=>F93_R  _ _ a s h K) K H (fun e s h q st K=>hp e s h q _ _ (K.keep [true,false,false])) fun x134 s136 hr sp135 st K fr H=>?_
    refine qe ?_
    refine W_seq (W_reg ?_)
    refine qld 24 0 (.agg [vI 26,vS (bs []),vS (bs []),vI 0,vI 0,vI 0,vB false,vL tNode ([]:List Node) .shut,vI x2]) 1 H K rfl fun fr H=>?_
    refine qst 24 0 (.agg [vI 26,vS (bs []),vS (bs []),vI 0,vI 0,vI 0,vB false,vL tNode ([]:List Node) .shut,vI x2]) [vI 26,vS (bs []),vS (bs []),vI 0,vI 0,vI 0,vB false,vL tNode ([]:List Node) .shut,vI x2] 2 H K rfl fun st K fr H=>?_
    refine qe ?_
    refine W_ret ?_
    exact hq _ _ (sj hr).symm sp135 _ _ _ (e_retV [.agg [vI 26,vS (bs []),vS (bs []),vI 0,vI 0,vI 0,vB false,vL tNode ([]:List Node) .shut,vI x2]] H K (fun _=>resC id1 0 24 [vI 26,vS (bs []),vS (bs []),vI 0,vI 0,vI 0,vB false,vL tNode ([]:List Node) .shut,vI x2] 2 (by kernel_rfl) rfl (by kernel_rfl) resN) ((K).keep [true,false,false]))
   refine qF H hc35 ?_
   refine W_seq (W_reg ?_)
   refine qg 1 [(53,.ptr i0 0)] H fun fr H=>?_
   refine qp [] [] hr (fun a s h=>F88_R  _ _ a s h K) K H (fun e s h q st K=>hp e s h q _ _ (K.keep [true,false,false])) fun x36 s38 hr sp37 st K fr H=>?_
   refine qg 1 [(52,vB x36)] H fun fr H=>?_
   refine qe ?_
   rcases csplit hr with ⟨hc39,hr⟩ | ⟨hc39,hr⟩
   ·refine qT H hc39 ?_
    refine W_reg ?_
    refine qg 1 [(55,.ptr id3 0)] H fun fr H=>?_
    refine qst 3 0 (vI 30) [vI 30,vS (bs []),vS (bs []),vI 0,vI 0,vI 0,vB false,vL tNode ([]:List Node) .nil,vI x2] 1 H K rfl fun st K fr H=>?_
    refine qe ?_
    refine W_seq (W_reg ?_)
    refine qg 1 [(133,.ptr i0 0)] H fun fr H=>?_
    refine qp [] [] hr (fun a s h=>F93_R  _ _ a s h K) K H (fun e s h q st K=>hp e s h q _ _ (K.keep [true,false,false])) fun x137 s139 hr sp138 st K fr H=>?_
    refine qe ?_
    refine W_seq (W_reg ?_)
    refine qld 24 0 (.agg [vI 30,vS (bs []),vS (bs []),vI 0,vI 0,vI 0,vB false,vL tNode ([]:List Node) .shut,vI x2]) 1 H K rfl fun fr H=>?_
    refine qst 24 0 (.agg [vI 30,vS (bs []),vS (bs []),vI 0,vI 0,vI 0,vB false,vL tNode ([]:List Node) .shut,vI x2]) [vI 30,vS (bs []),vS (bs []),vI 0,vI 0,vI 0,vB false,vL tNode ([]:List Node) .shut,vI x2] 2 H K rfl fun st K fr H=>?_
    refine qe ?_
    refine W_ret ?_
    exact hq _ _ (sj hr).symm sp138 _ _ _ (e_retV [.agg [vI 30,vS (bs []),vS (bs []),vI 0,vI 0,vI 0,vB false,vL tNode ([]:List Node) .shut,vI x2]] H K (fun _=>resC id1 0 24 [vI 30,vS (bs []),vS (bs []),vI 0,vI 0,vI 0,vB false,vL tNode ([]:List Node) .shut,vI x2] 2 (by kernel_rfl) rfl (by kernel_rfl) resN) ((K).keep [true,false,false]))
   refine qF H hc39 ?_
   refine W_seq (W_reg ?_)
   refine qg 1 [(57,.ptr i0 0)] H fun fr H=>?_
   refine qp [] [] hr (fun a s h=>F88_R  _ _ a s h K) K H (fun e s h q st K=>hp e s h q _ _ (K.keep [true,false,false])) fun x40 s42 hr sp41 st K fr H=>?_
   refine qg 1 [(56,vB x40)] H fun fr H=>?_
   refine qe ?_
   rcases csplit hr with ⟨hc43,hr⟩ | ⟨hc43,hr⟩
   ·refine qT H hc43 ?_
    refine W_reg ?_
    refine qg 2 [(59,.ptr i0 0),(60,.ptr id3 8)] H fun fr H=>?_
    refine qld 3 8 (vI x2) 1 H K rfl fun fr H=>?_
    refine qp [] [] hr (fun a s h=>F218_R n _ _ a s h K) K H (fun e s h q st K=>hp e s h q _ _ (K.keep [true,false,false])) fun x44 s46 hr sp45 st K fr H=>?_
    refine qg 1 [(63,.ptr id3 0)] H fun fr H=>?_
    refine qst 3 0 (vI 22) [vI 22,vS (bs []),vS (bs []),vI 0,vI 0,vI 0,vB false,vL tNode ([]:List Node) .nil,vI x2] 1 H K rfl fun st K fr H=>?_
    refine qg 1 [(64,.ptr id3 7)] H fun fr H=>?_
    refine qst 22 7 (vL tNode x44 .shut) [vI 22,vS (bs []),vS (bs []),vI 0,vI 0,vI 0,vB false,vL tNode x44 .shut,vI x2] 1 H K rfl fun st K fr H=>?_
    refine qe ?_
    refine W_seq (W_reg ?_)
    refine qg 1 [(133,.ptr i0 0)] H fun fr H=>?_
    refine qp [] [] hr (fun a s h=>F93_R  _ _ a s h K) K H (fun e s h q st K=>hp e s h q _ _ (K.keep [true,false,false])) fun x140 s142 hr sp141 st K fr H=>?_
    refine qe ?_
    refine W_seq (W_reg ?_)
    refine qld 24 0 (.agg [vI 22,vS (bs []),vS (bs []),vI 0,vI 0,vI 0,vB false,vL tNode x44 .shut,vI x2]) 1 H K rfl fun fr H=>?_
    refine qst 24 0 (.agg [vI 22,vS (bs []),vS (bs []),vI 0,vI 0,vI 0,vB false,vL tNode x44 .shut,vI x2]) [vI 22,vS (bs []),vS (bs []),vI 0,vI 0,vI 0,vB false,vL tNode x44 .shut,vI x2] 2 H K rfl fun st K fr H=>?_
    refine qe ?_
    refine W_ret ?_
    exact hq _ _ (sj hr).symm sp141 _ _ _ (e_retV [.agg [vI 22,vS (bs []),vS (bs []),vI 0,vI 0,vI 0,vB false,vL tNode x44 .shut,vI x2]] H K (fun _=>resC id1 0 24 [vI 22,vS (bs []),vS (bs []),vI 0,vI 0,vI 0,vB false,vL tNode x44 .shut,vI x2] 2 (by kernel_rfl) rfl (by kernel_rfl) resN) ((K).keep [true,false,false]))
   refine qF H hc43 ?_
   refine W_seq (W_reg ?_)
   refine qg 1 [(66,.ptr i0 0)] H fun fr H=>?_
   refine qp [] [] hr (fun a s h=>F88_R  _ _ a s h K) K H (fun e s h q st K=>hp e s h q _ _ (K.keep [true,false,false])) fun x47 s49 hr sp48 st K fr H=>?_
   refine qg 1 [(65,vB x47)] H fun fr H=>?_
   refine qe ?_
   rcases csplit hr with ⟨hc50,hr⟩ | ⟨hc50,hr⟩
   ·refine qT H hc50 ?_
    refine W_reg ?_
    refine qg 1 [(68,.ptr i0 0)] H fun fr H=>?_
    refine qp [] [] hr (fun a s h=>F219_R n _ a s h K) K H (fun e s h q st K=>hp e s h q _ _ (K.keep [true,false,false])) fun x51 s53 hr sp52 st K fr H=>?_
    refine qg 1 [(70,.ptr id3 0)] H fun fr H=>?_
    refine qst 3 0 (vI 23) [vI 23,vS (bs []),vS (bs []),vI 0,vI 0,vI 0,vB false,vL tNode ([]:List Node) .nil,vI x2] 1 H K rfl fun st K fr H=>?_
    refine qg 1 [(71,.ptr id3 7)] H fun fr H=>?_
    refine qst 22 7 (vL tNode x51 .shut) [vI 23,vS (bs []),vS (bs []),vI 0,vI 0,vI 0,vB false,vL tNode x51 .shut,vI x2] 1 H K rfl fun st K fr H=>?_
    refine qe ?_
    refine W_seq (W_reg ?_)
    refine qg 1 [(133,.ptr i0 0)] H fun fr H=>?_
    refine qp [] [] hr (fun a s h=>F93_R  _ _ a s h K) K H (fun e s h q st K=>hp e s h q _ _ (K.keep [true,false,false])) fun x143 s145 hr sp144 st K fr H=>?_
    refine qe ?_
    refine W_seq (W_reg ?_)
    refine qld 24 0 (.agg [vI 23,vS (bs []),vS (bs []),vI 0,vI 0,vI 0,vB false,vL tNode x51 .shut,vI x2]) 1 H K rfl fun fr H=>?_
    refine qst 24 0 (.agg [vI 23,vS (bs []),vS (bs []),vI 0,vI 0,vI 0,vB false,vL tNode x51 .shut,vI x2]) [vI 23,vS (bs []),vS (bs []),vI 0,vI 0,vI 0,vB false,vL tNode x51 .shut,vI x2] 2 H K rfl fun st K fr H=>?_
    refine qe ?_
    refine W_ret ?_
    exact hq _ _ (sj hr).symm sp144 _ _ _ (e_retV [.agg [vI 23,vS (bs []),vS (bs []),vI 0,vI 0,vI 0,vB false,vL tNode x51 .shut,vI x2]] H K (fun _=>resC id1 0 24 [vI 23,vS (bs []),vS (bs []),vI 0,vI 0,vI 0,vB false,vL tNode x51 .shut,vI x2] 2 (by kernel_rfl) rfl (by kernel_rfl) resN) ((K).keep [true,false,false]))
   refine qF H hc50 ?_
   refine W_seq (W_reg ?_)
   refine qg 1 [(73,.ptr i0 0)] H fun fr H=>?_
   refine qp [] [] hr (fun a s h=>F88_R  _ _ a s h K) K H (fun e s h q st K=>hp e s h q _ _ (K.keep [true,false,false])) fun x54 s56 hr sp55 st K fr H=>?_
   refine qg 1 [(72,vB x54)] H fun fr H=>?_
   refine qe ?_
   rcases csplit hr with ⟨hc57,hr⟩ | ⟨hc57,hr⟩
   ·refine qT H hc57 ?_
    refine W_reg ?_
    refine qg 1 [(75,.ptr i0 0)] H fun fr H=>?_
    refine qp [] [] hr (fun a s h=>F152_R n _ a s h K) K H (fun e s h q st K=>hp e s h q _ _ (K.keep [true,false,false])) fun x58 s60 hr sp59 st K fr H=>?_
    refine qg 1 [(77,.ptr id3 0)] H fun fr H=>?_
    refine qst 3 0 (vI 24) [vI 24,vS (bs []),vS (bs []),vI 0,vI 0,vI 0,vB false,vL tNode ([]:List Node) .nil,vI x2] 1 H K rfl fun st K fr H=>?_
    refine qg 1 [(78,.ptr id3 1)] H fun fr H=>?_
    refine qst 9 1 (vS x58) [vI 24,vS x58,vS (bs []),vI 0,vI 0,vI 0,vB false,vL tNode ([]:List Node) .nil,vI x2] 1 H K rfl fun st K fr H=>?_
    refine qe ?_
    refine W_seq (W_reg ?_)
    refine qg 1 [(133,.ptr i0 0)] H fun fr H=>?_
    refine qp [] [] hr (fun a s h=>F93_R  _ _ a s h K) K H (fun e s h q st K=>hp e s h q _ _ (K.keep [true,false,false])) fun x146 s148 hr sp147 st K fr H=>?_
    refine qe ?_
    refine W_seq (W_reg ?_)
    refine qld 24 0 (.agg [vI 24,vS x58,vS (bs []),vI 0,vI 0,vI 0,vB false,vL tNode ([]:List Node) .shut,vI x2]) 1 H K rfl fun fr H=>?_
    refine qst 24 0 (.agg [vI 24,vS x58,vS (bs []),vI 0,vI 0,vI 0,vB false,vL tNode ([]:List Node) .shut,vI x2]) [vI 24,vS x58,vS (bs []),vI 0,vI 0,vI 0,vB false,vL tNode ([]:List Node) .shut,vI x2] 2 H K rfl fun st K fr H=>?_
    refine qe ?_
    refine W_ret ?_
    exact hq _ _ (sj hr).symm sp147 _ _ _ (e_retV [.agg [vI 24,vS x58,vS (bs []),vI 0,vI 0,vI 0,vB false,vL tNode ([]:List Node) .shut,vI x2]] H K (fun _=>resC id1 0 24 [vI 24,vS x58,vS (bs []),vI 0,vI 0,vI 0,vB false,vL tNode ([]:List Node) .shut,vI x2] 2 (by kernel_rfl) rfl (by kernel_rfl) resN) ((K).keep [true,false,false]))
   refine qF H hc57 ?_
   refine W_seq (W_reg ?_)
   refine qg 1 [(80,.ptr i0 0)] H fun fr H=>?_
   refine qp [] [] hr (fun a s h=>F88_R  _ _ a s h K) K H (fun e s h q st K=>hp e s h q _ _ (K.keep [true,false,false])) fun x61 s63 hr sp62 st K fr H=>?_
   refine qg 1 [(79,vB x61)] H fun fr H=>?_
   refine qe ?_
   rcases csplit hr with ⟨hc64,hr⟩ | ⟨hc64,hr⟩
   ·refine qT H hc64 ?_
    refine W_reg ?_
    refine qg 1 [(82,.ptr i0 0)] H fun fr H=>?_
    refine qp [] [] hr (fun a s h=>F152_R n _ a s h K) K H (fun e s h q st K=>hp e s h q _ _ (K.keep [true,false,false])) fun x65 s67 hr sp66 st K fr H=>?_
    refine qg 1 [(84,.ptr id3 0)] H fun fr H=>?_
    refine qst 3 0 (vI 25) [vI 25,vS (bs []),vS (bs []),vI 0,vI 0,vI 0,vB false,vL tNode ([]:List Node) .nil,vI x2] 1 H K rfl fun st K fr H=>?_
    refine qg 1 [(85,.ptr id3 1)] H fun fr H=>?_
    refine qst 9 1 (vS x65) [vI 25,vS x65,vS (bs []),vI 0,vI 0,vI 0,vB false,vL tNode ([]:List Node) .nil,vI x2] 1 H K rfl fun st K fr H=>?_
    refine qe ?_
    refine W_seq (W_reg ?_)
    refine qg 1 [(133,.ptr i0 0)] H fun fr H=>?_
    refine qp [] [] hr (fun a s h=>F93_R  _ _ a s h K) K H (fun e s h q st K=>hp e s h q _ _ (K.keep [true,false,false])) fun x149 s151 hr sp150 st K fr H=>?_
    refine qe ?_
    refine W_seq (W_reg ?_)
    refine qld 24 0 (.agg [vI 25,vS x65,vS (bs []),vI 0,vI 0,vI 0,vB false,vL tNode ([]:List Node) .shut,vI x2]) 1 H K rfl fun fr H=>?_
    refine qst 24 0 (.agg [vI 25,vS x65,vS (bs []),vI 0,vI 0,vI 0,vB false,vL tNode ([]:List Node) .shut,vI x2]) [vI 25,vS x65,vS (bs []),vI 0,vI 0,vI 0,vB false,vL tNode ([]:List Node) .shut,vI x2] 2 H K rfl fun st K fr H=>?_
    refine qe ?_
    refine W_ret ?_
    exact hq _ _ (sj hr).symm sp150 _ _ _ (e_retV [.agg [vI 25,vS x65,vS (bs []),vI 0,vI 0,vI 0,vB false,vL tNode ([]:List Node) .shut,vI x2]] H K (fun _=>resC id1 0 24 [vI 25,vS x65,vS (bs []),vI 0,vI 0,vI 0,vB false,vL tNode ([]:List Node) .shut,vI x2] 2 (by kernel_rfl) rfl (by kernel_rfl) resN) ((K).keep [true,false,false]))
   refine qF H hc64 ?_
   refine W_seq (W_reg ?_)
   refine qg 1 [(87,.ptr i0 0)] H fun fr H=>?_
   refine qp [] [] hr (fun a s h=>F88_R  _ _ a s h K) K H (fun e s h q st K=>hp e s h q _ _ (K.keep [true,false,false])) fun x68 s70 hr sp69 st K fr H=>?_
   refine qg 1 [(86,vB x68)] H fun fr H=>?_
   refine qe ?_
   rcases csplit hr with ⟨hc71,hr⟩ | ⟨hc71,hr⟩
   ·refine qT H hc71 ?_
    refine W_reg ?_
    refine qg 1 [(89,.ptr i0 0)] H fun fr H=>?_
    refine qp [] [] hr (fun a s h=>F92_R  _ a s h K) K H (fun e s h q st K=>hp e s h q _ _ (K.keep [true,false,false])) fun x72 s74 hr sp73 st K fr H=>?_
    refine qg 1 [(91,.ptr id3 0)] H fun fr H=>?_
    refine qst 3 0 (vI 27) [vI 27,vS (bs []),vS (bs []),vI 0,vI 0,vI 0,vB false,vL tNode ([]:List Node) .nil,vI x2] 1 H K rfl fun st K fr H=>?_
    refine qg 1 [(92,.ptr id3 1)] H fun fr H=>?_
    refine qst 9 1 (vS x72) [vI 27,vS x72,vS (bs []),vI 0,vI 0,vI 0,vB false,vL tNode ([]:List Node) .nil,vI x2] 1 H K rfl fun st K fr H=>?_
    refine qe ?_
    refine W_seq (W_reg ?_)
    refine qg 1 [(133,.ptr i0 0)] H fun fr H=>?_
    refine qp [] [] hr (fun a s h=>F93_R  _ _ a s h K) K H (fun e s h q st K=>hp e s h q _ _ (K.keep [true,false,false])) fun x152 s154 hr sp153 st K fr H=>?_
    refine qe ?_
    refine W_seq (W_reg ?_)
    refine qld 24 0 (.agg [vI 27,vS x72,vS (bs []),vI 0,vI 0,vI 0,vB false,vL tNode ([]:List Node) .shut,vI x2]) 1 H K rfl fun fr H=>?_
    refine qst 24 0 (.agg [vI 27,vS x72,vS (bs []),vI 0,vI 0,vI 0,vB false,vL tNode ([]:List Node) .shut,vI x2]) [vI 27,vS x72,vS (bs []),vI 0,vI 0,vI 0,vB false,vL tNode ([]:List Node) .shut,vI x2] 2 H K rfl fun st K fr H=>?_
    refine qe ?_
    refine W_ret ?_
    exact hq _ _ (sj hr).symm sp153 _ _ _ (e_retV [.agg [vI 27,vS x72,vS (bs []),vI 0,vI 0,vI 0,vB false,vL tNode ([]:List Node) .shut,vI x2]] H K (fun _=>resC id1 0 24 [vI 27,vS x72,vS (bs []),vI 0,vI 0,vI 0,vB false,vL tNode ([]:List Node) .shut,vI x2] 2 (by kernel_rfl) rfl (by kernel_rfl) resN) ((K).keep [true,false,false]))
   refine qF H hc71 ?_
   refine W_seq (W_reg ?_)
   refine qg 1 [(94,.ptr i0 0)] H fun fr H=>?_
   refine qp [] [] hr (fun a s h=>F88_R  _ _ a s h K) K H (fun e s h q st K=>hp e s h q _ _ (K.keep [true,false,false])) fun x75 s77 hr sp76 st K fr H=>?_
   refine qg 1 [(93,vB x75)] H fun fr H=>?_
   refine qe ?_
   rcases csplit hr with ⟨hc78,hr⟩ | ⟨hc78,hr⟩
   ·refine qT H hc78 ?_
    refine W_reg ?_
    refine qg 1 [(96,.ptr i0 0)] H fun fr H=>?_
    refine qp [] [] hr (fun a s h=>F92_R  _ a s h K) K H (fun e s h q st K=>hp e s h q _ _ (K.keep [true,false,false])) fun x79 s81 hr sp80 st K fr H=>?_
    refine qg 1 [(98,.ptr id3 0)] H fun fr H=>?_
    refine qst 3 0 (vI 28) [vI 28,vS (bs []),vS (bs []),vI 0,vI 0,vI 0,vB false,vL tNode ([]:List Node) .nil,vI x2] 1 H K rfl fun st K fr H=>?_
    refine qg 1 [(99,.ptr id3 1)] H fun fr H=>?_
    refine qst 9 1 (vS x79) [vI 28,vS x79,vS (bs []),vI 0,vI 0,vI 0,vB false,vL tNode ([]:List Node) .nil,vI x2] 1 H K rfl fun st K fr H=>?_
    refine qe ?_
    refine W_seq (W_reg ?_)
    refine qg 1 [(133,.ptr i0 0)] H fun fr H=>?_
    refine qp [] [] hr (fun a s h=>F93_R  _ _ a s h K) K H (fun e s h q st K=>hp e s h q _ _ (K.keep [true,false,false])) fun x155 s157 hr sp156 st K fr H=>?_
    refine qe ?_
    refine W_seq (W_reg ?_)
    refine qld 24 0 (.agg [vI 28,vS x79,vS (bs []),vI 0,vI 0,vI 0,vB false,vL tNode ([]:List Node) .shut,vI x2]) 1 H K rfl fun fr H=>?_
    refine qst 24 0 (.agg [vI 28,vS x79,vS (bs []),vI 0,vI 0,vI 0,vB false,vL tNode ([]:List Node) .shut,vI x2]) [vI 28,vS x79,vS (bs []),vI 0,vI 0,vI 0,vB false,vL tNode ([]:List Node) .shut,vI x2] 2 H K rfl fun st K fr H=>?_
    refine qe ?_
    refine W_ret ?_
    exact hq _ _ (sj hr).symm sp156 _ _ _ (e_retV [.agg [vI 28,vS x79,vS (bs []),vI 0,vI 0,vI 0,vB false,vL tNode ([]:List Node) .shut,vI x2]] H K (fun _=>resC id1 0 24 [vI 28,vS x79,vS (bs []),vI 0,vI 0,vI 0,vB false,vL tNode ([]:List Node) .shut,vI x2] 2 (by kernel_rfl) rfl (by kernel_rfl) resN) ((K).keep [true,false,false]))
   refine qF H hc78 ?_
   refine W_seq (W_reg ?_)
   refine qg 1 [(101,.ptr i0 0)] H fun fr H=>?_
   refine qp [] [] hr (fun a s h=>F88_R  _ _ a s h K) K H (fun e s h q st K=>hp e s h q _ _ (K.keep [true,false,false])) fun x82 s84 hr sp83 st K fr H=>?_
   refine qg 1 [(100,vB x82)] H fun fr H=>?_
   refine qe ?_
   rcases csplit hr with ⟨hc85,hr⟩ | ⟨hc85,hr⟩
   ·refine qT H hc85 ?_
    refine W_seq (W_reg ?_)
    refine qg 1 [(103,.ptr i0 0)] H fun fr H=>?_
    refine qp [] [] hr (fun a s h=>F152_R n _ a s h K) K H (fun e s h q st K=>hp e s h q _ _ (K.keep [true,false,false])) fun x86 s88 hr sp87 st K fr H=>?_
    refine qg 1 [(105,.ptr id3 0)] H fun fr H=>?_
    refine qst 3 0 (vI 33) [vI 33,vS (bs []),vS (bs []),vI 0,vI 0,vI 0,vB false,vL tNode ([]:List Node) .nil,vI x2] 1 H K rfl fun st K fr H=>?_
    refine qg 1 [(106,.ptr id3 1)] H fun fr H=>?_
    refine qst 9 1 (vS x86) [vI 33,vS x86,vS (bs []),vI 0,vI 0,vI 0,vB false,vL tNode ([]:List Node) .nil,vI x2] 1 H K rfl fun st K fr H=>?_
    refine qe ?_
    refine W_seq (W_reg ?_)
    refine qg 1 [(107,.ptr i0 0)] H fun fr H=>?_
    refine qp [] [] hr (fun a s h=>F93_R  _ _ a s h K) K H (fun e s h q st K=>hp e s h q _ _ (K.keep [true,false,false])) fun x89 s91 hr sp90 st K fr H=>?_
    refine qe ?_
    refine W_reg ?_
    refine qg 3 [(109,.ptr i0 0),(111,.fn 67 [.ptr i0 0] [])] H fun fr H=>?_
    refine qc (fun s=>one_R 67 [.ptr i0 0] []) H fun fr H=>?_
    refine qp [] [] hr (fun a s h=>F149_2_R n _ _ a s h K) K H (fun e s h q st K=>hp e s h q.1 _ _ (K.keep [false,true,false,false])) fun x92 s94 hr ⟨sp93,sp95⟩ st K fr H=>?_
    refine qg 1 [(114,.ptr id3 7)] H fun fr H=>?_
    refine qst 22 7 (vL tNode x92 sp95) [vI 33,vS x86,vS (bs []),vI 0,vI 0,vI 0,vB false,vL tNode x92 sp95,vI x2] 2 H K rfl fun st K fr H=>?_
    refine qe ?_
    refine W_seq (W_reg ?_)
    refine qg 1 [(133,.ptr i0 0)] H fun fr H=>?_
    refine qp [] [] hr (fun a s h=>F93_R  _ _ a s h (K.front 1 rfl)) K H (fun e s h q st K=>hp e s h q _ _ (K.keep [true,false,false,false])) fun x158 s160 hr sp159 st K fr H=>?_
    refine qe ?_
    refine W_seq (W_reg ?_)
    refine qld 24 0 (.agg [vI 33,vS x86,vS (bs []),vI 0,vI 0,vI 0,vB false,vL tNode x92 .shut,vI x2]) 2 H K rfl fun fr H=>?_
    refine qst 24 0 (.agg [vI 33,vS x86,vS (bs []),vI 0,vI 0,vI 0,vB false,vL tNode x92 .shut,vI x2]) [vI 33,vS x86,vS (bs []),vI 0,vI 0,vI 0,vB false,vL tNode x92 .shut,vI x2] 3 H K rfl fun st K fr H=>?_
    refine qe ?_
    refine W_ret ?_
    exact hq _ _ (sj hr).symm sp159 _ _ _ (e_retV [.agg [vI 33,vS x86,vS (bs []),vI 0,vI 0,vI 0,vB false,vL tNode x92 .shut,vI x2]] H K (fun _=>resC id1 0 24 [vI 33,vS x86,vS (bs []),vI 0,vI 0,vI 0,vB false,vL tNode x92 .shut,vI x2] 3 (by kernel_rfl) rfl (by kernel_rfl) resN) ((K).keep [true,false,false,false]))
   refine qF H hc85 ?_
   refine W_seq (W_reg ?_)
   refine qg 1 [(116,.ptr i0 0)] H fun fr H=>?_
   refine qp [] [] hr (fun a s h=>F88_R  _ _ a s h K) K H (fun e s h q st K=>hp e s h q _ _ (K.keep [true,false,false])) fun x96 s98 hr sp97 st K fr H=>?_
   refine qg 1 [(115,vB x96)] H fun fr H=>?_
   refine qe ?_
   rcases csplit hr with ⟨hc99,hr⟩ | ⟨hc99,hr⟩
   ·refine qT H hc99 ?_
    refine W_seq (W_reg ?_)
    refine qg 1 [(118,.ptr i0 0)] H fun fr H=>?_
    refine qp [] [] hr (fun a s h=>F93_R  _ _ a s h K) K H (fun e s h q st K=>hp e s h q _ _ (K.keep [true,false,false])) fun x100 s102 hr sp101 st K fr H=>?_
    refine qe ?_
    refine W_reg ?_
    refine qg 2 [(120,.ptr i0 0),(121,.ptr id3 8)] H fun fr H=>?_
    refine qld 3 8 (vI x2) 1 H K rfl fun fr H=>?_
    refine qg 1 [(123,.agg [vI 35,vS (bs []),vS (bs []),vI 0,vI 0,vI 0,vB true,vL tNode ([]:List Node) .nil,vI x2])] H fun fr H=>?_
    refine qp [] [] hr (fun a s h=>F193_R  _ _ a s h (p0:=.nil) K) K H (fun e s h q st K=>hp e s h q _ _ (K.keep [true,false,false])) fun x103 s105 hr sp104 st K fr H=>?_
    refine qst 24 0 (aN x103) [vI x103.kind,vS x103.name,vS x103.other,vI x103.n,vI x103.len,vI x103.init,vB x103.ghost,vL tNode x103.kids .shut,vI x103.pos] 1 H K rfl fun st K fr H=>?_
    refine qe ?_
    refine W_seq (W_reg ?_)
    refine qg 1 [(133,.ptr i0 0)] H fun fr H=>?_
    refine qp [] [] hr (fun a s h=>F93_R  _ _ a s h K) K H (fun e s h q st K=>hp e s h q _ _ (K.keep [true,false,false])) fun x161 s163 hr sp162 st K fr H=>?_
    refine qe ?_
    refine W_seq (W_reg ?_)
    refine qld 24 0 (aN x103) 1 H K rfl fun fr H=>?_
    refine qst 24 0 (aN x103) [vI x103.kind,vS x103.name,vS x103.other,vI x103.n,vI x103.len,vI x103.init,vB x103.ghost,vL tNode x103.kids .shut,vI x103.pos] 2 H K rfl fun st K fr H=>?_
    refine qe ?_
    refine W_ret ?_
    exact hq _ _ (sj hr).symm sp162 _ _ _ (e_retV [aN x103] H K (fun _=>resC id1 0 24 [vI x103.kind,vS x103.name,vS x103.other,vI x103.n,vI x103.len,vI x103.init,vB x103.ghost,vL tNode x103.kids .shut,vI x103.pos] 2 (by kernel_rfl) rfl (by kernel_rfl) resN) ((K).keep [true,false,false]))
   refine qF H hc99 ?_
   refine W_seq (W_reg ?_)
   refine qg 1 [(126,.ptr i0 0)] H fun fr H=>?_
   refine qp [] [] hr (fun a s h=>F88_R  _ _ a s h K) K H (fun e s h q st K=>hp e s h q _ _ (K.keep [true,false,false])) fun x106 s108 hr sp107 st K fr H=>?_
   refine qg 1 [(125,vB x106)] H fun fr H=>?_
   refine qe ?_
   rcases csplit hr with ⟨hc109,hr⟩ | ⟨hc109,hr⟩
   ·refine qT H hc109 ?_
    refine W_reg ?_
    refine qg 2 [(128,.ptr i0 0),(129,.ptr id3 8)] H fun fr H=>?_
    refine qld 3 8 (vI x2) 1 H K rfl fun fr H=>?_
    refine qg 1 [(131,.agg [vI 35,vS (bs []),vS (bs []),vI 0,vI 0,vI 0,vB false,vL tNode ([]:List Node) .nil,vI x2])] H fun fr H=>?_
    refine qp [] [] hr (fun a s h=>F193_R  _ _ a s h (p0:=.nil) K) K H (fun e s h q st K=>hp e s h q _ _ (K.keep [true,false,false])) fun x110 s112 hr sp111 st K fr H=>?_
    refine qst 24 0 (aN x110) [vI x110.kind,vS x110.name,vS x110.other,vI x110.n,vI x110.len,vI x110.init,vB x110.ghost,vL tNode x110.kids .shut,vI x110.pos] 1 H K rfl fun st K fr H=>?_
    refine qe ?_
    refine W_seq (W_reg ?_)
    refine qg 1 [(133,.ptr i0 0)] H fun fr H=>?_
    refine qp [] [] hr (fun a s h=>F93_R  _ _ a s h K) K H (fun e s h q st K=>hp e s h q _ _ (K.keep [true,false,false])) fun x164 s166 hr sp165 st K fr H=>?_
    refine qe ?_
    refine W_seq (W_reg ?_)
    refine qld 24 0 (aN x110) 1 H K rfl fun fr H=>?_
    refine qst 24 0 (aN x110) [vI x110.kind,vS x110.name,vS x110.other,vI x110.n,vI x110.len,vI x110.init,vB x110.ghost,vL tNode x110.kids .shut,vI x110.pos] 2 H K rfl fun st K fr H=>?_
    refine qe ?_
    refine W_ret ?_
    exact hq _ _ (sj hr).symm sp165 _ _ _ (e_retV [aN x110] H K (fun _=>resC id1 0 24 [vI x110.kind,vS x110.name,vS x110.other,vI x110.n,vI x110.len,vI x110.init,vB x110.ghost,vL tNode x110.kids .shut,vI x110.pos] 2 (by kernel_rfl) rfl (by kernel_rfl) resN) ((K).keep [true,false,false]))
   refine qF H hc109 ?_
   refine W_seq (W_reg ?_)
   refine qg 1 [(7,.ptr id3 0)] H fun fr H=>?_
   refine qst 3 0 (vI 21) [vI 21,vS (bs []),vS (bs []),vI 0,vI 0,vI 0,vB false,vL tNode ([]:List Node) .nil,vI x2] 1 H K rfl fun st K fr H=>?_
   refine qe ?_
   refine W_seq ?_
   refine W_viaP (fun j117 j117s e fr st=>e = .normal∧∃ (j117q:Spare),Rd fr [(0,.ptr i0 0),(2,.ptr id1 0),(3,.ptr id3 0)]∧HL st (.rd i0 87 j117q (rdC j117s j117q) :: .obj id3 (.cells 24 [vI j117.kind,vS j117.name,vS j117.other,vI j117.n,vI j117.len,vI j117.init,vB j117.ghost,vL tNode j117.kids .nil,vI j117.pos]) :: .obj id1 (.cells 24 [vI 0,vS (bs []),vS (bs []),vI 0,vI 0,vI 0,vB false,vL tNode ([]:List Node) .nil,vI 0]) :: rs)) hr hp ?_ ?_
   ·intro y Q hr hp hq
    refine W_seq (W_reg ?_)
    refine qg 1 [(8,.ptr i0 0)] H fun fr H=>?_
    refine qp [] [] hr (fun a s h=>F88_R  _ _ a s h K) K H (fun e s h q st K=>hp e s h q _ _ (K.keep [true,false,false])) fun x113 s115 hr sp114 st K fr H=>?_
    refine qe ?_
    rcases csplit hr with ⟨hc116,hr⟩ | ⟨hc116,hr⟩
    rotate_left
    ·refine qF H hc116 ?_
     refine W_skip ?_
     exact hq _ _ (sj hr).symm _ _ _ ⟨rfl,sp114,H.tq,K⟩
    refine qT H hc116 ?_
    refine W_reg ?_
    refine qg 1 [(10,.ptr id3 3)] H fun fr H=>?_
    refine qst 3 3 (vI 1) [vI 21,vS (bs []),vS (bs []),vI 1,vI 0,vI 0,vB false,vL tNode ([]:List Node) .nil,vI x2] 1 H K rfl fun st K fr H=>?_
    refine qe ?_
    exact hq _ _ (sj hr).symm _ _ _ ⟨rfl,sp114,H.tq,K⟩
   intro j117 j117s hr
   rintro e fr st ⟨rfl,j117q,H,K⟩
   refine W_seq (W_reg ?_)
   refine qg 1 [(11,.ptr i0 0)] H fun fr H=>?_
   refine qp [] [] hr (fun a s h=>F220_R n _ a s h K) K H (fun e s h q st K=>hp e s h q.1 _ _ (K.keep [false,true,false,false])) fun x118 s120 hr ⟨sp119,sp121⟩ st K fr H=>?_
   refine qg 1 [(13,.ptr id3 7)] H fun fr H=>?_
   refine qst 22 7 (vL tNode x118 sp121) [vI j117.kind,vS j117.name,vS j117.other,vI j117.n,vI j117.len,vI j117.init,vB j117.ghost,vL tNode x118 sp121,vI j117.pos] 2 H K rfl fun st K fr H=>?_
   refine qe ?_
   refine W_drw ?_
   refine qg 1 [(14,.ptr id3 7)] H fun fr H=>?_
   refine qld 22 7 (vL tNode x118 sp121) 2 H K rfl fun fr H=>?_
   refine qg 1 [(16,.ptr i0 0)] H fun fr H=>?_
   refine qp [2,3] [2,3] hr (fun a s h=>F221_R n _ a s h (K.front 1 rfl)) K H (fun e s h q st K=>qdP K [0,.look (some 1),0] (hp e s h q _ _ (K.keep [true,false,false,false]))) fun x122 s124 hr sp123 st K fr H=>?_
   refine qapp tNode 104 22 22 .shut hr 1 H K rfl fun x125 hr sp126 st K fr H=>?_
   refine qg 1 [(19,.ptr id3 7)] H fun fr H=>?_
   refine qst 22 7 (vL tNode x125 sp126) [vI j117.kind,vS j117.name,vS j117.other,vI j117.n,vI j117.len,vI j117.init,vB j117.ghost,vL tNode x125 sp126,vI j117.pos] 2 H K rfl fun st K fr H=>?_
   refine qe (qdI K [0,.look (some 1),0,.keep [1,2],.keep [],0,.put 1] ?_)
   refine W_seq (W_reg ?_)
   refine qg 1 [(133,.ptr i0 0)] H fun fr H=>?_
   refine qp [] [] hr (fun a s h=>F93_R  _ _ a s h K) K H (fun e s h q st K=>hp e s h q _ _ (K.keep [true,false,false,false])) fun x167 s169 hr sp168 st K fr H=>?_
   refine qe ?_
   refine W_seq (W_reg ?_)
   refine qld 24 0 (.agg [vI j117.kind,vS j117.name,vS j117.other,vI j117.n,vI j117.len,vI j117.init,vB j117.ghost,vL tNode x125 .shut,vI j117.pos]) 2 H K rfl fun fr H=>?_
   refine qst 24 0 (.agg [vI j117.kind,vS j117.name,vS j117.other,vI j117.n,vI j117.len,vI j117.init,vB j117.ghost,vL tNode x125 .shut,vI j117.pos]) [vI j117.kind,vS j117.name,vS j117.other,vI j117.n,vI j117.len,vI j117.init,vB j117.ghost,vL tNode x125 .shut,vI j117.pos] 3 H K rfl fun st K fr H=>?_
   refine qe ?_
   refine W_ret ?_
   exact hq _ _ (sj hr).symm sp168 _ _ _ (e_retV [.agg [vI j117.kind,vS j117.name,vS j117.other,vI j117.n,vI j117.len,vI j117.init,vB j117.ghost,vL tNode x125 .shut,vI j117.pos]] H K (fun _=>resC id1 0 24 [vI j117.kind,vS j117.name,vS j117.other,vI j117.n,vI j117.len,vI j117.init,vB j117.ghost,vL tNode x125 .shut,vI j117.pos] 3 (by kernel_rfl) rfl (by kernel_rfl) resN) ((K).keep [true,false,false,false]))
  ·intro a0 s r s2 hr st rs i0 p K
   change F57_3_step (F217 n) (F216 n) (F195 n) (F57_3 n) (F151 n) n a0 s = some (r,s2) at hr
   unfold F57_3_step at hr
   refine R_panX (ew:=encW) (enc:=fun v (q:Spare)=>vL tNode v .shut) (post:=fun s (q:Spare)=>.rd i0 87 q (rdC s q) :: rs) [(0,.ptr i0 0),(1,vB a0),(2,.fn 195 [.ptr i0 0] [])] Tryz.func57 rfl rfl fun fr Q H hp hq=>?_
   refine W_seq (W_reg ?_)
   refine qg 1 [] H fun fr H=>?_
   refine qe ?_
   refine W_seq (W_reg ?_)
   refine qg 1 [(7,vL tNode ([]:List Node) .nil)] H fun fr H=>?_
   refine qe ?_
   refine W_block ?_
   refine W_iterP hr hp (fun (s1:(List Node)) s1s fr st=>∃ (s1sp0 s1q:Spare),Rd fr [(0,.ptr i0 0),(1,vB a0),(2,.fn 195 [.ptr i0 0] []),(7,vL tNode s1 s1sp0)]∧HL st (.own s1sp0 :: .rd i0 87 s1q (rdC s1s s1q) :: rs)) (fun (r26:((List Node))) r26s e fr st=>e = .ret∧∃ (r26sp0 r26q:Spare),Rd fr [(6,vL tNode r26 r26sp0)]∧HL st (.rd i0 87 r26q (rdC r26s r26q) :: .own r26sp0 :: rs)) ⟨.nil,p,H.tq,(K).nilo⟩ (by rintro _ s fr st ⟨h,_⟩ <;> cases h) ?_ ?_
   ·rintro s1 s1s fr st y Q ⟨s1sp0,s1q,H,K⟩ hr hp hq
    refine W_block ?_
    refine W_seq (W_seq ?_)
    refine W_drw ?_
    refine qg 3 [(12,.ptr i0 1)] H fun fr H=>?_
    refine qldR 3 1 (vI s1s.next) 1 H K rfl fun fr H=>?_
    refine qg 3 [(16,.ptr i0 0)] H fun fr H=>?_
    refine qldR 56 0 (vL tToken s1s.toks .shut) 1 H K rfl fun fr H=>?_
    refine qln tToken 56 s1s.toks .shut H fun fr H=>?_
    refine qg 1 [(19,vB (s1s.next == (s1s.toks.length:Int)))] H fun fr H=>?_
    refine qe (qd ?_)
    rcases csplit hr with ⟨hc2,hr⟩ | ⟨hc2,hr⟩
    ·refine qT H hc2 ?_
     refine W_seq (W_seq ?_)
     refine W_reg ?_
     refine qg 1 [(20,vB a0)] H fun fr H=>?_
     refine qe ?_
     rcases csplit hr with ⟨hc3,hr⟩ | ⟨hc3,hr⟩
     rotate_left
     ·refine qF H hc3 ?_
      refine W_skip ?_
      refine W_seq (W_reg ?_)
      refine qg 2 [(6,vL tNode s1 s1sp0)] H fun fr H=>?_
      refine qe ?_
      refine W_ret ?_
      exact hq _ _ (sj hr).symm _ _ _ ⟨rfl,s1sp0,s1q,H.tq,((K).front 0 rfl).front 1 rfl⟩
     refine qT H hc3 ?_
     refine W_reg ?_
     refine qg 1 [(21,.ptr i0 0)] H fun fr H=>?_
     refine qp [] [] hr (fun a s h=>F68_R  _ a s h (K.front 1 rfl)) K H (fun e s h q st K=>hp e s h q _ _ (K.keep [true,false])) fun x4 s6 hr sp5 st K fr H=>?_
     refine qe ?_
     refine W_seq (W_reg ?_)
     refine qg 2 [(6,vL tNode s1 s1sp0)] H fun fr H=>?_
     refine qe ?_
     refine W_ret ?_
     exact hq _ _ (sj hr).symm _ _ _ ⟨rfl,s1sp0,sp5,H.tq,K⟩
    refine qF H hc2 ?_
    refine W_skip ?_
    refine W_seq ?_
    refine W_viaP (fun j12 j12s e fr st=>match j12 with | .inl j12a=>(e = .ret∧∃ (j12aq:Spare),Rd fr [(6,vL tNode s1 s1sp0)]∧HL st (.rd i0 87 j12aq (rdC j12s j12aq) :: .own s1sp0 :: rs)) | .inr j12b=>(e = .normal∧∃ (j12bq:Spare),Rd fr [(0,.ptr i0 0),(1,vB a0),(2,.fn 195 [.ptr i0 0] []),(7,vL tNode s1 s1sp0)]∧HL st (.rd i0 87 j12bq (rdC j12s j12bq) :: .own s1sp0 :: rs))) hr hp ?_ ?_
    ·intro y Q hr hp hq
     refine W_seq (W_reg ?_)
     refine qg 2 [(25,vB a0)] H fun fr H=>?_
     rcases csplit hr with ⟨hc7,hr⟩ | ⟨hc7,hr⟩
     rotate_left
     ·rw [hc7] at H
      refine qg 3 [(28,vB false)] H fun fr H=>?_
      refine qe ?_
      refine qF H rfl ?_
      refine W_skip ?_
      exact hq _ _ (sj hr).symm _ _ _ ⟨rfl,s1q,(by (try rw [hc7]); exact H.tq),((K).front 0 rfl).front 1 rfl⟩
     rw [hc7] at H
     refine qg 1 [(26,.ptr i0 0)] H fun fr H=>?_
     refine qp [] [] hr (fun a s h=>F88_R  _ _ a s h (K.front 1 rfl)) K H (fun e s h q st K=>hp e s h q _ _ (K.keep [true,false])) fun x8 s10 hr sp9 st K fr H=>?_
     refine qg 1 [(28,vB x8)] H fun fr H=>?_
     refine qe ?_
     rcases csplit hr with ⟨hc11,hr⟩ | ⟨hc11,hr⟩
     rotate_left
     ·refine qF H hc11 ?_
      refine W_skip ?_
      exact hq _ _ (sj hr).symm _ _ _ ⟨rfl,sp9,(by (try rw [hc7]); exact H.tq),K⟩
     refine qT H hc11 ?_
     refine W_seq (W_reg ?_)
     refine qg 2 [(6,vL tNode s1 s1sp0)] H fun fr H=>?_
     refine qe ?_
     refine W_ret ?_
     exact hq _ _ (sj hr).symm _ _ _ ⟨rfl,sp9,H.tq,K⟩
    intro j12 j12s hr
    rcases j12 with j12a | j12b
    ·rintro e fr st ⟨rfl,j12aq,H,K⟩
     exact hq _ _ (sj hr).symm _ _ _ ⟨rfl,s1sp0,j12aq,H.tq,K⟩
    rintro e fr st ⟨rfl,j12bq,H,K⟩
    refine W_seq (W_reg ?_)
    refine qg 2 [(31,.ptr i0 0),(32,.fn 195 [.ptr i0 0] [])] H fun fr H=>?_
    refine qqb hr (fun x h=>guarded_R (g:=195) (first:=[.ptr i0 0]) (cap:=[]) h K (fun a s hy st1 pre K=>ih_F195 _ a s hy K)) H fun x13 hr sp14 st K fr H=>?_
    refine qg 3 [(34,aN x13.1.1),(35,.agg [vI x13.1.2.1,vI x13.1.2.2])] H fun fr H=>?_
    refine qal 24 [vI 0,vS (bs []),vS (bs []),vI 0,vI 0,vI 0,vB false,vL tNode ([]:List Node) .nil,vI 0] H K fun id15 st K fr H=>?_
    refine qal 95 [vI 0,vI 0] H K fun id16 st K fr H=>?_
    refine qst 24 0 (aN x13.1.1) [vI x13.1.1.kind,vS x13.1.1.name,vS x13.1.1.other,vI x13.1.1.n,vI x13.1.1.len,vI x13.1.1.init,vB x13.1.1.ghost,vL tNode x13.1.1.kids .shut,vI x13.1.1.pos] 1 H K rfl fun st K fr H=>?_
    refine qst 95 0 (.agg [vI x13.1.2.1,vI x13.1.2.2]) [vI x13.1.2.1,vI x13.1.2.2] 0 H K rfl fun st K fr H=>?_
    refine qe ?_
    refine W_seq (W_seq ?_)
    refine W_reg ?_
    refine qg 1 [(36,.ptr id16 0)] H fun fr H=>?_
    refine qld 27 0 (vI x13.1.2.1) 0 H K rfl fun fr H=>?_
    refine qg 1 [(38,vB (x13.1.2.1 == 0))] H fun fr H=>?_
    refine qe ?_
    rcases csplit hr with ⟨hc17,hr⟩ | ⟨hc17,hr⟩
    ·refine qT H hc17 ?_
     refine W_seq (W_reg ?_)
     refine qg 1 [(39,vL tNode s1 s1sp0)] H fun fr H=>?_
     refine qld 24 0 (aN x13.1.1) 1 H K rfl fun fr H=>?_
     refine qv (.buildSlice 22 1 [(0,aN x13.1.1)]) H (run_bslice (v:=vL tNode ([x13.1.1]:List Node) .full) (v0:=.slice [aN x13.1.1] .full) (by kernel_rfl) (by simp only [List.map,vL,tNode_e,eNode_eq,cNode] <;> rfl)) fun fr H=>?_
     refine qapp tNode 104 22 22 .full hr 3 H K rfl fun x18 hr sp19 st K fr H=>?_
     refine qg 1 [(7,vL tNode x18 sp19)] H fun fr H=>?_
     refine qe ?_
     refine W_exit ?_
     refine in_exit ?_
     exact hq _ _ (sj hr).symm _ _ _ ⟨rfl,sp19,sp14,H.tq,((((K.keep [false,false,true,true]).front 0 rfl)).front 1 rfl)⟩
    refine qF H hc17 ?_
    refine W_skip ?_
    refine W_seq (W_reg ?_)
    refine qg 1 [(43,.ptr i0 0)] H fun fr H=>?_
    refine qld 95 0 (.agg [vI x13.1.2.1,vI x13.1.2.2]) 0 H K rfl fun fr H=>?_
    refine qp [] [] hr (fun a s h=>F89_R  _ _ _ a s h (K.front 2 rfl)) K H (fun e s h q st K=>hp e s h q _ _ (K.keep [true,false,false,false])) fun x20 s22 hr sp21 st K fr H=>?_
    refine qe ?_
    refine W_reg ?_
    refine qg 2 [(46,.ptr i0 0),(47,vB a0)] H fun fr H=>?_
    refine qp [] [] hr (fun a s h=>F90_R n _ _ a s h K) K H (fun e s h q st K=>hp e s h q _ _ (K.keep [true,false,false,false])) fun x23 s25 hr sp24 st K fr H=>?_
    refine qe ?_
    exact hq _ _ (sj hr).symm _ _ _ ⟨rfl,s1sp0,sp24,H.tq,((((K.keep [true,false,false,true]).front 0 rfl)).front 1 rfl)⟩
   intro r26 r26s hr
   rintro e fr st ⟨rfl,r26sp0,r26q,H,K⟩
   exact hq _ _ (sj hr).symm r26q _ _ _ (e_retV [vL tNode r26 r26sp0] H K (fun _=>resT (by kernel_rfl) resN) ((K).keep [true,false]))
  ·intro s r s2 hr st rs i0 p K
   change F151_step (F217 n) (F216 n) (F195 n) (F57_3 n) (F151 n) n s = some (r,s2) at hr
   unfold F151_step at hr
   refine R_panX (ew:=encW) (enc:=fun v (q:Spare)=>aN v) (post:=fun s (q:Spare)=>.rd i0 87 q (rdC s q) :: rs) [(0,.ptr i0 0)] Tryz.func151 rfl rfl fun fr Q H hp hq=>?_
   refine W_seq (W_reg ?_)
   refine qal 24 [vI 0,vS (bs []),vS (bs []),vI 0,vI 0,vI 0,vB false,vL tNode ([]:List Node) .nil,vI 0] H K fun id1 st K fr H=>?_
   refine qe ?_
   refine W_seq (W_reg ?_)
   refine qg 1 [(4,.ptr i0 0)] H fun fr H=>?_
   refine ql hr (fun x h=>F91_R  _ x h (K.front 1 rfl)) H fun x2 hr fr H=>?_
   refine qg 1 [(6,.agg [vI 34,vS (bs []),vS (bs []),vI 0,vI 0,vI 0,vB false,vL tNode ([]:List Node) .nil,vI x2])] H fun fr H=>?_
   refine qal 24 [vI 0,vS (bs []),vS (bs []),vI 0,vI 0,vI 0,vB false,vL tNode ([]:List Node) .nil,vI 0] H K fun id3 st K fr H=>?_
   refine qst 24 0 (.agg [vI 34,vS (bs []),vS (bs []),vI 0,vI 0,vI 0,vB false,vL tNode ([]:List Node) .nil,vI x2]) [vI 34,vS (bs []),vS (bs []),vI 0,vI 0,vI 0,vB false,vL tNode ([]:List Node) .nil,vI x2] 0 H K rfl fun st K fr H=>?_
   refine qe ?_
   refine W_seq (W_reg ?_)
   refine qg 1 [(7,.ptr i0 0)] H fun fr H=>?_
   refine qp [] [] hr (fun a s h=>F93_R  _ _ a s h (K.front 2 rfl)) K H (fun e s h q st K=>hp e s h q _ _ (K.keep [true,false,false])) fun x4 s6 hr sp5 st K fr H=>?_
   refine qe ?_
   refine W_seq (W_reg ?_)
   refine qg 3 [(9,.ptr i0 0),(11,.fn 195 [.ptr i0 0] [])] H fun fr H=>?_
   refine qp [] [] hr (fun a s h=>ih_F57_3 _ _ a s h K) K H (fun e s h q st K=>hp e s h q _ _ (K.keep [true,false,false])) fun x7 s9 hr sp8 st K fr H=>?_
   refine qg 1 [(13,.ptr id3 7)] H fun fr H=>?_
   refine qst 22 7 (vL tNode x7 .shut) [vI 34,vS (bs []),vS (bs []),vI 0,vI 0,vI 0,vB false,vL tNode x7 .shut,vI x2] 1 H K rfl fun st K fr H=>?_
   refine qe ?_
   refine W_seq (W_reg ?_)
   refine qld 24 0 (.agg [vI 34,vS (bs []),vS (bs []),vI 0,vI 0,vI 0,vB false,vL tNode x7 .shut,vI x2]) 1 H K rfl fun fr H=>?_
   refine qst 24 0 (.agg [vI 34,vS (bs []),vS (bs []),vI 0,vI 0,vI 0,vB false,vL tNode x7 .shut,vI x2]) [vI 34,vS (bs []),vS (bs []),vI 0,vI 0,vI 0,vB false,vL tNode x7 .shut,vI x2] 2 H K rfl fun st K fr H=>?_
   refine qe ?_
   refine W_ret ?_
   exact hq _ _ (sj hr).symm sp8 _ _ _ (e_retV [.agg [vI 34,vS (bs []),vS (bs []),vI 0,vI 0,vI 0,vB false,vL tNode x7 .shut,vI x2]] H K (fun _=>resC id1 0 24 [vI 34,vS (bs []),vS (bs []),vI 0,vI 0,vI 0,vB false,vL tNode x7 .shut,vI x2] 2 (by kernel_rfl) rfl (by kernel_rfl) resN) ((K).keep [true,false,false]))
theorem F151_R (n:Nat) (s:RS) (r:Node ⊕ Bad) (s2:RS) (hr:F151 n s = some (r,s2)) {st:St} {rs:List Res} {i0:Nat} {p:Spare} (K:HL st (.rd i0 87 p (rdC s p) :: rs)):∃ (q:Spare) (st':St),R Tryz.prog AN 151 [.ptr i0 0] st (gotE encW (fun v=>aN v) r) st'∧HL st' (.rd i0 87 q (rdC s2 q) :: rs):=(F217_RR n).2.2.2.2 s r s2 hr K
end Go.Proofs.YtbecjgckobhmpaaGreatDoor
end
section
namespace Go.Proofs.YtbecjgckobhmpaaGreatDoor
open Go Go.AM Go.Proofs
set_option maxRecDepth 100000
set_option maxHeartbeats 4000000
def F94 (n:Nat) (s:RS):Option ((Node ⊕ Bad) × RS) :=
 (F91 s).bind fun x2 =>
 pbind (pbind (F88 (bs [114,101,99,111,114,100]) s) fun x4 s6 =>
  bif x4 then
   (pbind (F92 s6) fun x8 s10 =>
   pbind (F93 (bs [123]) s10) fun _ s13 =>
   pbind (F57_2 n true s13) fun x14 s16 =>
   some (.inl (.inl (Node.mk 51 x8 (bs []) 0 0 0 false x14 x2)),s16))
  else
   (pbind (F88 (bs [103,104,111,115,116]) s6) fun x17 s19 =>
   bif x17 then
    (pbind (F93 (bs [115,104,97,114,101,100]) s19) fun _ s23 =>
    pbind (F145 (Node.mk 0 (bs []) (bs []) 0 0 0 true ([]:List Node) x2) s23) fun x24 s26 =>
    some (.inl (.inl x24),s26))
   else
    (pbind (F88 (bs [115,104,97,114,101,100]) s19) fun x27 s29 =>
    bif x27 then
     (pbind (F145 (Node.mk 0 (bs []) (bs []) 0 0 0 false ([]:List Node) x2) s29) fun x31 s33 =>
     some (.inl (.inl x31),s33))
    else
     (pbind (F88 (bs [108,111,99,107]) s29) fun x34 s36 =>
     bif x34 then
      (pbind (F92 s36) fun x38 s40 =>
      pbind (F93 (bs [105,110,118,97,114,105,97,110,116]) s40) fun _ s43 =>
      pbind (F67 n s43) fun x44 s46 =>
      some (.inl (.inr (Node.mk 53 x38 (bs []) 0 0 0 false ([x44]:List Node) x2)),s46))
     else
      (pbind (F88 (bs [114,101,108,121]) s36) fun x47 s49 =>
      bif x47 then
       (pbind (F67 n s49) fun x51 s53 =>
       some (.inl (.inr (Node.mk 54 (bs []) (bs []) 0 0 0 false ([x51]:List Node) x2)),s53))
      else
       (pbind (F88 (bs [103,117,97,114,97,110,116,101,101]) s49) fun x54 s56 =>
       bif x54 then
        (pbind (F67 n s56) fun x58 s60 =>
        some (.inl (.inr (Node.mk 55 (bs []) (bs []) 0 0 0 false ([x58]:List Node) x2)),s60))
       else
        (pbind (F88 (bs [102,114,97,109,101]) s56) fun x61 s63 =>
        bif x61 then
         (pbind (F146 n s63) fun x65 s67 =>
         some (.inl (.inr (Node.mk 56 (bs []) (bs []) 0 0 0 false x65 x2)),s67))
        else
         (pbind (F88 (bs [112,114,111,99]) s63) fun x68 s70 =>
         bif x68 then
          (pbind (F92 s70) fun x72 s74 =>
          pbind (F93 (bs [40]) s74) fun _ s77 =>
          pbind (F149_1 n (bs [41]) s77) fun x78 s80 =>
          pbind (pbind (F88 (bs [108,111,99,107,101,100]) s80) fun x82 s84 =>
           bif x82 then
            (pbind (F92 s84) fun x86 s88 =>
            some (.inl (Node.mk 57 x72 x86 0 0 0 false x78 x2),s88))
           else
            (some (.inl (Node.mk 57 x72 (bs []) 0 0 0 false x78 x2),s84)):Option (((Node) ⊕ Bad) × RS)) fun j89 j89s =>
          pbind (F151 n j89s) fun x90 s92 =>
          (appL 104 j89.kids ([x90]:List Node)).bind fun x93 =>
          some (.inl (.inl (Node.mk j89.kind j89.name j89.other j89.n j89.len j89.init j89.ghost x93 j89.pos)),s92))
         else
          (pbind (F68 s70) fun _ s97 =>
          some (.inl (.inr (Node.mk 0 (bs []) (bs []) 0 0 0 false ([]:List Node) x2)),s97))))))))):Option (((Node ⊕ Node) ⊕ Bad) × RS)) fun j98 j98s=>match j98 with
 | .inl j98a=>some (.inl j98a,j98s)
 | .inr j98b=>pbind (F93 (bs [59]) j98s) fun _ s101 =>
  some (.inl j98b,s101)
theorem F94_R (n:Nat) (s:RS) (r:Node ⊕ Bad) (s2:RS) (hr:F94 n s = some (r,s2)) {st:St} {rs:List Res} {i0:Nat} {p:Spare} (K:HL st (.rd i0 87 p (rdC s p) :: rs)):∃ (q:Spare) (st':St),R Tryz.prog AN 94 [.ptr i0 0] st (gotE encW (fun v=>aN v) r) st'∧HL st' (.rd i0 87 q (rdC s2 q) :: rs):=by
 unfold F94 at hr
 refine R_panX (ew:=encW) (enc:=fun v (q:Spare)=>aN v) (post:=fun s (q:Spare)=>.rd i0 87 q (rdC s q) :: rs) [(0,.ptr i0 0)] Tryz.func94 rfl rfl fun fr Q H hp hq=>?_
 refine W_seq (W_reg ?_)
 refine qal 24 [vI 0,vS (bs []),vS (bs []),vI 0,vI 0,vI 0,vB false,vL tNode ([]:List Node) .nil,vI 0] H K fun id1 st K fr H=>?_
 refine qe ?_
 refine W_seq (W_reg ?_)
 refine qg 1 [(4,.ptr i0 0)] H fun fr H=>?_
 refine ql hr (fun x h=>F91_R  _ x h (K.front 1 rfl)) H fun x2 hr fr H=>?_
 refine qg 1 [(6,.agg [vI 0,vS (bs []),vS (bs []),vI 0,vI 0,vI 0,vB false,vL tNode ([]:List Node) .nil,vI x2])] H fun fr H=>?_
 refine qal 24 [vI 0,vS (bs []),vS (bs []),vI 0,vI 0,vI 0,vB false,vL tNode ([]:List Node) .nil,vI 0] H K fun id3 st K fr H=>?_
 refine qst 24 0 (.agg [vI 0,vS (bs []),vS (bs []),vI 0,vI 0,vI 0,vB false,vL tNode ([]:List Node) .nil,vI x2]) [vI 0,vS (bs []),vS (bs []),vI 0,vI 0,vI 0,vB false,vL tNode ([]:List Node) .nil,vI x2] 0 H K rfl fun st K fr H=>?_
 refine qe ?_
 refine W_seq ?_
 refine W_viaP (fun j98 j98s e fr st=>match j98 with | .inl j98a=>(e = .ret∧∃ (j98aq:Spare),Rd fr [(2,.ptr id1 0)]∧HL st (.rd i0 87 j98aq (rdC j98s j98aq) :: .obj id1 (.cells 24 [vI j98a.kind,vS j98a.name,vS j98a.other,vI j98a.n,vI j98a.len,vI j98a.init,vB j98a.ghost,vL tNode j98a.kids .shut,vI j98a.pos]) :: rs)) | .inr j98b=>(e = .normal∧∃ (j98bsp0 j98bq:Spare),Rd fr [(0,.ptr i0 0),(2,.ptr id1 0),(3,.ptr id3 0)]∧HL st (.rd i0 87 j98bq (rdC j98s j98bq) :: .obj id3 (.cells 24 [vI j98b.kind,vS j98b.name,vS j98b.other,vI j98b.n,vI j98b.len,vI j98b.init,vB j98b.ghost,vL tNode j98b.kids j98bsp0,vI j98b.pos]) :: .obj id1 (.cells 24 [vI 0,vS (bs []),vS (bs []),vI 0,vI 0,vI 0,vB false,vL tNode ([]:List Node) .nil,vI 0]) :: rs))) hr hp ?_ ?_
 ·intro y Q hr hp hq
  refine W_block ?_
  refine W_seq (W_reg ?_)
  refine qg 1 [(10,.ptr i0 0)] H fun fr H=>?_
  refine qp [] [] hr (fun a s h=>F88_R  _ _ a s h (K.front 2 rfl)) K H (fun e s h q st K=>hp e s h q _ _ (K.keep [true,false,false])) fun x4 s6 hr sp5 st K fr H=>?_
  refine qg 1 [(9,vB x4)] H fun fr H=>?_
  refine qe ?_
  rcases csplit hr with ⟨hc7,hr⟩ | ⟨hc7,hr⟩
  ·refine qT H hc7 ?_
   refine W_seq (W_reg ?_)
   refine qg 1 [(12,.ptr i0 0)] H fun fr H=>?_
   refine qp [] [] hr (fun a s h=>F92_R  _ a s h K) K H (fun e s h q st K=>hp e s h q _ _ (K.keep [true,false,false])) fun x8 s10 hr sp9 st K fr H=>?_
   refine qg 1 [(14,.ptr id3 0)] H fun fr H=>?_
   refine qst 3 0 (vI 51) [vI 51,vS (bs []),vS (bs []),vI 0,vI 0,vI 0,vB false,vL tNode ([]:List Node) .nil,vI x2] 1 H K rfl fun st K fr H=>?_
   refine qg 1 [(15,.ptr id3 1)] H fun fr H=>?_
   refine qst 9 1 (vS x8) [vI 51,vS x8,vS (bs []),vI 0,vI 0,vI 0,vB false,vL tNode ([]:List Node) .nil,vI x2] 1 H K rfl fun st K fr H=>?_
   refine qe ?_
   refine W_seq (W_reg ?_)
   refine qg 1 [(16,.ptr i0 0)] H fun fr H=>?_
   refine qp [] [] hr (fun a s h=>F93_R  _ _ a s h K) K H (fun e s h q st K=>hp e s h q _ _ (K.keep [true,false,false])) fun x11 s13 hr sp12 st K fr H=>?_
   refine qe ?_
   refine W_seq (W_reg ?_)
   refine qg 3 [(18,.ptr i0 0),(20,.fn 144 [.ptr i0 0] [])] H fun fr H=>?_
   refine qp [] [] hr (fun a s h=>F57_2_R n _ _ a s h K) K H (fun e s h q st K=>hp e s h q _ _ (K.keep [true,false,false])) fun x14 s16 hr sp15 st K fr H=>?_
   refine qg 1 [(22,.ptr id3 7)] H fun fr H=>?_
   refine qst 22 7 (vL tNode x14 .shut) [vI 51,vS x8,vS (bs []),vI 0,vI 0,vI 0,vB false,vL tNode x14 .shut,vI x2] 1 H K rfl fun st K fr H=>?_
   refine qe ?_
   refine W_seq (W_reg ?_)
   refine qld 24 0 (.agg [vI 51,vS x8,vS (bs []),vI 0,vI 0,vI 0,vB false,vL tNode x14 .shut,vI x2]) 1 H K rfl fun fr H=>?_
   refine qst 24 0 (.agg [vI 51,vS x8,vS (bs []),vI 0,vI 0,vI 0,vB false,vL tNode x14 .shut,vI x2]) [vI 51,vS x8,vS (bs []),vI 0,vI 0,vI 0,vB false,vL tNode x14 .shut,vI x2] 2 H K rfl fun st K fr H=>?_
   refine qe ?_
   refine W_ret ?_
   exact hq _ _ (sj hr).symm _ _ _ ⟨rfl,sp15,H.tq,K.keep [true,false,true]⟩
  refine qF H hc7 ?_
  refine W_seq (W_reg ?_)
  refine qg 1 [(25,.ptr i0 0)] H fun fr H=>?_
  refine qp [] [] hr (fun a s h=>F88_R  _ _ a s h K) K H (fun e s h q st K=>hp e s h q _ _ (K.keep [true,false,false])) fun x17 s19 hr sp18 st K fr H=>?_
  refine qg 1 [(24,vB x17)] H fun fr H=>?_
  refine qe ?_
  rcases csplit hr with ⟨hc20,hr⟩ | ⟨hc20,hr⟩
  ·refine qT H hc20 ?_
   refine W_seq (W_reg ?_)
   refine qg 1 [(27,.ptr i0 0)] H fun fr H=>?_
   refine qp [] [] hr (fun a s h=>F93_R  _ _ a s h K) K H (fun e s h q st K=>hp e s h q _ _ (K.keep [true,false,false])) fun x21 s23 hr sp22 st K fr H=>?_
   refine qe ?_
   refine W_seq (W_reg ?_)
   refine qg 1 [(29,.ptr id3 6)] H fun fr H=>?_
   refine qst 4 6 (vB true) [vI 0,vS (bs []),vS (bs []),vI 0,vI 0,vI 0,vB true,vL tNode ([]:List Node) .nil,vI x2] 1 H K rfl fun st K fr H=>?_
   refine qe ?_
   refine W_seq (W_reg ?_)
   refine qg 1 [(30,.ptr i0 0)] H fun fr H=>?_
   refine qld 24 0 (.agg [vI 0,vS (bs []),vS (bs []),vI 0,vI 0,vI 0,vB true,vL tNode ([]:List Node) .shut,vI x2]) 1 H K rfl fun fr H=>?_
   refine qp [] [] hr (fun a s h=>F145_R  _ _ a s h (p0:=.shut) K) K H (fun e s h q st K=>hp e s h q _ _ (K.keep [true,false,false])) fun x24 s26 hr sp25 st K fr H=>?_
   refine qst 24 0 (aN x24) [vI x24.kind,vS x24.name,vS x24.other,vI x24.n,vI x24.len,vI x24.init,vB x24.ghost,vL tNode x24.kids .shut,vI x24.pos] 2 H K rfl fun st K fr H=>?_
   refine qe ?_
   refine W_ret ?_
   exact hq _ _ (sj hr).symm _ _ _ ⟨rfl,sp25,H.tq,K.keep [true,false,true]⟩
  refine qF H hc20 ?_
  refine W_seq (W_reg ?_)
  refine qg 1 [(34,.ptr i0 0)] H fun fr H=>?_
  refine qp [] [] hr (fun a s h=>F88_R  _ _ a s h K) K H (fun e s h q st K=>hp e s h q _ _ (K.keep [true,false,false])) fun x27 s29 hr sp28 st K fr H=>?_
  refine qg 1 [(33,vB x27)] H fun fr H=>?_
  refine qe ?_
  rcases csplit hr with ⟨hc30,hr⟩ | ⟨hc30,hr⟩
  ·refine qT H hc30 ?_
   refine W_seq (W_reg ?_)
   refine qg 1 [(36,.ptr i0 0)] H fun fr H=>?_
   refine qld 24 0 (.agg [vI 0,vS (bs []),vS (bs []),vI 0,vI 0,vI 0,vB false,vL tNode ([]:List Node) .shut,vI x2]) 1 H K rfl fun fr H=>?_
   refine qp [] [] hr (fun a s h=>F145_R  _ _ a s h (p0:=.shut) K) K H (fun e s h q st K=>hp e s h q _ _ (K.keep [true,false,false])) fun x31 s33 hr sp32 st K fr H=>?_
   refine qst 24 0 (aN x31) [vI x31.kind,vS x31.name,vS x31.other,vI x31.n,vI x31.len,vI x31.init,vB x31.ghost,vL tNode x31.kids .shut,vI x31.pos] 2 H K rfl fun st K fr H=>?_
   refine qe ?_
   refine W_ret ?_
   exact hq _ _ (sj hr).symm _ _ _ ⟨rfl,sp32,H.tq,K.keep [true,false,true]⟩
  refine qF H hc30 ?_
  refine W_seq (W_reg ?_)
  refine qg 1 [(40,.ptr i0 0)] H fun fr H=>?_
  refine qp [] [] hr (fun a s h=>F88_R  _ _ a s h K) K H (fun e s h q st K=>hp e s h q _ _ (K.keep [true,false,false])) fun x34 s36 hr sp35 st K fr H=>?_
  refine qg 1 [(39,vB x34)] H fun fr H=>?_
  refine qe ?_
  rcases csplit hr with ⟨hc37,hr⟩ | ⟨hc37,hr⟩
  ·refine qT H hc37 ?_
   refine W_seq (W_reg ?_)
   refine qg 1 [(42,.ptr i0 0)] H fun fr H=>?_
   refine qp [] [] hr (fun a s h=>F92_R  _ a s h K) K H (fun e s h q st K=>hp e s h q _ _ (K.keep [true,false,false])) fun x38 s40 hr sp39 st K fr H=>?_
   refine qg 1 [(44,.ptr id3 0)] H fun fr H=>?_
   refine qst 3 0 (vI 53) [vI 53,vS (bs []),vS (bs []),vI 0,vI 0,vI 0,vB false,vL tNode ([]:List Node) .nil,vI x2] 1 H K rfl fun st K fr H=>?_
   refine qg 1 [(45,.ptr id3 1)] H fun fr H=>?_
   refine qst 9 1 (vS x38) [vI 53,vS x38,vS (bs []),vI 0,vI 0,vI 0,vB false,vL tNode ([]:List Node) .nil,vI x2] 1 H K rfl fun st K fr H=>?_
   refine qe ?_
   refine W_seq (W_reg ?_)
   refine qg 1 [(46,.ptr i0 0)] H fun fr H=>?_
   refine qp [] [] hr (fun a s h=>F93_R  _ _ a s h K) K H (fun e s h q st K=>hp e s h q _ _ (K.keep [true,false,false])) fun x41 s43 hr sp42 st K fr H=>?_
   refine qe ?_
   refine W_reg ?_
   refine qg 1 [(48,.ptr i0 0)] H fun fr H=>?_
   refine qp [] [] hr (fun a s h=>F67_R n _ a s h K) K H (fun e s h q st K=>hp e s h q _ _ (K.keep [true,false,false])) fun x44 s46 hr sp45 st K fr H=>?_
   refine qv (.buildSlice 22 1 [(0,aN x44)]) H (run_bslice (v:=vL tNode ([x44]:List Node) .full) (v0:=.slice [aN x44] .full) (by kernel_rfl) (by simp only [List.map,vL,tNode_e,eNode_eq,cNode] <;> rfl)) fun fr H=>?_
   refine qg 1 [(51,.ptr id3 7)] H fun fr H=>?_
   refine qst 22 7 (vL tNode ([x44]:List Node) .full) [vI 53,vS x38,vS (bs []),vI 0,vI 0,vI 0,vB false,vL tNode ([x44]:List Node) .full,vI x2] 1 H K rfl fun st K fr H=>?_
   refine qe ?_
   exact hq _ _ (sj hr).symm _ _ _ ⟨rfl,.full,sp45,H.tq,K⟩
  refine qF H hc37 ?_
  refine W_seq (W_reg ?_)
  refine qg 1 [(53,.ptr i0 0)] H fun fr H=>?_
  refine qp [] [] hr (fun a s h=>F88_R  _ _ a s h K) K H (fun e s h q st K=>hp e s h q _ _ (K.keep [true,false,false])) fun x47 s49 hr sp48 st K fr H=>?_
  refine qg 1 [(52,vB x47)] H fun fr H=>?_
  refine qe ?_
  rcases csplit hr with ⟨hc50,hr⟩ | ⟨hc50,hr⟩
  ·refine qT H hc50 ?_
   refine W_reg ?_
   refine qg 1 [(55,.ptr i0 0)] H fun fr H=>?_
   refine qp [] [] hr (fun a s h=>F67_R n _ a s h K) K H (fun e s h q st K=>hp e s h q _ _ (K.keep [true,false,false])) fun x51 s53 hr sp52 st K fr H=>?_
   refine qv (.buildSlice 22 1 [(0,aN x51)]) H (run_bslice (v:=vL tNode ([x51]:List Node) .full) (v0:=.slice [aN x51] .full) (by kernel_rfl) (by simp only [List.map,vL,tNode_e,eNode_eq,cNode] <;> rfl)) fun fr H=>?_
   refine qg 1 [(58,.ptr id3 0)] H fun fr H=>?_
   refine qst 3 0 (vI 54) [vI 54,vS (bs []),vS (bs []),vI 0,vI 0,vI 0,vB false,vL tNode ([]:List Node) .nil,vI x2] 1 H K rfl fun st K fr H=>?_
   refine qg 1 [(59,.ptr id3 7)] H fun fr H=>?_
   refine qst 22 7 (vL tNode ([x51]:List Node) .full) [vI 54,vS (bs []),vS (bs []),vI 0,vI 0,vI 0,vB false,vL tNode ([x51]:List Node) .full,vI x2] 1 H K rfl fun st K fr H=>?_
   refine qe ?_
   exact hq _ _ (sj hr).symm _ _ _ ⟨rfl,.full,sp52,H.tq,K⟩
  refine qF H hc50 ?_
  refine W_seq (W_reg ?_)
  refine qg 1 [(61,.ptr i0 0)] H fun fr H=>?_
  refine qp [] [] hr (fun a s h=>F88_R  _ _ a s h K) K H (fun e s h q st K=>hp e s h q _ _ (K.keep [true,false,false])) fun x54 s56 hr sp55 st K fr H=>?_
  refine qg 1 [(60,vB x54)] H fun fr H=>?_
  refine qe ?_
  rcases csplit hr with ⟨hc57,hr⟩ | ⟨hc57,hr⟩
  ·refine qT H hc57 ?_
   refine W_reg ?_
   refine qg 1 [(63,.ptr i0 0)] H fun fr H=>?_
   refine qp [] [] hr (fun a s h=>F67_R n _ a s h K) K H (fun e s h q st K=>hp e s h q _ _ (K.keep [true,false,false])) fun x58 s60 hr sp59 st K fr H=>?_
   refine qv (.buildSlice 22 1 [(0,aN x58)]) H (run_bslice (v:=vL tNode ([x58]:List Node) .full) (v0:=.slice [aN x58] .full) (by kernel_rfl) (by simp only [List.map,vL,tNode_e,eNode_eq,cNode] <;> rfl)) fun fr H=>?_
   refine qg 1 [(66,.ptr id3 0)] H fun fr H=>?_
   refine qst 3 0 (vI 55) [vI 55,vS (bs []),vS (bs []),vI 0,vI 0,vI 0,vB false,vL tNode ([]:List Node) .nil,vI x2] 1 H K rfl fun st K fr H=>?_
   refine qg 1 [(67,.ptr id3 7)] H fun fr H=>?_
   refine qst 22 7 (vL tNode ([x58]:List Node) .full) [vI 55,vS (bs []),vS (bs []),vI 0,vI 0,vI 0,vB false,vL tNode ([x58]:List Node) .full,vI x2] 1 H K rfl fun st K fr H=>?_
   refine qe ?_
   exact hq _ _ (sj hr).symm _ _ _ ⟨rfl,.full,sp59,H.tq,K⟩
  refine qF H hc57 ?_
  refine W_seq (W_reg ?_)
  refine qg 1 [(69,.ptr i0 0)] H fun fr H=>?_
  refine qp [] [] hr (fun a s h=>F88_R  _ _ a s h K) K H (fun e s h q st K=>hp e s h q _ _ (K.keep [true,false,false])) fun x61 s63 hr sp62 st K fr H=>?_
  refine qg 1 [(68,vB x61)] H fun fr H=>?_
  refine qe ?_
  rcases csplit hr with ⟨hc64,hr⟩ | ⟨hc64,hr⟩
  ·refine qT H hc64 ?_
   refine W_reg ?_
   refine qg 3 [(71,.ptr i0 0),(73,.fn 148 [.ptr i0 0] [])] H fun fr H=>?_
   refine qc (fun s=>one_R 148 [.ptr i0 0] []) H fun fr H=>?_
   refine qp [] [] hr (fun a s h=>F146_R n _ a s h K) K H (fun e s h q st K=>hp e s h q _ _ (K.keep [true,false,false])) fun x65 s67 hr sp66 st K fr H=>?_
   refine qg 1 [(76,.ptr id3 0)] H fun fr H=>?_
   refine qst 3 0 (vI 56) [vI 56,vS (bs []),vS (bs []),vI 0,vI 0,vI 0,vB false,vL tNode ([]:List Node) .nil,vI x2] 1 H K rfl fun st K fr H=>?_
   refine qg 1 [(77,.ptr id3 7)] H fun fr H=>?_
   refine qst 22 7 (vL tNode x65 .shut) [vI 56,vS (bs []),vS (bs []),vI 0,vI 0,vI 0,vB false,vL tNode x65 .shut,vI x2] 1 H K rfl fun st K fr H=>?_
   refine qe ?_
   exact hq _ _ (sj hr).symm _ _ _ ⟨rfl,.shut,sp66,H.tq,K⟩
  refine qF H hc64 ?_
  refine W_seq (W_reg ?_)
  refine qg 1 [(79,.ptr i0 0)] H fun fr H=>?_
  refine qp [] [] hr (fun a s h=>F88_R  _ _ a s h K) K H (fun e s h q st K=>hp e s h q _ _ (K.keep [true,false,false])) fun x68 s70 hr sp69 st K fr H=>?_
  refine qg 1 [(78,vB x68)] H fun fr H=>?_
  refine qe ?_
  rcases csplit hr with ⟨hc71,hr⟩ | ⟨hc71,hr⟩
  rotate_left
  ·refine qF H hc71 ?_
   refine W_reg ?_
   refine qg 1 [(7,.ptr i0 0)] H fun fr H=>?_
   refine qp [] [] hr (fun a s h=>F68_R  _ a s h K) K H (fun e s h q st K=>hp e s h q _ _ (K.keep [true,false,false])) fun x95 s97 hr sp96 st K fr H=>?_
   refine qe ?_
   exact hq _ _ (sj hr).symm _ _ _ ⟨rfl,.nil,sp96,H.tq,K⟩
  refine qT H hc71 ?_
  refine W_seq (W_reg ?_)
  refine qg 1 [(81,.ptr i0 0)] H fun fr H=>?_
  refine qp [] [] hr (fun a s h=>F92_R  _ a s h K) K H (fun e s h q st K=>hp e s h q _ _ (K.keep [true,false,false])) fun x72 s74 hr sp73 st K fr H=>?_
  refine qg 1 [(83,.ptr id3 0)] H fun fr H=>?_
  refine qst 3 0 (vI 57) [vI 57,vS (bs []),vS (bs []),vI 0,vI 0,vI 0,vB false,vL tNode ([]:List Node) .nil,vI x2] 1 H K rfl fun st K fr H=>?_
  refine qg 1 [(84,.ptr id3 1)] H fun fr H=>?_
  refine qst 9 1 (vS x72) [vI 57,vS x72,vS (bs []),vI 0,vI 0,vI 0,vB false,vL tNode ([]:List Node) .nil,vI x2] 1 H K rfl fun st K fr H=>?_
  refine qe ?_
  refine W_seq (W_reg ?_)
  refine qg 1 [(85,.ptr i0 0)] H fun fr H=>?_
  refine qp [] [] hr (fun a s h=>F93_R  _ _ a s h K) K H (fun e s h q st K=>hp e s h q _ _ (K.keep [true,false,false])) fun x75 s77 hr sp76 st K fr H=>?_
  refine qe ?_
  refine W_seq (W_reg ?_)
  refine qg 3 [(87,.ptr i0 0),(89,.fn 150 [.ptr i0 0] [])] H fun fr H=>?_
  refine qc (fun s=>one_R 150 [.ptr i0 0] []) H fun fr H=>?_
  refine qp [] [] hr (fun a s h=>F149_1_R n _ _ a s h K) K H (fun e s h q st K=>hp e s h q.1 _ _ (K.keep [false,true,false,false])) fun x78 s80 hr ⟨sp79,sp81⟩ st K fr H=>?_
  refine qg 1 [(92,.ptr id3 7)] H fun fr H=>?_
  refine qst 22 7 (vL tNode x78 sp81) [vI 57,vS x72,vS (bs []),vI 0,vI 0,vI 0,vB false,vL tNode x78 sp81,vI x2] 2 H K rfl fun st K fr H=>?_
  refine qe ?_
  refine W_seq ?_
  refine W_viaP (fun j89 j89s e fr st=>e = .normal∧∃ (j89sp0 j89q:Spare),Rd fr [(0,.ptr i0 0),(2,.ptr id1 0),(3,.ptr id3 0)]∧HL st (.rd i0 87 j89q (rdC j89s j89q) :: .own j89sp0 :: .obj id3 (.cells 24 [vI j89.kind,vS j89.name,vS j89.other,vI j89.n,vI j89.len,vI j89.init,vB j89.ghost,vL tNode j89.kids j89sp0,vI j89.pos]) :: .obj id1 (.cells 24 [vI 0,vS (bs []),vS (bs []),vI 0,vI 0,vI 0,vB false,vL tNode ([]:List Node) .nil,vI 0]) :: rs)) hr hp ?_ ?_
  ·intro y Q hr hp hq
   refine W_seq (W_reg ?_)
   refine qg 1 [(93,.ptr i0 0)] H fun fr H=>?_
   refine qp [] [] hr (fun a s h=>F88_R  _ _ a s h (K.front 1 rfl)) K H (fun e s h q st K=>hp e s h q _ _ (K.keep [true,false,false,false])) fun x82 s84 hr sp83 st K fr H=>?_
   refine qe ?_
   rcases csplit hr with ⟨hc85,hr⟩ | ⟨hc85,hr⟩
   rotate_left
   ·refine qF H hc85 ?_
    refine W_skip ?_
    exact hq _ _ (sj hr).symm _ _ _ ⟨rfl,sp81,sp83,H.tq,K⟩
   refine qT H hc85 ?_
   refine W_reg ?_
   refine qg 1 [(95,.ptr i0 0)] H fun fr H=>?_
   refine qp [] [] hr (fun a s h=>F92_R  _ a s h K) K H (fun e s h q st K=>hp e s h q _ _ (K.keep [true,false,false,false])) fun x86 s88 hr sp87 st K fr H=>?_
   refine qg 1 [(97,.ptr id3 2)] H fun fr H=>?_
   refine qst 9 2 (vS x86) [vI 57,vS x72,vS x86,vI 0,vI 0,vI 0,vB false,vL tNode x78 sp81,vI x2] 2 H K rfl fun st K fr H=>?_
   refine qe ?_
   exact hq _ _ (sj hr).symm _ _ _ ⟨rfl,sp81,sp87,H.tq,K⟩
  intro j89 j89s hr
  rintro e fr st ⟨rfl,j89sp0,j89q,H,K⟩
  refine W_seq (W_drw ?_)
  refine qg 1 [(98,.ptr id3 7)] H fun fr H=>?_
  refine qld 22 7 (vL tNode j89.kids j89sp0) 2 H K rfl fun fr H=>?_
  refine qg 1 [(100,.ptr i0 0)] H fun fr H=>?_
  refine qp [2,3] [2,3] hr (fun a s h=>F151_R n _ a s h K) K H (fun e s h q st K=>qdP K [0,.look (some 1),0] (hp e s h q _ _ (K.keep [true,false,false,false]))) fun x90 s92 hr sp91 st K fr H=>?_
  refine qv (.buildSlice 22 1 [(0,aN x90)]) H (run_bslice (v:=vL tNode ([x90]:List Node) .full) (v0:=.slice [aN x90] .full) (by kernel_rfl) (by simp only [List.map,vL,tNode_e,eNode_eq,cNode] <;> rfl)) fun fr H=>?_
  refine qapp tNode 104 22 22 .full hr 1 H K rfl fun x93 hr sp94 st K fr H=>?_
  refine qg 1 [(104,.ptr id3 7)] H fun fr H=>?_
  refine qst 22 7 (vL tNode x93 sp94) [vI j89.kind,vS j89.name,vS j89.other,vI j89.n,vI j89.len,vI j89.init,vB j89.ghost,vL tNode x93 sp94,vI j89.pos] 2 H K rfl fun st K fr H=>?_
  refine qe (qdI K [0,.look (some 1),0,.keep [1,2],0,.keep [],0,.put 1] ?_)
  refine W_seq (W_reg ?_)
  refine qld 24 0 (.agg [vI j89.kind,vS j89.name,vS j89.other,vI j89.n,vI j89.len,vI j89.init,vB j89.ghost,vL tNode x93 .shut,vI j89.pos]) 2 H K rfl fun fr H=>?_
  refine qst 24 0 (.agg [vI j89.kind,vS j89.name,vS j89.other,vI j89.n,vI j89.len,vI j89.init,vB j89.ghost,vL tNode x93 .shut,vI j89.pos]) [vI j89.kind,vS j89.name,vS j89.other,vI j89.n,vI j89.len,vI j89.init,vB j89.ghost,vL tNode x93 .shut,vI j89.pos] 3 H K rfl fun st K fr H=>?_
  refine qe ?_
  refine W_ret ?_
  exact hq _ _ (sj hr).symm _ _ _ ⟨rfl,sp91,H.tq,K.keep [true,false,false,true]⟩
 intro j98 j98s hr
 rcases j98 with j98a | j98b
 ·rintro e fr st ⟨rfl,j98aq,H,K⟩
  exact hq _ _ (sj hr).symm j98aq _ _ _ (e_retV [aN j98a] H K (fun _=>resC id1 0 24 [vI j98a.kind,vS j98a.name,vS j98a.other,vI j98a.n,vI j98a.len,vI j98a.init,vB j98a.ghost,vL tNode j98a.kids .shut,vI j98a.pos] 1 (by kernel_rfl) rfl (by kernel_rfl) resN) ((K).keep [true,false]))
 rintro e fr st ⟨rfl,j98bsp0,j98bq,H,K⟩
 refine W_seq (W_reg ?_)
 refine qg 1 [(106,.ptr i0 0)] H fun fr H=>?_
 refine qp [] [] hr (fun a s h=>F93_R  _ _ a s h K) K H (fun e s h q st K=>hp e s h q _ _ (K.keep [true,false,false])) fun x99 s101 hr sp100 st K fr H=>?_
 refine qe ?_
 refine W_seq (W_reg ?_)
 refine qld 24 0 (aN j98b) 1 H K rfl fun fr H=>?_
 refine qst 24 0 (aN j98b) [vI j98b.kind,vS j98b.name,vS j98b.other,vI j98b.n,vI j98b.len,vI j98b.init,vB j98b.ghost,vL tNode j98b.kids .shut,vI j98b.pos] 2 H K rfl fun st K fr H=>?_
 refine qe ?_
 refine W_ret ?_
 exact hq _ _ (sj hr).symm sp100 _ _ _ (e_retV [aN j98b] H K (fun _=>resC id1 0 24 [vI j98b.kind,vS j98b.name,vS j98b.other,vI j98b.n,vI j98b.len,vI j98b.init,vB j98b.ghost,vL tNode j98b.kids .shut,vI j98b.pos] 2 (by kernel_rfl) rfl (by kernel_rfl) resN) ((K).keep [true,false,false]))
def F57_1 (n:Nat) (a0:Bool) (s:RS):Option ((((List Node)) ⊕ Bad) × RS) :=
 pbind (iterP (σ:=(List Node)) (ρ:=((List Node))) (ε:=Bad) (S:=RS) (fun s1 s1s=>bif s1s.next == (s1s.toks.length:Int) then
   (bif a0 then
    (pbind (F68 s1s) fun _ s6 =>
    some (.inl (.inr s1),s6))
   else
    (some (.inl (.inr s1),s1s)))
  else
   (pbind (bif a0 then
     (pbind (F88 (bs [125]) s1s) fun x8 s10 =>
     bif x8 then
      (some (.inl (.inl ()),s10))
     else
      (some (.inl (.inr ()),s10)))
    else
     (some (.inl (.inr ()),s1s)):Option (((Unit ⊕ Unit) ⊕ Bad) × RS)) fun j12 j12s=>match j12 with
   | .inl _=>some (.inl (.inr s1),j12s)
   | .inr _=>(guardF (F94 n j12s)).bind fun x13 =>
    bif x13.1.2.1 == 0 then
     ((appL 104 s1 ([x13.1.1]:List Node)).bind fun x18 =>
     some (.inl (.inl x18),x13.2))
    else
     (pbind (F89 x13.1.2.1 x13.1.2.2 x13.2) fun _ s22 =>
     pbind (F90 n a0 s22) fun _ s25 =>
     some (.inl (.inl s1),s25)))) n ([]:List Node) s) fun r26 r26s =>
 some (.inl r26,r26s)
theorem F57_1_R (n:Nat) (a0:Bool) (s:RS) (r:((List Node)) ⊕ Bad) (s2:RS) (hr:F57_1 n a0 s = some (r,s2)) {st:St} {rs:List Res} {i0:Nat} {p:Spare} (K:HL st (.rd i0 87 p (rdC s p) :: rs)):∃ (q:Spare) (st':St),R Tryz.prog AN 57 [.ptr i0 0,vB a0,.fn 94 [.ptr i0 0] []] st (gotE encW (fun v=>vL tNode v .shut) r) st'∧HL st' (.rd i0 87 q (rdC s2 q) :: rs):=by
 unfold F57_1 at hr
 refine R_panX (ew:=encW) (enc:=fun v (q:Spare)=>vL tNode v .shut) (post:=fun s (q:Spare)=>.rd i0 87 q (rdC s q) :: rs) [(0,.ptr i0 0),(1,vB a0),(2,.fn 94 [.ptr i0 0] [])] Tryz.func57 rfl rfl fun fr Q H hp hq=>?_
 refine W_seq (W_reg ?_)
 refine qg 1 [] H fun fr H=>?_
 refine qe ?_
 refine W_seq (W_reg ?_)
 refine qg 1 [(7,vL tNode ([]:List Node) .nil)] H fun fr H=>?_
 refine qe ?_
 refine W_block ?_
 refine W_iterP hr hp (fun (s1:(List Node)) s1s fr st=>∃ (s1sp0 s1q:Spare),Rd fr [(0,.ptr i0 0),(1,vB a0),(2,.fn 94 [.ptr i0 0] []),(7,vL tNode s1 s1sp0)]∧HL st (.own s1sp0 :: .rd i0 87 s1q (rdC s1s s1q) :: rs)) (fun (r26:((List Node))) r26s e fr st=>e = .ret∧∃ (r26sp0 r26q:Spare),Rd fr [(6,vL tNode r26 r26sp0)]∧HL st (.rd i0 87 r26q (rdC r26s r26q) :: .own r26sp0 :: rs)) ⟨.nil,p,H.tq,(K).nilo⟩ (by rintro _ s fr st ⟨h,_⟩ <;> cases h) ?_ ?_
 ·rintro s1 s1s fr st y Q ⟨s1sp0,s1q,H,K⟩ hr hp hq
  refine W_block ?_
  refine W_seq (W_seq ?_)
  refine W_drw ?_
  refine qg 3 [(12,.ptr i0 1)] H fun fr H=>?_
  refine qldR 3 1 (vI s1s.next) 1 H K rfl fun fr H=>?_
  refine qg 3 [(16,.ptr i0 0)] H fun fr H=>?_
  refine qldR 56 0 (vL tToken s1s.toks .shut) 1 H K rfl fun fr H=>?_
  refine qln tToken 56 s1s.toks .shut H fun fr H=>?_
  refine qg 1 [(19,vB (s1s.next == (s1s.toks.length:Int)))] H fun fr H=>?_
  refine qe (qd ?_)
  rcases csplit hr with ⟨hc2,hr⟩ | ⟨hc2,hr⟩
  ·refine qT H hc2 ?_
   refine W_seq (W_seq ?_)
   refine W_reg ?_
   refine qg 1 [(20,vB a0)] H fun fr H=>?_
   refine qe ?_
   rcases csplit hr with ⟨hc3,hr⟩ | ⟨hc3,hr⟩
   rotate_left
   ·refine qF H hc3 ?_
    refine W_skip ?_
    refine W_seq (W_reg ?_)
    refine qg 2 [(6,vL tNode s1 s1sp0)] H fun fr H=>?_
    refine qe ?_
    refine W_ret ?_
    exact hq _ _ (sj hr).symm _ _ _ ⟨rfl,s1sp0,s1q,H.tq,((K).front 0 rfl).front 1 rfl⟩
   refine qT H hc3 ?_
   refine W_reg ?_
   refine qg 1 [(21,.ptr i0 0)] H fun fr H=>?_
   refine qp [] [] hr (fun a s h=>F68_R  _ a s h (K.front 1 rfl)) K H (fun e s h q st K=>hp e s h q _ _ (K.keep [true,false])) fun x4 s6 hr sp5 st K fr H=>?_
   refine qe ?_
   refine W_seq (W_reg ?_)
   refine qg 2 [(6,vL tNode s1 s1sp0)] H fun fr H=>?_
   refine qe ?_
   refine W_ret ?_
   exact hq _ _ (sj hr).symm _ _ _ ⟨rfl,s1sp0,sp5,H.tq,K⟩
  refine qF H hc2 ?_
  refine W_skip ?_
  refine W_seq ?_
  refine W_viaP (fun j12 j12s e fr st=>match j12 with | .inl j12a=>(e = .ret∧∃ (j12aq:Spare),Rd fr [(6,vL tNode s1 s1sp0)]∧HL st (.rd i0 87 j12aq (rdC j12s j12aq) :: .own s1sp0 :: rs)) | .inr j12b=>(e = .normal∧∃ (j12bq:Spare),Rd fr [(0,.ptr i0 0),(1,vB a0),(2,.fn 94 [.ptr i0 0] []),(7,vL tNode s1 s1sp0)]∧HL st (.rd i0 87 j12bq (rdC j12s j12bq) :: .own s1sp0 :: rs))) hr hp ?_ ?_
  ·intro y Q hr hp hq
   refine W_seq (W_reg ?_)
   refine qg 2 [(25,vB a0)] H fun fr H=>?_
   rcases csplit hr with ⟨hc7,hr⟩ | ⟨hc7,hr⟩
   rotate_left
   ·rw [hc7] at H
    refine qg 3 [(28,vB false)] H fun fr H=>?_
    refine qe ?_
    refine qF H rfl ?_
    refine W_skip ?_
    exact hq _ _ (sj hr).symm _ _ _ ⟨rfl,s1q,(by (try rw [hc7]); exact H.tq),((K).front 0 rfl).front 1 rfl⟩
   rw [hc7] at H
   refine qg 1 [(26,.ptr i0 0)] H fun fr H=>?_
   refine qp [] [] hr (fun a s h=>F88_R  _ _ a s h (K.front 1 rfl)) K H (fun e s h q st K=>hp e s h q _ _ (K.keep [true,false])) fun x8 s10 hr sp9 st K fr H=>?_
   refine qg 1 [(28,vB x8)] H fun fr H=>?_
   refine qe ?_
   rcases csplit hr with ⟨hc11,hr⟩ | ⟨hc11,hr⟩
   rotate_left
   ·refine qF H hc11 ?_
    refine W_skip ?_
    exact hq _ _ (sj hr).symm _ _ _ ⟨rfl,sp9,(by (try rw [hc7]); exact H.tq),K⟩
   refine qT H hc11 ?_
   refine W_seq (W_reg ?_)
   refine qg 2 [(6,vL tNode s1 s1sp0)] H fun fr H=>?_
   refine qe ?_
   refine W_ret ?_
   exact hq _ _ (sj hr).symm _ _ _ ⟨rfl,sp9,H.tq,K⟩
  intro j12 j12s hr
  rcases j12 with j12a | j12b
  ·rintro e fr st ⟨rfl,j12aq,H,K⟩
   exact hq _ _ (sj hr).symm _ _ _ ⟨rfl,s1sp0,j12aq,H.tq,K⟩
  rintro e fr st ⟨rfl,j12bq,H,K⟩
  refine W_seq (W_reg ?_)
  refine qg 2 [(31,.ptr i0 0),(32,.fn 94 [.ptr i0 0] [])] H fun fr H=>?_
  refine qqb hr (fun x h=>guarded_R (g:=94) (first:=[.ptr i0 0]) (cap:=[]) h K (fun a s hy st1 pre K=>F94_R n _ a s hy K)) H fun x13 hr sp14 st K fr H=>?_
  refine qg 3 [(34,aN x13.1.1),(35,.agg [vI x13.1.2.1,vI x13.1.2.2])] H fun fr H=>?_
  refine qal 24 [vI 0,vS (bs []),vS (bs []),vI 0,vI 0,vI 0,vB false,vL tNode ([]:List Node) .nil,vI 0] H K fun id15 st K fr H=>?_
  refine qal 95 [vI 0,vI 0] H K fun id16 st K fr H=>?_
  refine qst 24 0 (aN x13.1.1) [vI x13.1.1.kind,vS x13.1.1.name,vS x13.1.1.other,vI x13.1.1.n,vI x13.1.1.len,vI x13.1.1.init,vB x13.1.1.ghost,vL tNode x13.1.1.kids .shut,vI x13.1.1.pos] 1 H K rfl fun st K fr H=>?_
  refine qst 95 0 (.agg [vI x13.1.2.1,vI x13.1.2.2]) [vI x13.1.2.1,vI x13.1.2.2] 0 H K rfl fun st K fr H=>?_
  refine qe ?_
  refine W_seq (W_seq ?_)
  refine W_reg ?_
  refine qg 1 [(36,.ptr id16 0)] H fun fr H=>?_
  refine qld 27 0 (vI x13.1.2.1) 0 H K rfl fun fr H=>?_
  refine qg 1 [(38,vB (x13.1.2.1 == 0))] H fun fr H=>?_
  refine qe ?_
  rcases csplit hr with ⟨hc17,hr⟩ | ⟨hc17,hr⟩
  ·refine qT H hc17 ?_
   refine W_seq (W_reg ?_)
   refine qg 1 [(39,vL tNode s1 s1sp0)] H fun fr H=>?_
   refine qld 24 0 (aN x13.1.1) 1 H K rfl fun fr H=>?_
   refine qv (.buildSlice 22 1 [(0,aN x13.1.1)]) H (run_bslice (v:=vL tNode ([x13.1.1]:List Node) .full) (v0:=.slice [aN x13.1.1] .full) (by kernel_rfl) (by simp only [List.map,vL,tNode_e,eNode_eq,cNode] <;> rfl)) fun fr H=>?_
   refine qapp tNode 104 22 22 .full hr 3 H K rfl fun x18 hr sp19 st K fr H=>?_
   refine qg 1 [(7,vL tNode x18 sp19)] H fun fr H=>?_
   refine qe ?_
   refine W_exit ?_
   refine in_exit ?_
   exact hq _ _ (sj hr).symm _ _ _ ⟨rfl,sp19,sp14,H.tq,((((K.keep [false,false,true,true]).front 0 rfl)).front 1 rfl)⟩
  refine qF H hc17 ?_
  refine W_skip ?_
  refine W_seq (W_reg ?_)
  refine qg 1 [(43,.ptr i0 0)] H fun fr H=>?_
  refine qld 95 0 (.agg [vI x13.1.2.1,vI x13.1.2.2]) 0 H K rfl fun fr H=>?_
  refine qp [] [] hr (fun a s h=>F89_R  _ _ _ a s h (K.front 2 rfl)) K H (fun e s h q st K=>hp e s h q _ _ (K.keep [true,false,false,false])) fun x20 s22 hr sp21 st K fr H=>?_
  refine qe ?_
  refine W_reg ?_
  refine qg 2 [(46,.ptr i0 0),(47,vB a0)] H fun fr H=>?_
  refine qp [] [] hr (fun a s h=>F90_R n _ _ a s h K) K H (fun e s h q st K=>hp e s h q _ _ (K.keep [true,false,false,false])) fun x23 s25 hr sp24 st K fr H=>?_
  refine qe ?_
  exact hq _ _ (sj hr).symm _ _ _ ⟨rfl,s1sp0,sp24,H.tq,((((K.keep [true,false,false,true]).front 0 rfl)).front 1 rfl)⟩
 intro r26 r26s hr
 rintro e fr st ⟨rfl,r26sp0,r26q,H,K⟩
 exact hq _ _ (sj hr).symm r26q _ _ _ (e_retV [vL tNode r26 r26sp0] H K (fun _=>resT (by kernel_rfl) resN) ((K).keep [true,false]))
def F194 (s:RS):Option ((((List Node)) ⊕ Bad) × RS) :=
 pbind (F153 s) fun x1 s3 =>
 some (.inl ([x1]:List Node),s3)
theorem F194_R (s:RS) (r:((List Node)) ⊕ Bad) (s2:RS) (hr:F194 s = some (r,s2)) {st:St} {rs:List Res} {i0:Nat} {p:Spare} (K:HL st (.rd i0 87 p (rdC s p) :: rs)):∃ (q:Spare × Spare) (st':St),R Tryz.prog AN 194 [.cptr ([.fn 153 [.ptr i0 0] []]) 0] st (gotE encW (fun v=>vL tNode v q.2) r) st'∧HL st' (.own q.2 :: .rd i0 87 q.1 (rdC s2 q.1) :: rs):=by
 unfold F194 at hr
 refine R_panX (ew:=encW) (enc:=fun v (q:Spare × Spare)=>vL tNode v q.2) (post:=fun s (q:Spare × Spare)=>.own q.2 :: .rd i0 87 q.1 (rdC s q.1) :: rs) [(0,.cptr ([.fn 153 [.ptr i0 0] []]) 0)] Tryz.func194 rfl rfl fun fr Q H hp hq=>?_
 refine W_seq (W_reg ?_)
 refine qg 1 [] H fun fr H=>?_
 refine qe ?_
 refine W_seq (W_reg ?_)
 refine qg 1 [(2,.fn 153 [.ptr i0 0] [])] H fun fr H=>?_
 refine qp [] [] hr (fun a s h=>F153_R  _ a s h K) K H (fun e s h q st K=>hp e s h (q,.nil) _ _ (K).nilo) fun x1 s3 hr sp2 st K fr H=>?_
 refine qv (.buildSlice 22 1 [(0,aN x1)]) H (run_bslice (v:=vL tNode ([x1]:List Node) .full) (v0:=.slice [aN x1] .full) (by kernel_rfl) (by simp only [List.map,vL,tNode_e,eNode_eq,cNode] <;> rfl)) fun fr H=>?_
 refine qg 1 [(1,vL tNode ([x1]:List Node) .full)] H fun fr H=>?_
 refine qe ?_
 refine W_ret ?_
 exact hq _ _ (sj hr).symm (sp2,.full) _ _ _ (e_retV [vL tNode ([x1]:List Node) .full] H K (fun _=>resT (by kernel_rfl) resN) (((K.full).front 1 rfl).front 1 rfl))
def F149 (n:Nat) (a0:ByteArray) (s:RS):Option ((((List Node)) ⊕ Bad) × RS) :=
 pbind (F88 a0 s) fun x1 s3 =>
 bif x1 then
  (some (.inl ([]:List Node),s3))
 else
  (pbind (F194 s3) fun x5 s7 =>
  pbind (iterP (σ:=(List Node)) (ρ:=((List Node))) (ε:=Bad) (S:=RS) (fun s9 s9s=>pbind (F88 (bs [44]) s9s) fun x10 s12 =>
   bif x10 then
    (pbind (F194 s12) fun x14 s16 =>
    (appL 104 s9 x14).bind fun x18 =>
    some (.inl (.inl x18),s16))
   else
    (some (.inl (.inr s9),s12))) n x5 s7) fun r20 r20s =>
  pbind (F93 a0 r20s) fun _ s23 =>
  some (.inl r20,s23))
theorem F149_R (n:Nat) (a0:ByteArray) (s:RS) (r:((List Node)) ⊕ Bad) (s2:RS) (hr:F149 n a0 s = some (r,s2)) {st:St} {rs:List Res} {i0:Nat} {p:Spare} (K:HL st (.rd i0 87 p (rdC s p) :: rs)):∃ (q:Spare × Spare) (st':St),R Tryz.prog AN 149 [.ptr i0 0,vS a0,.fn 194 [] [.cptr ([.fn 153 [.ptr i0 0] []]) 0]] st (gotE encW (fun v=>vL tNode v q.2) r) st'∧HL st' (.own q.2 :: .rd i0 87 q.1 (rdC s2 q.1) :: rs):=by
 unfold F149 at hr
 refine R_panX (ew:=encW) (enc:=fun v (q:Spare × Spare)=>vL tNode v q.2) (post:=fun s (q:Spare × Spare)=>.own q.2 :: .rd i0 87 q.1 (rdC s q.1) :: rs) [(0,.ptr i0 0),(1,vS a0),(2,.fn 194 [] [.cptr ([.fn 153 [.ptr i0 0] []]) 0])] Tryz.func149 rfl rfl fun fr Q H hp hq=>?_
 refine W_seq (W_reg ?_)
 refine qg 1 [] H fun fr H=>?_
 refine qe ?_
 refine W_seq (W_seq ?_)
 refine W_reg ?_
 refine qg 2 [(8,.ptr i0 0),(9,vS a0)] H fun fr H=>?_
 refine qp [] [] hr (fun a s h=>F88_R  _ _ a s h K) K H (fun e s h q st K=>hp e s h (q,.nil) _ _ (K).nilo) fun x1 s3 hr sp2 st K fr H=>?_
 refine qe ?_
 rcases csplit hr with ⟨hc4,hr⟩ | ⟨hc4,hr⟩
 ·refine qT H hc4 ?_
  refine W_seq (W_reg ?_)
  refine qg 1 [(6,vL tNode ([]:List Node) .nil)] H fun fr H=>?_
  refine qe ?_
  refine W_ret ?_
  exact hq _ _ (sj hr).symm (sp2,.nil) _ _ _ (e_retV [vL tNode ([]:List Node) .nil] H K (fun _=>resT (by kernel_rfl) resN) (((K.nilo).front 1 rfl).front 1 rfl))
 refine qF H hc4 ?_
 refine W_skip ?_
 refine W_seq (W_reg ?_)
 refine qg 1 [(11,.fn 194 [] [.cptr ([.fn 153 [.ptr i0 0] []]) 0])] H fun fr H=>?_
 refine qp [] [] hr (fun a s h=>F194_R  _ a s h K) K H (fun e s h q st K=>hp e s h (q.1,.nil) _ _ (K.keep [false,true]).nilo) fun x5 s7 hr ⟨sp6,sp8⟩ st K fr H=>?_
 refine qg 1 [(7,vL tNode x5 sp8)] H fun fr H=>?_
 refine qe ?_
 refine W_seq (W_block ?_)
 refine W_iterP hr hp (fun (s9:(List Node)) s9s fr st=>∃ (s9sp0 s9q:Spare),Rd fr [(0,.ptr i0 0),(1,vS a0),(2,.fn 194 [] [.cptr ([.fn 153 [.ptr i0 0] []]) 0]),(7,vL tNode s9 s9sp0)]∧HL st (.own s9sp0 :: .rd i0 87 s9q (rdC s9s s9q) :: rs)) (fun (r20:((List Node))) r20s e fr st=>e = .exit 0∧∃ (r20sp0 r20q:Spare),Rd fr [(0,.ptr i0 0),(1,vS a0),(7,vL tNode r20 r20sp0)]∧HL st (.rd i0 87 r20q (rdC r20s r20q) :: .own r20sp0 :: rs)) ⟨sp8,sp6,H.tq,K⟩ (by rintro _ s fr st ⟨h,_⟩ <;> cases h) ?_ ?_
 ·rintro s9 s9s fr st y Q ⟨s9sp0,s9q,H,K⟩ hr hp hq
  refine W_seq (W_seq ?_)
  refine W_reg ?_
  refine qg 1 [(13,.ptr i0 0)] H fun fr H=>?_
  refine qp [] [] hr (fun a s h=>F88_R  _ _ a s h (K.front 1 rfl)) K H (fun e s h q st K=>hp e s h (q,.nil) _ _ (K.keep [true,false]).nilo) fun x10 s12 hr sp11 st K fr H=>?_
  refine qe ?_
  rcases csplit hr with ⟨hc13,hr⟩ | ⟨hc13,hr⟩
  rotate_left
  ·refine qF H hc13 ?_
   refine W_exit ?_
   exact hq _ _ (sj hr).symm _ _ _ ⟨rfl,s9sp0,sp11,H.tq,K⟩
  refine qT H hc13 ?_
  refine W_skip ?_
  refine W_block ?_
  refine W_reg ?_
  refine qg 2 [(15,vL tNode s9 s9sp0),(16,.fn 194 [] [.cptr ([.fn 153 [.ptr i0 0] []]) 0])] H fun fr H=>?_
  refine qp [] [] hr (fun a s h=>F194_R  _ a s h K) K H (fun e s h q st K=>hp e s h (q.1,.nil) _ _ (K.keep [false,true,false]).nilo) fun x14 s16 hr ⟨sp15,sp17⟩ st K fr H=>?_
  refine qapp tNode 104 22 22 sp17 hr 2 H K rfl fun x18 hr sp19 st K fr H=>?_
  refine qg 1 [(7,vL tNode x18 sp19)] H fun fr H=>?_
  refine qe ?_
  exact hq _ _ (sj hr).symm _ _ _ ⟨rfl,sp19,sp15,H.tq,((((K.keep [false,true,true]).front 0 rfl)).front 1 rfl)⟩
 intro r20 r20s hr
 rintro e fr st ⟨rfl,r20sp0,r20q,H,K⟩
 refine W_seq (W_reg ?_)
 refine qg 2 [(19,.ptr i0 0),(20,vS a0)] H fun fr H=>?_
 refine qp [] [] hr (fun a s h=>F93_R  _ _ a s h K) K H (fun e s h q st K=>hp e s h (q,.nil) _ _ (K.keep [true,false]).nilo) fun x21 s23 hr sp22 st K fr H=>?_
 refine qe ?_
 refine W_seq (W_reg ?_)
 refine qg 2 [(6,vL tNode r20 r20sp0)] H fun fr H=>?_
 refine qe ?_
 refine W_ret ?_
 exact hq _ _ (sj hr).symm (sp22,r20sp0) _ _ _ (e_retV [vL tNode r20 r20sp0] H K (fun _=>resT (by kernel_rfl) resN) ((K).front 1 rfl))
def F95 (n:Nat) (a0:Node) (s:RS):Option ((Node ⊕ Bad) × RS) :=
 pbind (F92 s) fun x3 s5 =>
 pbind (F93 (bs [61]) s5) fun _ s8 =>
 pbind (F152 n s8) fun x9 s11 =>
 pbind (F93 (bs [40]) s11) fun _ s14 =>
 pbind (F149 n (bs [41]) s14) fun x15 s17 =>
 pbind (F93 (bs [59]) s17) fun _ s21 =>
 some (.inl (Node.mk a0.kind x3 x9 a0.n a0.len a0.init a0.ghost x15 a0.pos),s21)
theorem F95_R (n:Nat) (a0:Node) (s:RS) (r:Node ⊕ Bad) (s2:RS) (hr:F95 n a0 s = some (r,s2)) {st:St} {rs:List Res} {i0:Nat} {p p0:Spare} (K:HL st (.rd i0 87 p (rdC s p) :: rs)):∃ (q:Spare) (st':St),R Tryz.prog AN 95 [.ptr i0 0,.agg (cNode p0 a0)] st (gotE encW (fun v=>aN v) r) st'∧HL st' (.rd i0 87 q (rdC s2 q) :: rs):=by
 unfold F95 at hr
 refine R_panX (ew:=encW) (enc:=fun v (q:Spare)=>aN v) (post:=fun s (q:Spare)=>.rd i0 87 q (rdC s q) :: rs) [(0,.ptr i0 0),(1,.agg (cNode p0 a0))] Tryz.func95 rfl rfl fun fr Q H hp hq=>?_
 refine W_seq (W_reg ?_)
 refine qbx 24 (.agg (cNode p0 a0)) [vI a0.kind,vS a0.name,vS a0.other,vI a0.n,vI a0.len,vI a0.init,vB a0.ghost,vL tNode a0.kids p0,vI a0.pos] H K fun id1 st K fr H=>?_
 refine qal 24 [vI 0,vS (bs []),vS (bs []),vI 0,vI 0,vI 0,vB false,vL tNode ([]:List Node) .nil,vI 0] H K fun id2 st K fr H=>?_
 refine qe ?_
 refine W_seq (W_reg ?_)
 refine qg 1 [(5,.ptr i0 0)] H fun fr H=>?_
 refine qp [] [] hr (fun a s h=>F92_R  _ a s h (K.front 2 rfl)) K H (fun e s h q st K=>hp e s h q _ _ (K.keep [true,false,false])) fun x3 s5 hr sp4 st K fr H=>?_
 refine qg 1 [(7,.ptr id1 1)] H fun fr H=>?_
 refine qst 9 1 (vS x3) [vI a0.kind,vS x3,vS a0.other,vI a0.n,vI a0.len,vI a0.init,vB a0.ghost,vL tNode a0.kids p0,vI a0.pos] 2 H K rfl fun st K fr H=>?_
 refine qe ?_
 refine W_seq (W_reg ?_)
 refine qg 1 [(8,.ptr i0 0)] H fun fr H=>?_
 refine qp [] [] hr (fun a s h=>F93_R  _ _ a s h K) K H (fun e s h q st K=>hp e s h q _ _ (K.keep [true,false,false])) fun x6 s8 hr sp7 st K fr H=>?_
 refine qe ?_
 refine W_seq (W_reg ?_)
 refine qg 1 [(10,.ptr i0 0)] H fun fr H=>?_
 refine qp [] [] hr (fun a s h=>F152_R n _ a s h K) K H (fun e s h q st K=>hp e s h q _ _ (K.keep [true,false,false])) fun x9 s11 hr sp10 st K fr H=>?_
 refine qg 1 [(12,.ptr id1 2)] H fun fr H=>?_
 refine qst 9 2 (vS x9) [vI a0.kind,vS x3,vS x9,vI a0.n,vI a0.len,vI a0.init,vB a0.ghost,vL tNode a0.kids p0,vI a0.pos] 2 H K rfl fun st K fr H=>?_
 refine qe ?_
 refine W_seq (W_reg ?_)
 refine qg 1 [(13,.ptr i0 0)] H fun fr H=>?_
 refine qp [] [] hr (fun a s h=>F93_R  _ _ a s h K) K H (fun e s h q st K=>hp e s h q _ _ (K.keep [true,false,false])) fun x12 s14 hr sp13 st K fr H=>?_
 refine qe ?_
 refine W_seq (W_reg ?_)
 refine qg 3 [(15,.ptr i0 0),(17,.fn 153 [.ptr i0 0] [])] H fun fr H=>?_
 refine qc (fun s=>one_R 153 [.ptr i0 0] []) H fun fr H=>?_
 refine qp [] [] hr (fun a s h=>F149_R n _ _ a s h K) K H (fun e s h q st K=>hp e s h q.1 _ _ (K.keep [false,true,false,false])) fun x15 s17 hr ⟨sp16,sp18⟩ st K fr H=>?_
 refine qg 1 [(20,.ptr id1 7)] H fun fr H=>?_
 refine qst 22 7 (vL tNode x15 sp18) [vI a0.kind,vS x3,vS x9,vI a0.n,vI a0.len,vI a0.init,vB a0.ghost,vL tNode x15 sp18,vI a0.pos] 3 H K rfl fun st K fr H=>?_
 refine qe ?_
 refine W_seq (W_reg ?_)
 refine qg 1 [(21,.ptr i0 0)] H fun fr H=>?_
 refine qp [] [] hr (fun a s h=>F93_R  _ _ a s h (K.front 1 rfl)) K H (fun e s h q st K=>hp e s h q _ _ (K.keep [true,false,false,false])) fun x19 s21 hr sp20 st K fr H=>?_
 refine qe ?_
 refine W_seq (W_reg ?_)
 refine qld 24 0 (.agg [vI a0.kind,vS x3,vS x9,vI a0.n,vI a0.len,vI a0.init,vB a0.ghost,vL tNode x15 .shut,vI a0.pos]) 3 H K rfl fun fr H=>?_
 refine qst 24 0 (.agg [vI a0.kind,vS x3,vS x9,vI a0.n,vI a0.len,vI a0.init,vB a0.ghost,vL tNode x15 .shut,vI a0.pos]) [vI a0.kind,vS x3,vS x9,vI a0.n,vI a0.len,vI a0.init,vB a0.ghost,vL tNode x15 .shut,vI a0.pos] 2 H K rfl fun st K fr H=>?_
 refine qe ?_
 refine W_ret ?_
 exact hq _ _ (sj hr).symm sp20 _ _ _ (e_retV [.agg [vI a0.kind,vS x3,vS x9,vI a0.n,vI a0.len,vI a0.init,vB a0.ghost,vL tNode x15 .shut,vI a0.pos]] H K (fun _=>resC id2 0 24 [vI a0.kind,vS x3,vS x9,vI a0.n,vI a0.len,vI a0.init,vB a0.ghost,vL tNode x15 .shut,vI a0.pos] 2 (by kernel_rfl) rfl (by kernel_rfl) resN) ((K).keep [true,false,false,false]))
def F58 (n:Nat) (s:RS):Option ((Node ⊕ Bad) × RS) :=
 (F91 s).bind fun x2 =>
 pbind (F88 (bs [109,111,100,117,108,101]) s) fun x3 s5 =>
 bif x3 then
  (pbind (F92 s5) fun x7 s9 =>
  pbind (F93 (bs [111,119,110,101,114]) s9) fun _ s13 =>
  pbind (F92 s13) fun x14 s16 =>
  pbind (F93 (bs [123]) s16) fun _ s19 =>
  pbind (F57_1 n true s19) fun x20 s22 =>
  some (.inl (Node.mk 60 x7 x14 0 0 0 false x20 x2),s22))
 else
  (pbind (F88 (bs [97,115,108,101,101,112]) s5) fun x23 s25 =>
  bif x23 then
   (pbind (F93 (bs [116,104,114,101,97,100]) s25) fun _ s29 =>
   pbind (F95 n (Node.mk 61 (bs []) (bs []) 1 0 0 false ([]:List Node) x2) s29) fun x30 s32 =>
   some (.inl x30,s32))
  else
   (pbind (F88 (bs [116,104,114,101,97,100]) s25) fun x33 s35 =>
   bif x33 then
    (pbind (F95 n (Node.mk 61 (bs []) (bs []) 0 0 0 false ([]:List Node) x2) s35) fun x37 s39 =>
    some (.inl x37,s39))
   else
    (pbind (F68 s35) fun _ s42 =>
    some (.inl (Node.mk 0 (bs []) (bs []) 0 0 0 false ([]:List Node) 0),s42))))
theorem F58_R (n:Nat) (s:RS) (r:Node ⊕ Bad) (s2:RS) (hr:F58 n s = some (r,s2)) {st:St} {rs:List Res} {i0:Nat} {p:Spare} (K:HL st (.rd i0 87 p (rdC s p) :: rs)):∃ (q:Spare) (st':St),R Tryz.prog AN 58 [.ptr i0 0] st (gotE encW (fun v=>aN v) r) st'∧HL st' (.rd i0 87 q (rdC s2 q) :: rs):=by
 unfold F58 at hr
 refine R_panX (ew:=encW) (enc:=fun v (q:Spare)=>aN v) (post:=fun s (q:Spare)=>.rd i0 87 q (rdC s q) :: rs) [(0,.ptr i0 0)] Tryz.func58 rfl rfl fun fr Q H hp hq=>?_
 refine W_seq (W_reg ?_)
 refine qal 24 [vI 0,vS (bs []),vS (bs []),vI 0,vI 0,vI 0,vB false,vL tNode ([]:List Node) .nil,vI 0] H K fun id1 st K fr H=>?_
 refine qe ?_
 refine W_seq (W_reg ?_)
 refine qg 1 [(5,.ptr i0 0)] H fun fr H=>?_
 refine ql hr (fun x h=>F91_R  _ x h (K.front 1 rfl)) H fun x2 hr fr H=>?_
 refine qg 1 [(3,vI x2)] H fun fr H=>?_
 refine qe ?_
 refine W_seq (W_block ?_)
 refine W_seq (W_reg ?_)
 refine qg 1 [(8,.ptr i0 0)] H fun fr H=>?_
 refine qp [] [] hr (fun a s h=>F88_R  _ _ a s h (K.front 1 rfl)) K H (fun e s h q st K=>hp e s h q _ _ (K.keep [true,false])) fun x3 s5 hr sp4 st K fr H=>?_
 refine qg 1 [(7,vB x3)] H fun fr H=>?_
 refine qe ?_
 rcases csplit hr with ⟨hc6,hr⟩ | ⟨hc6,hr⟩
 ·refine qT H hc6 ?_
  refine W_seq (W_reg ?_)
  refine qg 1 [(10,.ptr i0 0)] H fun fr H=>?_
  refine qp [] [] hr (fun a s h=>F92_R  _ a s h K) K H (fun e s h q st K=>hp e s h q _ _ (K.keep [true,false])) fun x7 s9 hr sp8 st K fr H=>?_
  refine qg 2 [(13,.agg [vI 60,vS x7,vS (bs []),vI 0,vI 0,vI 0,vB false,vL tNode ([]:List Node) .nil,vI x2])] H fun fr H=>?_
  refine qal 24 [vI 0,vS (bs []),vS (bs []),vI 0,vI 0,vI 0,vB false,vL tNode ([]:List Node) .nil,vI 0] H K fun id10 st K fr H=>?_
  refine qst 24 0 (.agg [vI 60,vS x7,vS (bs []),vI 0,vI 0,vI 0,vB false,vL tNode ([]:List Node) .nil,vI x2]) [vI 60,vS x7,vS (bs []),vI 0,vI 0,vI 0,vB false,vL tNode ([]:List Node) .nil,vI x2] 0 H K rfl fun st K fr H=>?_
  refine qe ?_
  refine W_seq (W_reg ?_)
  refine qg 1 [(14,.ptr i0 0)] H fun fr H=>?_
  refine qp [] [] hr (fun a s h=>F93_R  _ _ a s h (K.front 1 rfl)) K H (fun e s h q st K=>hp e s h q _ _ (K.keep [true,false,false])) fun x11 s13 hr sp12 st K fr H=>?_
  refine qe ?_
  refine W_seq (W_reg ?_)
  refine qg 1 [(16,.ptr i0 0)] H fun fr H=>?_
  refine qp [] [] hr (fun a s h=>F92_R  _ a s h K) K H (fun e s h q st K=>hp e s h q _ _ (K.keep [true,false,false])) fun x14 s16 hr sp15 st K fr H=>?_
  refine qg 1 [(18,.ptr id10 2)] H fun fr H=>?_
  refine qst 9 2 (vS x14) [vI 60,vS x7,vS x14,vI 0,vI 0,vI 0,vB false,vL tNode ([]:List Node) .nil,vI x2] 1 H K rfl fun st K fr H=>?_
  refine qe ?_
  refine W_seq (W_reg ?_)
  refine qg 1 [(19,.ptr i0 0)] H fun fr H=>?_
  refine qp [] [] hr (fun a s h=>F93_R  _ _ a s h K) K H (fun e s h q st K=>hp e s h q _ _ (K.keep [true,false,false])) fun x17 s19 hr sp18 st K fr H=>?_
  refine qe ?_
  refine W_seq (W_reg ?_)
  refine qg 3 [(21,.ptr i0 0),(23,.fn 94 [.ptr i0 0] [])] H fun fr H=>?_
  refine qp [] [] hr (fun a s h=>F57_1_R n _ _ a s h K) K H (fun e s h q st K=>hp e s h q _ _ (K.keep [true,false,false])) fun x20 s22 hr sp21 st K fr H=>?_
  refine qg 1 [(25,.ptr id10 7)] H fun fr H=>?_
  refine qst 22 7 (vL tNode x20 .shut) [vI 60,vS x7,vS x14,vI 0,vI 0,vI 0,vB false,vL tNode x20 .shut,vI x2] 1 H K rfl fun st K fr H=>?_
  refine qe ?_
  refine W_seq (W_reg ?_)
  refine qld 24 0 (.agg [vI 60,vS x7,vS x14,vI 0,vI 0,vI 0,vB false,vL tNode x20 .shut,vI x2]) 1 H K rfl fun fr H=>?_
  refine qst 24 0 (.agg [vI 60,vS x7,vS x14,vI 0,vI 0,vI 0,vB false,vL tNode x20 .shut,vI x2]) [vI 60,vS x7,vS x14,vI 0,vI 0,vI 0,vB false,vL tNode x20 .shut,vI x2] 2 H K rfl fun st K fr H=>?_
  refine qe ?_
  refine W_ret ?_
  exact hq _ _ (sj hr).symm sp21 _ _ _ (e_retV [.agg [vI 60,vS x7,vS x14,vI 0,vI 0,vI 0,vB false,vL tNode x20 .shut,vI x2]] H K (fun _=>resC id1 0 24 [vI 60,vS x7,vS x14,vI 0,vI 0,vI 0,vB false,vL tNode x20 .shut,vI x2] 2 (by kernel_rfl) rfl (by kernel_rfl) resN) ((K).keep [true,false,false]))
 refine qF H hc6 ?_
 refine W_seq (W_reg ?_)
 refine qg 1 [(28,.ptr i0 0)] H fun fr H=>?_
 refine qp [] [] hr (fun a s h=>F88_R  _ _ a s h K) K H (fun e s h q st K=>hp e s h q _ _ (K.keep [true,false])) fun x23 s25 hr sp24 st K fr H=>?_
 refine qg 1 [(27,vB x23)] H fun fr H=>?_
 refine qe ?_
 rcases csplit hr with ⟨hc26,hr⟩ | ⟨hc26,hr⟩
 ·refine qT H hc26 ?_
  refine W_seq (W_reg ?_)
  refine qg 1 [(30,.ptr i0 0)] H fun fr H=>?_
  refine qp [] [] hr (fun a s h=>F93_R  _ _ a s h K) K H (fun e s h q st K=>hp e s h q _ _ (K.keep [true,false])) fun x27 s29 hr sp28 st K fr H=>?_
  refine qe ?_
  refine W_seq (W_reg ?_)
  refine qg 3 [(32,.ptr i0 0),(34,.agg [vI 61,vS (bs []),vS (bs []),vI 1,vI 0,vI 0,vB false,vL tNode ([]:List Node) .nil,vI x2])] H fun fr H=>?_
  refine qp [] [] hr (fun a s h=>F95_R n _ _ a s h (p0:=.nil) K) K H (fun e s h q st K=>hp e s h q _ _ (K.keep [true,false])) fun x30 s32 hr sp31 st K fr H=>?_
  refine qst 24 0 (aN x30) [vI x30.kind,vS x30.name,vS x30.other,vI x30.n,vI x30.len,vI x30.init,vB x30.ghost,vL tNode x30.kids .shut,vI x30.pos] 1 H K rfl fun st K fr H=>?_
  refine qe ?_
  refine W_ret ?_
  exact hq _ _ (sj hr).symm sp31 _ _ _ (e_retV [aN x30] H K (fun _=>resC id1 0 24 [vI x30.kind,vS x30.name,vS x30.other,vI x30.n,vI x30.len,vI x30.init,vB x30.ghost,vL tNode x30.kids .shut,vI x30.pos] 1 (by kernel_rfl) rfl (by kernel_rfl) resN) ((K).keep [true,false]))
 refine qF H hc26 ?_
 refine W_seq (W_reg ?_)
 refine qg 1 [(37,.ptr i0 0)] H fun fr H=>?_
 refine qp [] [] hr (fun a s h=>F88_R  _ _ a s h K) K H (fun e s h q st K=>hp e s h q _ _ (K.keep [true,false])) fun x33 s35 hr sp34 st K fr H=>?_
 refine qg 1 [(36,vB x33)] H fun fr H=>?_
 refine qe ?_
 rcases csplit hr with ⟨hc36,hr⟩ | ⟨hc36,hr⟩
 ·refine qT H hc36 ?_
  refine W_seq (W_reg ?_)
  refine qg 3 [(39,.ptr i0 0),(41,.agg [vI 61,vS (bs []),vS (bs []),vI 0,vI 0,vI 0,vB false,vL tNode ([]:List Node) .nil,vI x2])] H fun fr H=>?_
  refine qp [] [] hr (fun a s h=>F95_R n _ _ a s h (p0:=.nil) K) K H (fun e s h q st K=>hp e s h q _ _ (K.keep [true,false])) fun x37 s39 hr sp38 st K fr H=>?_
  refine qst 24 0 (aN x37) [vI x37.kind,vS x37.name,vS x37.other,vI x37.n,vI x37.len,vI x37.init,vB x37.ghost,vL tNode x37.kids .shut,vI x37.pos] 1 H K rfl fun st K fr H=>?_
  refine qe ?_
  refine W_ret ?_
  exact hq _ _ (sj hr).symm sp38 _ _ _ (e_retV [aN x37] H K (fun _=>resC id1 0 24 [vI x37.kind,vS x37.name,vS x37.other,vI x37.n,vI x37.len,vI x37.init,vB x37.ghost,vL tNode x37.kids .shut,vI x37.pos] 1 (by kernel_rfl) rfl (by kernel_rfl) resN) ((K).keep [true,false]))
 refine qF H hc36 ?_
 refine W_skip ?_
 refine W_seq (W_reg ?_)
 refine qg 1 [(43,.ptr i0 0)] H fun fr H=>?_
 refine qp [] [] hr (fun a s h=>F68_R  _ a s h K) K H (fun e s h q st K=>hp e s h q _ _ (K.keep [true,false])) fun x40 s42 hr sp41 st K fr H=>?_
 refine qe ?_
 refine W_seq (W_reg ?_)
 refine qg 1 [(45,.agg [vI 0,vS (bs []),vS (bs []),vI 0,vI 0,vI 0,vB false,vL tNode ([]:List Node) .nil,vI 0])] H fun fr H=>?_
 refine qst 24 0 (.agg [vI 0,vS (bs []),vS (bs []),vI 0,vI 0,vI 0,vB false,vL tNode ([]:List Node) .nil,vI 0]) [vI 0,vS (bs []),vS (bs []),vI 0,vI 0,vI 0,vB false,vL tNode ([]:List Node) .nil,vI 0] 1 H K rfl fun st K fr H=>?_
 refine qe ?_
 refine W_ret ?_
 exact hq _ _ (sj hr).symm sp41 _ _ _ (e_retV [.agg [vI 0,vS (bs []),vS (bs []),vI 0,vI 0,vI 0,vB false,vL tNode ([]:List Node) .shut,vI 0]] H K (fun _=>resC id1 0 24 [vI 0,vS (bs []),vS (bs []),vI 0,vI 0,vI 0,vB false,vL tNode ([]:List Node) .nil,vI 0] 1 (by kernel_rfl) rfl (by kernel_rfl) resN) ((K).keep [true,false]))
end Go.Proofs.YtbecjgckobhmpaaGreatDoor
end
section
namespace Go.Proofs.YtbecjgckobhmpaaGreatDoor
open Go Go.AM Go.Proofs
set_option maxRecDepth 100000
set_option maxHeartbeats 4000000
def F57 (n:Nat) (a0:Bool) (s:RS):Option ((((List Node)) ⊕ Bad) × RS) :=
 pbind (iterP (σ:=(List Node)) (ρ:=((List Node))) (ε:=Bad) (S:=RS) (fun s1 s1s=>bif s1s.next == (s1s.toks.length:Int) then
   (bif a0 then
    (pbind (F68 s1s) fun _ s6 =>
    some (.inl (.inr s1),s6))
   else
    (some (.inl (.inr s1),s1s)))
  else
   (pbind (bif a0 then
     (pbind (F88 (bs [125]) s1s) fun x8 s10 =>
     bif x8 then
      (some (.inl (.inl ()),s10))
     else
      (some (.inl (.inr ()),s10)))
    else
     (some (.inl (.inr ()),s1s)):Option (((Unit ⊕ Unit) ⊕ Bad) × RS)) fun j12 j12s=>match j12 with
   | .inl _=>some (.inl (.inr s1),j12s)
   | .inr _=>(guardF (F58 n j12s)).bind fun x13 =>
    bif x13.1.2.1 == 0 then
     ((appL 104 s1 ([x13.1.1]:List Node)).bind fun x18 =>
     some (.inl (.inl x18),x13.2))
    else
     (pbind (F89 x13.1.2.1 x13.1.2.2 x13.2) fun _ s22 =>
     pbind (F90 n a0 s22) fun _ s25 =>
     some (.inl (.inl s1),s25)))) n ([]:List Node) s) fun r26 r26s =>
 some (.inl r26,r26s)
theorem F57_R (n:Nat) (a0:Bool) (s:RS) (r:((List Node)) ⊕ Bad) (s2:RS) (hr:F57 n a0 s = some (r,s2)) {st:St} {rs:List Res} {i0:Nat} {p:Spare} (K:HL st (.rd i0 87 p (rdC s p) :: rs)):∃ (q:Spare) (st':St),R Tryz.prog AN 57 [.ptr i0 0,vB a0,.fn 58 [.ptr i0 0] []] st (gotE encW (fun v=>vL tNode v .shut) r) st'∧HL st' (.rd i0 87 q (rdC s2 q) :: rs):=by
 unfold F57 at hr
 refine R_panX (ew:=encW) (enc:=fun v (q:Spare)=>vL tNode v .shut) (post:=fun s (q:Spare)=>.rd i0 87 q (rdC s q) :: rs) [(0,.ptr i0 0),(1,vB a0),(2,.fn 58 [.ptr i0 0] [])] Tryz.func57 rfl rfl fun fr Q H hp hq=>?_
 refine W_seq (W_reg ?_)
 refine qg 1 [] H fun fr H=>?_
 refine qe ?_
 refine W_seq (W_reg ?_)
 refine qg 1 [(7,vL tNode ([]:List Node) .nil)] H fun fr H=>?_
 refine qe ?_
 refine W_block ?_
 refine W_iterP hr hp (fun (s1:(List Node)) s1s fr st=>∃ (s1sp0 s1q:Spare),Rd fr [(0,.ptr i0 0),(1,vB a0),(2,.fn 58 [.ptr i0 0] []),(7,vL tNode s1 s1sp0)]∧HL st (.own s1sp0 :: .rd i0 87 s1q (rdC s1s s1q) :: rs)) (fun (r26:((List Node))) r26s e fr st=>e = .ret∧∃ (r26sp0 r26q:Spare),Rd fr [(6,vL tNode r26 r26sp0)]∧HL st (.rd i0 87 r26q (rdC r26s r26q) :: .own r26sp0 :: rs)) ⟨.nil,p,H.tq,(K).nilo⟩ (by rintro _ s fr st ⟨h,_⟩ <;> cases h) ?_ ?_
 ·rintro s1 s1s fr st y Q ⟨s1sp0,s1q,H,K⟩ hr hp hq
  refine W_block ?_
  refine W_seq (W_seq ?_)
  refine W_drw ?_
  refine qg 3 [(12,.ptr i0 1)] H fun fr H=>?_
  refine qldR 3 1 (vI s1s.next) 1 H K rfl fun fr H=>?_
  refine qg 3 [(16,.ptr i0 0)] H fun fr H=>?_
  refine qldR 56 0 (vL tToken s1s.toks .shut) 1 H K rfl fun fr H=>?_
  refine qln tToken 56 s1s.toks .shut H fun fr H=>?_
  refine qg 1 [(19,vB (s1s.next == (s1s.toks.length:Int)))] H fun fr H=>?_
  refine qe (qd ?_)
  rcases csplit hr with ⟨hc2,hr⟩ | ⟨hc2,hr⟩
  ·refine qT H hc2 ?_
   refine W_seq (W_seq ?_)
   refine W_reg ?_
   refine qg 1 [(20,vB a0)] H fun fr H=>?_
   refine qe ?_
   rcases csplit hr with ⟨hc3,hr⟩ | ⟨hc3,hr⟩
   rotate_left
   ·refine qF H hc3 ?_
    refine W_skip ?_
    refine W_seq (W_reg ?_)
    refine qg 2 [(6,vL tNode s1 s1sp0)] H fun fr H=>?_
    refine qe ?_
    refine W_ret ?_
    exact hq _ _ (sj hr).symm _ _ _ ⟨rfl,s1sp0,s1q,H.tq,((K).front 0 rfl).front 1 rfl⟩
   refine qT H hc3 ?_
   refine W_reg ?_
   refine qg 1 [(21,.ptr i0 0)] H fun fr H=>?_
   refine qp [] [] hr (fun a s h=>F68_R  _ a s h (K.front 1 rfl)) K H (fun e s h q st K=>hp e s h q _ _ (K.keep [true,false])) fun x4 s6 hr sp5 st K fr H=>?_
   refine qe ?_
   refine W_seq (W_reg ?_)
   refine qg 2 [(6,vL tNode s1 s1sp0)] H fun fr H=>?_
   refine qe ?_
   refine W_ret ?_
   exact hq _ _ (sj hr).symm _ _ _ ⟨rfl,s1sp0,sp5,H.tq,K⟩
  refine qF H hc2 ?_
  refine W_skip ?_
  refine W_seq ?_
  refine W_viaP (fun j12 j12s e fr st=>match j12 with | .inl j12a=>(e = .ret∧∃ (j12aq:Spare),Rd fr [(6,vL tNode s1 s1sp0)]∧HL st (.rd i0 87 j12aq (rdC j12s j12aq) :: .own s1sp0 :: rs)) | .inr j12b=>(e = .normal∧∃ (j12bq:Spare),Rd fr [(0,.ptr i0 0),(1,vB a0),(2,.fn 58 [.ptr i0 0] []),(7,vL tNode s1 s1sp0)]∧HL st (.rd i0 87 j12bq (rdC j12s j12bq) :: .own s1sp0 :: rs))) hr hp ?_ ?_
  ·intro y Q hr hp hq
   refine W_seq (W_reg ?_)
   refine qg 2 [(25,vB a0)] H fun fr H=>?_
   rcases csplit hr with ⟨hc7,hr⟩ | ⟨hc7,hr⟩
   rotate_left
   ·rw [hc7] at H
    refine qg 3 [(28,vB false)] H fun fr H=>?_
    refine qe ?_
    refine qF H rfl ?_
    refine W_skip ?_
    exact hq _ _ (sj hr).symm _ _ _ ⟨rfl,s1q,(by (try rw [hc7]); exact H.tq),((K).front 0 rfl).front 1 rfl⟩
   rw [hc7] at H
   refine qg 1 [(26,.ptr i0 0)] H fun fr H=>?_
   refine qp [] [] hr (fun a s h=>F88_R  _ _ a s h (K.front 1 rfl)) K H (fun e s h q st K=>hp e s h q _ _ (K.keep [true,false])) fun x8 s10 hr sp9 st K fr H=>?_
   refine qg 1 [(28,vB x8)] H fun fr H=>?_
   refine qe ?_
   rcases csplit hr with ⟨hc11,hr⟩ | ⟨hc11,hr⟩
   rotate_left
   ·refine qF H hc11 ?_
    refine W_skip ?_
    exact hq _ _ (sj hr).symm _ _ _ ⟨rfl,sp9,(by (try rw [hc7]); exact H.tq),K⟩
   refine qT H hc11 ?_
   refine W_seq (W_reg ?_)
   refine qg 2 [(6,vL tNode s1 s1sp0)] H fun fr H=>?_
   refine qe ?_
   refine W_ret ?_
   exact hq _ _ (sj hr).symm _ _ _ ⟨rfl,sp9,H.tq,K⟩
  intro j12 j12s hr
  rcases j12 with j12a | j12b
  ·rintro e fr st ⟨rfl,j12aq,H,K⟩
   exact hq _ _ (sj hr).symm _ _ _ ⟨rfl,s1sp0,j12aq,H.tq,K⟩
  rintro e fr st ⟨rfl,j12bq,H,K⟩
  refine W_seq (W_reg ?_)
  refine qg 2 [(31,.ptr i0 0),(32,.fn 58 [.ptr i0 0] [])] H fun fr H=>?_
  refine qqb hr (fun x h=>guarded_R (g:=58) (first:=[.ptr i0 0]) (cap:=[]) h K (fun a s hy st1 pre K=>F58_R n _ a s hy K)) H fun x13 hr sp14 st K fr H=>?_
  refine qg 3 [(34,aN x13.1.1),(35,.agg [vI x13.1.2.1,vI x13.1.2.2])] H fun fr H=>?_
  refine qal 24 [vI 0,vS (bs []),vS (bs []),vI 0,vI 0,vI 0,vB false,vL tNode ([]:List Node) .nil,vI 0] H K fun id15 st K fr H=>?_
  refine qal 95 [vI 0,vI 0] H K fun id16 st K fr H=>?_
  refine qst 24 0 (aN x13.1.1) [vI x13.1.1.kind,vS x13.1.1.name,vS x13.1.1.other,vI x13.1.1.n,vI x13.1.1.len,vI x13.1.1.init,vB x13.1.1.ghost,vL tNode x13.1.1.kids .shut,vI x13.1.1.pos] 1 H K rfl fun st K fr H=>?_
  refine qst 95 0 (.agg [vI x13.1.2.1,vI x13.1.2.2]) [vI x13.1.2.1,vI x13.1.2.2] 0 H K rfl fun st K fr H=>?_
  refine qe ?_
  refine W_seq (W_seq ?_)
  refine W_reg ?_
  refine qg 1 [(36,.ptr id16 0)] H fun fr H=>?_
  refine qld 27 0 (vI x13.1.2.1) 0 H K rfl fun fr H=>?_
  refine qg 1 [(38,vB (x13.1.2.1 == 0))] H fun fr H=>?_
  refine qe ?_
  rcases csplit hr with ⟨hc17,hr⟩ | ⟨hc17,hr⟩
  ·refine qT H hc17 ?_
   refine W_seq (W_reg ?_)
   refine qg 1 [(39,vL tNode s1 s1sp0)] H fun fr H=>?_
   refine qld 24 0 (aN x13.1.1) 1 H K rfl fun fr H=>?_
   refine qv (.buildSlice 22 1 [(0,aN x13.1.1)]) H (run_bslice (v:=vL tNode ([x13.1.1]:List Node) .full) (v0:=.slice [aN x13.1.1] .full) (by kernel_rfl) (by simp only [List.map,vL,tNode_e,eNode_eq,cNode] <;> rfl)) fun fr H=>?_
   refine qapp tNode 104 22 22 .full hr 3 H K rfl fun x18 hr sp19 st K fr H=>?_
   refine qg 1 [(7,vL tNode x18 sp19)] H fun fr H=>?_
   refine qe ?_
   refine W_exit ?_
   refine in_exit ?_
   exact hq _ _ (sj hr).symm _ _ _ ⟨rfl,sp19,sp14,H.tq,((((K.keep [false,false,true,true]).front 0 rfl)).front 1 rfl)⟩
  refine qF H hc17 ?_
  refine W_skip ?_
  refine W_seq (W_reg ?_)
  refine qg 1 [(43,.ptr i0 0)] H fun fr H=>?_
  refine qld 95 0 (.agg [vI x13.1.2.1,vI x13.1.2.2]) 0 H K rfl fun fr H=>?_
  refine qp [] [] hr (fun a s h=>F89_R  _ _ _ a s h (K.front 2 rfl)) K H (fun e s h q st K=>hp e s h q _ _ (K.keep [true,false,false,false])) fun x20 s22 hr sp21 st K fr H=>?_
  refine qe ?_
  refine W_reg ?_
  refine qg 2 [(46,.ptr i0 0),(47,vB a0)] H fun fr H=>?_
  refine qp [] [] hr (fun a s h=>F90_R n _ _ a s h K) K H (fun e s h q st K=>hp e s h q _ _ (K.keep [true,false,false,false])) fun x23 s25 hr sp24 st K fr H=>?_
  refine qe ?_
  exact hq _ _ (sj hr).symm _ _ _ ⟨rfl,s1sp0,sp24,H.tq,((((K.keep [true,false,false,true]).front 0 rfl)).front 1 rfl)⟩
 intro r26 r26s hr
 rintro e fr st ⟨rfl,r26sp0,r26q,H,K⟩
 exact hq _ _ (sj hr).symm r26q _ _ _ (e_retV [vL tNode r26 r26sp0] H K (fun _=>resT (by kernel_rfl) resN) ((K).keep [true,false]))
def F25 (n:Nat) (a0:ByteArray):Option (Node × (List Diag)) :=
 (F55 n a0).bind fun x3 =>
 bif x3.2.1 != 0 then
  (some ((Node.mk 62 (bs []) (bs []) 0 0 0 false ([]:List Node) 0),([(Diag.mk x3.2.1 x3.2.2)]:List Diag)))
 else
  ((nopan (F57 n false (RS.mk x3.1 0 (a0.size:Int) 0 []))).bind fun x6 =>
  bif (x6.2.diags.length:Int) == 0 then
   ((F59 n (Node.mk 62 (bs []) (bs []) 0 0 0 false x6.1 0)).bind fun x10 =>
   bif !x10 then
    (some ((Node.mk 62 (bs []) (bs []) 0 0 0 false ([]:List Node) 0),([(Diag.mk 2 0)]:List Diag)))
   else
    (some ((Node.mk 62 (bs []) (bs []) 0 0 0 false x6.1 0),x6.2.diags)))
  else
   (some ((Node.mk 62 (bs []) (bs []) 0 0 0 false x6.1 0),x6.2.diags)))
theorem F25_R (n:Nat) (a0:ByteArray) (r:Node × (List Diag)) (hr:F25 n a0 = some r) {st:St}:R Tryz.prog AN 25 [vS a0] st (.ret (.tuple [aN r.1,vL tDiag r.2 .shut])) st:=by
 unfold F25 at hr
 refine R_pureX [vS a0] [(0,vS a0)] Tryz.func25 rfl (by kernel_rfl) rfl fun fr st H K=>?_
 refine W_seq (W_reg ?_)
 refine qal 24 [vI 0,vS (bs []),vS (bs []),vI 0,vI 0,vI 0,vB false,vL tNode ([]:List Node) .nil,vI 0] H K fun id1 st K fr H=>?_
 refine qg 1 [] H fun fr H=>?_
 refine qe ?_
 refine W_seq (W_reg ?_)
 refine qg 1 [(10,.agg [vI 62,vS (bs []),vS (bs []),vI 0,vI 0,vI 0,vB false,vL tNode ([]:List Node) .nil,vI 0])] H fun fr H=>?_
 refine qal 24 [vI 0,vS (bs []),vS (bs []),vI 0,vI 0,vI 0,vB false,vL tNode ([]:List Node) .nil,vI 0] H K fun id2 st K fr H=>?_
 refine qst 24 0 (.agg [vI 62,vS (bs []),vS (bs []),vI 0,vI 0,vI 0,vB false,vL tNode ([]:List Node) .nil,vI 0]) [vI 62,vS (bs []),vS (bs []),vI 0,vI 0,vI 0,vB false,vL tNode ([]:List Node) .nil,vI 0] 0 H K rfl fun st K fr H=>?_
 refine qe ?_
 refine W_seq (W_reg ?_)
 refine qg 1 [(12,vS a0)] H fun fr H=>?_
 refine qb hr (fun x h s=>F55_R n _ x h) H fun x3 hr fr H=>?_
 refine qg 7 [(5,vL tToken x3.1 .shut),(6,vI x3.2.1),(7,vI x3.2.2)] H fun fr H=>?_
 refine qe ?_
 refine W_seq (W_seq ?_)
 refine W_reg ?_
 refine qg 2 [(18,vB (x3.2.1 != 0))] H fun fr H=>?_
 refine qe ?_
 rcases csplit hr with ⟨hc4,hr⟩ | ⟨hc4,hr⟩
 ·refine qT H hc4 ?_
  refine W_seq (W_reg ?_)
  refine qld 24 0 (.agg [vI 62,vS (bs []),vS (bs []),vI 0,vI 0,vI 0,vB false,vL tNode ([]:List Node) .shut,vI 0]) 0 H K rfl fun fr H=>?_
  refine qg 3 [(22,.agg [vI x3.2.1,vI x3.2.2])] H fun fr H=>?_
  refine qbs tDiag 37 ([(Diag.mk x3.2.1 x3.2.2)]:List Diag) H fun fr H=>?_
  refine qst 24 0 (.agg [vI 62,vS (bs []),vS (bs []),vI 0,vI 0,vI 0,vB false,vL tNode ([]:List Node) .shut,vI 0]) [vI 62,vS (bs []),vS (bs []),vI 0,vI 0,vI 0,vB false,vL tNode ([]:List Node) .shut,vI 0] 1 H K rfl fun st K fr H=>?_
  refine qg 1 [(3,vL tDiag ([(Diag.mk x3.2.1 x3.2.2)]:List Diag) .full)] H fun fr H=>?_
  refine qe ?_
  refine W_ret ?_
  obtain rfl:=Option.some.inj hr
  exact e_ret [.agg [vI 62,vS (bs []),vS (bs []),vI 0,vI 0,vI 0,vB false,vL tNode ([]:List Node) .shut,vI 0],vL tDiag ([(Diag.mk x3.2.1 x3.2.2)]:List Diag) .full] H K (fun _=>resC id1 0 24 [vI 62,vS (bs []),vS (bs []),vI 0,vI 0,vI 0,vB false,vL tNode ([]:List Node) .shut,vI 0] 1 (by kernel_rfl) rfl (by kernel_rfl) (resT (by kernel_rfl) resN)) (fun _=>by simp only [strip,stripL,stripL_ET,Option.bind_some,Option.map_some,oneOf] <;> rfl)
 refine qF H hc4 ?_
 refine W_skip ?_
 refine W_seq (W_reg ?_)
 refine qg 2 [(24,vS a0),(25,vL tToken x3.1 .shut)] H fun fr H=>?_
 refine qq (newReader_R x3.1 a0 K) H fun id5 st K fr H=>?_
 refine qg 1 [(8,.ptr id5 0)] H fun fr H=>?_
 refine qe ?_
 refine W_seq (W_reg ?_)
 refine qg 3 [(27,.ptr id5 0),(29,.fn 58 [.ptr id5 0] [])] H fun fr H=>?_
 refine qqb hr (fun x h=>F57_R n _ _ _ _ (nopan_eq h) K) H fun x6 hr sp7 st K fr H=>?_
 refine qg 1 [(31,.agg [vI 62,vS (bs []),vS (bs []),vI 0,vI 0,vI 0,vB false,vL tNode x6.1 .shut,vI 0])] H fun fr H=>?_
 refine qal 24 [vI 0,vS (bs []),vS (bs []),vI 0,vI 0,vI 0,vB false,vL tNode ([]:List Node) .nil,vI 0] H K fun id8 st K fr H=>?_
 refine qst 24 0 (.agg [vI 62,vS (bs []),vS (bs []),vI 0,vI 0,vI 0,vB false,vL tNode x6.1 .shut,vI 0]) [vI 62,vS (bs []),vS (bs []),vI 0,vI 0,vI 0,vB false,vL tNode x6.1 .shut,vI 0] 0 H K rfl fun st K fr H=>?_
 refine qe ?_
 refine W_seq (W_seq ?_)
 refine W_reg ?_
 refine qg 3 [(34,.ptr id5 5)] H fun fr H=>?_
 refine qldR 37 5 (vL tDiag x6.2.diags sp7) 1 H K rfl fun fr H=>?_
 refine qln tDiag 37 x6.2.diags sp7 H fun fr H=>?_
 refine qg 2 [(38,vB ((x6.2.diags.length:Int) == 0))] H fun fr H=>?_
 rcases csplit hr with ⟨hc9,hr⟩ | ⟨hc9,hr⟩
 rotate_left
 ·rw [hc9] at H
  refine qg 4 [(42,vB false)] H fun fr H=>?_
  refine qe ?_
  refine qF H rfl ?_
  refine W_skip ?_
  refine W_seq (W_drw ?_)
  refine qld 24 0 (.agg [vI 62,vS (bs []),vS (bs []),vI 0,vI 0,vI 0,vB false,vL tNode x6.1 .shut,vI 0]) 0 H K rfl fun fr H=>?_
  refine qg 3 [(49,.ptr id5 5)] H fun fr H=>?_
  refine qldR 37 5 (vL tDiag x6.2.diags sp7) 1 H K rfl fun fr H=>?_
  refine qst 24 0 (.agg [vI 62,vS (bs []),vS (bs []),vI 0,vI 0,vI 0,vB false,vL tNode x6.1 .shut,vI 0]) [vI 62,vS (bs []),vS (bs []),vI 0,vI 0,vI 0,vB false,vL tNode x6.1 .shut,vI 0] 3 H K rfl fun st K fr H=>?_
  refine qg 1 [(3,vL tDiag x6.2.diags sp7)] H fun fr H=>?_
  refine qe (qdI K [.look (some 0),0,0,0,.look (some 1),.put 3,0] ?_)
  refine W_ret ?_
  obtain rfl:=Option.some.inj hr
  exact e_ret [.agg [vI 62,vS (bs []),vS (bs []),vI 0,vI 0,vI 0,vB false,vL tNode x6.1 .shut,vI 0],vL tDiag x6.2.diags sp7] H K (fun _=>resC id1 0 24 [vI 62,vS (bs []),vS (bs []),vI 0,vI 0,vI 0,vB false,vL tNode x6.1 .shut,vI 0] 3 (by kernel_rfl) rfl (by kernel_rfl) (resT (by kernel_rfl) resN)) (fun _=>by simp only [strip,stripL,stripL_ET,Option.bind_some,Option.map_some,oneOf] <;> rfl)
 rw [hc9] at H
 refine qld 24 0 (.agg [vI 62,vS (bs []),vS (bs []),vI 0,vI 0,vI 0,vB false,vL tNode x6.1 .shut,vI 0]) 0 H K rfl fun fr H=>?_
 refine qb hr (fun x h s=>F59_R n _ x h (p0:=.shut)) H fun x10 hr fr H=>?_
 refine qg 2 [(42,vB !x10)] H fun fr H=>?_
 refine qe ?_
 rcases csplit hr with ⟨hc11,hr⟩ | ⟨hc11,hr⟩
 ·refine qT H hc11 ?_
  refine W_seq (W_reg ?_)
  refine qld 24 0 (.agg [vI 62,vS (bs []),vS (bs []),vI 0,vI 0,vI 0,vB false,vL tNode ([]:List Node) .shut,vI 0]) 2 H K rfl fun fr H=>?_
  refine qg 1 [(44,.agg [vI 2,vI 0])] H fun fr H=>?_
  refine qbs tDiag 37 ([(Diag.mk 2 0)]:List Diag) H fun fr H=>?_
  refine qst 24 0 (.agg [vI 62,vS (bs []),vS (bs []),vI 0,vI 0,vI 0,vB false,vL tNode ([]:List Node) .shut,vI 0]) [vI 62,vS (bs []),vS (bs []),vI 0,vI 0,vI 0,vB false,vL tNode ([]:List Node) .shut,vI 0] 3 H K rfl fun st K fr H=>?_
  refine qg 1 [(3,vL tDiag ([(Diag.mk 2 0)]:List Diag) .full)] H fun fr H=>?_
  refine qe ?_
  refine W_ret ?_
  obtain rfl:=Option.some.inj hr
  exact e_ret [.agg [vI 62,vS (bs []),vS (bs []),vI 0,vI 0,vI 0,vB false,vL tNode ([]:List Node) .shut,vI 0],vL tDiag ([(Diag.mk 2 0)]:List Diag) .full] H K (fun _=>resC id1 0 24 [vI 62,vS (bs []),vS (bs []),vI 0,vI 0,vI 0,vB false,vL tNode ([]:List Node) .shut,vI 0] 3 (by kernel_rfl) rfl (by kernel_rfl) (resT (by kernel_rfl) resN)) (fun _=>by simp only [strip,stripL,stripL_ET,Option.bind_some,Option.map_some,oneOf] <;> rfl)
 refine qF H hc11 ?_
 refine W_skip ?_
 refine W_seq (W_drw ?_)
 refine qld 24 0 (.agg [vI 62,vS (bs []),vS (bs []),vI 0,vI 0,vI 0,vB false,vL tNode x6.1 .shut,vI 0]) 0 H K rfl fun fr H=>?_
 refine qg 3 [(49,.ptr id5 5)] H fun fr H=>?_
 refine qldR 37 5 (vL tDiag x6.2.diags sp7) 1 H K rfl fun fr H=>?_
 refine qst 24 0 (.agg [vI 62,vS (bs []),vS (bs []),vI 0,vI 0,vI 0,vB false,vL tNode x6.1 .shut,vI 0]) [vI 62,vS (bs []),vS (bs []),vI 0,vI 0,vI 0,vB false,vL tNode x6.1 .shut,vI 0] 3 H K rfl fun st K fr H=>?_
 refine qg 1 [(3,vL tDiag x6.2.diags sp7)] H fun fr H=>?_
 refine qe (qdI K [.look (some 0),0,0,0,.look (some 1),.put 3,0] ?_)
 refine W_ret ?_
 obtain rfl:=Option.some.inj hr
 exact e_ret [.agg [vI 62,vS (bs []),vS (bs []),vI 0,vI 0,vI 0,vB false,vL tNode x6.1 .shut,vI 0],vL tDiag x6.2.diags sp7] H K (fun _=>resC id1 0 24 [vI 62,vS (bs []),vS (bs []),vI 0,vI 0,vI 0,vB false,vL tNode x6.1 .shut,vI 0] 3 (by kernel_rfl) rfl (by kernel_rfl) (resT (by kernel_rfl) resN)) (fun _=>by simp only [strip,stripL,stripL_ET,Option.bind_some,Option.map_some,oneOf] <;> rfl)
def F62 (a0:Node):Option Bool :=
 some ((decide (1≤a0.kind)) && (decide (a0.kind≤8)))
theorem F62_R (a0:Node) (r:Bool) (hr:F62 a0 = some r) {st:St} {p0:Spare}:R Tryz.prog AN 62 [.agg (cNode p0 a0)] st (.ret (vB r)) st:=by
 unfold F62 at hr
 refine R_pureX [aN a0] [(0,aN a0)] Tryz.func62 rfl (by simp only [strip,stripL,stripL_cNode,Option.bind_some,Option.map_some]) rfl fun fr st H K=>?_
 refine W_seq (W_reg ?_)
 refine qg 2 [(1,cN a0 0)] H fun fr H=>?_
 refine qe ?_
 refine W_seq (W_reg ?_)
 refine qg 4 [(6,vB (decide (1≤a0.kind)))] H fun fr H=>?_
 refine qg 4 [(10,vB ((decide (1≤a0.kind)) && (decide (a0.kind≤8))))] H (hs:=by intro _ _; generalize (decide (1≤a0.kind)) = b0; cases b0 <;> kernel_rfl) fun fr H=>?_
 refine qg 1 [(2,vB ((decide (1≤a0.kind)) && (decide (a0.kind≤8))))] H fun fr H=>?_
 refine qe ?_
 refine W_ret ?_
 obtain rfl:=Option.some.inj hr
 exact qr [vB ((decide (1≤a0.kind)) && (decide (a0.kind≤8)))] H K
def F154 (a0:Int):Option Bool :=
 some ((decide (0≤a0)) && (decide (a0≤999999999)))
theorem F154_R (a0:Int) (r:Bool) (hr:F154 a0 = some r) {st:St}:R Tryz.prog AN 154 [vI a0] st (.ret (vB r)) st:=by
 unfold F154 at hr
 refine R_pureX [vI a0] [(0,vI a0)] Tryz.func154 rfl (by kernel_rfl) rfl fun fr st H K=>?_
 refine W_seq (W_reg ?_)
 refine qg 1 [] H fun fr H=>?_
 refine qe ?_
 refine W_seq (W_reg ?_)
 refine qg 3 [(5,vB (decide (0≤a0)))] H fun fr H=>?_
 refine qg 3 [(8,vB ((decide (0≤a0)) && (decide (a0≤999999999))))] H (hs:=by intro _ _; generalize (decide (0≤a0)) = b0; cases b0 <;> kernel_rfl) fun fr H=>?_
 refine qg 1 [(2,vB ((decide (0≤a0)) && (decide (a0≤999999999))))] H fun fr H=>?_
 refine qe ?_
 refine W_ret ?_
 obtain rfl:=Option.some.inj hr
 exact qr [vB ((decide (0≤a0)) && (decide (a0≤999999999)))] H K
def F157 (n:Nat) (a0:ByteArray):Option Bool :=
 bif (decide ((a0.size:Int) < 1)) || (decide (16 < (a0.size:Int))) then
  (some false)
 else
  (bif isKey a0 then
   (some false)
  else
   ((iter (σ:=Int) (ρ:=Unit ⊕ Unit) (fun s3=>bif decide (s3 < (a0.size:Int)) then
     ((idxS a0 s3).bind fun x5 =>
     bif (!(((decide (65≤x5)) && (decide (x5≤90))) || ((decide (97≤x5)) && (decide (x5≤122))))) && ((s3 == 0) || ((x5 != 95) && ((decide (x5 < 48)) || (decide (57 < x5))))) then
      (some (.inr (.inl ())))
     else
      (some (.inl (w64 (s3 + 1)))))
    else
     (some (.inr (.inr ())))) n (0:Int)).bind fun r13=>match r13 with
   | .inl _=>some false
   | .inr _=>some true))
theorem F157_R (n:Nat) (a0:ByteArray) (r:Bool) (hr:F157 n a0 = some r) {st:St}:R Tryz.prog AN 157 [.agg [keysV],vS a0] st (.ret (vB r)) st:=by
 unfold F157 at hr
 refine R_pureX [.agg [keysV],vS a0] [(0,.agg [keysV]),(1,vS a0)] Tryz.func157 rfl (by kernel_rfl) rfl fun fr st H K=>?_
 refine W_seq (W_reg ?_)
 refine qg 2 [(2,.cptr ([keysV]) 0)] H fun fr H=>?_
 refine qe ?_
 refine W_seq (W_seq ?_)
 refine W_reg ?_
 refine qg 4 [(11,vB (decide ((a0.size:Int) < 1)))] H fun fr H=>?_
 refine qg 4 [(15,vB ((decide ((a0.size:Int) < 1)) || (decide (16 < (a0.size:Int)))))] H (hs:=by intro _ _; generalize (decide ((a0.size:Int) < 1)) = b0; cases b0 <;> kernel_rfl) fun fr H=>?_
 refine qg 1 [(16,vB ((decide ((a0.size:Int) < 1)) || (decide (16 < (a0.size:Int)))))] H fun fr H=>?_
 rcases csplit hr with ⟨hc1,hr⟩ | ⟨hc1,hr⟩
 ·rw [hc1] at H
  refine qg 5 [(21,vB true)] H fun fr H=>?_
  refine qe ?_
  refine qT H rfl ?_
  refine W_seq (W_reg ?_)
  refine qg 1 [(4,vB false)] H fun fr H=>?_
  refine qe ?_
  refine W_ret ?_
  obtain rfl:=Option.some.inj hr
  exact qr [vB false] H K
 rw [hc1] at H
 refine qg 3 [(18,keysV),(19,vS a0)] H fun fr H=>?_
 refine qv (.lookup 85 keysV (vS a0)) H (run_key) fun fr H=>?_
 refine qg 1 [(21,vB (isKey a0))] H fun fr H=>?_
 refine qe ?_
 rcases csplit hr with ⟨hc2,hr⟩ | ⟨hc2,hr⟩
 ·refine qT H hc2 ?_
  refine W_seq (W_reg ?_)
  refine qg 1 [(4,vB false)] H fun fr H=>?_
  refine qe ?_
  refine W_ret ?_
  obtain rfl:=Option.some.inj hr
  exact qr [vB false] H K
 refine qF H hc2 ?_
 refine W_skip ?_
 refine W_seq (W_seq ?_)
 refine W_reg ?_
 refine qg 3 [(23,vI (a0.size:Int)),(24,vI 0)] H fun fr H=>?_
 refine qe ?_
 refine W_block ?_
 obtain ⟨r13,hr13,hr⟩:=obind hr
 refine W_iter hr13 (fun (s3:Int) fr st=>Rd fr [(1,vS a0),(23,vI (a0.size:Int)),(24,vI s3)]∧HL st []) (fun (r13:Unit ⊕ Unit) e fr st=>match r13 with | .inl r13a=>(e = .ret∧Rd fr [(4,vB false)]∧HL st []) | .inr r13b=>(e = .exit 0∧Rd fr []∧HL st [])) ⟨H.tq,K.keep []⟩ ?_ ?_
 ·intro s3 fr st r hi hr
  obtain ⟨H,K⟩:=hi
  refine W_seq (W_reg ?_)
  refine qg 1 [(25,vB (decide (s3 < (a0.size:Int))))] H fun fr H=>?_
  refine qe ?_
  refine W_seq ?_
  rcases csplit hr with ⟨hc4,hr⟩ | ⟨hc4,hr⟩
  rotate_left
  ·refine qF H hc4 ?_
   refine W_exit ?_
   obtain rfl:=Option.some.inj hr
   exact ⟨by simp,⟨rfl,H.tq,K.keep []⟩⟩
  refine qT H hc4 ?_
  refine W_skip ?_
  refine W_seq (W_block ?_)
  refine W_seq (W_reg ?_)
  refine qg 2 [(5,vI s3)] H fun fr H=>?_
  refine qe ?_
  refine W_seq (W_reg ?_)
  refine qg 2 [(27,vS a0),(28,vI s3)] H fun fr H=>?_
  obtain ⟨x5,hx5,hr⟩:=obind hr
  refine qv (.index 9 (vS a0) (vI s3)) H (run_idxS (by kernel_rfl) hx5) fun fr H=>?_
  refine qg 1 [(6,vU x5)] H fun fr H=>?_
  refine qe ?_
  refine W_seq (W_reg ?_)
  refine qg 3 [(32,vB (decide (65≤x5)))] H fun fr H=>?_
  refine qg 3 [(35,vB ((decide (65≤x5)) && (decide (x5≤90))))] H (hs:=by intro _ _; generalize (decide (65≤x5)) = b0; cases b0 <;> kernel_rfl) fun fr H=>?_
  refine qg 1 [(36,vB ((decide (65≤x5)) && (decide (x5≤90))))] H fun fr H=>?_
  refine qseg 7 [(43,vB (((decide (65≤x5)) && (decide (x5≤90))) || ((decide (97≤x5)) && (decide (x5≤122)))))] H ?_ ?_
  ·cases hg6:((decide (65≤x5)) && (decide (x5≤90)))
   ·rw [hg6] at H
    refine seg_go 4 3 [(39,vB (decide (97≤x5)))] H fun fr H=>?_
    cases hg7:(decide (97≤x5))
    ·rw [hg7] at H
     refine seg_go 0 4 [(43,vB false)] H fun fr H=>?_
     exact seg_end (by (try simp only [hg6,hg7]); exact H.tq)
    ·rw [hg7] at H
     refine seg_go 0 4 [(43,vB (decide (x5≤122)))] H fun fr H=>?_
     exact seg_end (by (try simp only [hg6,hg7]); exact H.tq)
   ·rw [hg6] at H
    refine seg_go 0 7 [(43,vB true)] H fun fr H=>?_
    exact seg_end (by (try simp only [hg6]); exact H.tq)
  intro fr H
  refine qg 1 [(7,vB (((decide (65≤x5)) && (decide (x5≤90))) || ((decide (97≤x5)) && (decide (x5≤122)))))] H fun fr H=>?_
  refine qe ?_
  refine W_seq (W_reg ?_)
  refine qg 3 [(46,vB (!(((decide (65≤x5)) && (decide (x5≤90))) || ((decide (97≤x5)) && (decide (x5≤122))))))] H fun fr H=>?_
  refine qseg 15 [(61,vB ((!(((decide (65≤x5)) && (decide (x5≤90))) || ((decide (97≤x5)) && (decide (x5≤122))))) && ((s3 == 0) || ((x5 != 95) && ((decide (x5 < 48)) || (decide (57 < x5)))))))] H ?_ ?_
  ·cases hg8:(!(((decide (65≤x5)) && (decide (x5≤90))) || ((decide (97≤x5)) && (decide (x5≤122)))))
   ·rw [hg8] at H
    refine seg_go 0 15 [(61,vB false)] H fun fr H=>?_
    exact seg_end (by (try simp only [hg8]); exact H.tq)
   ·rw [hg8] at H
    refine seg_go 12 3 [(49,vB (s3 == 0))] H fun fr H=>?_
    cases hg9:(s3 == 0)
    ·rw [hg9] at H
     refine seg_go 9 3 [(52,vB (x5 != 95))] H fun fr H=>?_
     cases hg10:(x5 != 95)
     ·rw [hg10] at H
      refine seg_go 0 9 [(61,vB false)] H fun fr H=>?_
      exact seg_end (by (try simp only [hg8,hg9,hg10]); exact H.tq)
     ·rw [hg10] at H
      refine seg_go 6 3 [(55,vB (decide (x5 < 48)))] H fun fr H=>?_
      cases hg11:(decide (x5 < 48))
      ·rw [hg11] at H
       refine seg_go 0 6 [(61,vB (decide (57 < x5)))] H fun fr H=>?_
       exact seg_end (by (try simp only [hg8,hg9,hg10,hg11]); exact H.tq)
      ·rw [hg11] at H
       refine seg_go 0 6 [(61,vB true)] H fun fr H=>?_
       exact seg_end (by (try simp only [hg8,hg9,hg10,hg11]); exact H.tq)
    ·rw [hg9] at H
     refine seg_go 0 12 [(61,vB true)] H fun fr H=>?_
     exact seg_end (by (try simp only [hg8,hg9]); exact H.tq)
  intro fr H
  refine qe ?_
  rcases csplit hr with ⟨hc12,hr⟩ | ⟨hc12,hr⟩
  ·refine qT H hc12 ?_
   refine W_seq (W_reg ?_)
   refine qg 1 [(4,vB false)] H fun fr H=>?_
   refine qe ?_
   refine W_ret ?_
   obtain rfl:=Option.some.inj hr
   exact ⟨by simp,⟨rfl,H.tq,K.keep []⟩⟩
  refine qF H hc12 ?_
  refine W_skip ?_
  refine W_reg ?_
  refine qg 2 [(24,vI (w64 (s3 + 1)))] H fun fr H=>?_
  refine qe ?_
  obtain rfl:=Option.some.inj hr
  exact ⟨rfl,⟨H.tq,K.keep []⟩⟩
 rcases r13 with r13a | r13b
 ·rintro e fr st ⟨rfl,H,K⟩
  obtain rfl:=Option.some.inj hr
  exact qr [vB false] H K
 rintro e fr st ⟨rfl,H,K⟩
 refine W_seq (W_reg ?_)
 refine qg 1 [(4,vB true)] H fun fr H=>?_
 refine qe ?_
 refine W_ret ?_
 obtain rfl:=Option.some.inj hr
 exact qr [vB true] H K
def F222 (a0:ByteArray) (a1:ByteArray):Option (ByteArray × ByteArray × Bool) :=
 (index1F a0 a1).bind fun x1 =>
 bif decide (0≤x1) then
  ((subS a0 0 x1).bind fun x3 =>
  (subS a0 (w64 (x1 + (a1.size:Int))) (a0.size:Int)).bind fun x4 =>
  some (x3,x4,true))
 else
  (some (a0,(bs []),false))
theorem F222_R (a0:ByteArray) (a1:ByteArray) (r:ByteArray × ByteArray × Bool) (hr:F222 a0 a1 = some r) {st:St}:R Tryz.prog AN 222 [vS a0,vS a1] st (.ret (.tuple [vS r.1,vS r.2.1,vB r.2.2])) st:=by
 unfold F222 at hr
 refine R_pureX [vS a0,vS a1] [(0,vS a0),(1,vS a1)] Tryz.func222 rfl (by kernel_rfl) rfl fun fr st H K=>?_
 refine W_seq (W_reg ?_)
 refine qg 3 [] H fun fr H=>?_
 refine qe ?_
 refine W_seq (W_seq ?_)
 refine W_reg ?_
 refine qg 2 [(8,vS a0),(9,vS a1)] H fun fr H=>?_
 refine qb hr (fun x h s=>index1_R _ _ x h) H fun x1 hr fr H=>?_
 refine qg 1 [(7,vI x1)] H fun fr H=>?_
 refine qe ?_
 refine W_seq (W_reg ?_)
 refine qg 2 [(12,vB (decide (0≤x1)))] H fun fr H=>?_
 refine qe ?_
 rcases csplit hr with ⟨hc2,hr⟩ | ⟨hc2,hr⟩
 rotate_left
 ·refine qF H hc2 ?_
  refine W_skip ?_
  refine W_seq (W_reg ?_)
  refine qg 4 [(4,vS a0),(5,vS (bs [])),(6,vB false)] H fun fr H=>?_
  refine qe ?_
  refine W_ret ?_
  obtain rfl:=Option.some.inj hr
  exact e_ret [vS a0,vS (bs []),vB false] H K (fun _=>resT (by kernel_rfl) (resT (by kernel_rfl) (resT (by kernel_rfl) resN))) (fun _=>by kernel_rfl)
 refine qT H hc2 ?_
 refine W_seq (W_drw ?_)
 refine qg 2 [(13,vS a0),(14,vI x1)] H fun fr H=>?_
 obtain ⟨x3,hx3,hr⟩:=obind hr
 refine qv (.slice 9 (vS a0) none (some (vI x1))) H (run_subS_hi (by kernel_rfl) hx3) fun fr H=>?_
 refine qg 5 [(16,vS a0),(20,vI (w64 (x1 + (a1.size:Int))))] H fun fr H=>?_
 obtain ⟨x4,hx4,hr⟩:=obind hr
 refine qv (.slice 9 (vS a0) (some (vI (w64 (x1 + (a1.size:Int))))) none) H (run_subS_lo (by kernel_rfl) hx4) fun fr H=>?_
 refine qg 3 [(4,vS x3),(5,vS x4),(6,vB true)] H fun fr H=>?_
 refine qe (qd ?_)
 refine W_ret ?_
 obtain rfl:=Option.some.inj hr
 exact e_ret [vS x3,vS x4,vB true] H K (fun _=>resT (by kernel_rfl) (resT (by kernel_rfl) (resT (by kernel_rfl) resN))) (fun _=>by kernel_rfl)
def F196 (a0:ByteArray) (a1:ByteArray):Option (ByteArray × ByteArray × Bool) :=
 (F222 a0 a1).bind fun x1 =>
 some (x1.1,x1.2.1,x1.2.2)
theorem F196_R (a0:ByteArray) (a1:ByteArray) (r:ByteArray × ByteArray × Bool) (hr:F196 a0 a1 = some r) {st:St}:R Tryz.prog AN 196 [vS a0,vS a1] st (.ret (.tuple [vS r.1,vS r.2.1,vB r.2.2])) st:=by
 unfold F196 at hr
 refine R_pureX [vS a0,vS a1] [(0,vS a0),(1,vS a1)] Tryz.func196 rfl (by kernel_rfl) rfl fun fr st H K=>?_
 refine W_seq (W_reg ?_)
 refine qg 3 [] H fun fr H=>?_
 refine qe ?_
 refine W_seq (W_reg ?_)
 refine qg 2 [(7,vS a0),(8,vS a1)] H fun fr H=>?_
 refine qb hr (fun x h s=>F222_R  _ _ x h) H fun x1 hr fr H=>?_
 refine qg 6 [(4,vS x1.1),(5,vS x1.2.1),(6,vB x1.2.2)] H fun fr H=>?_
 refine qe ?_
 refine W_ret ?_
 obtain rfl:=Option.some.inj hr
 exact e_ret [vS x1.1,vS x1.2.1,vB x1.2.2] H K (fun _=>resT (by kernel_rfl) (resT (by kernel_rfl) (resT (by kernel_rfl) resN))) (fun _=>by kernel_rfl)
def F155 (n:Nat) (a0:ByteArray):Option Bool :=
 (iter (σ:=ByteArray × Int) (ρ:=Bool ⊕ Unit) (fun s1=>bif decide (s1.2 < 3) then
   ((F196 s1.1 (bs [46])).bind fun x3 =>
   (F157 n x3.1).bind fun x4 =>
   bif !x4 then
    (some (.inr (.inl false)))
   else
    (bif !x3.2.2 then
     (some (.inr (.inl true)))
    else
     (some (.inl (x3.2.1,w64 (s1.2 + 1))))))
  else
   (some (.inr (.inr ())))) n (a0,(0:Int))).bind fun r7=>match r7 with
 | .inl r7a=>some r7a
 | .inr _=>some false
theorem F155_R (n:Nat) (a0:ByteArray) (r:Bool) (hr:F155 n a0 = some r) {st:St}:R Tryz.prog AN 155 [.agg [keysV],vS a0] st (.ret (vB r)) st:=by
 unfold F155 at hr
 refine R_pureX [.agg [keysV],vS a0] [(0,.agg [keysV]),(1,vS a0)] Tryz.func155 rfl (by kernel_rfl) rfl fun fr st H K=>?_
 refine W_seq (W_reg ?_)
 refine qg 2 [(2,.cptr ([keysV]) 0)] H fun fr H=>?_
 refine qe ?_
 refine W_seq (W_seq ?_)
 refine W_reg ?_
 refine qg 1 [(8,vI 0)] H fun fr H=>?_
 refine qe ?_
 refine W_block ?_
 obtain ⟨r7,hr7,hr⟩:=obind hr
 refine W_iter hr7 (fun (s1:ByteArray × Int) fr st=>Rd fr [(1,vS s1.1),(2,.cptr ([keysV]) 0),(8,vI s1.2)]∧HL st []) (fun (r7:Bool ⊕ Unit) e fr st=>match r7 with | .inl r7a=>(e = .ret∧Rd fr [(4,vB r7a)]∧HL st []) | .inr r7b=>(e = .exit 0∧Rd fr []∧HL st [])) ⟨H.tq,K.keep []⟩ ?_ ?_
 ·intro s1 fr st r hi hr
  obtain ⟨H,K⟩:=hi
  refine W_seq (W_reg ?_)
  refine qg 1 [(9,vB (decide (s1.2 < 3)))] H fun fr H=>?_
  refine qe ?_
  refine W_seq ?_
  rcases csplit hr with ⟨hc2,hr⟩ | ⟨hc2,hr⟩
  rotate_left
  ·refine qF H hc2 ?_
   refine W_exit ?_
   obtain rfl:=Option.some.inj hr
   exact ⟨by simp,⟨rfl,H.tq,K.keep []⟩⟩
  refine qT H hc2 ?_
  refine W_skip ?_
  refine W_seq (W_block ?_)
  refine W_seq (W_reg ?_)
  refine qg 1 [(11,vS s1.1)] H fun fr H=>?_
  refine qb hr (fun x h s=>F196_R  _ _ x h) H fun x3 hr fr H=>?_
  refine qg 7 [(5,vS x3.1),(6,vS x3.2.1),(7,vB x3.2.2)] H fun fr H=>?_
  refine qe ?_
  refine W_seq (W_seq ?_)
  refine W_reg ?_
  refine qg 2 [(16,.agg [keysV]),(17,vS x3.1)] H fun fr H=>?_
  refine qb hr (fun x h s=>F157_R n _ x h) H fun x4 hr fr H=>?_
  refine qg 1 [(19,vB !x4)] H fun fr H=>?_
  refine qe ?_
  rcases csplit hr with ⟨hc5,hr⟩ | ⟨hc5,hr⟩
  ·refine qT H hc5 ?_
   refine W_seq (W_reg ?_)
   refine qg 1 [(4,vB false)] H fun fr H=>?_
   refine qe ?_
   refine W_ret ?_
   obtain rfl:=Option.some.inj hr
   exact ⟨by simp,⟨rfl,H.tq,K.keep []⟩⟩
  refine qF H hc5 ?_
  refine W_skip ?_
  refine W_seq (W_seq ?_)
  refine W_reg ?_
  refine qg 2 [(21,vB !x3.2.2)] H fun fr H=>?_
  refine qe ?_
  rcases csplit hr with ⟨hc6,hr⟩ | ⟨hc6,hr⟩
  ·refine qT H hc6 ?_
   refine W_seq (W_reg ?_)
   refine qg 1 [(4,vB true)] H fun fr H=>?_
   refine qe ?_
   refine W_ret ?_
   obtain rfl:=Option.some.inj hr
   exact ⟨by simp,⟨rfl,H.tq,K.keep []⟩⟩
  refine qF H hc6 ?_
  refine W_skip ?_
  refine W_reg ?_
  refine qg 2 [(1,vS x3.2.1)] H fun fr H=>?_
  refine qe ?_
  refine W_reg ?_
  refine qg 2 [(8,vI (w64 (s1.2 + 1)))] H fun fr H=>?_
  refine qe ?_
  obtain rfl:=Option.some.inj hr
  exact ⟨rfl,⟨H.tq,K.keep []⟩⟩
 rcases r7 with r7a | r7b
 ·rintro e fr st ⟨rfl,H,K⟩
  obtain rfl:=Option.some.inj hr
  exact qr [vB r7a] H K
 rintro e fr st ⟨rfl,H,K⟩
 refine W_seq (W_reg ?_)
 refine qg 1 [(4,vB false)] H fun fr H=>?_
 refine qe ?_
 refine W_ret ?_
 obtain rfl:=Option.some.inj hr
 exact qr [vB false] H K
end Go.Proofs.YtbecjgckobhmpaaGreatDoor
end
section
namespace Go.Proofs.YtbecjgckobhmpaaGreatDoor
open Go Go.AM Go.Proofs
set_option maxRecDepth 100000
set_option maxHeartbeats 4000000
def F97 (n:Nat) (a0:Node):Option Bool :=
 (bif a0.kind == 1 then
   ((F154 a0.n).bind fun x3 =>
   some (x3,(Node.mk a0.kind (bs []) (bs []) a0.n 0 0 false ([]:List Node) 0)))
  else
   ((bif a0.kind == 2 then
     (some (a0.kind == 2))
    else
     (bif a0.kind == 24 then
      (some (a0.kind == 24))
     else
      (bif a0.kind == 25 then
       (some (a0.kind == 25))
      else
       (some (a0.kind == 33)))):Option (Bool)).bind fun j7 =>
   bif j7 then
    ((F155 n a0.name).bind fun x9 =>
    some (x9,(Node.mk a0.kind a0.name (bs []) 0 0 0 false ([]:List Node) 0)))
   else
    (bif a0.kind == 5 then
     ((F156 a0.name).bind fun x11 =>
     some ((x11 != 0),(Node.mk a0.kind a0.name (bs []) 0 0 0 false ([]:List Node) 0)))
    else
     ((bif a0.kind == 7 then
       (some (a0.kind == 7))
      else
       (bif a0.kind == 8 then
        (some (a0.kind == 8))
       else
        (bif a0.kind == 58 then
         (some (a0.kind == 58))
        else
         (some (a0.kind == 52)))):Option (Bool)).bind fun j15 =>
     bif j15 then
      ((F157 n a0.name).bind fun x17 =>
      bif x17 then
       ((F154 a0.n).bind fun x19 =>
       some (x19,(Node.mk a0.kind a0.name (bs []) a0.n 0 0 false ([]:List Node) 0)))
      else
       (some (false,(Node.mk a0.kind a0.name (bs []) a0.n 0 0 false ([]:List Node) 0))))
     else
      (bif a0.kind == 35 then
       ((F157 n a0.name).bind fun x21 =>
       bif x21 then
        ((F154 a0.n).bind fun x23 =>
        some (x23,(Node.mk a0.kind a0.name (bs []) a0.n 0 0 a0.ghost ([]:List Node) 0)))
       else
        (some (false,(Node.mk a0.kind a0.name (bs []) a0.n 0 0 a0.ghost ([]:List Node) 0))))
      else
       (bif a0.kind == 21 then
        (some (((a0.n == 0) || (a0.n == 1)),(Node.mk a0.kind (bs []) (bs []) a0.n 0 0 false ([]:List Node) 0)))
       else
        ((bif a0.kind == 27 then
          (some (a0.kind == 27))
         else
          (bif a0.kind == 28 then
           (some (a0.kind == 28))
          else
           (bif a0.kind == 51 then
            (some (a0.kind == 51))
           else
            (some (a0.kind == 53)))):Option (Bool)).bind fun j28 =>
        bif j28 then
         ((F157 n a0.name).bind fun x30 =>
         some (x30,(Node.mk a0.kind a0.name (bs []) 0 0 0 false ([]:List Node) 0)))
        else
         (bif a0.kind == 50 then
          ((F157 n a0.name).bind fun x32 =>
          bif x32 then
           ((F154 a0.n).bind fun x34 =>
           bif x34 then
            ((F154 a0.len).bind fun x36 =>
            bif x36 then
             ((F154 a0.init).bind fun x38 =>
             bif x38 then
              (bif strEq a0.other (bs []) then
               (some (true,(Node.mk a0.kind a0.name a0.other a0.n a0.len a0.init a0.ghost ([]:List Node) 0)))
              else
               (bif a0.n == 0 then
                ((F157 n a0.other).bind fun x42 =>
                some (x42,(Node.mk a0.kind a0.name a0.other a0.n a0.len a0.init a0.ghost ([]:List Node) 0)))
               else
                (some (false,(Node.mk a0.kind a0.name a0.other a0.n a0.len a0.init a0.ghost ([]:List Node) 0)))))
             else
              (some (false,(Node.mk a0.kind a0.name a0.other a0.n a0.len a0.init a0.ghost ([]:List Node) 0))))
            else
             (some (false,(Node.mk a0.kind a0.name a0.other a0.n a0.len a0.init a0.ghost ([]:List Node) 0))))
           else
            (some (false,(Node.mk a0.kind a0.name a0.other a0.n a0.len a0.init a0.ghost ([]:List Node) 0))))
          else
           (some (false,(Node.mk a0.kind a0.name a0.other a0.n a0.len a0.init a0.ghost ([]:List Node) 0))))
         else
          (bif a0.kind == 57 then
           ((F157 n a0.name).bind fun x44 =>
           bif x44 then
            (bif strEq a0.other (bs []) then
             (some (true,(Node.mk a0.kind a0.name a0.other 0 0 0 false ([]:List Node) 0)))
            else
             ((F157 n a0.other).bind fun x47 =>
             some (x47,(Node.mk a0.kind a0.name a0.other 0 0 0 false ([]:List Node) 0))))
           else
            (some (false,(Node.mk a0.kind a0.name a0.other 0 0 0 false ([]:List Node) 0))))
          else
           (bif a0.kind == 60 then
            ((F157 n a0.name).bind fun x49 =>
            bif x49 then
             ((F157 n a0.other).bind fun x51 =>
             some (x51,(Node.mk a0.kind a0.name a0.other 0 0 0 false ([]:List Node) 0)))
            else
             (some (false,(Node.mk a0.kind a0.name a0.other 0 0 0 false ([]:List Node) 0))))
           else
            (bif a0.kind == 61 then
             ((F157 n a0.name).bind fun x53 =>
             bif x53 then
              ((F155 n a0.other).bind fun x55 =>
              some ((x55 && ((a0.n == 0) || (a0.n == 1))),(Node.mk a0.kind a0.name a0.other a0.n 0 0 false ([]:List Node) 0)))
             else
              (some (false,(Node.mk a0.kind a0.name a0.other a0.n 0 0 false ([]:List Node) 0))))
            else
             (some (true,(Node.mk a0.kind (bs []) (bs []) 0 0 0 false ([]:List Node) 0))))))))))))):Option ((Bool × Node))).bind fun j58 =>
 bif j58.1 then
  (bif strEq a0.name j58.2.name then
   (bif strEq a0.other j58.2.other then
    (bif a0.n == j58.2.n then
     (bif a0.len == j58.2.len then
      (bif a0.init == j58.2.init then
       (some (a0.ghost == j58.2.ghost))
      else
       (some false))
     else
      (some false))
    else
     (some false))
   else
    (some false))
  else
   (some false))
 else
  (some false)
theorem F97_R (n:Nat) (a0:Node) (r:Bool) (hr:F97 n a0 = some r) {st:St} {p0:Spare}:R Tryz.prog AN 97 [.agg [keysV],.agg (cNode p0 a0)] st (.ret (vB r)) st:=by
 unfold F97 at hr
 refine R_pureX [.agg [keysV],aN a0] [(0,.agg [keysV]),(1,aN a0)] Tryz.func97 rfl (by simp only [strip,stripL,strip_keysV,stripL_cNode,Option.bind_some,Option.map_some]) rfl fun fr st H K=>?_
 refine W_seq (W_reg ?_)
 refine qg 3 [(2,.cptr ([keysV]) 0),(3,cN a0 0)] H fun fr H=>?_
 refine qe ?_
 refine W_seq (W_reg ?_)
 refine qg 3 [(9,.agg [vI a0.kind,vS (bs []),vS (bs []),vI 0,vI 0,vI 0,vB false,vL tNode ([]:List Node) .nil,vI 0])] H fun fr H=>?_
 refine qal 24 [vI 0,vS (bs []),vS (bs []),vI 0,vI 0,vI 0,vB false,vL tNode ([]:List Node) .nil,vI 0] H K fun id1 st K fr H=>?_
 refine qst 24 0 (.agg [vI a0.kind,vS (bs []),vS (bs []),vI 0,vI 0,vI 0,vB false,vL tNode ([]:List Node) .nil,vI 0]) [vI a0.kind,vS (bs []),vS (bs []),vI 0,vI 0,vI 0,vB false,vL tNode ([]:List Node) .nil,vI 0] 0 H K rfl fun st K fr H=>?_
 refine qe ?_
 refine W_seq (W_reg ?_)
 refine qg 1 [(6,vB true)] H fun fr H=>?_
 refine qe ?_
 refine W_seq ?_
 obtain ⟨j58,hj58,hr⟩:=obind hr
 refine W_via (fun e fr st=>e = .normal∧Rd fr [(3,cN a0 0),(5,.ptr id1 0),(6,vB j58.1)]∧HL st [.obj id1 (.cells 24 [vI j58.2.kind,vS j58.2.name,vS j58.2.other,vI j58.2.n,vI j58.2.len,vI j58.2.init,vB j58.2.ghost,vL tNode j58.2.kids .nil,vI j58.2.pos])]) ?_ ?_
 ·replace hr:=hj58
  refine W_seq (W_reg ?_)
  refine qg 2 [(11,vI a0.kind)] H fun fr H=>?_
  refine qe ?_
  refine W_block ?_
  refine W_seq (W_reg ?_)
  refine qg 2 [(12,vB (a0.kind == 1))] H fun fr H=>?_
  refine qe ?_
  rcases csplit hr with ⟨hc2,hr⟩ | ⟨hc2,hr⟩
  ·refine qT H hc2 ?_
   refine W_drw ?_
   refine qg 4 [(15,vI a0.n),(17,vI a0.n)] H fun fr H=>?_
   refine qb hr (fun x h s=>F154_R  _ x h) H fun x3 hr fr H=>?_
   refine qg 1 [(19,.ptr id1 3)] H fun fr H=>?_
   refine qst 3 3 (vI a0.n) [vI a0.kind,vS (bs []),vS (bs []),vI a0.n,vI 0,vI 0,vB false,vL tNode ([]:List Node) .nil,vI 0] 0 H K rfl fun st K fr H=>?_
   refine qg 1 [(6,vB x3)] H fun fr H=>?_
   refine qe (qdI K [0,0,0,0,0,0,.put 0,0] ?_)
   obtain rfl:=Option.some.inj hr
   exact ⟨rfl,H.tq,K.keep [true]⟩
  refine qF H hc2 ?_
  refine W_seq ?_
  obtain ⟨j7,hj7,hr⟩:=obind hr
  refine W_via (fun e fr st=>e = .normal∧Rd fr [(2,.cptr ([keysV]) 0),(3,cN a0 0),(5,.ptr id1 0),(6,vB true),(11,vI a0.kind),(20,vB j7)]∧HL st [.obj id1 (.cells 24 [vI a0.kind,vS (bs []),vS (bs []),vI 0,vI 0,vI 0,vB false,vL tNode ([]:List Node) .nil,vI 0])]) ?_ ?_
  ·replace hr:=hj7
   refine W_seq (W_reg ?_)
   refine qg 2 [(20,vB (a0.kind == 2))] H fun fr H=>?_
   refine qe ?_
   rcases csplit hr with ⟨hc4,hr⟩ | ⟨hc4,hr⟩
   ·refine qT H hc4 ?_
    refine W_skip ?_
    obtain rfl:=Option.some.inj hr
    exact ⟨rfl,H.tq,K.keep [true]⟩
   refine qF H hc4 ?_
   refine W_seq (W_reg ?_)
   refine qg 2 [(20,vB (a0.kind == 24))] H fun fr H=>?_
   refine qe ?_
   rcases csplit hr with ⟨hc5,hr⟩ | ⟨hc5,hr⟩
   ·refine qT H hc5 ?_
    refine W_skip ?_
    obtain rfl:=Option.some.inj hr
    exact ⟨rfl,H.tq,K.keep [true]⟩
   refine qF H hc5 ?_
   refine W_seq (W_reg ?_)
   refine qg 2 [(20,vB (a0.kind == 25))] H fun fr H=>?_
   refine qe ?_
   rcases csplit hr with ⟨hc6,hr⟩ | ⟨hc6,hr⟩
   ·refine qT H hc6 ?_
    refine W_skip ?_
    obtain rfl:=Option.some.inj hr
    exact ⟨rfl,H.tq,K.keep [true]⟩
   refine qF H hc6 ?_
   refine W_reg ?_
   refine qg 2 [(20,vB (a0.kind == 33))] H fun fr H=>?_
   refine qe ?_
   obtain rfl:=Option.some.inj hr
   exact ⟨rfl,H.tq,K.keep [true]⟩
  rintro e fr st ⟨rfl,H,K⟩
  rcases csplit hr with ⟨hc8,hr⟩ | ⟨hc8,hr⟩
  ·refine qT H hc8 ?_
   refine W_drw ?_
   refine qg 5 [(26,vS a0.name),(27,.agg [keysV]),(29,vS a0.name)] H fun fr H=>?_
   refine qb hr (fun x h s=>F155_R n _ x h) H fun x9 hr fr H=>?_
   refine qg 1 [(31,.ptr id1 1)] H fun fr H=>?_
   refine qst 9 1 (vS a0.name) [vI a0.kind,vS a0.name,vS (bs []),vI 0,vI 0,vI 0,vB false,vL tNode ([]:List Node) .nil,vI 0] 0 H K rfl fun st K fr H=>?_
   refine qg 1 [(6,vB x9)] H fun fr H=>?_
   refine qe (qdI K [0,0,0,0,0,0,0,.put 0,0] ?_)
   obtain rfl:=Option.some.inj hr
   exact ⟨rfl,H.tq,K.keep [true]⟩
  refine qF H hc8 ?_
  refine W_seq (W_reg ?_)
  refine qg 2 [(32,vB (a0.kind == 5))] H fun fr H=>?_
  refine qe ?_
  rcases csplit hr with ⟨hc10,hr⟩ | ⟨hc10,hr⟩
  ·refine qT H hc10 ?_
   refine W_drw ?_
   refine qg 4 [(35,vS a0.name),(37,vS a0.name)] H fun fr H=>?_
   refine qb hr (fun x h s=>F156_R  _ x h) H fun x11 hr fr H=>?_
   refine qg 2 [(39,vB (x11 != 0)),(40,.ptr id1 1)] H fun fr H=>?_
   refine qst 9 1 (vS a0.name) [vI a0.kind,vS a0.name,vS (bs []),vI 0,vI 0,vI 0,vB false,vL tNode ([]:List Node) .nil,vI 0] 0 H K rfl fun st K fr H=>?_
   refine qg 1 [(6,vB (x11 != 0))] H fun fr H=>?_
   refine qe (qdI K [0,0,0,0,0,0,0,.put 0,0] ?_)
   obtain rfl:=Option.some.inj hr
   exact ⟨rfl,H.tq,K.keep [true]⟩
  refine qF H hc10 ?_
  refine W_seq ?_
  obtain ⟨j15,hj15,hr⟩:=obind hr
  refine W_via (fun e fr st=>e = .normal∧Rd fr [(2,.cptr ([keysV]) 0),(3,cN a0 0),(5,.ptr id1 0),(6,vB true),(11,vI a0.kind),(41,vB j15)]∧HL st [.obj id1 (.cells 24 [vI a0.kind,vS (bs []),vS (bs []),vI 0,vI 0,vI 0,vB false,vL tNode ([]:List Node) .nil,vI 0])]) ?_ ?_
  ·replace hr:=hj15
   refine W_seq (W_reg ?_)
   refine qg 2 [(41,vB (a0.kind == 7))] H fun fr H=>?_
   refine qe ?_
   rcases csplit hr with ⟨hc12,hr⟩ | ⟨hc12,hr⟩
   ·refine qT H hc12 ?_
    refine W_skip ?_
    obtain rfl:=Option.some.inj hr
    exact ⟨rfl,H.tq,K.keep [true]⟩
   refine qF H hc12 ?_
   refine W_seq (W_reg ?_)
   refine qg 2 [(41,vB (a0.kind == 8))] H fun fr H=>?_
   refine qe ?_
   rcases csplit hr with ⟨hc13,hr⟩ | ⟨hc13,hr⟩
   ·refine qT H hc13 ?_
    refine W_skip ?_
    obtain rfl:=Option.some.inj hr
    exact ⟨rfl,H.tq,K.keep [true]⟩
   refine qF H hc13 ?_
   refine W_seq (W_reg ?_)
   refine qg 2 [(41,vB (a0.kind == 58))] H fun fr H=>?_
   refine qe ?_
   rcases csplit hr with ⟨hc14,hr⟩ | ⟨hc14,hr⟩
   ·refine qT H hc14 ?_
    refine W_skip ?_
    obtain rfl:=Option.some.inj hr
    exact ⟨rfl,H.tq,K.keep [true]⟩
   refine qF H hc14 ?_
   refine W_reg ?_
   refine qg 2 [(41,vB (a0.kind == 52))] H fun fr H=>?_
   refine qe ?_
   obtain rfl:=Option.some.inj hr
   exact ⟨rfl,H.tq,K.keep [true]⟩
  rintro e fr st ⟨rfl,H,K⟩
  rcases csplit hr with ⟨hc16,hr⟩ | ⟨hc16,hr⟩
  ·refine qT H hc16 ?_
   refine W_drw ?_
   refine qg 7 [(47,vS a0.name),(49,vI a0.n),(50,.agg [keysV]),(52,vS a0.name)] H fun fr H=>?_
   refine qb hr (fun x h s=>F157_R n _ x h) H fun x17 hr fr H=>?_
   refine qg 1 [(54,vB x17)] H fun fr H=>?_
   rcases csplit hr with ⟨hc18,hr⟩ | ⟨hc18,hr⟩
   rotate_left
   ·rw [hc18] at H
    refine qg 5 [(58,vB false),(59,.ptr id1 1)] H fun fr H=>?_
    refine qst 9 1 (vS a0.name) [vI a0.kind,vS a0.name,vS (bs []),vI 0,vI 0,vI 0,vB false,vL tNode ([]:List Node) .nil,vI 0] 0 H K rfl fun st K fr H=>?_
    refine qg 1 [(60,.ptr id1 3)] H fun fr H=>?_
    refine qst 3 3 (vI a0.n) [vI a0.kind,vS a0.name,vS (bs []),vI a0.n,vI 0,vI 0,vB false,vL tNode ([]:List Node) .nil,vI 0] 0 H K rfl fun st K fr H=>?_
    refine qg 1 [(6,vB false)] H fun fr H=>?_
    refine qe (qdI K [0,0,0,0,0,0,0,0,0,0,0,0,0,0,.put 0,0,.put 0,0] ?_)
    obtain rfl:=Option.some.inj hr
    exact ⟨rfl,H.tq,K.keep [true]⟩
   rw [hc18] at H
   refine qg 2 [(56,vI a0.n)] H fun fr H=>?_
   refine qb hr (fun x h s=>F154_R  _ x h) H fun x19 hr fr H=>?_
   refine qg 2 [(58,vB x19),(59,.ptr id1 1)] H fun fr H=>?_
   refine qst 9 1 (vS a0.name) [vI a0.kind,vS a0.name,vS (bs []),vI 0,vI 0,vI 0,vB false,vL tNode ([]:List Node) .nil,vI 0] 0 H K rfl fun st K fr H=>?_
   refine qg 1 [(60,.ptr id1 3)] H fun fr H=>?_
   refine qst 3 3 (vI a0.n) [vI a0.kind,vS a0.name,vS (bs []),vI a0.n,vI 0,vI 0,vB false,vL tNode ([]:List Node) .nil,vI 0] 0 H K rfl fun st K fr H=>?_
   refine qg 1 [(6,vB x19)] H fun fr H=>?_
   refine qe (qdI K [0,0,0,0,0,0,0,0,0,0,0,0,0,0,.put 0,0,.put 0,0] ?_)
   obtain rfl:=Option.some.inj hr
   exact ⟨rfl,H.tq,K.keep [true]⟩
  refine qF H hc16 ?_
  refine W_seq (W_reg ?_)
  refine qg 2 [(61,vB (a0.kind == 35))] H fun fr H=>?_
  refine qe ?_
  rcases csplit hr with ⟨hc20,hr⟩ | ⟨hc20,hr⟩
  ·refine qT H hc20 ?_
   refine W_drw ?_
   refine qg 9 [(64,vS a0.name),(66,vI a0.n),(68,vB a0.ghost),(69,.agg [keysV]),(71,vS a0.name)] H fun fr H=>?_
   refine qb hr (fun x h s=>F157_R n _ x h) H fun x21 hr fr H=>?_
   refine qg 1 [(73,vB x21)] H fun fr H=>?_
   rcases csplit hr with ⟨hc22,hr⟩ | ⟨hc22,hr⟩
   rotate_left
   ·rw [hc22] at H
    refine qg 5 [(77,vB false),(78,.ptr id1 1)] H fun fr H=>?_
    refine qst 9 1 (vS a0.name) [vI a0.kind,vS a0.name,vS (bs []),vI 0,vI 0,vI 0,vB false,vL tNode ([]:List Node) .nil,vI 0] 0 H K rfl fun st K fr H=>?_
    refine qg 1 [(79,.ptr id1 3)] H fun fr H=>?_
    refine qst 3 3 (vI a0.n) [vI a0.kind,vS a0.name,vS (bs []),vI a0.n,vI 0,vI 0,vB false,vL tNode ([]:List Node) .nil,vI 0] 0 H K rfl fun st K fr H=>?_
    refine qg 1 [(80,.ptr id1 6)] H fun fr H=>?_
    refine qst 4 6 (vB a0.ghost) [vI a0.kind,vS a0.name,vS (bs []),vI a0.n,vI 0,vI 0,vB a0.ghost,vL tNode ([]:List Node) .nil,vI 0] 0 H K rfl fun st K fr H=>?_
    refine qg 1 [(6,vB false)] H fun fr H=>?_
    refine qe (qdI K [0,0,0,0,0,0,0,0,0,0,0,0,0,0,0,0,.put 0,0,.put 0,0,.put 0,0] ?_)
    obtain rfl:=Option.some.inj hr
    exact ⟨rfl,H.tq,K.keep [true]⟩
   rw [hc22] at H
   refine qg 2 [(75,vI a0.n)] H fun fr H=>?_
   refine qb hr (fun x h s=>F154_R  _ x h) H fun x23 hr fr H=>?_
   refine qg 2 [(77,vB x23),(78,.ptr id1 1)] H fun fr H=>?_
   refine qst 9 1 (vS a0.name) [vI a0.kind,vS a0.name,vS (bs []),vI 0,vI 0,vI 0,vB false,vL tNode ([]:List Node) .nil,vI 0] 0 H K rfl fun st K fr H=>?_
   refine qg 1 [(79,.ptr id1 3)] H fun fr H=>?_
   refine qst 3 3 (vI a0.n) [vI a0.kind,vS a0.name,vS (bs []),vI a0.n,vI 0,vI 0,vB false,vL tNode ([]:List Node) .nil,vI 0] 0 H K rfl fun st K fr H=>?_
   refine qg 1 [(80,.ptr id1 6)] H fun fr H=>?_
   refine qst 4 6 (vB a0.ghost) [vI a0.kind,vS a0.name,vS (bs []),vI a0.n,vI 0,vI 0,vB a0.ghost,vL tNode ([]:List Node) .nil,vI 0] 0 H K rfl fun st K fr H=>?_
   refine qg 1 [(6,vB x23)] H fun fr H=>?_
   refine qe (qdI K [0,0,0,0,0,0,0,0,0,0,0,0,0,0,0,0,.put 0,0,.put 0,0,.put 0,0] ?_)
   obtain rfl:=Option.some.inj hr
   exact ⟨rfl,H.tq,K.keep [true]⟩
  refine qF H hc20 ?_
  refine W_seq (W_reg ?_)
  refine qg 2 [(81,vB (a0.kind == 21))] H fun fr H=>?_
  refine qe ?_
  rcases csplit hr with ⟨hc24,hr⟩ | ⟨hc24,hr⟩
  ·refine qT H hc24 ?_
   refine W_drw ?_
   refine qg 6 [(84,vI a0.n),(88,vB (a0.n == 0))] H fun fr H=>?_
   refine qg 4 [(92,vB ((a0.n == 0) || (a0.n == 1)))] H (hs:=by intro _ _; generalize (a0.n == 0) = b0; cases b0 <;> kernel_rfl) fun fr H=>?_
   refine qg 1 [(93,.ptr id1 3)] H fun fr H=>?_
   refine qst 3 3 (vI a0.n) [vI a0.kind,vS (bs []),vS (bs []),vI a0.n,vI 0,vI 0,vB false,vL tNode ([]:List Node) .nil,vI 0] 0 H K rfl fun st K fr H=>?_
   refine qg 1 [(6,vB ((a0.n == 0) || (a0.n == 1)))] H fun fr H=>?_
   refine qe (qdI K [0,0,0,0,0,0,0,0,0,0,0,.put 0,0] ?_)
   obtain rfl:=Option.some.inj hr
   exact ⟨rfl,H.tq,K.keep [true]⟩
  refine qF H hc24 ?_
  refine W_seq ?_
  obtain ⟨j28,hj28,hr⟩:=obind hr
  refine W_via (fun e fr st=>e = .normal∧Rd fr [(2,.cptr ([keysV]) 0),(3,cN a0 0),(5,.ptr id1 0),(6,vB true),(11,vI a0.kind),(94,vB j28)]∧HL st [.obj id1 (.cells 24 [vI a0.kind,vS (bs []),vS (bs []),vI 0,vI 0,vI 0,vB false,vL tNode ([]:List Node) .nil,vI 0])]) ?_ ?_
  ·replace hr:=hj28
   refine W_seq (W_reg ?_)
   refine qg 2 [(94,vB (a0.kind == 27))] H fun fr H=>?_
   refine qe ?_
   rcases csplit hr with ⟨hc25,hr⟩ | ⟨hc25,hr⟩
   ·refine qT H hc25 ?_
    refine W_skip ?_
    obtain rfl:=Option.some.inj hr
    exact ⟨rfl,H.tq,K.keep [true]⟩
   refine qF H hc25 ?_
   refine W_seq (W_reg ?_)
   refine qg 2 [(94,vB (a0.kind == 28))] H fun fr H=>?_
   refine qe ?_
   rcases csplit hr with ⟨hc26,hr⟩ | ⟨hc26,hr⟩
   ·refine qT H hc26 ?_
    refine W_skip ?_
    obtain rfl:=Option.some.inj hr
    exact ⟨rfl,H.tq,K.keep [true]⟩
   refine qF H hc26 ?_
   refine W_seq (W_reg ?_)
   refine qg 2 [(94,vB (a0.kind == 51))] H fun fr H=>?_
   refine qe ?_
   rcases csplit hr with ⟨hc27,hr⟩ | ⟨hc27,hr⟩
   ·refine qT H hc27 ?_
    refine W_skip ?_
    obtain rfl:=Option.some.inj hr
    exact ⟨rfl,H.tq,K.keep [true]⟩
   refine qF H hc27 ?_
   refine W_reg ?_
   refine qg 2 [(94,vB (a0.kind == 53))] H fun fr H=>?_
   refine qe ?_
   obtain rfl:=Option.some.inj hr
   exact ⟨rfl,H.tq,K.keep [true]⟩
  rintro e fr st ⟨rfl,H,K⟩
  rcases csplit hr with ⟨hc29,hr⟩ | ⟨hc29,hr⟩
  ·refine qT H hc29 ?_
   refine W_drw ?_
   refine qg 5 [(100,vS a0.name),(101,.agg [keysV]),(103,vS a0.name)] H fun fr H=>?_
   refine qb hr (fun x h s=>F157_R n _ x h) H fun x30 hr fr H=>?_
   refine qg 1 [(105,.ptr id1 1)] H fun fr H=>?_
   refine qst 9 1 (vS a0.name) [vI a0.kind,vS a0.name,vS (bs []),vI 0,vI 0,vI 0,vB false,vL tNode ([]:List Node) .nil,vI 0] 0 H K rfl fun st K fr H=>?_
   refine qg 1 [(6,vB x30)] H fun fr H=>?_
   refine qe (qdI K [0,0,0,0,0,0,0,.put 0,0] ?_)
   obtain rfl:=Option.some.inj hr
   exact ⟨rfl,H.tq,K.keep [true]⟩
  refine qF H hc29 ?_
  refine W_seq (W_reg ?_)
  refine qg 2 [(106,vB (a0.kind == 50))] H fun fr H=>?_
  refine qe ?_
  rcases csplit hr with ⟨hc31,hr⟩ | ⟨hc31,hr⟩
  ·refine qT H hc31 ?_
   refine W_seq (W_drw ?_)
   refine qg 13 [(109,vS a0.name),(111,vI a0.n),(113,vS a0.other),(115,vI a0.len),(117,vI a0.init),(119,vB a0.ghost),(120,.ptr id1 1)] H fun fr H=>?_
   refine qst 9 1 (vS a0.name) [vI a0.kind,vS a0.name,vS (bs []),vI 0,vI 0,vI 0,vB false,vL tNode ([]:List Node) .nil,vI 0] 0 H K rfl fun st K fr H=>?_
   refine qg 1 [(121,.ptr id1 3)] H fun fr H=>?_
   refine qst 3 3 (vI a0.n) [vI a0.kind,vS a0.name,vS (bs []),vI a0.n,vI 0,vI 0,vB false,vL tNode ([]:List Node) .nil,vI 0] 0 H K rfl fun st K fr H=>?_
   refine qg 1 [(122,.ptr id1 2)] H fun fr H=>?_
   refine qst 9 2 (vS a0.other) [vI a0.kind,vS a0.name,vS a0.other,vI a0.n,vI 0,vI 0,vB false,vL tNode ([]:List Node) .nil,vI 0] 0 H K rfl fun st K fr H=>?_
   refine qg 1 [(123,.ptr id1 4)] H fun fr H=>?_
   refine qst 3 4 (vI a0.len) [vI a0.kind,vS a0.name,vS a0.other,vI a0.n,vI a0.len,vI 0,vB false,vL tNode ([]:List Node) .nil,vI 0] 0 H K rfl fun st K fr H=>?_
   refine qg 1 [(124,.ptr id1 5)] H fun fr H=>?_
   refine qst 3 5 (vI a0.init) [vI a0.kind,vS a0.name,vS a0.other,vI a0.n,vI a0.len,vI a0.init,vB false,vL tNode ([]:List Node) .nil,vI 0] 0 H K rfl fun st K fr H=>?_
   refine qg 1 [(125,.ptr id1 6)] H fun fr H=>?_
   refine qst 4 6 (vB a0.ghost) [vI a0.kind,vS a0.name,vS a0.other,vI a0.n,vI a0.len,vI a0.init,vB a0.ghost,vL tNode ([]:List Node) .nil,vI 0] 0 H K rfl fun st K fr H=>?_
   refine qe (qdI K [0,0,0,0,0,0,0,0,0,0,0,0,0,.put 0,0,.put 0,0,.put 0,0,.put 0,0,.put 0,0,.put 0] ?_)
   refine W_reg ?_
   refine qg 3 [(126,.agg [keysV]),(128,vS a0.name)] H fun fr H=>?_
   refine qb hr (fun x h s=>F157_R n _ x h) H fun x32 hr fr H=>?_
   refine qg 1 [(130,vB x32)] H fun fr H=>?_
   rcases csplit hr with ⟨hc33,hr⟩ | ⟨hc33,hr⟩
   rotate_left
   ·rw [hc33] at H
    refine qg 31 [(6,vB false)] H fun fr H=>?_
    refine qe ?_
    obtain rfl:=Option.some.inj hr
    exact ⟨rfl,H.tq,K.keep [true]⟩
   rw [hc33] at H
   refine qg 2 [(132,vI a0.n)] H fun fr H=>?_
   refine qb hr (fun x h s=>F154_R  _ x h) H fun x34 hr fr H=>?_
   refine qg 2 [(135,vB x34)] H fun fr H=>?_
   rcases csplit hr with ⟨hc35,hr⟩ | ⟨hc35,hr⟩
   rotate_left
   ·rw [hc35] at H
    refine qg 26 [(6,vB false)] H fun fr H=>?_
    refine qe ?_
    obtain rfl:=Option.some.inj hr
    exact ⟨rfl,H.tq,K.keep [true]⟩
   rw [hc35] at H
   refine qg 2 [(137,vI a0.len)] H fun fr H=>?_
   refine qb hr (fun x h s=>F154_R  _ x h) H fun x36 hr fr H=>?_
   refine qg 2 [(140,vB x36)] H fun fr H=>?_
   rcases csplit hr with ⟨hc37,hr⟩ | ⟨hc37,hr⟩
   rotate_left
   ·rw [hc37] at H
    refine qg 21 [(6,vB false)] H fun fr H=>?_
    refine qe ?_
    obtain rfl:=Option.some.inj hr
    exact ⟨rfl,H.tq,K.keep [true]⟩
   rw [hc37] at H
   refine qg 2 [(142,vI a0.init)] H fun fr H=>?_
   refine qb hr (fun x h s=>F154_R  _ x h) H fun x38 hr fr H=>?_
   refine qg 2 [(145,vB x38)] H fun fr H=>?_
   rcases csplit hr with ⟨hc39,hr⟩ | ⟨hc39,hr⟩
   rotate_left
   ·rw [hc39] at H
    refine qg 16 [(6,vB false)] H fun fr H=>?_
    refine qe ?_
    obtain rfl:=Option.some.inj hr
    exact ⟨rfl,H.tq,K.keep [true]⟩
   rw [hc39] at H
   refine qg 4 [(149,vB (strEq a0.other (bs [])))] H fun fr H=>?_
   rcases csplit hr with ⟨hc40,hr⟩ | ⟨hc40,hr⟩
   ·rw [hc40] at H
    refine qg 12 [(6,vB true)] H fun fr H=>?_
    refine qe ?_
    obtain rfl:=Option.some.inj hr
    exact ⟨rfl,H.tq,K.keep [true]⟩
   rw [hc40] at H
   refine qg 4 [(153,vB (a0.n == 0))] H fun fr H=>?_
   rcases csplit hr with ⟨hc41,hr⟩ | ⟨hc41,hr⟩
   rotate_left
   ·rw [hc41] at H
    refine qg 8 [(6,vB false)] H fun fr H=>?_
    refine qe ?_
    obtain rfl:=Option.some.inj hr
    exact ⟨rfl,H.tq,K.keep [true]⟩
   rw [hc41] at H
   refine qg 3 [(154,.agg [keysV]),(156,vS a0.other)] H fun fr H=>?_
   refine qb hr (fun x h s=>F157_R n _ x h) H fun x42 hr fr H=>?_
   refine qg 4 [(6,vB x42)] H fun fr H=>?_
   refine qe ?_
   obtain rfl:=Option.some.inj hr
   exact ⟨rfl,H.tq,K.keep [true]⟩
  refine qF H hc31 ?_
  refine W_seq (W_reg ?_)
  refine qg 2 [(161,vB (a0.kind == 57))] H fun fr H=>?_
  refine qe ?_
  rcases csplit hr with ⟨hc43,hr⟩ | ⟨hc43,hr⟩
  ·refine qT H hc43 ?_
   refine W_drw ?_
   refine qg 7 [(164,vS a0.name),(166,vS a0.other),(167,.agg [keysV]),(169,vS a0.name)] H fun fr H=>?_
   refine qb hr (fun x h s=>F157_R n _ x h) H fun x44 hr fr H=>?_
   refine qg 1 [(171,vB x44)] H fun fr H=>?_
   rcases csplit hr with ⟨hc45,hr⟩ | ⟨hc45,hr⟩
   rotate_left
   ·rw [hc45] at H
    refine qg 11 [(181,vB false),(182,.ptr id1 1)] H fun fr H=>?_
    refine qst 9 1 (vS a0.name) [vI a0.kind,vS a0.name,vS (bs []),vI 0,vI 0,vI 0,vB false,vL tNode ([]:List Node) .nil,vI 0] 0 H K rfl fun st K fr H=>?_
    refine qg 1 [(183,.ptr id1 2)] H fun fr H=>?_
    refine qst 9 2 (vS a0.other) [vI a0.kind,vS a0.name,vS a0.other,vI 0,vI 0,vI 0,vB false,vL tNode ([]:List Node) .nil,vI 0] 0 H K rfl fun st K fr H=>?_
    refine qg 1 [(6,vB false)] H fun fr H=>?_
    refine qe (qdI K [0,0,0,0,0,0,0,0,0,0,0,0,0,0,0,0,0,0,0,0,.put 0,0,.put 0,0] ?_)
    obtain rfl:=Option.some.inj hr
    exact ⟨rfl,H.tq,K.keep [true]⟩
   rw [hc45] at H
   refine qg 4 [(175,vB (strEq a0.other (bs [])))] H fun fr H=>?_
   rcases csplit hr with ⟨hc46,hr⟩ | ⟨hc46,hr⟩
   ·rw [hc46] at H
    refine qg 7 [(181,vB true),(182,.ptr id1 1)] H fun fr H=>?_
    refine qst 9 1 (vS a0.name) [vI a0.kind,vS a0.name,vS (bs []),vI 0,vI 0,vI 0,vB false,vL tNode ([]:List Node) .nil,vI 0] 0 H K rfl fun st K fr H=>?_
    refine qg 1 [(183,.ptr id1 2)] H fun fr H=>?_
    refine qst 9 2 (vS a0.other) [vI a0.kind,vS a0.name,vS a0.other,vI 0,vI 0,vI 0,vB false,vL tNode ([]:List Node) .nil,vI 0] 0 H K rfl fun st K fr H=>?_
    refine qg 1 [(6,vB true)] H fun fr H=>?_
    refine qe (qdI K [0,0,0,0,0,0,0,0,0,0,0,0,0,0,0,0,0,0,0,0,.put 0,0,.put 0,0] ?_)
    obtain rfl:=Option.some.inj hr
    exact ⟨rfl,H.tq,K.keep [true]⟩
   rw [hc46] at H
   refine qg 3 [(176,.agg [keysV]),(178,vS a0.other)] H fun fr H=>?_
   refine qb hr (fun x h s=>F157_R n _ x h) H fun x47 hr fr H=>?_
   refine qg 3 [(181,vB x47),(182,.ptr id1 1)] H fun fr H=>?_
   refine qst 9 1 (vS a0.name) [vI a0.kind,vS a0.name,vS (bs []),vI 0,vI 0,vI 0,vB false,vL tNode ([]:List Node) .nil,vI 0] 0 H K rfl fun st K fr H=>?_
   refine qg 1 [(183,.ptr id1 2)] H fun fr H=>?_
   refine qst 9 2 (vS a0.other) [vI a0.kind,vS a0.name,vS a0.other,vI 0,vI 0,vI 0,vB false,vL tNode ([]:List Node) .nil,vI 0] 0 H K rfl fun st K fr H=>?_
   refine qg 1 [(6,vB x47)] H fun fr H=>?_
   refine qe (qdI K [0,0,0,0,0,0,0,0,0,0,0,0,0,0,0,0,0,0,0,0,.put 0,0,.put 0,0] ?_)
   obtain rfl:=Option.some.inj hr
   exact ⟨rfl,H.tq,K.keep [true]⟩
  refine qF H hc43 ?_
  refine W_seq (W_reg ?_)
  refine qg 2 [(184,vB (a0.kind == 60))] H fun fr H=>?_
  refine qe ?_
  rcases csplit hr with ⟨hc48,hr⟩ | ⟨hc48,hr⟩
  ·refine qT H hc48 ?_
   refine W_drw ?_
   refine qg 7 [(187,vS a0.name),(189,vS a0.other),(190,.agg [keysV]),(192,vS a0.name)] H fun fr H=>?_
   refine qb hr (fun x h s=>F157_R n _ x h) H fun x49 hr fr H=>?_
   refine qg 1 [(194,vB x49)] H fun fr H=>?_
   rcases csplit hr with ⟨hc50,hr⟩ | ⟨hc50,hr⟩
   rotate_left
   ·rw [hc50] at H
    refine qg 6 [(199,vB false),(200,.ptr id1 1)] H fun fr H=>?_
    refine qst 9 1 (vS a0.name) [vI a0.kind,vS a0.name,vS (bs []),vI 0,vI 0,vI 0,vB false,vL tNode ([]:List Node) .nil,vI 0] 0 H K rfl fun st K fr H=>?_
    refine qg 1 [(201,.ptr id1 2)] H fun fr H=>?_
    refine qst 9 2 (vS a0.other) [vI a0.kind,vS a0.name,vS a0.other,vI 0,vI 0,vI 0,vB false,vL tNode ([]:List Node) .nil,vI 0] 0 H K rfl fun st K fr H=>?_
    refine qg 1 [(6,vB false)] H fun fr H=>?_
    refine qe (qdI K [0,0,0,0,0,0,0,0,0,0,0,0,0,0,0,.put 0,0,.put 0,0] ?_)
    obtain rfl:=Option.some.inj hr
    exact ⟨rfl,H.tq,K.keep [true]⟩
   rw [hc50] at H
   refine qg 3 [(195,.agg [keysV]),(197,vS a0.other)] H fun fr H=>?_
   refine qb hr (fun x h s=>F157_R n _ x h) H fun x51 hr fr H=>?_
   refine qg 2 [(199,vB x51),(200,.ptr id1 1)] H fun fr H=>?_
   refine qst 9 1 (vS a0.name) [vI a0.kind,vS a0.name,vS (bs []),vI 0,vI 0,vI 0,vB false,vL tNode ([]:List Node) .nil,vI 0] 0 H K rfl fun st K fr H=>?_
   refine qg 1 [(201,.ptr id1 2)] H fun fr H=>?_
   refine qst 9 2 (vS a0.other) [vI a0.kind,vS a0.name,vS a0.other,vI 0,vI 0,vI 0,vB false,vL tNode ([]:List Node) .nil,vI 0] 0 H K rfl fun st K fr H=>?_
   refine qg 1 [(6,vB x51)] H fun fr H=>?_
   refine qe (qdI K [0,0,0,0,0,0,0,0,0,0,0,0,0,0,0,.put 0,0,.put 0,0] ?_)
   obtain rfl:=Option.some.inj hr
   exact ⟨rfl,H.tq,K.keep [true]⟩
  refine qF H hc48 ?_
  refine W_seq (W_reg ?_)
  refine qg 2 [(202,vB (a0.kind == 61))] H fun fr H=>?_
  refine qe ?_
  rcases csplit hr with ⟨hc52,hr⟩ | ⟨hc52,hr⟩
  rotate_left
  ·refine qF H hc52 ?_
   refine W_skip ?_
   obtain rfl:=Option.some.inj hr
   exact ⟨rfl,H.tq,K.keep [true]⟩
  refine qT H hc52 ?_
  refine W_seq (W_drw ?_)
  refine qg 7 [(205,vS a0.name),(207,vS a0.other),(209,vI a0.n),(210,.ptr id1 1)] H fun fr H=>?_
  refine qst 9 1 (vS a0.name) [vI a0.kind,vS a0.name,vS (bs []),vI 0,vI 0,vI 0,vB false,vL tNode ([]:List Node) .nil,vI 0] 0 H K rfl fun st K fr H=>?_
  refine qg 1 [(211,.ptr id1 2)] H fun fr H=>?_
  refine qst 9 2 (vS a0.other) [vI a0.kind,vS a0.name,vS a0.other,vI 0,vI 0,vI 0,vB false,vL tNode ([]:List Node) .nil,vI 0] 0 H K rfl fun st K fr H=>?_
  refine qg 1 [(212,.ptr id1 3)] H fun fr H=>?_
  refine qst 3 3 (vI a0.n) [vI a0.kind,vS a0.name,vS a0.other,vI a0.n,vI 0,vI 0,vB false,vL tNode ([]:List Node) .nil,vI 0] 0 H K rfl fun st K fr H=>?_
  refine qe (qdI K [0,0,0,0,0,0,0,.put 0,0,.put 0,0,.put 0] ?_)
  refine W_reg ?_
  refine qg 3 [(213,.agg [keysV]),(215,vS a0.name)] H fun fr H=>?_
  refine qb hr (fun x h s=>F157_R n _ x h) H fun x53 hr fr H=>?_
  refine qg 1 [(217,vB x53)] H fun fr H=>?_
  rcases csplit hr with ⟨hc54,hr⟩ | ⟨hc54,hr⟩
  rotate_left
  ·rw [hc54] at H
   refine qg 16 [(6,vB false)] H fun fr H=>?_
   refine qe ?_
   obtain rfl:=Option.some.inj hr
   exact ⟨rfl,H.tq,K.keep [true]⟩
  rw [hc54] at H
  refine qg 3 [(218,.agg [keysV]),(220,vS a0.other)] H fun fr H=>?_
  refine qb hr (fun x h s=>F155_R n _ x h) H fun x55 hr fr H=>?_
  refine qg 2 [(223,vB x55)] H fun fr H=>?_
  refine qseg 9 [(232,vB (x55 && ((a0.n == 0) || (a0.n == 1))))] H ?_ ?_
  ·cases hg56:x55
   ·rw [hg56] at H
    refine seg_go 0 9 [(232,vB false)] H fun fr H=>?_
    exact seg_end (by (try simp only [hg56]); exact H.tq)
   ·rw [hg56] at H
    refine seg_go 5 4 [(227,vB (a0.n == 0))] H fun fr H=>?_
    cases hg57:(a0.n == 0)
    ·rw [hg57] at H
     refine seg_go 0 5 [(232,vB (a0.n == 1))] H fun fr H=>?_
     exact seg_end (by (try simp only [hg56,hg57]); exact H.tq)
    ·rw [hg57] at H
     refine seg_go 0 5 [(232,vB true)] H fun fr H=>?_
     exact seg_end (by (try simp only [hg56,hg57]); exact H.tq)
  intro fr H
  refine qg 1 [(6,vB (x55 && ((a0.n == 0) || (a0.n == 1))))] H fun fr H=>?_
  refine qe ?_
  obtain rfl:=Option.some.inj hr
  exact ⟨rfl,H.tq,K.keep [true]⟩
 rintro e fr st ⟨rfl,H,K⟩
 refine W_seq (W_reg ?_)
 refine qg 2 [(234,vB j58.1)] H fun fr H=>?_
 rcases csplit hr with ⟨hc59,hr⟩ | ⟨hc59,hr⟩
 rotate_left
 ·rw [hc59] at H
  refine qg 42 [(4,vB false)] H fun fr H=>?_
  refine qe ?_
  refine W_ret ?_
  obtain rfl:=Option.some.inj hr
  exact qr [vB false] H K
 rw [hc59] at H
 refine qg 3 [(236,vS a0.name),(237,.ptr id1 1)] H fun fr H=>?_
 refine qld 9 1 (vS j58.2.name) 0 H K rfl fun fr H=>?_
 refine qg 3 [(241,vB (strEq a0.name j58.2.name))] H fun fr H=>?_
 rcases csplit hr with ⟨hc60,hr⟩ | ⟨hc60,hr⟩
 rotate_left
 ·rw [hc60] at H
  refine qg 35 [(4,vB false)] H fun fr H=>?_
  refine qe ?_
  refine W_ret ?_
  obtain rfl:=Option.some.inj hr
  exact qr [vB false] H K
 rw [hc60] at H
 refine qg 3 [(243,vS a0.other),(244,.ptr id1 2)] H fun fr H=>?_
 refine qld 9 2 (vS j58.2.other) 0 H K rfl fun fr H=>?_
 refine qg 3 [(248,vB (strEq a0.other j58.2.other))] H fun fr H=>?_
 rcases csplit hr with ⟨hc61,hr⟩ | ⟨hc61,hr⟩
 rotate_left
 ·rw [hc61] at H
  refine qg 28 [(4,vB false)] H fun fr H=>?_
  refine qe ?_
  refine W_ret ?_
  obtain rfl:=Option.some.inj hr
  exact qr [vB false] H K
 rw [hc61] at H
 refine qg 3 [(250,vI a0.n),(251,.ptr id1 3)] H fun fr H=>?_
 refine qld 3 3 (vI j58.2.n) 0 H K rfl fun fr H=>?_
 refine qg 3 [(255,vB (a0.n == j58.2.n))] H fun fr H=>?_
 rcases csplit hr with ⟨hc62,hr⟩ | ⟨hc62,hr⟩
 rotate_left
 ·rw [hc62] at H
  refine qg 21 [(4,vB false)] H fun fr H=>?_
  refine qe ?_
  refine W_ret ?_
  obtain rfl:=Option.some.inj hr
  exact qr [vB false] H K
 rw [hc62] at H
 refine qg 3 [(257,vI a0.len),(258,.ptr id1 4)] H fun fr H=>?_
 refine qld 3 4 (vI j58.2.len) 0 H K rfl fun fr H=>?_
 refine qg 3 [(262,vB (a0.len == j58.2.len))] H fun fr H=>?_
 rcases csplit hr with ⟨hc63,hr⟩ | ⟨hc63,hr⟩
 rotate_left
 ·rw [hc63] at H
  refine qg 14 [(4,vB false)] H fun fr H=>?_
  refine qe ?_
  refine W_ret ?_
  obtain rfl:=Option.some.inj hr
  exact qr [vB false] H K
 rw [hc63] at H
 refine qg 3 [(264,vI a0.init),(265,.ptr id1 5)] H fun fr H=>?_
 refine qld 3 5 (vI j58.2.init) 0 H K rfl fun fr H=>?_
 refine qg 3 [(269,vB (a0.init == j58.2.init))] H fun fr H=>?_
 rcases csplit hr with ⟨hc64,hr⟩ | ⟨hc64,hr⟩
 rotate_left
 ·rw [hc64] at H
  refine qg 7 [(4,vB false)] H fun fr H=>?_
  refine qe ?_
  refine W_ret ?_
  obtain rfl:=Option.some.inj hr
  exact qr [vB false] H K
 rw [hc64] at H
 refine qg 3 [(271,vB a0.ghost),(272,.ptr id1 6)] H fun fr H=>?_
 refine qld 4 6 (vB j58.2.ghost) 0 H K rfl fun fr H=>?_
 refine qg 3 [(4,vB (a0.ghost == j58.2.ghost))] H fun fr H=>?_
 refine qe ?_
 refine W_ret ?_
 obtain rfl:=Option.some.inj hr
 exact qr [vB (a0.ghost == j58.2.ghost)] H K
def F158 (n:Nat) (a0:List Node) (a1:List Pred):Option Bool :=
 bif (a0.length:Int) != (a1.length:Int) then
  (some false)
 else
  ((iter (σ:=Int) (ρ:=Unit ⊕ Unit) (fun s2=>bif decide (s2 < (a0.length:Int)) then
    ((idxL a0 s2).bind fun x4 =>
    (idxL a1 s2).bind fun x6 =>
    (x6.p x4).bind fun x7 =>
    bif !x7 then
     (some (.inr (.inl ())))
    else
     (some (.inl (w64 (s2 + 1)))))
   else
    (some (.inr (.inr ())))) n (0:Int)).bind fun r9=>match r9 with
  | .inl _=>some false
  | .inr _=>some true)
theorem F158_R (n:Nat) (a0:List Node) (a1:List Pred) (r:Bool) (hr:F158 n a0 a1 = some r) {st:St} {p0 p1:Spare}:R Tryz.prog AN 158 [vL tNode a0 p0,vL tPred a1 p1] st (.ret (vB r)) st:=by
 unfold F158 at hr
 refine R_pureX [vL tNode a0 .shut,vL tPred a1 .shut] [(0,vL tNode a0 .shut),(1,vL tPred a1 .shut)] Tryz.func158 rfl (by simp only [strip,stripL,stripL_ET,Option.bind_some,Option.map_some]) rfl fun fr st H K=>?_
 refine W_seq (W_reg ?_)
 refine qg 1 [] H fun fr H=>?_
 refine qe ?_
 refine W_seq (W_seq ?_)
 refine W_reg ?_
 refine qg 1 [(7,vL tNode a0 .shut)] H fun fr H=>?_
 refine qln tNode 22 a0 .shut H fun fr H=>?_
 refine qg 1 [(9,vL tPred a1 .shut)] H fun fr H=>?_
 refine qln tPred 167 a1 .shut H fun fr H=>?_
 refine qg 1 [(11,vB ((a0.length:Int) != (a1.length:Int)))] H fun fr H=>?_
 refine qe ?_
 rcases csplit hr with ⟨hc1,hr⟩ | ⟨hc1,hr⟩
 ·refine qT H hc1 ?_
  refine W_seq (W_reg ?_)
  refine qg 1 [(4,vB false)] H fun fr H=>?_
  refine qe ?_
  refine W_ret ?_
  obtain rfl:=Option.some.inj hr
  exact qr [vB false] H K
 refine qF H hc1 ?_
 refine W_skip ?_
 refine W_seq (W_seq ?_)
 refine W_reg ?_
 refine qg 1 [(12,vL tNode a0 .shut)] H fun fr H=>?_
 refine qln tNode 22 a0 .shut H fun fr H=>?_
 refine qg 1 [(14,vI 0)] H fun fr H=>?_
 refine qe ?_
 refine W_block ?_
 obtain ⟨r9,hr9,hr⟩:=obind hr
 refine W_iter hr9 (fun (s2:Int) fr st=>Rd fr [(1,vL tPred a1 .shut),(12,vL tNode a0 .shut),(13,vI (a0.length:Int)),(14,vI s2)]∧HL st []) (fun (r9:Unit ⊕ Unit) e fr st=>match r9 with | .inl r9a=>(e = .ret∧Rd fr [(4,vB false)]∧HL st []) | .inr r9b=>(e = .exit 0∧Rd fr []∧HL st [])) ⟨H.tq,K.keep []⟩ ?_ ?_
 ·intro s2 fr st r hi hr
  obtain ⟨H,K⟩:=hi
  refine W_seq (W_reg ?_)
  refine qg 1 [(15,vB (decide (s2 < (a0.length:Int))))] H fun fr H=>?_
  refine qe ?_
  refine W_seq ?_
  rcases csplit hr with ⟨hc3,hr⟩ | ⟨hc3,hr⟩
  rotate_left
  ·refine qF H hc3 ?_
   refine W_exit ?_
   obtain rfl:=Option.some.inj hr
   exact ⟨by simp,⟨rfl,H.tq,K.keep []⟩⟩
  refine qT H hc3 ?_
  refine W_skip ?_
  refine W_seq (W_block ?_)
  refine W_seq (W_reg ?_)
  refine qg 1 [(16,vI s2)] H fun fr H=>?_
  refine qix tNode 22 .shut hr H fun x4 hr hx4 fr H=>?_
  refine qg 1 [(18,aN x4)] H fun fr H=>?_
  refine qal 24 [vI 0,vS (bs []),vS (bs []),vI 0,vI 0,vI 0,vB false,vL tNode ([]:List Node) .nil,vI 0] H K fun id5 st K fr H=>?_
  refine qg 1 [(5,vI s2)] H fun fr H=>?_
  refine qst 24 0 (aN x4) [vI x4.kind,vS x4.name,vS x4.other,vI x4.n,vI x4.len,vI x4.init,vB x4.ghost,vL tNode x4.kids .shut,vI x4.pos] 0 H K rfl fun st K fr H=>?_
  refine qe ?_
  refine W_seq (W_drw ?_)
  refine qg 2 [(19,vL tPred a1 .shut),(20,vI s2)] H fun fr H=>?_
  refine qix tPred 167 .shut hr H fun x6 hr hx6 fr H=>?_
  refine qg 1 [(22,.fn x6.g x6.a x6.b)] H fun fr H=>?_
  refine qld 24 0 (aN x4) 0 H K rfl fun fr H=>?_
  refine qb hr (fun x h s=>x6.ok _ x s .shut h) H fun x7 hr fr H=>?_
  refine qg 1 [(25,vB !x7)] H fun fr H=>?_
  refine qe (qd ?_)
  rcases csplit hr with ⟨hc8,hr⟩ | ⟨hc8,hr⟩
  ·refine qT H hc8 ?_
   refine W_seq (W_reg ?_)
   refine qg 1 [(4,vB false)] H fun fr H=>?_
   refine qe ?_
   refine W_ret ?_
   obtain rfl:=Option.some.inj hr
   exact ⟨by simp,⟨rfl,H.tq,K.keep [false]⟩⟩
  refine qF H hc8 ?_
  refine W_skip ?_
  refine W_reg ?_
  refine qg 2 [(14,vI (w64 (s2 + 1)))] H fun fr H=>?_
  refine qe ?_
  obtain rfl:=Option.some.inj hr
  exact ⟨rfl,⟨H.tq,K.keep [false]⟩⟩
 rcases r9 with r9a | r9b
 ·rintro e fr st ⟨rfl,H,K⟩
  obtain rfl:=Option.some.inj hr
  exact qr [vB false] H K
 rintro e fr st ⟨rfl,H,K⟩
 refine W_seq (W_reg ?_)
 refine qg 1 [(4,vB true)] H fun fr H=>?_
 refine qe ?_
 refine W_ret ?_
 obtain rfl:=Option.some.inj hr
 exact qr [vB true] H K
def F197 (a0:Node) (a1:Int):Option Bool :=
 some (a0.kind == a1)
theorem F197_R (a0:Node) (a1:Int) (r:Bool) (hr:F197 a0 a1 = some r) {st:St} {p0:Spare}:R Tryz.prog AN 197 [.agg (cNode p0 a0),.cptr ([vI a1]) 0] st (.ret (vB r)) st:=by
 unfold F197 at hr
 refine R_pureX [aN a0,.cptr ([vI a1]) 0] [(0,aN a0),(1,.cptr ([vI a1]) 0)] Tryz.func197 rfl (by simp only [strip,stripL,stripL_cNode,Option.bind_some,Option.map_some]) rfl fun fr st H K=>?_
 refine W_seq (W_reg ?_)
 refine qg 2 [(2,cN a0 0)] H fun fr H=>?_
 refine qe ?_
 refine W_seq (W_reg ?_)
 refine qg 5 [(3,vB (a0.kind == a1))] H fun fr H=>?_
 refine qe ?_
 refine W_ret ?_
 obtain rfl:=Option.some.inj hr
 exact qr [vB (a0.kind == a1)] H K
def F160 (n:Nat) (a0:List Node):Option Bool :=
 (iter (σ:=Int) (ρ:=Unit ⊕ Unit) (fun s1=>bif decide (s1 < (a0.length:Int)) then
   ((idxL a0 s1).bind fun x3 =>
   (F62 x3).bind fun x5 =>
   bif !x5 then
    (some (.inr (.inl ())))
   else
    (bif (Int.tmod s1 2) == 0 then
     (bif x3.kind != 2 then
      (some (.inr (.inl ())))
     else
      (some (.inl (w64 (s1 + 1)))))
    else
     (some (.inl (w64 (s1 + 1))))))
  else
   (some (.inr (.inr ())))) n (0:Int)).bind fun r9=>match r9 with
 | .inl _=>some false
 | .inr _=>some ((Int.tmod (a0.length:Int) 2) == 0)
theorem F160_R (n:Nat) (a0:List Node) (r:Bool) (hr:F160 n a0 = some r) {st:St} {p0:Spare}:R Tryz.prog AN 160 [vL tNode a0 p0] st (.ret (vB r)) st:=by
 unfold F160 at hr
 refine R_pureX [vL tNode a0 .shut] [(0,vL tNode a0 .shut)] Tryz.func160 rfl (by simp only [strip,stripL,stripL_ET,Option.bind_some,Option.map_some]) rfl fun fr st H K=>?_
 refine W_seq (W_reg ?_)
 refine qg 1 [] H fun fr H=>?_
 refine qe ?_
 refine W_seq (W_seq ?_)
 refine W_reg ?_
 refine qg 1 [(5,vL tNode a0 .shut)] H fun fr H=>?_
 refine qln tNode 22 a0 .shut H fun fr H=>?_
 refine qg 1 [(7,vI 0)] H fun fr H=>?_
 refine qe ?_
 refine W_block ?_
 obtain ⟨r9,hr9,hr⟩:=obind hr
 refine W_iter hr9 (fun (s1:Int) fr st=>Rd fr [(0,vL tNode a0 .shut),(5,vL tNode a0 .shut),(6,vI (a0.length:Int)),(7,vI s1)]∧HL st []) (fun (r9:Unit ⊕ Unit) e fr st=>match r9 with | .inl r9a=>(e = .ret∧Rd fr [(2,vB false)]∧HL st []) | .inr r9b=>(e = .exit 0∧Rd fr [(0,vL tNode a0 .shut)]∧HL st [])) ⟨H.tq,K.keep []⟩ ?_ ?_
 ·intro s1 fr st r hi hr
  obtain ⟨H,K⟩:=hi
  refine W_seq (W_reg ?_)
  refine qg 1 [(8,vB (decide (s1 < (a0.length:Int))))] H fun fr H=>?_
  refine qe ?_
  refine W_seq ?_
  rcases csplit hr with ⟨hc2,hr⟩ | ⟨hc2,hr⟩
  rotate_left
  ·refine qF H hc2 ?_
   refine W_exit ?_
   obtain rfl:=Option.some.inj hr
   exact ⟨by simp,⟨rfl,H.tq,K.keep []⟩⟩
  refine qT H hc2 ?_
  refine W_skip ?_
  refine W_seq (W_block ?_)
  refine W_seq (W_reg ?_)
  refine qg 1 [(9,vI s1)] H fun fr H=>?_
  refine qix tNode 22 .shut hr H fun x3 hr hx3 fr H=>?_
  refine qg 1 [(11,aN x3)] H fun fr H=>?_
  refine qal 24 [vI 0,vS (bs []),vS (bs []),vI 0,vI 0,vI 0,vB false,vL tNode ([]:List Node) .nil,vI 0] H K fun id4 st K fr H=>?_
  refine qg 1 [(3,vI s1)] H fun fr H=>?_
  refine qst 24 0 (aN x3) [vI x3.kind,vS x3.name,vS x3.other,vI x3.n,vI x3.len,vI x3.init,vB x3.ghost,vL tNode x3.kids .shut,vI x3.pos] 0 H K rfl fun st K fr H=>?_
  refine qe ?_
  refine W_seq (W_reg ?_)
  refine qld 24 0 (aN x3) 0 H K rfl fun fr H=>?_
  refine qb hr (fun x h s=>F62_R  _ x h (p0:=.shut)) H fun x5 hr fr H=>?_
  refine qg 2 [(15,vB !x5)] H fun fr H=>?_
  rcases csplit hr with ⟨hc6,hr⟩ | ⟨hc6,hr⟩
  ·rw [hc6] at H
   refine qg 9 [(24,vB true)] H fun fr H=>?_
   refine qe ?_
   refine qT H rfl ?_
   refine W_seq (W_reg ?_)
   refine qg 1 [(2,vB false)] H fun fr H=>?_
   refine qe ?_
   refine W_ret ?_
   obtain rfl:=Option.some.inj hr
   exact ⟨by simp,⟨rfl,H.tq,K.keep [false]⟩⟩
  rw [hc6] at H
  refine qg 4 [(19,vB ((Int.tmod s1 2) == 0))] H fun fr H=>?_
  rcases csplit hr with ⟨hc7,hr⟩ | ⟨hc7,hr⟩
  rotate_left
  ·rw [hc7] at H
   refine qg 5 [(24,vB false)] H fun fr H=>?_
   refine qe ?_
   refine qF H rfl ?_
   refine W_skip ?_
   refine W_reg ?_
   refine qg 2 [(7,vI (w64 (s1 + 1)))] H fun fr H=>?_
   refine qe ?_
   obtain rfl:=Option.some.inj hr
   exact ⟨rfl,⟨H.tq,K.keep [false]⟩⟩
  rw [hc7] at H
  refine qg 1 [(20,.ptr id4 0)] H fun fr H=>?_
  refine qld 3 0 (vI x3.kind) 0 H K rfl fun fr H=>?_
  refine qg 3 [(24,vB (x3.kind != 2))] H fun fr H=>?_
  refine qe ?_
  rcases csplit hr with ⟨hc8,hr⟩ | ⟨hc8,hr⟩
  ·refine qT H hc8 ?_
   refine W_seq (W_reg ?_)
   refine qg 1 [(2,vB false)] H fun fr H=>?_
   refine qe ?_
   refine W_ret ?_
   obtain rfl:=Option.some.inj hr
   exact ⟨by simp,⟨rfl,H.tq,K.keep [false]⟩⟩
  refine qF H hc8 ?_
  refine W_skip ?_
  refine W_reg ?_
  refine qg 2 [(7,vI (w64 (s1 + 1)))] H fun fr H=>?_
  refine qe ?_
  obtain rfl:=Option.some.inj hr
  exact ⟨rfl,⟨H.tq,K.keep [false]⟩⟩
 rcases r9 with r9a | r9b
 ·rintro e fr st ⟨rfl,H,K⟩
  obtain rfl:=Option.some.inj hr
  exact qr [vB false] H K
 rintro e fr st ⟨rfl,H,K⟩
 refine W_seq (W_reg ?_)
 refine qg 1 [(26,vL tNode a0 .shut)] H fun fr H=>?_
 refine qln tNode 22 a0 .shut H fun fr H=>?_
 refine qg 3 [(2,vB ((Int.tmod (a0.length:Int) 2) == 0))] H fun fr H=>?_
 refine qe ?_
 refine W_ret ?_
 obtain rfl:=Option.some.inj hr
 exact qr [vB ((Int.tmod (a0.length:Int) 2) == 0)] H K
def F161 (a0:Node):Option Bool :=
 some (a0.kind == 63)
theorem F161_R (a0:Node) (r:Bool) (hr:F161 a0 = some r) {st:St} {p0:Spare}:R Tryz.prog AN 161 [.agg (cNode p0 a0)] st (.ret (vB r)) st:=by
 unfold F161 at hr
 refine R_pureX [aN a0] [(0,aN a0)] Tryz.func161 rfl (by simp only [strip,stripL,stripL_cNode,Option.bind_some,Option.map_some]) rfl fun fr st H K=>?_
 refine W_seq (W_reg ?_)
 refine qg 2 [(1,cN a0 0)] H fun fr H=>?_
 refine qe ?_
 refine W_seq (W_reg ?_)
 refine qg 4 [(2,vB (a0.kind == 63))] H fun fr H=>?_
 refine qe ?_
 refine W_ret ?_
 obtain rfl:=Option.some.inj hr
 exact qr [vB (a0.kind == 63)] H K
def F198 (a0:Node):Option Bool :=
 (F62 a0).bind fun x1 =>
 bif x1 then
  (some true)
 else
  ((F161 a0).bind fun x3 =>
  some x3)
theorem F198_R (a0:Node) (r:Bool) (hr:F198 a0 = some r) {st:St} {p0:Spare}:R Tryz.prog AN 198 [.agg (cNode p0 a0),.cptr ([.fn 62 [] []]) 0,.cptr ([.fn 161 [] []]) 0] st (.ret (vB r)) st:=by
 unfold F198 at hr
 refine R_pureX [aN a0,.cptr ([.fn 62 [] []]) 0,.cptr ([.fn 161 [] []]) 0] [(0,aN a0),(1,.cptr ([.fn 62 [] []]) 0),(2,.cptr ([.fn 161 [] []]) 0)] Tryz.func198 rfl (by simp only [strip,stripL,stripL_cNode,Option.bind_some,Option.map_some]) rfl fun fr st H K=>?_
 refine W_seq (W_reg ?_)
 refine qg 2 [(3,cN a0 0)] H fun fr H=>?_
 refine qe ?_
 refine W_seq (W_reg ?_)
 refine qg 2 [(5,.fn 62 [] []),(6,aN a0)] H fun fr H=>?_
 refine qb hr (fun x h s=>F62_R  _ x h (p0:=.shut)) H fun x1 hr fr H=>?_
 refine qg 1 [(8,vB x1)] H fun fr H=>?_
 rcases csplit hr with ⟨hc2,hr⟩ | ⟨hc2,hr⟩
 ·rw [hc2] at H
  refine qg 5 [(4,vB true)] H fun fr H=>?_
  refine qe ?_
  refine W_ret ?_
  obtain rfl:=Option.some.inj hr
  exact qr [vB true] H K
 rw [hc2] at H
 refine qg 2 [(9,.fn 161 [] []),(10,aN a0)] H fun fr H=>?_
 refine qb hr (fun x h s=>F161_R  _ x h (p0:=.shut)) H fun x3 hr fr H=>?_
 refine qg 2 [(4,vB x3)] H fun fr H=>?_
 refine qe ?_
 refine W_ret ?_
 obtain rfl:=Option.some.inj hr
 exact qr [vB x3] H K
def F99_1 (n:Nat) (a0:List Node):Option Bool :=
 (iter (σ:=Int) (ρ:=Unit ⊕ Unit) (fun s1=>bif decide (s1 < (a0.length:Int)) then
   ((idxL a0 s1).bind fun x3 =>
   (F62 x3).bind fun x5 =>
   bif !x5 then
    (some (.inr (.inl ())))
   else
    (some (.inl (w64 (s1 + 1)))))
  else
   (some (.inr (.inr ())))) n (0:Int)).bind fun r7=>match r7 with
 | .inl _=>some false
 | .inr _=>some true
theorem F99_1_R (n:Nat) (a0:List Node) (r:Bool) (hr:F99_1 n a0 = some r) {st:St} {p0:Spare}:R Tryz.prog AN 99 [vL tNode a0 p0,.fn 62 [] []] st (.ret (vB r)) st:=by
 unfold F99_1 at hr
 refine R_pureX [vL tNode a0 .shut,.fn 62 [] []] [(0,vL tNode a0 .shut),(1,.fn 62 [] [])] Tryz.func99 rfl (by simp only [strip,stripL,stripL_ET,Option.bind_some,Option.map_some]) rfl fun fr st H K=>?_
 refine W_seq (W_reg ?_)
 refine qg 1 [] H fun fr H=>?_
 refine qe ?_
 refine W_seq (W_seq ?_)
 refine W_reg ?_
 refine qg 1 [(7,vL tNode a0 .shut)] H fun fr H=>?_
 refine qln tNode 22 a0 .shut H fun fr H=>?_
 refine qg 1 [(9,vI 0)] H fun fr H=>?_
 refine qe ?_
 refine W_block ?_
 obtain ⟨r7,hr7,hr⟩:=obind hr
 refine W_iter hr7 (fun (s1:Int) fr st=>Rd fr [(1,.fn 62 [] []),(7,vL tNode a0 .shut),(8,vI (a0.length:Int)),(9,vI s1)]∧HL st []) (fun (r7:Unit ⊕ Unit) e fr st=>match r7 with | .inl r7a=>(e = .ret∧Rd fr [(4,vB false)]∧HL st []) | .inr r7b=>(e = .exit 0∧Rd fr []∧HL st [])) ⟨H.tq,K.keep []⟩ ?_ ?_
 ·intro s1 fr st r hi hr
  obtain ⟨H,K⟩:=hi
  refine W_seq (W_reg ?_)
  refine qg 1 [(10,vB (decide (s1 < (a0.length:Int))))] H fun fr H=>?_
  refine qe ?_
  refine W_seq ?_
  rcases csplit hr with ⟨hc2,hr⟩ | ⟨hc2,hr⟩
  rotate_left
  ·refine qF H hc2 ?_
   refine W_exit ?_
   obtain rfl:=Option.some.inj hr
   exact ⟨by simp,⟨rfl,H.tq,K.keep []⟩⟩
  refine qT H hc2 ?_
  refine W_skip ?_
  refine W_seq (W_block ?_)
  refine W_seq (W_reg ?_)
  refine qix tNode 22 .shut hr H fun x3 hr hx3 fr H=>?_
  refine qg 1 [(12,aN x3)] H fun fr H=>?_
  refine qal 24 [vI 0,vS (bs []),vS (bs []),vI 0,vI 0,vI 0,vB false,vL tNode ([]:List Node) .nil,vI 0] H K fun id4 st K fr H=>?_
  refine qst 24 0 (aN x3) [vI x3.kind,vS x3.name,vS x3.other,vI x3.n,vI x3.len,vI x3.init,vB x3.ghost,vL tNode x3.kids .shut,vI x3.pos] 0 H K rfl fun st K fr H=>?_
  refine qe ?_
  refine W_seq (W_reg ?_)
  refine qg 1 [(13,.fn 62 [] [])] H fun fr H=>?_
  refine qld 24 0 (aN x3) 0 H K rfl fun fr H=>?_
  refine qb hr (fun x h s=>F62_R  _ x h (p0:=.shut)) H fun x5 hr fr H=>?_
  refine qg 1 [(16,vB !x5)] H fun fr H=>?_
  refine qe ?_
  rcases csplit hr with ⟨hc6,hr⟩ | ⟨hc6,hr⟩
  ·refine qT H hc6 ?_
   refine W_seq (W_reg ?_)
   refine qg 1 [(4,vB false)] H fun fr H=>?_
   refine qe ?_
   refine W_ret ?_
   obtain rfl:=Option.some.inj hr
   exact ⟨by simp,⟨rfl,H.tq,K.keep [false]⟩⟩
  refine qF H hc6 ?_
  refine W_skip ?_
  refine W_reg ?_
  refine qg 2 [(9,vI (w64 (s1 + 1)))] H fun fr H=>?_
  refine qe ?_
  obtain rfl:=Option.some.inj hr
  exact ⟨rfl,⟨H.tq,K.keep [false]⟩⟩
 rcases r7 with r7a | r7b
 ·rintro e fr st ⟨rfl,H,K⟩
  obtain rfl:=Option.some.inj hr
  exact qr [vB false] H K
 rintro e fr st ⟨rfl,H,K⟩
 refine W_seq (W_reg ?_)
 refine qg 1 [(4,vB true)] H fun fr H=>?_
 refine qe ?_
 refine W_ret ?_
 obtain rfl:=Option.some.inj hr
 exact qr [vB true] H K
def F163 (a0:Node):Option Bool :=
 some (((decide (20≤a0.kind)) && (decide (a0.kind≤35))) && (a0.kind != 34))
theorem F163_R (a0:Node) (r:Bool) (hr:F163 a0 = some r) {st:St} {p0:Spare}:R Tryz.prog AN 163 [.agg (cNode p0 a0)] st (.ret (vB r)) st:=by
 unfold F163 at hr
 refine R_pureX [aN a0] [(0,aN a0)] Tryz.func163 rfl (by simp only [strip,stripL,stripL_cNode,Option.bind_some,Option.map_some]) rfl fun fr st H K=>?_
 refine W_seq (W_reg ?_)
 refine qg 2 [(1,cN a0 0)] H fun fr H=>?_
 refine qe ?_
 refine W_seq (W_reg ?_)
 refine qg 4 [(6,vB (decide (20≤a0.kind)))] H fun fr H=>?_
 refine qg 4 [(10,vB ((decide (20≤a0.kind)) && (decide (a0.kind≤35))))] H (hs:=by intro _ _; generalize (decide (20≤a0.kind)) = b0; cases b0 <;> kernel_rfl) fun fr H=>?_
 refine qg 1 [(11,vB ((decide (20≤a0.kind)) && (decide (a0.kind≤35))))] H fun fr H=>?_
 refine qg 4 [(15,vB (((decide (20≤a0.kind)) && (decide (a0.kind≤35))) && (a0.kind != 34)))] H (hs:=by intro _ _; generalize ((decide (20≤a0.kind)) && (decide (a0.kind≤35))) = b0; cases b0 <;> kernel_rfl) fun fr H=>?_
 refine qg 1 [(2,vB (((decide (20≤a0.kind)) && (decide (a0.kind≤35))) && (a0.kind != 34)))] H fun fr H=>?_
 refine qe ?_
 refine W_ret ?_
 obtain rfl:=Option.some.inj hr
 exact qr [vB (((decide (20≤a0.kind)) && (decide (a0.kind≤35))) && (a0.kind != 34))] H K
def F99_2 (n:Nat) (a0:List Node):Option Bool :=
 (iter (σ:=Int) (ρ:=Unit ⊕ Unit) (fun s1=>bif decide (s1 < (a0.length:Int)) then
   ((idxL a0 s1).bind fun x3 =>
   (F163 x3).bind fun x5 =>
   bif !x5 then
    (some (.inr (.inl ())))
   else
    (some (.inl (w64 (s1 + 1)))))
  else
   (some (.inr (.inr ())))) n (0:Int)).bind fun r7=>match r7 with
 | .inl _=>some false
 | .inr _=>some true
theorem F99_2_R (n:Nat) (a0:List Node) (r:Bool) (hr:F99_2 n a0 = some r) {st:St} {p0:Spare}:R Tryz.prog AN 99 [vL tNode a0 p0,.fn 163 [] []] st (.ret (vB r)) st:=by
 unfold F99_2 at hr
 refine R_pureX [vL tNode a0 .shut,.fn 163 [] []] [(0,vL tNode a0 .shut),(1,.fn 163 [] [])] Tryz.func99 rfl (by simp only [strip,stripL,stripL_ET,Option.bind_some,Option.map_some]) rfl fun fr st H K=>?_
 refine W_seq (W_reg ?_)
 refine qg 1 [] H fun fr H=>?_
 refine qe ?_
 refine W_seq (W_seq ?_)
 refine W_reg ?_
 refine qg 1 [(7,vL tNode a0 .shut)] H fun fr H=>?_
 refine qln tNode 22 a0 .shut H fun fr H=>?_
 refine qg 1 [(9,vI 0)] H fun fr H=>?_
 refine qe ?_
 refine W_block ?_
 obtain ⟨r7,hr7,hr⟩:=obind hr
 refine W_iter hr7 (fun (s1:Int) fr st=>Rd fr [(1,.fn 163 [] []),(7,vL tNode a0 .shut),(8,vI (a0.length:Int)),(9,vI s1)]∧HL st []) (fun (r7:Unit ⊕ Unit) e fr st=>match r7 with | .inl r7a=>(e = .ret∧Rd fr [(4,vB false)]∧HL st []) | .inr r7b=>(e = .exit 0∧Rd fr []∧HL st [])) ⟨H.tq,K.keep []⟩ ?_ ?_
 ·intro s1 fr st r hi hr
  obtain ⟨H,K⟩:=hi
  refine W_seq (W_reg ?_)
  refine qg 1 [(10,vB (decide (s1 < (a0.length:Int))))] H fun fr H=>?_
  refine qe ?_
  refine W_seq ?_
  rcases csplit hr with ⟨hc2,hr⟩ | ⟨hc2,hr⟩
  rotate_left
  ·refine qF H hc2 ?_
   refine W_exit ?_
   obtain rfl:=Option.some.inj hr
   exact ⟨by simp,⟨rfl,H.tq,K.keep []⟩⟩
  refine qT H hc2 ?_
  refine W_skip ?_
  refine W_seq (W_block ?_)
  refine W_seq (W_reg ?_)
  refine qix tNode 22 .shut hr H fun x3 hr hx3 fr H=>?_
  refine qg 1 [(12,aN x3)] H fun fr H=>?_
  refine qal 24 [vI 0,vS (bs []),vS (bs []),vI 0,vI 0,vI 0,vB false,vL tNode ([]:List Node) .nil,vI 0] H K fun id4 st K fr H=>?_
  refine qst 24 0 (aN x3) [vI x3.kind,vS x3.name,vS x3.other,vI x3.n,vI x3.len,vI x3.init,vB x3.ghost,vL tNode x3.kids .shut,vI x3.pos] 0 H K rfl fun st K fr H=>?_
  refine qe ?_
  refine W_seq (W_reg ?_)
  refine qg 1 [(13,.fn 163 [] [])] H fun fr H=>?_
  refine qld 24 0 (aN x3) 0 H K rfl fun fr H=>?_
  refine qb hr (fun x h s=>F163_R  _ x h (p0:=.shut)) H fun x5 hr fr H=>?_
  refine qg 1 [(16,vB !x5)] H fun fr H=>?_
  refine qe ?_
  rcases csplit hr with ⟨hc6,hr⟩ | ⟨hc6,hr⟩
  ·refine qT H hc6 ?_
   refine W_seq (W_reg ?_)
   refine qg 1 [(4,vB false)] H fun fr H=>?_
   refine qe ?_
   refine W_ret ?_
   obtain rfl:=Option.some.inj hr
   exact ⟨by simp,⟨rfl,H.tq,K.keep [false]⟩⟩
  refine qF H hc6 ?_
  refine W_skip ?_
  refine W_reg ?_
  refine qg 2 [(9,vI (w64 (s1 + 1)))] H fun fr H=>?_
  refine qe ?_
  obtain rfl:=Option.some.inj hr
  exact ⟨rfl,⟨H.tq,K.keep [false]⟩⟩
 rcases r7 with r7a | r7b
 ·rintro e fr st ⟨rfl,H,K⟩
  obtain rfl:=Option.some.inj hr
  exact qr [vB false] H K
 rintro e fr st ⟨rfl,H,K⟩
 refine W_seq (W_reg ?_)
 refine qg 1 [(4,vB true)] H fun fr H=>?_
 refine qe ?_
 refine W_ret ?_
 obtain rfl:=Option.some.inj hr
 exact qr [vB true] H K
end Go.Proofs.YtbecjgckobhmpaaGreatDoor
end
section
namespace Go.Proofs.YtbecjgckobhmpaaGreatDoor
open Go Go.AM Go.Proofs
set_option maxRecDepth 100000
set_option maxHeartbeats 4000000
def F99_3 (n:Nat) (a0:List Node) (a1:Int):Option Bool :=
 (iter (σ:=Int) (ρ:=Unit ⊕ Unit) (fun s1=>bif decide (s1 < (a0.length:Int)) then
   ((idxL a0 s1).bind fun x3 =>
   (F197 x3 a1).bind fun x5 =>
   bif !x5 then
    (some (.inr (.inl ())))
   else
    (some (.inl (w64 (s1 + 1)))))
  else
   (some (.inr (.inr ())))) n (0:Int)).bind fun r7=>match r7 with
 | .inl _=>some false
 | .inr _=>some true
theorem F99_3_R (n:Nat) (a0:List Node) (a1:Int) (r:Bool) (hr:F99_3 n a0 a1 = some r) {st:St} {p0:Spare}:R Tryz.prog AN 99 [vL tNode a0 p0,.fn 197 [] [.cptr ([vI a1]) 0]] st (.ret (vB r)) st:=by
 unfold F99_3 at hr
 refine R_pureX [vL tNode a0 .shut,.fn 197 [] [.cptr ([vI a1]) 0]] [(0,vL tNode a0 .shut),(1,.fn 197 [] [.cptr ([vI a1]) 0])] Tryz.func99 rfl (by simp only [strip,stripL,stripL_ET,Option.bind_some,Option.map_some]) rfl fun fr st H K=>?_
 refine W_seq (W_reg ?_)
 refine qg 1 [] H fun fr H=>?_
 refine qe ?_
 refine W_seq (W_seq ?_)
 refine W_reg ?_
 refine qg 1 [(7,vL tNode a0 .shut)] H fun fr H=>?_
 refine qln tNode 22 a0 .shut H fun fr H=>?_
 refine qg 1 [(9,vI 0)] H fun fr H=>?_
 refine qe ?_
 refine W_block ?_
 obtain ⟨r7,hr7,hr⟩:=obind hr
 refine W_iter hr7 (fun (s1:Int) fr st=>Rd fr [(1,.fn 197 [] [.cptr ([vI a1]) 0]),(7,vL tNode a0 .shut),(8,vI (a0.length:Int)),(9,vI s1)]∧HL st []) (fun (r7:Unit ⊕ Unit) e fr st=>match r7 with | .inl r7a=>(e = .ret∧Rd fr [(4,vB false)]∧HL st []) | .inr r7b=>(e = .exit 0∧Rd fr []∧HL st [])) ⟨H.tq,K.keep []⟩ ?_ ?_
 ·intro s1 fr st r hi hr
  obtain ⟨H,K⟩:=hi
  refine W_seq (W_reg ?_)
  refine qg 1 [(10,vB (decide (s1 < (a0.length:Int))))] H fun fr H=>?_
  refine qe ?_
  refine W_seq ?_
  rcases csplit hr with ⟨hc2,hr⟩ | ⟨hc2,hr⟩
  rotate_left
  ·refine qF H hc2 ?_
   refine W_exit ?_
   obtain rfl:=Option.some.inj hr
   exact ⟨by simp,⟨rfl,H.tq,K.keep []⟩⟩
  refine qT H hc2 ?_
  refine W_skip ?_
  refine W_seq (W_block ?_)
  refine W_seq (W_reg ?_)
  refine qix tNode 22 .shut hr H fun x3 hr hx3 fr H=>?_
  refine qg 1 [(12,aN x3)] H fun fr H=>?_
  refine qal 24 [vI 0,vS (bs []),vS (bs []),vI 0,vI 0,vI 0,vB false,vL tNode ([]:List Node) .nil,vI 0] H K fun id4 st K fr H=>?_
  refine qst 24 0 (aN x3) [vI x3.kind,vS x3.name,vS x3.other,vI x3.n,vI x3.len,vI x3.init,vB x3.ghost,vL tNode x3.kids .shut,vI x3.pos] 0 H K rfl fun st K fr H=>?_
  refine qe ?_
  refine W_seq (W_reg ?_)
  refine qg 1 [(13,.fn 197 [] [.cptr ([vI a1]) 0])] H fun fr H=>?_
  refine qld 24 0 (aN x3) 0 H K rfl fun fr H=>?_
  refine qb hr (fun x h s=>F197_R  _ _ x h (p0:=.shut)) H fun x5 hr fr H=>?_
  refine qg 1 [(16,vB !x5)] H fun fr H=>?_
  refine qe ?_
  rcases csplit hr with ⟨hc6,hr⟩ | ⟨hc6,hr⟩
  ·refine qT H hc6 ?_
   refine W_seq (W_reg ?_)
   refine qg 1 [(4,vB false)] H fun fr H=>?_
   refine qe ?_
   refine W_ret ?_
   obtain rfl:=Option.some.inj hr
   exact ⟨by simp,⟨rfl,H.tq,K.keep [false]⟩⟩
  refine qF H hc6 ?_
  refine W_skip ?_
  refine W_reg ?_
  refine qg 2 [(9,vI (w64 (s1 + 1)))] H fun fr H=>?_
  refine qe ?_
  obtain rfl:=Option.some.inj hr
  exact ⟨rfl,⟨H.tq,K.keep [false]⟩⟩
 rcases r7 with r7a | r7b
 ·rintro e fr st ⟨rfl,H,K⟩
  obtain rfl:=Option.some.inj hr
  exact qr [vB false] H K
 rintro e fr st ⟨rfl,H,K⟩
 refine W_seq (W_reg ?_)
 refine qg 1 [(4,vB true)] H fun fr H=>?_
 refine qe ?_
 refine W_ret ?_
 obtain rfl:=Option.some.inj hr
 exact qr [vB true] H K
def F164 (a0:Node):Option Bool :=
 bif a0.kind == 2 then
  (some ((a0.kids.length:Int) == 0))
 else
  (some false)
theorem F164_R (a0:Node) (r:Bool) (hr:F164 a0 = some r) {st:St} {p0:Spare}:R Tryz.prog AN 164 [.agg (cNode p0 a0)] st (.ret (vB r)) st:=by
 unfold F164 at hr
 refine R_pureX [aN a0] [(0,aN a0)] Tryz.func164 rfl (by simp only [strip,stripL,stripL_cNode,Option.bind_some,Option.map_some]) rfl fun fr st H K=>?_
 refine W_seq (W_reg ?_)
 refine qg 2 [(1,cN a0 0)] H fun fr H=>?_
 refine qe ?_
 refine W_seq (W_reg ?_)
 refine qg 4 [(6,vB (a0.kind == 2))] H fun fr H=>?_
 rcases csplit hr with ⟨hc1,hr⟩ | ⟨hc1,hr⟩
 rotate_left
 ·rw [hc1] at H
  refine qg 6 [(2,vB false)] H fun fr H=>?_
  refine qe ?_
  refine W_ret ?_
  obtain rfl:=Option.some.inj hr
  exact qr [vB false] H K
 rw [hc1] at H
 refine qg 2 [(8,vL tNode a0.kids .shut)] H fun fr H=>?_
 refine qln tNode 22 a0.kids .shut H fun fr H=>?_
 refine qg 3 [(2,vB ((a0.kids.length:Int) == 0))] H fun fr H=>?_
 refine qe ?_
 refine W_ret ?_
 obtain rfl:=Option.some.inj hr
 exact qr [vB ((a0.kids.length:Int) == 0)] H K
def F99_4 (n:Nat) (a0:List Node):Option Bool :=
 (iter (σ:=Int) (ρ:=Unit ⊕ Unit) (fun s1=>bif decide (s1 < (a0.length:Int)) then
   ((idxL a0 s1).bind fun x3 =>
   (F164 x3).bind fun x5 =>
   bif !x5 then
    (some (.inr (.inl ())))
   else
    (some (.inl (w64 (s1 + 1)))))
  else
   (some (.inr (.inr ())))) n (0:Int)).bind fun r7=>match r7 with
 | .inl _=>some false
 | .inr _=>some true
theorem F99_4_R (n:Nat) (a0:List Node) (r:Bool) (hr:F99_4 n a0 = some r) {st:St} {p0:Spare}:R Tryz.prog AN 99 [vL tNode a0 p0,.fn 164 [] []] st (.ret (vB r)) st:=by
 unfold F99_4 at hr
 refine R_pureX [vL tNode a0 .shut,.fn 164 [] []] [(0,vL tNode a0 .shut),(1,.fn 164 [] [])] Tryz.func99 rfl (by simp only [strip,stripL,stripL_ET,Option.bind_some,Option.map_some]) rfl fun fr st H K=>?_
 refine W_seq (W_reg ?_)
 refine qg 1 [] H fun fr H=>?_
 refine qe ?_
 refine W_seq (W_seq ?_)
 refine W_reg ?_
 refine qg 1 [(7,vL tNode a0 .shut)] H fun fr H=>?_
 refine qln tNode 22 a0 .shut H fun fr H=>?_
 refine qg 1 [(9,vI 0)] H fun fr H=>?_
 refine qe ?_
 refine W_block ?_
 obtain ⟨r7,hr7,hr⟩:=obind hr
 refine W_iter hr7 (fun (s1:Int) fr st=>Rd fr [(1,.fn 164 [] []),(7,vL tNode a0 .shut),(8,vI (a0.length:Int)),(9,vI s1)]∧HL st []) (fun (r7:Unit ⊕ Unit) e fr st=>match r7 with | .inl r7a=>(e = .ret∧Rd fr [(4,vB false)]∧HL st []) | .inr r7b=>(e = .exit 0∧Rd fr []∧HL st [])) ⟨H.tq,K.keep []⟩ ?_ ?_
 ·intro s1 fr st r hi hr
  obtain ⟨H,K⟩:=hi
  refine W_seq (W_reg ?_)
  refine qg 1 [(10,vB (decide (s1 < (a0.length:Int))))] H fun fr H=>?_
  refine qe ?_
  refine W_seq ?_
  rcases csplit hr with ⟨hc2,hr⟩ | ⟨hc2,hr⟩
  rotate_left
  ·refine qF H hc2 ?_
   refine W_exit ?_
   obtain rfl:=Option.some.inj hr
   exact ⟨by simp,⟨rfl,H.tq,K.keep []⟩⟩
  refine qT H hc2 ?_
  refine W_skip ?_
  refine W_seq (W_block ?_)
  refine W_seq (W_reg ?_)
  refine qix tNode 22 .shut hr H fun x3 hr hx3 fr H=>?_
  refine qg 1 [(12,aN x3)] H fun fr H=>?_
  refine qal 24 [vI 0,vS (bs []),vS (bs []),vI 0,vI 0,vI 0,vB false,vL tNode ([]:List Node) .nil,vI 0] H K fun id4 st K fr H=>?_
  refine qst 24 0 (aN x3) [vI x3.kind,vS x3.name,vS x3.other,vI x3.n,vI x3.len,vI x3.init,vB x3.ghost,vL tNode x3.kids .shut,vI x3.pos] 0 H K rfl fun st K fr H=>?_
  refine qe ?_
  refine W_seq (W_reg ?_)
  refine qg 1 [(13,.fn 164 [] [])] H fun fr H=>?_
  refine qld 24 0 (aN x3) 0 H K rfl fun fr H=>?_
  refine qb hr (fun x h s=>F164_R  _ x h (p0:=.shut)) H fun x5 hr fr H=>?_
  refine qg 1 [(16,vB !x5)] H fun fr H=>?_
  refine qe ?_
  rcases csplit hr with ⟨hc6,hr⟩ | ⟨hc6,hr⟩
  ·refine qT H hc6 ?_
   refine W_seq (W_reg ?_)
   refine qg 1 [(4,vB false)] H fun fr H=>?_
   refine qe ?_
   refine W_ret ?_
   obtain rfl:=Option.some.inj hr
   exact ⟨by simp,⟨rfl,H.tq,K.keep [false]⟩⟩
  refine qF H hc6 ?_
  refine W_skip ?_
  refine W_reg ?_
  refine qg 2 [(9,vI (w64 (s1 + 1)))] H fun fr H=>?_
  refine qe ?_
  obtain rfl:=Option.some.inj hr
  exact ⟨rfl,⟨H.tq,K.keep [false]⟩⟩
 rcases r7 with r7a | r7b
 ·rintro e fr st ⟨rfl,H,K⟩
  obtain rfl:=Option.some.inj hr
  exact qr [vB false] H K
 rintro e fr st ⟨rfl,H,K⟩
 refine W_seq (W_reg ?_)
 refine qg 1 [(4,vB true)] H fun fr H=>?_
 refine qe ?_
 refine W_ret ?_
 obtain rfl:=Option.some.inj hr
 exact qr [vB true] H K
def F165 (a0:Node):Option Bool :=
 bif a0.kind == 51 then
  (bif a0.kind == 51 then
   (some true)
  else
   (some false))
 else
  (bif a0.kind == 50 then
   (bif a0.kind == 50 then
    (some true)
   else
    (some false))
  else
   (bif a0.kind == 53 then
    (bif a0.kind == 53 then
     (some true)
    else
     (some false))
   else
    (bif a0.kind == 54 then
     (bif a0.kind == 54 then
      (some true)
     else
      (some false))
    else
     (bif a0.kind == 55 then
      (bif a0.kind == 55 then
       (some true)
      else
       (some false))
     else
      (bif a0.kind == 56 then
       (bif a0.kind == 56 then
        (some true)
       else
        (some false))
      else
       (bif a0.kind == 57 then
        (some true)
       else
        (some false)))))))
theorem F165_R (a0:Node) (r:Bool) (hr:F165 a0 = some r) {st:St} {p0:Spare}:R Tryz.prog AN 165 [.agg (cNode p0 a0)] st (.ret (vB r)) st:=by
 unfold F165 at hr
 refine R_pureX [aN a0] [(0,aN a0)] Tryz.func165 rfl (by simp only [strip,stripL,stripL_cNode,Option.bind_some,Option.map_some]) rfl fun fr st H K=>?_
 refine W_seq (W_reg ?_)
 refine qg 2 [(1,cN a0 0)] H fun fr H=>?_
 refine qe ?_
 refine W_seq (W_seq ?_)
 refine W_reg ?_
 refine qg 2 [(4,vI a0.kind)] H fun fr H=>?_
 refine qe ?_
 refine W_block ?_
 refine W_seq (W_seq ?_)
 refine W_reg ?_
 refine qg 2 [(5,vB (a0.kind == 51))] H fun fr H=>?_
 refine qe ?_
 rcases csplit hr with ⟨hc1,hr⟩ | ⟨hc1,hr⟩
 ·refine qT H hc1 ?_
  refine W_skip ?_
  rcases csplit hr with ⟨hc7,hr⟩ | ⟨hc7,hr⟩
  ·refine qT H hc7 ?_
   refine W_seq (W_reg ?_)
   refine qg 1 [(2,vB true)] H fun fr H=>?_
   refine qe ?_
   refine W_ret ?_
   obtain rfl:=Option.some.inj hr
   exact qr [vB true] H K
  refine qF H hc7 ?_
  refine W_skip ?_
  refine W_seq (W_reg ?_)
  refine qg 1 [(2,vB false)] H fun fr H=>?_
  refine qe ?_
  refine W_ret ?_
  obtain rfl:=Option.some.inj hr
  exact qr [vB false] H K
 refine qF H hc1 ?_
 refine W_seq (W_reg ?_)
 refine qg 2 [(5,vB (a0.kind == 50))] H fun fr H=>?_
 refine qe ?_
 rcases csplit hr with ⟨hc2,hr⟩ | ⟨hc2,hr⟩
 ·refine qT H hc2 ?_
  refine W_skip ?_
  rcases csplit hr with ⟨hc8,hr⟩ | ⟨hc8,hr⟩
  ·refine qT H hc8 ?_
   refine W_seq (W_reg ?_)
   refine qg 1 [(2,vB true)] H fun fr H=>?_
   refine qe ?_
   refine W_ret ?_
   obtain rfl:=Option.some.inj hr
   exact qr [vB true] H K
  refine qF H hc8 ?_
  refine W_skip ?_
  refine W_seq (W_reg ?_)
  refine qg 1 [(2,vB false)] H fun fr H=>?_
  refine qe ?_
  refine W_ret ?_
  obtain rfl:=Option.some.inj hr
  exact qr [vB false] H K
 refine qF H hc2 ?_
 refine W_seq (W_reg ?_)
 refine qg 2 [(5,vB (a0.kind == 53))] H fun fr H=>?_
 refine qe ?_
 rcases csplit hr with ⟨hc3,hr⟩ | ⟨hc3,hr⟩
 ·refine qT H hc3 ?_
  refine W_skip ?_
  rcases csplit hr with ⟨hc9,hr⟩ | ⟨hc9,hr⟩
  ·refine qT H hc9 ?_
   refine W_seq (W_reg ?_)
   refine qg 1 [(2,vB true)] H fun fr H=>?_
   refine qe ?_
   refine W_ret ?_
   obtain rfl:=Option.some.inj hr
   exact qr [vB true] H K
  refine qF H hc9 ?_
  refine W_skip ?_
  refine W_seq (W_reg ?_)
  refine qg 1 [(2,vB false)] H fun fr H=>?_
  refine qe ?_
  refine W_ret ?_
  obtain rfl:=Option.some.inj hr
  exact qr [vB false] H K
 refine qF H hc3 ?_
 refine W_seq (W_reg ?_)
 refine qg 2 [(5,vB (a0.kind == 54))] H fun fr H=>?_
 refine qe ?_
 rcases csplit hr with ⟨hc4,hr⟩ | ⟨hc4,hr⟩
 ·refine qT H hc4 ?_
  refine W_skip ?_
  rcases csplit hr with ⟨hc10,hr⟩ | ⟨hc10,hr⟩
  ·refine qT H hc10 ?_
   refine W_seq (W_reg ?_)
   refine qg 1 [(2,vB true)] H fun fr H=>?_
   refine qe ?_
   refine W_ret ?_
   obtain rfl:=Option.some.inj hr
   exact qr [vB true] H K
  refine qF H hc10 ?_
  refine W_skip ?_
  refine W_seq (W_reg ?_)
  refine qg 1 [(2,vB false)] H fun fr H=>?_
  refine qe ?_
  refine W_ret ?_
  obtain rfl:=Option.some.inj hr
  exact qr [vB false] H K
 refine qF H hc4 ?_
 refine W_seq (W_reg ?_)
 refine qg 2 [(5,vB (a0.kind == 55))] H fun fr H=>?_
 refine qe ?_
 rcases csplit hr with ⟨hc5,hr⟩ | ⟨hc5,hr⟩
 ·refine qT H hc5 ?_
  refine W_skip ?_
  rcases csplit hr with ⟨hc11,hr⟩ | ⟨hc11,hr⟩
  ·refine qT H hc11 ?_
   refine W_seq (W_reg ?_)
   refine qg 1 [(2,vB true)] H fun fr H=>?_
   refine qe ?_
   refine W_ret ?_
   obtain rfl:=Option.some.inj hr
   exact qr [vB true] H K
  refine qF H hc11 ?_
  refine W_skip ?_
  refine W_seq (W_reg ?_)
  refine qg 1 [(2,vB false)] H fun fr H=>?_
  refine qe ?_
  refine W_ret ?_
  obtain rfl:=Option.some.inj hr
  exact qr [vB false] H K
 refine qF H hc5 ?_
 refine W_seq (W_reg ?_)
 refine qg 2 [(5,vB (a0.kind == 56))] H fun fr H=>?_
 refine qe ?_
 rcases csplit hr with ⟨hc6,hr⟩ | ⟨hc6,hr⟩
 ·refine qT H hc6 ?_
  refine W_skip ?_
  rcases csplit hr with ⟨hc12,hr⟩ | ⟨hc12,hr⟩
  ·refine qT H hc12 ?_
   refine W_seq (W_reg ?_)
   refine qg 1 [(2,vB true)] H fun fr H=>?_
   refine qe ?_
   refine W_ret ?_
   obtain rfl:=Option.some.inj hr
   exact qr [vB true] H K
  refine qF H hc12 ?_
  refine W_skip ?_
  refine W_seq (W_reg ?_)
  refine qg 1 [(2,vB false)] H fun fr H=>?_
  refine qe ?_
  refine W_ret ?_
  obtain rfl:=Option.some.inj hr
  exact qr [vB false] H K
 refine qF H hc6 ?_
 refine W_reg ?_
 refine qg 2 [(5,vB (a0.kind == 57))] H fun fr H=>?_
 refine qe ?_
 rcases csplit hr with ⟨hc13,hr⟩ | ⟨hc13,hr⟩
 ·refine qT H hc13 ?_
  refine W_seq (W_reg ?_)
  refine qg 1 [(2,vB true)] H fun fr H=>?_
  refine qe ?_
  refine W_ret ?_
  obtain rfl:=Option.some.inj hr
  exact qr [vB true] H K
 refine qF H hc13 ?_
 refine W_skip ?_
 refine W_seq (W_reg ?_)
 refine qg 1 [(2,vB false)] H fun fr H=>?_
 refine qe ?_
 refine W_ret ?_
 obtain rfl:=Option.some.inj hr
 exact qr [vB false] H K
def F99_5 (n:Nat) (a0:List Node):Option Bool :=
 (iter (σ:=Int) (ρ:=Unit ⊕ Unit) (fun s1=>bif decide (s1 < (a0.length:Int)) then
   ((idxL a0 s1).bind fun x3 =>
   (F165 x3).bind fun x5 =>
   bif !x5 then
    (some (.inr (.inl ())))
   else
    (some (.inl (w64 (s1 + 1)))))
  else
   (some (.inr (.inr ())))) n (0:Int)).bind fun r7=>match r7 with
 | .inl _=>some false
 | .inr _=>some true
theorem F99_5_R (n:Nat) (a0:List Node) (r:Bool) (hr:F99_5 n a0 = some r) {st:St} {p0:Spare}:R Tryz.prog AN 99 [vL tNode a0 p0,.fn 165 [] []] st (.ret (vB r)) st:=by
 unfold F99_5 at hr
 refine R_pureX [vL tNode a0 .shut,.fn 165 [] []] [(0,vL tNode a0 .shut),(1,.fn 165 [] [])] Tryz.func99 rfl (by simp only [strip,stripL,stripL_ET,Option.bind_some,Option.map_some]) rfl fun fr st H K=>?_
 refine W_seq (W_reg ?_)
 refine qg 1 [] H fun fr H=>?_
 refine qe ?_
 refine W_seq (W_seq ?_)
 refine W_reg ?_
 refine qg 1 [(7,vL tNode a0 .shut)] H fun fr H=>?_
 refine qln tNode 22 a0 .shut H fun fr H=>?_
 refine qg 1 [(9,vI 0)] H fun fr H=>?_
 refine qe ?_
 refine W_block ?_
 obtain ⟨r7,hr7,hr⟩:=obind hr
 refine W_iter hr7 (fun (s1:Int) fr st=>Rd fr [(1,.fn 165 [] []),(7,vL tNode a0 .shut),(8,vI (a0.length:Int)),(9,vI s1)]∧HL st []) (fun (r7:Unit ⊕ Unit) e fr st=>match r7 with | .inl r7a=>(e = .ret∧Rd fr [(4,vB false)]∧HL st []) | .inr r7b=>(e = .exit 0∧Rd fr []∧HL st [])) ⟨H.tq,K.keep []⟩ ?_ ?_
 ·intro s1 fr st r hi hr
  obtain ⟨H,K⟩:=hi
  refine W_seq (W_reg ?_)
  refine qg 1 [(10,vB (decide (s1 < (a0.length:Int))))] H fun fr H=>?_
  refine qe ?_
  refine W_seq ?_
  rcases csplit hr with ⟨hc2,hr⟩ | ⟨hc2,hr⟩
  rotate_left
  ·refine qF H hc2 ?_
   refine W_exit ?_
   obtain rfl:=Option.some.inj hr
   exact ⟨by simp,⟨rfl,H.tq,K.keep []⟩⟩
  refine qT H hc2 ?_
  refine W_skip ?_
  refine W_seq (W_block ?_)
  refine W_seq (W_reg ?_)
  refine qix tNode 22 .shut hr H fun x3 hr hx3 fr H=>?_
  refine qg 1 [(12,aN x3)] H fun fr H=>?_
  refine qal 24 [vI 0,vS (bs []),vS (bs []),vI 0,vI 0,vI 0,vB false,vL tNode ([]:List Node) .nil,vI 0] H K fun id4 st K fr H=>?_
  refine qst 24 0 (aN x3) [vI x3.kind,vS x3.name,vS x3.other,vI x3.n,vI x3.len,vI x3.init,vB x3.ghost,vL tNode x3.kids .shut,vI x3.pos] 0 H K rfl fun st K fr H=>?_
  refine qe ?_
  refine W_seq (W_reg ?_)
  refine qg 1 [(13,.fn 165 [] [])] H fun fr H=>?_
  refine qld 24 0 (aN x3) 0 H K rfl fun fr H=>?_
  refine qb hr (fun x h s=>F165_R  _ x h (p0:=.shut)) H fun x5 hr fr H=>?_
  refine qg 1 [(16,vB !x5)] H fun fr H=>?_
  refine qe ?_
  rcases csplit hr with ⟨hc6,hr⟩ | ⟨hc6,hr⟩
  ·refine qT H hc6 ?_
   refine W_seq (W_reg ?_)
   refine qg 1 [(4,vB false)] H fun fr H=>?_
   refine qe ?_
   refine W_ret ?_
   obtain rfl:=Option.some.inj hr
   exact ⟨by simp,⟨rfl,H.tq,K.keep [false]⟩⟩
  refine qF H hc6 ?_
  refine W_skip ?_
  refine W_reg ?_
  refine qg 2 [(9,vI (w64 (s1 + 1)))] H fun fr H=>?_
  refine qe ?_
  obtain rfl:=Option.some.inj hr
  exact ⟨rfl,⟨H.tq,K.keep [false]⟩⟩
 rcases r7 with r7a | r7b
 ·rintro e fr st ⟨rfl,H,K⟩
  obtain rfl:=Option.some.inj hr
  exact qr [vB false] H K
 rintro e fr st ⟨rfl,H,K⟩
 refine W_seq (W_reg ?_)
 refine qg 1 [(4,vB true)] H fun fr H=>?_
 refine qe ?_
 refine W_ret ?_
 obtain rfl:=Option.some.inj hr
 exact qr [vB true] H K
def F166 (a0:Node):Option Bool :=
 some ((a0.kind == 60) || (a0.kind == 61))
theorem F166_R (a0:Node) (r:Bool) (hr:F166 a0 = some r) {st:St} {p0:Spare}:R Tryz.prog AN 166 [.agg (cNode p0 a0)] st (.ret (vB r)) st:=by
 unfold F166 at hr
 refine R_pureX [aN a0] [(0,aN a0)] Tryz.func166 rfl (by simp only [strip,stripL,stripL_cNode,Option.bind_some,Option.map_some]) rfl fun fr st H K=>?_
 refine W_seq (W_reg ?_)
 refine qg 2 [(1,cN a0 0)] H fun fr H=>?_
 refine qe ?_
 refine W_seq (W_reg ?_)
 refine qg 4 [(6,vB (a0.kind == 60))] H fun fr H=>?_
 refine qg 4 [(10,vB ((a0.kind == 60) || (a0.kind == 61)))] H (hs:=by intro _ _; generalize (a0.kind == 60) = b0; cases b0 <;> kernel_rfl) fun fr H=>?_
 refine qg 1 [(2,vB ((a0.kind == 60) || (a0.kind == 61)))] H fun fr H=>?_
 refine qe ?_
 refine W_ret ?_
 obtain rfl:=Option.some.inj hr
 exact qr [vB ((a0.kind == 60) || (a0.kind == 61))] H K
def F99_6 (n:Nat) (a0:List Node):Option Bool :=
 (iter (σ:=Int) (ρ:=Unit ⊕ Unit) (fun s1=>bif decide (s1 < (a0.length:Int)) then
   ((idxL a0 s1).bind fun x3 =>
   (F166 x3).bind fun x5 =>
   bif !x5 then
    (some (.inr (.inl ())))
   else
    (some (.inl (w64 (s1 + 1)))))
  else
   (some (.inr (.inr ())))) n (0:Int)).bind fun r7=>match r7 with
 | .inl _=>some false
 | .inr _=>some true
theorem F99_6_R (n:Nat) (a0:List Node) (r:Bool) (hr:F99_6 n a0 = some r) {st:St} {p0:Spare}:R Tryz.prog AN 99 [vL tNode a0 p0,.fn 166 [] []] st (.ret (vB r)) st:=by
 unfold F99_6 at hr
 refine R_pureX [vL tNode a0 .shut,.fn 166 [] []] [(0,vL tNode a0 .shut),(1,.fn 166 [] [])] Tryz.func99 rfl (by simp only [strip,stripL,stripL_ET,Option.bind_some,Option.map_some]) rfl fun fr st H K=>?_
 refine W_seq (W_reg ?_)
 refine qg 1 [] H fun fr H=>?_
 refine qe ?_
 refine W_seq (W_seq ?_)
 refine W_reg ?_
 refine qg 1 [(7,vL tNode a0 .shut)] H fun fr H=>?_
 refine qln tNode 22 a0 .shut H fun fr H=>?_
 refine qg 1 [(9,vI 0)] H fun fr H=>?_
 refine qe ?_
 refine W_block ?_
 obtain ⟨r7,hr7,hr⟩:=obind hr
 refine W_iter hr7 (fun (s1:Int) fr st=>Rd fr [(1,.fn 166 [] []),(7,vL tNode a0 .shut),(8,vI (a0.length:Int)),(9,vI s1)]∧HL st []) (fun (r7:Unit ⊕ Unit) e fr st=>match r7 with | .inl r7a=>(e = .ret∧Rd fr [(4,vB false)]∧HL st []) | .inr r7b=>(e = .exit 0∧Rd fr []∧HL st [])) ⟨H.tq,K.keep []⟩ ?_ ?_
 ·intro s1 fr st r hi hr
  obtain ⟨H,K⟩:=hi
  refine W_seq (W_reg ?_)
  refine qg 1 [(10,vB (decide (s1 < (a0.length:Int))))] H fun fr H=>?_
  refine qe ?_
  refine W_seq ?_
  rcases csplit hr with ⟨hc2,hr⟩ | ⟨hc2,hr⟩
  rotate_left
  ·refine qF H hc2 ?_
   refine W_exit ?_
   obtain rfl:=Option.some.inj hr
   exact ⟨by simp,⟨rfl,H.tq,K.keep []⟩⟩
  refine qT H hc2 ?_
  refine W_skip ?_
  refine W_seq (W_block ?_)
  refine W_seq (W_reg ?_)
  refine qix tNode 22 .shut hr H fun x3 hr hx3 fr H=>?_
  refine qg 1 [(12,aN x3)] H fun fr H=>?_
  refine qal 24 [vI 0,vS (bs []),vS (bs []),vI 0,vI 0,vI 0,vB false,vL tNode ([]:List Node) .nil,vI 0] H K fun id4 st K fr H=>?_
  refine qst 24 0 (aN x3) [vI x3.kind,vS x3.name,vS x3.other,vI x3.n,vI x3.len,vI x3.init,vB x3.ghost,vL tNode x3.kids .shut,vI x3.pos] 0 H K rfl fun st K fr H=>?_
  refine qe ?_
  refine W_seq (W_reg ?_)
  refine qg 1 [(13,.fn 166 [] [])] H fun fr H=>?_
  refine qld 24 0 (aN x3) 0 H K rfl fun fr H=>?_
  refine qb hr (fun x h s=>F166_R  _ x h (p0:=.shut)) H fun x5 hr fr H=>?_
  refine qg 1 [(16,vB !x5)] H fun fr H=>?_
  refine qe ?_
  rcases csplit hr with ⟨hc6,hr⟩ | ⟨hc6,hr⟩
  ·refine qT H hc6 ?_
   refine W_seq (W_reg ?_)
   refine qg 1 [(4,vB false)] H fun fr H=>?_
   refine qe ?_
   refine W_ret ?_
   obtain rfl:=Option.some.inj hr
   exact ⟨by simp,⟨rfl,H.tq,K.keep [false]⟩⟩
  refine qF H hc6 ?_
  refine W_skip ?_
  refine W_reg ?_
  refine qg 2 [(9,vI (w64 (s1 + 1)))] H fun fr H=>?_
  refine qe ?_
  obtain rfl:=Option.some.inj hr
  exact ⟨rfl,⟨H.tq,K.keep [false]⟩⟩
 rcases r7 with r7a | r7b
 ·rintro e fr st ⟨rfl,H,K⟩
  obtain rfl:=Option.some.inj hr
  exact qr [vB false] H K
 rintro e fr st ⟨rfl,H,K⟩
 refine W_seq (W_reg ?_)
 refine qg 1 [(4,vB true)] H fun fr H=>?_
 refine qe ?_
 refine W_ret ?_
 obtain rfl:=Option.some.inj hr
 exact qr [vB true] H K
end Go.Proofs.YtbecjgckobhmpaaGreatDoor
end
section
namespace Go.Proofs.YtbecjgckobhmpaaGreatDoor
open Go Go.AM Go.Proofs
set_option maxRecDepth 100000
set_option maxHeartbeats 4000000
def PF98_0:Pred:=⟨62,[],[],fun y=>F62 y,fun _=>⟨by kernel_rfl,by kernel_rfl⟩,fun y r st sp h=>F62_R  y r h⟩
def PF98_1:Pred:=⟨197,[],[.cptr ([vI 2]) 0],fun y=>F197 y (2:Int),fun _=>⟨by kernel_rfl,by kernel_rfl⟩,fun y r st sp h=>F197_R  y (2:Int) r h⟩
def PF98_2:Pred:=⟨62,[],[],fun y=>F62 y,fun _=>⟨by kernel_rfl,by kernel_rfl⟩,fun y r st sp h=>F62_R  y r h⟩
def PF98_3:Pred:=⟨62,[],[],fun y=>F62 y,fun _=>⟨by kernel_rfl,by kernel_rfl⟩,fun y r st sp h=>F62_R  y r h⟩
def PF98_4:Pred:=⟨62,[],[],fun y=>F62 y,fun _=>⟨by kernel_rfl,by kernel_rfl⟩,fun y r st sp h=>F62_R  y r h⟩
def PF98_5:Pred:=⟨62,[],[],fun y=>F62 y,fun _=>⟨by kernel_rfl,by kernel_rfl⟩,fun y r st sp h=>F62_R  y r h⟩
def PF98_6:Pred:=⟨62,[],[],fun y=>F62 y,fun _=>⟨by kernel_rfl,by kernel_rfl⟩,fun y r st sp h=>F62_R  y r h⟩
def PF98_7:Pred:=⟨62,[],[],fun y=>F62 y,fun _=>⟨by kernel_rfl,by kernel_rfl⟩,fun y r st sp h=>F62_R  y r h⟩
def PF98_8:Pred:=⟨197,[],[.cptr ([vI 2]) 0],fun y=>F197 y (2:Int),fun _=>⟨by kernel_rfl,by kernel_rfl⟩,fun y r st sp h=>F197_R  y (2:Int) r h⟩
def PF98_9:Pred:=⟨62,[],[],fun y=>F62 y,fun _=>⟨by kernel_rfl,by kernel_rfl⟩,fun y r st sp h=>F62_R  y r h⟩
def PF98_10:Pred:=⟨62,[],[],fun y=>F62 y,fun _=>⟨by kernel_rfl,by kernel_rfl⟩,fun y r st sp h=>F62_R  y r h⟩
def PF98_11:Pred:=⟨197,[],[.cptr ([vI 2]) 0],fun y=>F197 y (2:Int),fun _=>⟨by kernel_rfl,by kernel_rfl⟩,fun y r st sp h=>F197_R  y (2:Int) r h⟩
def PF98_12:Pred:=⟨62,[],[],fun y=>F62 y,fun _=>⟨by kernel_rfl,by kernel_rfl⟩,fun y r st sp h=>F62_R  y r h⟩
def PF98_13:Pred:=⟨197,[],[.cptr ([vI 34]) 0],fun y=>F197 y (34:Int),fun _=>⟨by kernel_rfl,by kernel_rfl⟩,fun y r st sp h=>F197_R  y (34:Int) r h⟩
def PF98_14:Pred:=⟨197,[],[.cptr ([vI 34]) 0],fun y=>F197 y (34:Int),fun _=>⟨by kernel_rfl,by kernel_rfl⟩,fun y r st sp h=>F197_R  y (34:Int) r h⟩
def PF98_15:Pred:=⟨62,[],[],fun y=>F62 y,fun _=>⟨by kernel_rfl,by kernel_rfl⟩,fun y r st sp h=>F62_R  y r h⟩
def PF98_16:Pred:=⟨198,[],[.cptr ([.fn 62 [] []]) 0,.cptr ([.fn 161 [] []]) 0],fun y=>F198 y,fun _=>⟨by kernel_rfl,by kernel_rfl⟩,fun y r st sp h=>F198_R  y r h⟩
def PF98_17:Pred:=⟨197,[],[.cptr ([vI 34]) 0],fun y=>F197 y (34:Int),fun _=>⟨by kernel_rfl,by kernel_rfl⟩,fun y r st sp h=>F197_R  y (34:Int) r h⟩
def F98 (n:Nat) (a0:Node):Option Bool :=
 (bif a0.kind == 1 then
   (some (a0.kind == 1))
  else
   (bif a0.kind == 26 then
    (some (a0.kind == 26))
   else
    (bif a0.kind == 30 then
     (some (a0.kind == 30))
    else
     (bif a0.kind == 24 then
      (some (a0.kind == 24))
     else
      (bif a0.kind == 25 then
       (some (a0.kind == 25))
      else
       (bif a0.kind == 27 then
        (some (a0.kind == 27))
       else
        (bif a0.kind == 28 then
         (some (a0.kind == 28))
        else
         (bif a0.kind == 35 then
          (some (a0.kind == 35))
         else
          (bif a0.kind == 58 then
           (some (a0.kind == 58))
          else
           (bif a0.kind == 52 then
            (some (a0.kind == 52))
           else
            (bif a0.kind == 50 then
             (some (a0.kind == 50))
            else
             (some (a0.kind == 63)))))))))))):Option (Bool)).bind fun j12 =>
 bif j12 then
  (some ((a0.kids.length:Int) == 0))
 else
  (bif a0.kind == 2 then
   (bif (a0.kids.length:Int) == 0 then
    (some true)
   else
    ((F158 n a0.kids ([(PF98_0 )]:List Pred)).bind fun x16 =>
    some x16))
  else
   (bif a0.kind == 3 then
    ((F158 n a0.kids ([(PF98_1 )]:List Pred)).bind fun x18 =>
    some x18)
   else
    ((bif a0.kind == 4 then
      (some (a0.kind == 4))
     else
      (bif a0.kind == 7 then
       (some (a0.kind == 7))
      else
       (bif a0.kind == 8 then
        (some (a0.kind == 8))
       else
        (bif a0.kind == 20 then
         (some (a0.kind == 20))
        else
         (bif a0.kind == 29 then
          (some (a0.kind == 29))
         else
          (bif a0.kind == 54 then
           (some (a0.kind == 54))
          else
           (bif a0.kind == 55 then
            (some (a0.kind == 55))
           else
            (some (a0.kind == 53)))))))):Option (Bool)).bind fun j26 =>
    bif j26 then
     ((F158 n a0.kids ([(PF98_2 )]:List Pred)).bind fun x28 =>
     some x28)
    else
     (bif a0.kind == 5 then
      ((F158 n a0.kids ([(PF98_3 ),(PF98_4 )]:List Pred)).bind fun x30 =>
      some x30)
     else
      (bif a0.kind == 6 then
       ((F158 n a0.kids ([(PF98_5 ),(PF98_6 ),(PF98_7 )]:List Pred)).bind fun x32 =>
       some x32)
      else
       (bif a0.kind == 21 then
        (bif decide (0 < (a0.kids.length:Int)) then
         ((F160 n a0.kids).bind fun x35 =>
         some x35)
        else
         (some false))
       else
        (bif a0.kind == 22 then
         (bif decide (0 < (a0.kids.length:Int)) then
          ((idxL a0.kids 0).bind fun x38 =>
          (F62 x38).bind fun x39 =>
          bif x39 then
           ((subL a0.kids 1 (a0.kids.length:Int)).bind fun x41 =>
           (F160 n x41).bind fun x42 =>
           some x42)
          else
           ((idxL a0.kids 0).bind fun x43 =>
           (F161 x43).bind fun x44 =>
           bif x44 then
            ((subL a0.kids 1 (a0.kids.length:Int)).bind fun x46 =>
            (F160 n x46).bind fun x47 =>
            some x47)
           else
            (some false)))
         else
          (some false))
        else
         (bif a0.kind == 23 then
          (bif decide (4≤(a0.kids.length:Int)) then
           ((subL a0.kids 0 4).bind fun x50 =>
           (F158 n x50 ([(PF98_8 ),(PF98_9 ),(PF98_10 ),(PF98_11 )]:List Pred)).bind fun x51 =>
           bif x51 then
            ((subL a0.kids 4 (a0.kids.length:Int)).bind fun x53 =>
            (F160 n x53).bind fun x54 =>
            some x54)
           else
            (some false))
          else
           (some false))
         else
          (bif a0.kind == 31 then
           ((F158 n a0.kids ([(PF98_12 ),(PF98_13 ),(PF98_14 )]:List Pred)).bind fun x56 =>
           some x56)
          else
           (bif a0.kind == 32 then
            ((F158 n a0.kids ([(PF98_15 ),(PF98_16 ),(PF98_17 )]:List Pred)).bind fun x58 =>
            some x58)
           else
            (bif a0.kind == 33 then
             ((F99_1 n a0.kids).bind fun x60 =>
             some x60)
            else
             (bif a0.kind == 34 then
              ((F99_2 n a0.kids).bind fun x62 =>
              some x62)
             else
              (bif a0.kind == 51 then
               ((F99_3 n a0.kids (52:Int)).bind fun x64 =>
               some x64)
              else
               (bif a0.kind == 56 then
                (bif decide (0 < (a0.kids.length:Int)) then
                 ((F99_4 n a0.kids).bind fun x67 =>
                 some x67)
                else
                 (some false))
               else
                (bif a0.kind == 57 then
                 (bif decide (0≤(w64 ((a0.kids.length:Int) - 1))) then
                  ((idxL a0.kids (w64 ((a0.kids.length:Int) - 1))).bind fun x70 =>
                  bif x70.kind == 34 then
                   ((subL a0.kids 0 (w64 ((a0.kids.length:Int) - 1))).bind fun x72 =>
                   (F99_3 n x72 (58:Int)).bind fun x73 =>
                   some x73)
                  else
                   (some false))
                 else
                  (some false))
                else
                 (bif a0.kind == 60 then
                  ((F99_5 n a0.kids).bind fun x75 =>
                  some x75)
                 else
                  (bif a0.kind == 61 then
                   ((F99_3 n a0.kids (1:Int)).bind fun x77 =>
                   some x77)
                  else
                   (bif a0.kind == 62 then
                    ((F99_6 n a0.kids).bind fun x79 =>
                    some x79)
                   else
                    (some false)))))))))))))))))))
theorem F98_R (n:Nat) (a0:Node) (r:Bool) (hr:F98 n a0 = some r) {st:St} {p0:Spare}:R Tryz.prog AN 98 [.agg [keysV],.agg (cNode p0 a0)] st (.ret (vB r)) st:=by
 unfold F98 at hr
 refine R_pureX [.agg [keysV],aN a0] [(0,.agg [keysV]),(1,aN a0)] Tryz.func98 rfl (by simp only [strip,stripL,strip_keysV,stripL_cNode,Option.bind_some,Option.map_some]) rfl fun fr st H K=>?_
 refine W_seq (W_reg ?_)
 refine qg 3 [(3,cN a0 0)] H fun fr H=>?_
 refine qe ?_
 refine W_seq (W_reg ?_)
 refine qg 3 [(5,vL tNode a0.kids .shut)] H fun fr H=>?_
 refine qe ?_
 refine W_seq (W_seq ?_)
 refine W_reg ?_
 refine qg 2 [(10,vI a0.kind)] H fun fr H=>?_
 refine qe ?_
 refine W_block ?_
 refine W_seq ?_
 obtain ⟨j12,hj12,hr⟩:=obind hr
 refine W_via (fun e fr st=>e = .normal∧Rd fr [(5,vL tNode a0.kids .shut),(10,vI a0.kind),(11,vB j12)]∧HL st []) ?_ ?_
 ·replace hr:=hj12
  refine W_seq (W_reg ?_)
  refine qg 2 [(11,vB (a0.kind == 1))] H fun fr H=>?_
  refine qe ?_
  rcases csplit hr with ⟨hc1,hr⟩ | ⟨hc1,hr⟩
  ·refine qT H hc1 ?_
   refine W_skip ?_
   obtain rfl:=Option.some.inj hr
   exact ⟨rfl,H.tq,K.keep []⟩
  refine qF H hc1 ?_
  refine W_seq (W_reg ?_)
  refine qg 2 [(11,vB (a0.kind == 26))] H fun fr H=>?_
  refine qe ?_
  rcases csplit hr with ⟨hc2,hr⟩ | ⟨hc2,hr⟩
  ·refine qT H hc2 ?_
   refine W_skip ?_
   obtain rfl:=Option.some.inj hr
   exact ⟨rfl,H.tq,K.keep []⟩
  refine qF H hc2 ?_
  refine W_seq (W_reg ?_)
  refine qg 2 [(11,vB (a0.kind == 30))] H fun fr H=>?_
  refine qe ?_
  rcases csplit hr with ⟨hc3,hr⟩ | ⟨hc3,hr⟩
  ·refine qT H hc3 ?_
   refine W_skip ?_
   obtain rfl:=Option.some.inj hr
   exact ⟨rfl,H.tq,K.keep []⟩
  refine qF H hc3 ?_
  refine W_seq (W_reg ?_)
  refine qg 2 [(11,vB (a0.kind == 24))] H fun fr H=>?_
  refine qe ?_
  rcases csplit hr with ⟨hc4,hr⟩ | ⟨hc4,hr⟩
  ·refine qT H hc4 ?_
   refine W_skip ?_
   obtain rfl:=Option.some.inj hr
   exact ⟨rfl,H.tq,K.keep []⟩
  refine qF H hc4 ?_
  refine W_seq (W_reg ?_)
  refine qg 2 [(11,vB (a0.kind == 25))] H fun fr H=>?_
  refine qe ?_
  rcases csplit hr with ⟨hc5,hr⟩ | ⟨hc5,hr⟩
  ·refine qT H hc5 ?_
   refine W_skip ?_
   obtain rfl:=Option.some.inj hr
   exact ⟨rfl,H.tq,K.keep []⟩
  refine qF H hc5 ?_
  refine W_seq (W_reg ?_)
  refine qg 2 [(11,vB (a0.kind == 27))] H fun fr H=>?_
  refine qe ?_
  rcases csplit hr with ⟨hc6,hr⟩ | ⟨hc6,hr⟩
  ·refine qT H hc6 ?_
   refine W_skip ?_
   obtain rfl:=Option.some.inj hr
   exact ⟨rfl,H.tq,K.keep []⟩
  refine qF H hc6 ?_
  refine W_seq (W_reg ?_)
  refine qg 2 [(11,vB (a0.kind == 28))] H fun fr H=>?_
  refine qe ?_
  rcases csplit hr with ⟨hc7,hr⟩ | ⟨hc7,hr⟩
  ·refine qT H hc7 ?_
   refine W_skip ?_
   obtain rfl:=Option.some.inj hr
   exact ⟨rfl,H.tq,K.keep []⟩
  refine qF H hc7 ?_
  refine W_seq (W_reg ?_)
  refine qg 2 [(11,vB (a0.kind == 35))] H fun fr H=>?_
  refine qe ?_
  rcases csplit hr with ⟨hc8,hr⟩ | ⟨hc8,hr⟩
  ·refine qT H hc8 ?_
   refine W_skip ?_
   obtain rfl:=Option.some.inj hr
   exact ⟨rfl,H.tq,K.keep []⟩
  refine qF H hc8 ?_
  refine W_seq (W_reg ?_)
  refine qg 2 [(11,vB (a0.kind == 58))] H fun fr H=>?_
  refine qe ?_
  rcases csplit hr with ⟨hc9,hr⟩ | ⟨hc9,hr⟩
  ·refine qT H hc9 ?_
   refine W_skip ?_
   obtain rfl:=Option.some.inj hr
   exact ⟨rfl,H.tq,K.keep []⟩
  refine qF H hc9 ?_
  refine W_seq (W_reg ?_)
  refine qg 2 [(11,vB (a0.kind == 52))] H fun fr H=>?_
  refine qe ?_
  rcases csplit hr with ⟨hc10,hr⟩ | ⟨hc10,hr⟩
  ·refine qT H hc10 ?_
   refine W_skip ?_
   obtain rfl:=Option.some.inj hr
   exact ⟨rfl,H.tq,K.keep []⟩
  refine qF H hc10 ?_
  refine W_seq (W_reg ?_)
  refine qg 2 [(11,vB (a0.kind == 50))] H fun fr H=>?_
  refine qe ?_
  rcases csplit hr with ⟨hc11,hr⟩ | ⟨hc11,hr⟩
  ·refine qT H hc11 ?_
   refine W_skip ?_
   obtain rfl:=Option.some.inj hr
   exact ⟨rfl,H.tq,K.keep []⟩
  refine qF H hc11 ?_
  refine W_reg ?_
  refine qg 2 [(11,vB (a0.kind == 63))] H fun fr H=>?_
  refine qe ?_
  obtain rfl:=Option.some.inj hr
  exact ⟨rfl,H.tq,K.keep []⟩
 rintro e fr st ⟨rfl,H,K⟩
 rcases csplit hr with ⟨hc13,hr⟩ | ⟨hc13,hr⟩
 ·refine qT H hc13 ?_
  refine W_seq (W_reg ?_)
  refine qg 1 [(24,vL tNode a0.kids .shut)] H fun fr H=>?_
  refine qln tNode 22 a0.kids .shut H fun fr H=>?_
  refine qg 2 [(4,vB ((a0.kids.length:Int) == 0))] H fun fr H=>?_
  refine qe ?_
  refine W_ret ?_
  obtain rfl:=Option.some.inj hr
  exact qr [vB ((a0.kids.length:Int) == 0)] H K
 refine qF H hc13 ?_
 refine W_seq (W_reg ?_)
 refine qg 2 [(27,vB (a0.kind == 2))] H fun fr H=>?_
 refine qe ?_
 rcases csplit hr with ⟨hc14,hr⟩ | ⟨hc14,hr⟩
 ·refine qT H hc14 ?_
  refine W_seq (W_reg ?_)
  refine qg 1 [(29,vL tNode a0.kids .shut)] H fun fr H=>?_
  refine qln tNode 22 a0.kids .shut H fun fr H=>?_
  refine qg 2 [(32,vB ((a0.kids.length:Int) == 0))] H fun fr H=>?_
  rcases csplit hr with ⟨hc15,hr⟩ | ⟨hc15,hr⟩
  ·rw [hc15] at H
   refine qg 5 [(4,vB true)] H fun fr H=>?_
   refine qe ?_
   refine W_ret ?_
   obtain rfl:=Option.some.inj hr
   exact qr [vB true] H K
  rw [hc15] at H
  refine qg 1 [(33,vL tNode a0.kids .shut)] H fun fr H=>?_
  refine qv (.buildSlice 167 1 [(0,.fn (PF98_0 ).g (PF98_0 ).a (PF98_0 ).b)]) H (run_bslice (v:=vL tPred ([(PF98_0 )]:List Pred) .full) (v0:=.slice [.fn (PF98_0 ).g (PF98_0 ).a (PF98_0 ).b] .full) (by kernel_rfl) (rfl)) fun fr H=>?_
  refine qb hr (fun x h s=>F158_R n _ _ x h (p0:=.shut) (p1:=.full)) H fun x16 hr fr H=>?_
  refine qg 2 [(4,vB x16)] H fun fr H=>?_
  refine qe ?_
  refine W_ret ?_
  obtain rfl:=Option.some.inj hr
  exact qr [vB x16] H K
 refine qF H hc14 ?_
 refine W_seq (W_reg ?_)
 refine qg 2 [(37,vB (a0.kind == 3))] H fun fr H=>?_
 refine qe ?_
 rcases csplit hr with ⟨hc17,hr⟩ | ⟨hc17,hr⟩
 ·refine qT H hc17 ?_
  refine W_seq (W_reg ?_)
  refine qg 1 [(39,vL tNode a0.kids .shut)] H fun fr H=>?_
  refine qc (fun s=>cl159_R (2:Int)) H fun fr H=>?_
  refine qv (.buildSlice 167 1 [(0,.fn (PF98_1 ).g (PF98_1 ).a (PF98_1 ).b)]) H (run_bslice (v:=vL tPred ([(PF98_1 )]:List Pred) .full) (v0:=.slice [.fn (PF98_1 ).g (PF98_1 ).a (PF98_1 ).b] .full) (by kernel_rfl) (rfl)) fun fr H=>?_
  refine qb hr (fun x h s=>F158_R n _ _ x h (p0:=.shut) (p1:=.full)) H fun x18 hr fr H=>?_
  refine qg 1 [(4,vB x18)] H fun fr H=>?_
  refine qe ?_
  refine W_ret ?_
  obtain rfl:=Option.some.inj hr
  exact qr [vB x18] H K
 refine qF H hc17 ?_
 refine W_seq ?_
 obtain ⟨j26,hj26,hr⟩:=obind hr
 refine W_via (fun e fr st=>e = .normal∧Rd fr [(5,vL tNode a0.kids .shut),(10,vI a0.kind),(43,vB j26)]∧HL st []) ?_ ?_
 ·replace hr:=hj26
  refine W_seq (W_reg ?_)
  refine qg 2 [(43,vB (a0.kind == 4))] H fun fr H=>?_
  refine qe ?_
  rcases csplit hr with ⟨hc19,hr⟩ | ⟨hc19,hr⟩
  ·refine qT H hc19 ?_
   refine W_skip ?_
   obtain rfl:=Option.some.inj hr
   exact ⟨rfl,H.tq,K.keep []⟩
  refine qF H hc19 ?_
  refine W_seq (W_reg ?_)
  refine qg 2 [(43,vB (a0.kind == 7))] H fun fr H=>?_
  refine qe ?_
  rcases csplit hr with ⟨hc20,hr⟩ | ⟨hc20,hr⟩
  ·refine qT H hc20 ?_
   refine W_skip ?_
   obtain rfl:=Option.some.inj hr
   exact ⟨rfl,H.tq,K.keep []⟩
  refine qF H hc20 ?_
  refine W_seq (W_reg ?_)
  refine qg 2 [(43,vB (a0.kind == 8))] H fun fr H=>?_
  refine qe ?_
  rcases csplit hr with ⟨hc21,hr⟩ | ⟨hc21,hr⟩
  ·refine qT H hc21 ?_
   refine W_skip ?_
   obtain rfl:=Option.some.inj hr
   exact ⟨rfl,H.tq,K.keep []⟩
  refine qF H hc21 ?_
  refine W_seq (W_reg ?_)
  refine qg 2 [(43,vB (a0.kind == 20))] H fun fr H=>?_
  refine qe ?_
  rcases csplit hr with ⟨hc22,hr⟩ | ⟨hc22,hr⟩
  ·refine qT H hc22 ?_
   refine W_skip ?_
   obtain rfl:=Option.some.inj hr
   exact ⟨rfl,H.tq,K.keep []⟩
  refine qF H hc22 ?_
  refine W_seq (W_reg ?_)
  refine qg 2 [(43,vB (a0.kind == 29))] H fun fr H=>?_
  refine qe ?_
  rcases csplit hr with ⟨hc23,hr⟩ | ⟨hc23,hr⟩
  ·refine qT H hc23 ?_
   refine W_skip ?_
   obtain rfl:=Option.some.inj hr
   exact ⟨rfl,H.tq,K.keep []⟩
  refine qF H hc23 ?_
  refine W_seq (W_reg ?_)
  refine qg 2 [(43,vB (a0.kind == 54))] H fun fr H=>?_
  refine qe ?_
  rcases csplit hr with ⟨hc24,hr⟩ | ⟨hc24,hr⟩
  ·refine qT H hc24 ?_
   refine W_skip ?_
   obtain rfl:=Option.some.inj hr
   exact ⟨rfl,H.tq,K.keep []⟩
  refine qF H hc24 ?_
  refine W_seq (W_reg ?_)
  refine qg 2 [(43,vB (a0.kind == 55))] H fun fr H=>?_
  refine qe ?_
  rcases csplit hr with ⟨hc25,hr⟩ | ⟨hc25,hr⟩
  ·refine qT H hc25 ?_
   refine W_skip ?_
   obtain rfl:=Option.some.inj hr
   exact ⟨rfl,H.tq,K.keep []⟩
  refine qF H hc25 ?_
  refine W_reg ?_
  refine qg 2 [(43,vB (a0.kind == 53))] H fun fr H=>?_
  refine qe ?_
  obtain rfl:=Option.some.inj hr
  exact ⟨rfl,H.tq,K.keep []⟩
 rintro e fr st ⟨rfl,H,K⟩
 rcases csplit hr with ⟨hc27,hr⟩ | ⟨hc27,hr⟩
 ·refine qT H hc27 ?_
  refine W_seq (W_reg ?_)
  refine qg 1 [(52,vL tNode a0.kids .shut)] H fun fr H=>?_
  refine qv (.buildSlice 167 1 [(0,.fn (PF98_2 ).g (PF98_2 ).a (PF98_2 ).b)]) H (run_bslice (v:=vL tPred ([(PF98_2 )]:List Pred) .full) (v0:=.slice [.fn (PF98_2 ).g (PF98_2 ).a (PF98_2 ).b] .full) (by kernel_rfl) (rfl)) fun fr H=>?_
  refine qb hr (fun x h s=>F158_R n _ _ x h (p0:=.shut) (p1:=.full)) H fun x28 hr fr H=>?_
  refine qg 1 [(4,vB x28)] H fun fr H=>?_
  refine qe ?_
  refine W_ret ?_
  obtain rfl:=Option.some.inj hr
  exact qr [vB x28] H K
 refine qF H hc27 ?_
 refine W_seq (W_reg ?_)
 refine qg 2 [(55,vB (a0.kind == 5))] H fun fr H=>?_
 refine qe ?_
 rcases csplit hr with ⟨hc29,hr⟩ | ⟨hc29,hr⟩
 ·refine qT H hc29 ?_
  refine W_seq (W_reg ?_)
  refine qg 1 [(57,vL tNode a0.kids .shut)] H fun fr H=>?_
  refine qv (.buildSlice 167 2 [(0,.fn (PF98_3 ).g (PF98_3 ).a (PF98_3 ).b),(1,.fn (PF98_4 ).g (PF98_4 ).a (PF98_4 ).b)]) H (run_bslice (v:=vL tPred ([(PF98_3 ),(PF98_4 )]:List Pred) .full) (v0:=.slice [.fn (PF98_3 ).g (PF98_3 ).a (PF98_3 ).b,.fn (PF98_4 ).g (PF98_4 ).a (PF98_4 ).b] .full) (by kernel_rfl) (rfl)) fun fr H=>?_
  refine qb hr (fun x h s=>F158_R n _ _ x h (p0:=.shut) (p1:=.full)) H fun x30 hr fr H=>?_
  refine qg 1 [(4,vB x30)] H fun fr H=>?_
  refine qe ?_
  refine W_ret ?_
  obtain rfl:=Option.some.inj hr
  exact qr [vB x30] H K
 refine qF H hc29 ?_
 refine W_seq (W_reg ?_)
 refine qg 2 [(60,vB (a0.kind == 6))] H fun fr H=>?_
 refine qe ?_
 rcases csplit hr with ⟨hc31,hr⟩ | ⟨hc31,hr⟩
 ·refine qT H hc31 ?_
  refine W_seq (W_reg ?_)
  refine qg 1 [(62,vL tNode a0.kids .shut)] H fun fr H=>?_
  refine qv (.buildSlice 167 3 [(0,.fn (PF98_5 ).g (PF98_5 ).a (PF98_5 ).b),(1,.fn (PF98_6 ).g (PF98_6 ).a (PF98_6 ).b),(2,.fn (PF98_7 ).g (PF98_7 ).a (PF98_7 ).b)]) H (run_bslice (v:=vL tPred ([(PF98_5 ),(PF98_6 ),(PF98_7 )]:List Pred) .full) (v0:=.slice [.fn (PF98_5 ).g (PF98_5 ).a (PF98_5 ).b,.fn (PF98_6 ).g (PF98_6 ).a (PF98_6 ).b,.fn (PF98_7 ).g (PF98_7 ).a (PF98_7 ).b] .full) (by kernel_rfl) (rfl)) fun fr H=>?_
  refine qb hr (fun x h s=>F158_R n _ _ x h (p0:=.shut) (p1:=.full)) H fun x32 hr fr H=>?_
  refine qg 1 [(4,vB x32)] H fun fr H=>?_
  refine qe ?_
  refine W_ret ?_
  obtain rfl:=Option.some.inj hr
  exact qr [vB x32] H K
 refine qF H hc31 ?_
 refine W_seq (W_reg ?_)
 refine qg 2 [(65,vB (a0.kind == 21))] H fun fr H=>?_
 refine qe ?_
 rcases csplit hr with ⟨hc33,hr⟩ | ⟨hc33,hr⟩
 ·refine qT H hc33 ?_
  refine W_seq (W_reg ?_)
  refine qg 1 [(67,vL tNode a0.kids .shut)] H fun fr H=>?_
  refine qln tNode 22 a0.kids .shut H fun fr H=>?_
  refine qg 2 [(70,vB (decide (0 < (a0.kids.length:Int))))] H fun fr H=>?_
  rcases csplit hr with ⟨hc34,hr⟩ | ⟨hc34,hr⟩
  rotate_left
  ·rw [hc34] at H
   refine qg 4 [(4,vB false)] H fun fr H=>?_
   refine qe ?_
   refine W_ret ?_
   obtain rfl:=Option.some.inj hr
   exact qr [vB false] H K
  rw [hc34] at H
  refine qg 1 [(71,vL tNode a0.kids .shut)] H fun fr H=>?_
  refine qb hr (fun x h s=>F160_R n _ x h (p0:=.shut)) H fun x35 hr fr H=>?_
  refine qg 2 [(4,vB x35)] H fun fr H=>?_
  refine qe ?_
  refine W_ret ?_
  obtain rfl:=Option.some.inj hr
  exact qr [vB x35] H K
 refine qF H hc33 ?_
 refine W_seq (W_reg ?_)
 refine qg 2 [(74,vB (a0.kind == 22))] H fun fr H=>?_
 refine qe ?_
 rcases csplit hr with ⟨hc36,hr⟩ | ⟨hc36,hr⟩
 ·refine qT H hc36 ?_
  refine W_seq (W_reg ?_)
  refine qg 1 [(76,vL tNode a0.kids .shut)] H fun fr H=>?_
  refine qln tNode 22 a0.kids .shut H fun fr H=>?_
  refine qg 2 [(79,vB (decide (0 < (a0.kids.length:Int))))] H fun fr H=>?_
  rcases csplit hr with ⟨hc37,hr⟩ | ⟨hc37,hr⟩
  rotate_left
  ·rw [hc37] at H
   refine qg 17 [(4,vB false)] H fun fr H=>?_
   refine qe ?_
   refine W_ret ?_
   obtain rfl:=Option.some.inj hr
   exact qr [vB false] H K
  rw [hc37] at H
  refine qg 1 [(80,vL tNode a0.kids .shut)] H fun fr H=>?_
  refine qix tNode 22 .shut hr H fun x38 hr hx38 fr H=>?_
  refine qg 1 [(82,aN x38)] H fun fr H=>?_
  refine qb hr (fun x h s=>F62_R  _ x h (p0:=.shut)) H fun x39 hr fr H=>?_
  refine qg 1 [(84,vB x39)] H fun fr H=>?_
  rcases csplit hr with ⟨hc40,hr⟩ | ⟨hc40,hr⟩
  ·rw [hc40] at H
   refine qg 8 [(91,vB true),(92,vL tNode a0.kids .shut)] H fun fr H=>?_
   obtain ⟨x41,hx41,hr⟩:=obind hr
   refine qv (.slice 22 (vL tNode a0.kids .shut) (some (vI 1)) none) H (run_subL_lo tNode (by kernel_rfl) hx41) fun fr H=>?_
   refine qb hr (fun x h s=>F160_R n _ x h (p0:=.shut)) H fun x42 hr fr H=>?_
   refine qg 2 [(4,vB x42)] H fun fr H=>?_
   refine qe ?_
   refine W_ret ?_
   obtain rfl:=Option.some.inj hr
   exact qr [vB x42] H K
  rw [hc40] at H
  refine qg 1 [(85,vL tNode a0.kids .shut)] H fun fr H=>?_
  refine qix tNode 22 .shut hr H fun x43 hr hx43 fr H=>?_
  refine qg 1 [(87,aN x43)] H fun fr H=>?_
  refine qb hr (fun x h s=>F161_R  _ x h (p0:=.shut)) H fun x44 hr fr H=>?_
  refine qg 3 [(91,vB x44)] H fun fr H=>?_
  rcases csplit hr with ⟨hc45,hr⟩ | ⟨hc45,hr⟩
  rotate_left
  ·rw [hc45] at H
   refine qg 5 [(4,vB false)] H fun fr H=>?_
   refine qe ?_
   refine W_ret ?_
   obtain rfl:=Option.some.inj hr
   exact qr [vB false] H K
  rw [hc45] at H
  refine qg 1 [(92,vL tNode a0.kids .shut)] H fun fr H=>?_
  obtain ⟨x46,hx46,hr⟩:=obind hr
  refine qv (.slice 22 (vL tNode a0.kids .shut) (some (vI 1)) none) H (run_subL_lo tNode (by kernel_rfl) hx46) fun fr H=>?_
  refine qb hr (fun x h s=>F160_R n _ x h (p0:=.shut)) H fun x47 hr fr H=>?_
  refine qg 2 [(4,vB x47)] H fun fr H=>?_
  refine qe ?_
  refine W_ret ?_
  obtain rfl:=Option.some.inj hr
  exact qr [vB x47] H K
 refine qF H hc36 ?_
 refine W_seq (W_reg ?_)
 refine qg 2 [(96,vB (a0.kind == 23))] H fun fr H=>?_
 refine qe ?_
 rcases csplit hr with ⟨hc48,hr⟩ | ⟨hc48,hr⟩
 ·refine qT H hc48 ?_
  refine W_seq (W_drw ?_)
  refine qg 1 [(98,vL tNode a0.kids .shut)] H fun fr H=>?_
  refine qln tNode 22 a0.kids .shut H fun fr H=>?_
  refine qg 2 [(101,vB (decide (4≤(a0.kids.length:Int))))] H fun fr H=>?_
  rcases csplit hr with ⟨hc49,hr⟩ | ⟨hc49,hr⟩
  rotate_left
  ·rw [hc49] at H
   refine qg 13 [(4,vB false)] H fun fr H=>?_
   refine qe (qd ?_)
   refine W_ret ?_
   obtain rfl:=Option.some.inj hr
   exact qr [vB false] H K
  rw [hc49] at H
  refine qg 1 [(102,vL tNode a0.kids .shut)] H fun fr H=>?_
  obtain ⟨x50,hx50,hr⟩:=obind hr
  refine qv (.slice 22 (vL tNode a0.kids .shut) none (some (vI 4))) H (run_subL_hi tNode (by kernel_rfl) hx50) fun fr H=>?_
  refine qc (fun s=>cl159_R (2:Int)) H fun fr H=>?_
  refine qc (fun s=>cl159_R (2:Int)) H fun fr H=>?_
  refine qv (.buildSlice 167 4 [(0,.fn (PF98_8 ).g (PF98_8 ).a (PF98_8 ).b),(1,.fn (PF98_9 ).g (PF98_9 ).a (PF98_9 ).b),(2,.fn (PF98_10 ).g (PF98_10 ).a (PF98_10 ).b),(3,.fn (PF98_11 ).g (PF98_11 ).a (PF98_11 ).b)]) H (run_bslice (v:=vL tPred ([(PF98_8 ),(PF98_9 ),(PF98_10 ),(PF98_11 )]:List Pred) .full) (v0:=.slice [.fn (PF98_8 ).g (PF98_8 ).a (PF98_8 ).b,.fn (PF98_9 ).g (PF98_9 ).a (PF98_9 ).b,.fn (PF98_10 ).g (PF98_10 ).a (PF98_10 ).b,.fn (PF98_11 ).g (PF98_11 ).a (PF98_11 ).b] .full) (by kernel_rfl) (rfl)) fun fr H=>?_
  refine qb hr (fun x h s=>F158_R n _ _ x h (p0:=.shut) (p1:=.full)) H fun x51 hr fr H=>?_
  refine qg 2 [(109,vB x51)] H fun fr H=>?_
  rcases csplit hr with ⟨hc52,hr⟩ | ⟨hc52,hr⟩
  rotate_left
  ·rw [hc52] at H
   refine qg 5 [(4,vB false)] H fun fr H=>?_
   refine qe (qd ?_)
   refine W_ret ?_
   obtain rfl:=Option.some.inj hr
   exact qr [vB false] H K
  rw [hc52] at H
  refine qg 1 [(110,vL tNode a0.kids .shut)] H fun fr H=>?_
  obtain ⟨x53,hx53,hr⟩:=obind hr
  refine qv (.slice 22 (vL tNode a0.kids .shut) (some (vI 4)) none) H (run_subL_lo tNode (by kernel_rfl) hx53) fun fr H=>?_
  refine qb hr (fun x h s=>F160_R n _ x h (p0:=.shut)) H fun x54 hr fr H=>?_
  refine qg 2 [(4,vB x54)] H fun fr H=>?_
  refine qe (qd ?_)
  refine W_ret ?_
  obtain rfl:=Option.some.inj hr
  exact qr [vB x54] H K
 refine qF H hc48 ?_
 refine W_seq (W_reg ?_)
 refine qg 2 [(114,vB (a0.kind == 31))] H fun fr H=>?_
 refine qe ?_
 rcases csplit hr with ⟨hc55,hr⟩ | ⟨hc55,hr⟩
 ·refine qT H hc55 ?_
  refine W_seq (W_reg ?_)
  refine qg 1 [(116,vL tNode a0.kids .shut)] H fun fr H=>?_
  refine qc (fun s=>cl159_R (34:Int)) H fun fr H=>?_
  refine qc (fun s=>cl159_R (34:Int)) H fun fr H=>?_
  refine qv (.buildSlice 167 3 [(0,.fn (PF98_12 ).g (PF98_12 ).a (PF98_12 ).b),(1,.fn (PF98_13 ).g (PF98_13 ).a (PF98_13 ).b),(2,.fn (PF98_14 ).g (PF98_14 ).a (PF98_14 ).b)]) H (run_bslice (v:=vL tPred ([(PF98_12 ),(PF98_13 ),(PF98_14 )]:List Pred) .full) (v0:=.slice [.fn (PF98_12 ).g (PF98_12 ).a (PF98_12 ).b,.fn (PF98_13 ).g (PF98_13 ).a (PF98_13 ).b,.fn (PF98_14 ).g (PF98_14 ).a (PF98_14 ).b] .full) (by kernel_rfl) (rfl)) fun fr H=>?_
  refine qb hr (fun x h s=>F158_R n _ _ x h (p0:=.shut) (p1:=.full)) H fun x56 hr fr H=>?_
  refine qg 1 [(4,vB x56)] H fun fr H=>?_
  refine qe ?_
  refine W_ret ?_
  obtain rfl:=Option.some.inj hr
  exact qr [vB x56] H K
 refine qF H hc55 ?_
 refine W_seq (W_reg ?_)
 refine qg 2 [(121,vB (a0.kind == 32))] H fun fr H=>?_
 refine qe ?_
 rcases csplit hr with ⟨hc57,hr⟩ | ⟨hc57,hr⟩
 ·refine qT H hc57 ?_
  refine W_seq (W_reg ?_)
  refine qg 1 [(123,vL tNode a0.kids .shut)] H fun fr H=>?_
  refine qc (fun s=>cl162_R 62 [] [] 161 [] []) H fun fr H=>?_
  refine qc (fun s=>cl159_R (34:Int)) H fun fr H=>?_
  refine qv (.buildSlice 167 3 [(0,.fn (PF98_15 ).g (PF98_15 ).a (PF98_15 ).b),(1,.fn (PF98_16 ).g (PF98_16 ).a (PF98_16 ).b),(2,.fn (PF98_17 ).g (PF98_17 ).a (PF98_17 ).b)]) H (run_bslice (v:=vL tPred ([(PF98_15 ),(PF98_16 ),(PF98_17 )]:List Pred) .full) (v0:=.slice [.fn (PF98_15 ).g (PF98_15 ).a (PF98_15 ).b,.fn (PF98_16 ).g (PF98_16 ).a (PF98_16 ).b,.fn (PF98_17 ).g (PF98_17 ).a (PF98_17 ).b] .full) (by kernel_rfl) (rfl)) fun fr H=>?_
  refine qb hr (fun x h s=>F158_R n _ _ x h (p0:=.shut) (p1:=.full)) H fun x58 hr fr H=>?_
  refine qg 1 [(4,vB x58)] H fun fr H=>?_
  refine qe ?_
  refine W_ret ?_
  obtain rfl:=Option.some.inj hr
  exact qr [vB x58] H K
 refine qF H hc57 ?_
 refine W_seq (W_reg ?_)
 refine qg 2 [(128,vB (a0.kind == 33))] H fun fr H=>?_
 refine qe ?_
 rcases csplit hr with ⟨hc59,hr⟩ | ⟨hc59,hr⟩
 ·refine qT H hc59 ?_
  refine W_seq (W_reg ?_)
  refine qg 1 [(130,vL tNode a0.kids .shut)] H fun fr H=>?_
  refine qb hr (fun x h s=>F99_1_R n _ x h (p0:=.shut)) H fun x60 hr fr H=>?_
  refine qg 1 [(4,vB x60)] H fun fr H=>?_
  refine qe ?_
  refine W_ret ?_
  obtain rfl:=Option.some.inj hr
  exact qr [vB x60] H K
 refine qF H hc59 ?_
 refine W_seq (W_reg ?_)
 refine qg 2 [(132,vB (a0.kind == 34))] H fun fr H=>?_
 refine qe ?_
 rcases csplit hr with ⟨hc61,hr⟩ | ⟨hc61,hr⟩
 ·refine qT H hc61 ?_
  refine W_seq (W_reg ?_)
  refine qg 1 [(134,vL tNode a0.kids .shut)] H fun fr H=>?_
  refine qb hr (fun x h s=>F99_2_R n _ x h (p0:=.shut)) H fun x62 hr fr H=>?_
  refine qg 1 [(4,vB x62)] H fun fr H=>?_
  refine qe ?_
  refine W_ret ?_
  obtain rfl:=Option.some.inj hr
  exact qr [vB x62] H K
 refine qF H hc61 ?_
 refine W_seq (W_reg ?_)
 refine qg 2 [(136,vB (a0.kind == 51))] H fun fr H=>?_
 refine qe ?_
 rcases csplit hr with ⟨hc63,hr⟩ | ⟨hc63,hr⟩
 ·refine qT H hc63 ?_
  refine W_seq (W_reg ?_)
  refine qg 1 [(138,vL tNode a0.kids .shut)] H fun fr H=>?_
  refine qc (fun s=>cl159_R (52:Int)) H fun fr H=>?_
  refine qb hr (fun x h s=>F99_3_R n _ _ x h (p0:=.shut)) H fun x64 hr fr H=>?_
  refine qg 1 [(4,vB x64)] H fun fr H=>?_
  refine qe ?_
  refine W_ret ?_
  obtain rfl:=Option.some.inj hr
  exact qr [vB x64] H K
 refine qF H hc63 ?_
 refine W_seq (W_reg ?_)
 refine qg 2 [(141,vB (a0.kind == 56))] H fun fr H=>?_
 refine qe ?_
 rcases csplit hr with ⟨hc65,hr⟩ | ⟨hc65,hr⟩
 ·refine qT H hc65 ?_
  refine W_seq (W_reg ?_)
  refine qg 1 [(143,vL tNode a0.kids .shut)] H fun fr H=>?_
  refine qln tNode 22 a0.kids .shut H fun fr H=>?_
  refine qg 2 [(146,vB (decide (0 < (a0.kids.length:Int))))] H fun fr H=>?_
  rcases csplit hr with ⟨hc66,hr⟩ | ⟨hc66,hr⟩
  rotate_left
  ·rw [hc66] at H
   refine qg 4 [(4,vB false)] H fun fr H=>?_
   refine qe ?_
   refine W_ret ?_
   obtain rfl:=Option.some.inj hr
   exact qr [vB false] H K
  rw [hc66] at H
  refine qg 1 [(147,vL tNode a0.kids .shut)] H fun fr H=>?_
  refine qb hr (fun x h s=>F99_4_R n _ x h (p0:=.shut)) H fun x67 hr fr H=>?_
  refine qg 2 [(4,vB x67)] H fun fr H=>?_
  refine qe ?_
  refine W_ret ?_
  obtain rfl:=Option.some.inj hr
  exact qr [vB x67] H K
 refine qF H hc65 ?_
 refine W_seq (W_reg ?_)
 refine qg 2 [(150,vB (a0.kind == 57))] H fun fr H=>?_
 refine qe ?_
 rcases csplit hr with ⟨hc68,hr⟩ | ⟨hc68,hr⟩
 ·refine qT H hc68 ?_
  refine W_seq (W_reg ?_)
  refine qg 1 [(152,vL tNode a0.kids .shut)] H fun fr H=>?_
  refine qln tNode 22 a0.kids .shut H fun fr H=>?_
  refine qg 2 [(6,vI (w64 ((a0.kids.length:Int) - 1)))] H fun fr H=>?_
  refine qe ?_
  refine W_seq (W_drw ?_)
  refine qg 3 [(157,vB (decide (0≤(w64 ((a0.kids.length:Int) - 1)))))] H fun fr H=>?_
  rcases csplit hr with ⟨hc69,hr⟩ | ⟨hc69,hr⟩
  rotate_left
  ·rw [hc69] at H
   refine qg 15 [(4,vB false)] H fun fr H=>?_
   refine qe (qd ?_)
   refine W_ret ?_
   obtain rfl:=Option.some.inj hr
   exact qr [vB false] H K
  rw [hc69] at H
  refine qg 2 [(158,vL tNode a0.kids .shut),(159,vI (w64 ((a0.kids.length:Int) - 1)))] H fun fr H=>?_
  refine qix tNode 22 .shut hr H fun x70 hr hx70 fr H=>?_
  refine qg 5 [(165,vB (x70.kind == 34))] H fun fr H=>?_
  rcases csplit hr with ⟨hc71,hr⟩ | ⟨hc71,hr⟩
  rotate_left
  ·rw [hc71] at H
   refine qg 7 [(4,vB false)] H fun fr H=>?_
   refine qe (qd ?_)
   refine W_ret ?_
   obtain rfl:=Option.some.inj hr
   exact qr [vB false] H K
  rw [hc71] at H
  refine qg 2 [(166,vL tNode a0.kids .shut),(167,vI (w64 ((a0.kids.length:Int) - 1)))] H fun fr H=>?_
  obtain ⟨x72,hx72,hr⟩:=obind hr
  refine qv (.slice 22 (vL tNode a0.kids .shut) none (some (vI (w64 ((a0.kids.length:Int) - 1))))) H (run_subL_hi tNode (by kernel_rfl) hx72) fun fr H=>?_
  refine qc (fun s=>cl159_R (58:Int)) H fun fr H=>?_
  refine qb hr (fun x h s=>F99_3_R n _ _ x h (p0:=.shut)) H fun x73 hr fr H=>?_
  refine qg 2 [(4,vB x73)] H fun fr H=>?_
  refine qe (qd ?_)
  refine W_ret ?_
  obtain rfl:=Option.some.inj hr
  exact qr [vB x73] H K
 refine qF H hc68 ?_
 refine W_seq (W_reg ?_)
 refine qg 2 [(172,vB (a0.kind == 60))] H fun fr H=>?_
 refine qe ?_
 rcases csplit hr with ⟨hc74,hr⟩ | ⟨hc74,hr⟩
 ·refine qT H hc74 ?_
  refine W_seq (W_reg ?_)
  refine qg 1 [(174,vL tNode a0.kids .shut)] H fun fr H=>?_
  refine qb hr (fun x h s=>F99_5_R n _ x h (p0:=.shut)) H fun x75 hr fr H=>?_
  refine qg 1 [(4,vB x75)] H fun fr H=>?_
  refine qe ?_
  refine W_ret ?_
  obtain rfl:=Option.some.inj hr
  exact qr [vB x75] H K
 refine qF H hc74 ?_
 refine W_seq (W_reg ?_)
 refine qg 2 [(176,vB (a0.kind == 61))] H fun fr H=>?_
 refine qe ?_
 rcases csplit hr with ⟨hc76,hr⟩ | ⟨hc76,hr⟩
 ·refine qT H hc76 ?_
  refine W_seq (W_reg ?_)
  refine qg 1 [(178,vL tNode a0.kids .shut)] H fun fr H=>?_
  refine qc (fun s=>cl159_R (1:Int)) H fun fr H=>?_
  refine qb hr (fun x h s=>F99_3_R n _ _ x h (p0:=.shut)) H fun x77 hr fr H=>?_
  refine qg 1 [(4,vB x77)] H fun fr H=>?_
  refine qe ?_
  refine W_ret ?_
  obtain rfl:=Option.some.inj hr
  exact qr [vB x77] H K
 refine qF H hc76 ?_
 refine W_seq (W_reg ?_)
 refine qg 2 [(181,vB (a0.kind == 62))] H fun fr H=>?_
 refine qe ?_
 rcases csplit hr with ⟨hc78,hr⟩ | ⟨hc78,hr⟩
 rotate_left
 ·refine qF H hc78 ?_
  refine W_skip ?_
  refine W_seq (W_reg ?_)
  refine qg 1 [(4,vB false)] H fun fr H=>?_
  refine qe ?_
  refine W_ret ?_
  obtain rfl:=Option.some.inj hr
  exact qr [vB false] H K
 refine qT H hc78 ?_
 refine W_seq (W_reg ?_)
 refine qg 1 [(183,vL tNode a0.kids .shut)] H fun fr H=>?_
 refine qb hr (fun x h s=>F99_6_R n _ x h (p0:=.shut)) H fun x79 hr fr H=>?_
 refine qg 1 [(4,vB x79)] H fun fr H=>?_
 refine qe ?_
 refine W_ret ?_
 obtain rfl:=Option.some.inj hr
 exact qr [vB x79] H K
def F99_step (_:(List Node)→Option Bool) (F64:Node→Option Bool) (n:Nat) (a0:List Node):Option Bool :=
 (iter (σ:=Int) (ρ:=Unit ⊕ Unit) (fun s1=>bif decide (s1 < (a0.length:Int)) then
   ((idxL a0 s1).bind fun x3 =>
   (F64 x3).bind fun x5 =>
   bif !x5 then
    (some (.inr (.inl ())))
   else
    (some (.inl (w64 (s1 + 1)))))
  else
   (some (.inr (.inr ())))) n (0:Int)).bind fun r7=>match r7 with
 | .inl _=>some false
 | .inr _=>some true
def F64_step (F99:(List Node)→Option Bool) (_:Node→Option Bool) (n:Nat) (a0:Node):Option Bool :=
 (F97 n a0).bind fun x1 =>
 bif !x1 then
  (some false)
 else
  ((F98 n a0).bind fun x3 =>
  bif !x3 then
   (some false)
  else
   ((F99 a0.kids).bind fun x5 =>
   some x5))
mutual
def F99:Nat→(List Node)→Option Bool
 | 0,_=>none
 | n + 1,a0=>F99_step (F99 n) (F64 n) n a0
def F64:Nat→Node→Option Bool
 | 0,_=>none
 | n + 1,a0=>F64_step (F99 n) (F64 n) n a0
end
theorem F99_RR (n:Nat):(∀ (a0:List Node) (r:Bool),F99 n a0 = some r→∀ {st:St} {p0:Spare},R Tryz.prog AN 99 [vL tNode a0 p0,.fn 64 [.agg [keysV]] []] st (.ret (vB r)) st)∧(∀ (a0:Node) (r:Bool),F64 n a0 = some r→∀ {st:St} {p0:Spare},R Tryz.prog AN 64 [.agg [keysV],.agg (cNode p0 a0)] st (.ret (vB r)) st):=by
 induction n with
 | zero=>exact ⟨by intros; contradiction,by intros; contradiction⟩
 | succ n ih =>
  obtain ⟨ih_F99,ih_F64⟩:=ih
  refine ⟨?_,?_⟩
  ·intro a0 r hr st p0
   change F99_step (F99 n) (F64 n) n a0 = some r at hr
   unfold F99_step at hr
   refine R_pureX [vL tNode a0 .shut,.fn 64 [.agg [keysV]] []] [(0,vL tNode a0 .shut),(1,.fn 64 [.agg [keysV]] [])] Tryz.func99 rfl (by simp only [strip,stripL,strip_keysV,stripL_ET,Option.bind_some,Option.map_some]) rfl fun fr st H K=>?_
   refine W_seq (W_reg ?_)
   refine qg 1 [] H fun fr H=>?_
   refine qe ?_
   refine W_seq (W_seq ?_)
   refine W_reg ?_
   refine qg 1 [(7,vL tNode a0 .shut)] H fun fr H=>?_
   refine qln tNode 22 a0 .shut H fun fr H=>?_
   refine qg 1 [(9,vI 0)] H fun fr H=>?_
   refine qe ?_
   refine W_block ?_
   obtain ⟨r7,hr7,hr⟩:=obind hr
   refine W_iter hr7 (fun (s1:Int) fr st=>Rd fr [(1,.fn 64 [.agg [keysV]] []),(7,vL tNode a0 .shut),(8,vI (a0.length:Int)),(9,vI s1)]∧HL st []) (fun (r7:Unit ⊕ Unit) e fr st=>match r7 with | .inl r7a=>(e = .ret∧Rd fr [(4,vB false)]∧HL st []) | .inr r7b=>(e = .exit 0∧Rd fr []∧HL st [])) ⟨H.tq,K.keep []⟩ ?_ ?_
   ·intro s1 fr st r hi hr
    obtain ⟨H,K⟩:=hi
    refine W_seq (W_reg ?_)
    refine qg 1 [(10,vB (decide (s1 < (a0.length:Int))))] H fun fr H=>?_
    refine qe ?_
    refine W_seq ?_
    rcases csplit hr with ⟨hc2,hr⟩ | ⟨hc2,hr⟩
    rotate_left
    ·refine qF H hc2 ?_
     refine W_exit ?_
     obtain rfl:=Option.some.inj hr
     exact ⟨by simp,⟨rfl,H.tq,K.keep []⟩⟩
    refine qT H hc2 ?_
    refine W_skip ?_
    refine W_seq (W_block ?_)
    refine W_seq (W_reg ?_)
    refine qix tNode 22 .shut hr H fun x3 hr hx3 fr H=>?_
    refine qg 1 [(12,aN x3)] H fun fr H=>?_
    refine qal 24 [vI 0,vS (bs []),vS (bs []),vI 0,vI 0,vI 0,vB false,vL tNode ([]:List Node) .nil,vI 0] H K fun id4 st K fr H=>?_
    refine qst 24 0 (aN x3) [vI x3.kind,vS x3.name,vS x3.other,vI x3.n,vI x3.len,vI x3.init,vB x3.ghost,vL tNode x3.kids .shut,vI x3.pos] 0 H K rfl fun st K fr H=>?_
    refine qe ?_
    refine W_seq (W_reg ?_)
    refine qg 1 [(13,.fn 64 [.agg [keysV]] [])] H fun fr H=>?_
    refine qld 24 0 (aN x3) 0 H K rfl fun fr H=>?_
    refine qb hr (fun x h s=>ih_F64 _ x h (p0:=.shut)) H fun x5 hr fr H=>?_
    refine qg 1 [(16,vB !x5)] H fun fr H=>?_
    refine qe ?_
    rcases csplit hr with ⟨hc6,hr⟩ | ⟨hc6,hr⟩
    ·refine qT H hc6 ?_
     refine W_seq (W_reg ?_)
     refine qg 1 [(4,vB false)] H fun fr H=>?_
     refine qe ?_
     refine W_ret ?_
     obtain rfl:=Option.some.inj hr
     exact ⟨by simp,⟨rfl,H.tq,K.keep [false]⟩⟩
    refine qF H hc6 ?_
    refine W_skip ?_
    refine W_reg ?_
    refine qg 2 [(9,vI (w64 (s1 + 1)))] H fun fr H=>?_
    refine qe ?_
    obtain rfl:=Option.some.inj hr
    exact ⟨rfl,⟨H.tq,K.keep [false]⟩⟩
   rcases r7 with r7a | r7b
   ·rintro e fr st ⟨rfl,H,K⟩
    obtain rfl:=Option.some.inj hr
    exact qr [vB false] H K
   rintro e fr st ⟨rfl,H,K⟩
   refine W_seq (W_reg ?_)
   refine qg 1 [(4,vB true)] H fun fr H=>?_
   refine qe ?_
   refine W_ret ?_
   obtain rfl:=Option.some.inj hr
   exact qr [vB true] H K
  ·intro a0 r hr st p0
   change F64_step (F99 n) (F64 n) n a0 = some r at hr
   unfold F64_step at hr
   refine R_pureX [.agg [keysV],aN a0] [(0,.agg [keysV]),(1,aN a0)] Tryz.func64 rfl (by simp only [strip,stripL,strip_keysV,stripL_cNode,Option.bind_some,Option.map_some]) rfl fun fr st H K=>?_
   refine W_seq (W_reg ?_)
   refine qg 3 [(2,.cptr ([keysV]) 0),(3,cN a0 0)] H fun fr H=>?_
   refine qe ?_
   refine W_seq (W_seq ?_)
   refine W_reg ?_
   refine qg 2 [(5,.agg [keysV]),(6,aN a0)] H fun fr H=>?_
   refine qb hr (fun x h s=>F97_R n _ x h (p0:=.shut)) H fun x1 hr fr H=>?_
   refine qg 2 [(9,vB !x1)] H fun fr H=>?_
   rcases csplit hr with ⟨hc2,hr⟩ | ⟨hc2,hr⟩
   ·rw [hc2] at H
    refine qg 5 [(14,vB true)] H fun fr H=>?_
    refine qe ?_
    refine qT H rfl ?_
    refine W_seq (W_reg ?_)
    refine qg 1 [(4,vB false)] H fun fr H=>?_
    refine qe ?_
    refine W_ret ?_
    obtain rfl:=Option.some.inj hr
    exact qr [vB false] H K
   rw [hc2] at H
   refine qg 2 [(10,.agg [keysV]),(11,aN a0)] H fun fr H=>?_
   refine qb hr (fun x h s=>F98_R n _ x h (p0:=.shut)) H fun x3 hr fr H=>?_
   refine qg 2 [(14,vB !x3)] H fun fr H=>?_
   refine qe ?_
   rcases csplit hr with ⟨hc4,hr⟩ | ⟨hc4,hr⟩
   ·refine qT H hc4 ?_
    refine W_seq (W_reg ?_)
    refine qg 1 [(4,vB false)] H fun fr H=>?_
    refine qe ?_
    refine W_ret ?_
    obtain rfl:=Option.some.inj hr
    exact qr [vB false] H K
   refine qF H hc4 ?_
   refine W_skip ?_
   refine W_seq (W_reg ?_)
   refine qg 4 [(16,vL tNode a0.kids .shut),(18,.fn 64 [.agg [keysV]] [])] H fun fr H=>?_
   refine qb hr (fun x h s=>ih_F99 _ x h (p0:=.shut)) H fun x5 hr fr H=>?_
   refine qg 1 [(4,vB x5)] H fun fr H=>?_
   refine qe ?_
   refine W_ret ?_
   obtain rfl:=Option.some.inj hr
   exact qr [vB x5] H K
theorem F64_R (n:Nat) (a0:Node) (r:Bool) (hr:F64 n a0 = some r) {st:St} {p0:Spare}:R Tryz.prog AN 64 [.agg [keysV],.agg (cNode p0 a0)] st (.ret (vB r)) st:=(F99_RR n).2 a0 r hr
def F28 (n:Nat) (a0:Node):Option Bool :=
 (bif a0.kind != 62 then
   ((F62 a0).bind fun x2 =>
   bif !x2 then
    (some (.inl ()))
   else
    ((F59 n a0).bind fun x4 =>
    bif !x4 then
     (some (.inl ()))
    else
     (some (.inr ()))))
  else
   ((F59 n a0).bind fun x5 =>
   bif !x5 then
    (some (.inl ()))
   else
    (some (.inr ()))):Option (Unit ⊕ Unit)).bind fun j8=>match j8 with
 | .inl _=>some false
 | .inr _=>(F64 n a0).bind fun x10 =>
  some x10
theorem F28_R (n:Nat) (a0:Node) (r:Bool) (hr:F28 n a0 = some r) {st:St} {p0:Spare}:R Tryz.prog AN 28 [.agg (cNode p0 a0)] st (.ret (vB r)) st:=by
 unfold F28 at hr
 refine R_pureX [aN a0] [(0,aN a0)] Tryz.func28 rfl (by simp only [strip,stripL,stripL_cNode,Option.bind_some,Option.map_some]) rfl fun fr st H K=>?_
 refine W_seq (W_reg ?_)
 refine qg 2 [(1,cN a0 0)] H fun fr H=>?_
 refine qe ?_
 refine W_seq ?_
 obtain ⟨j8,hj8,hr⟩:=obind hr
 refine W_via (fun e fr st=>match j8 with | .inl j8a=>(e = .ret∧Rd fr [(2,vB false)]∧HL st []) | .inr j8b=>(e = .normal∧Rd fr [(1,cN a0 0)]∧HL st [])) ?_ ?_
 ·replace hr:=hj8
  refine W_seq (W_reg ?_)
  refine qg 4 [(7,vB (a0.kind != 62))] H fun fr H=>?_
  rcases csplit hr with ⟨hc1,hr⟩ | ⟨hc1,hr⟩
  rotate_left
  ·rw [hc1] at H
   refine qg 6 [(12,vB false),(13,aN a0)] H fun fr H=>?_
   refine qb hr (fun x h s=>F59_R n _ x h (p0:=.shut)) H fun x5 hr fr H=>?_
   refine qg 2 [(16,vB !x5)] H fun fr H=>?_
   refine qe ?_
   rcases csplit hr with ⟨hc7,hr⟩ | ⟨hc7,hr⟩
   rotate_left
   ·refine qF H hc7 ?_
    refine W_skip ?_
    obtain rfl:=Option.some.inj hr
    exact ⟨rfl,H.tq,K.keep []⟩
   refine qT H hc7 ?_
   refine W_seq (W_reg ?_)
   refine qg 1 [(2,vB false)] H fun fr H=>?_
   refine qe ?_
   refine W_ret ?_
   obtain rfl:=Option.some.inj hr
   exact ⟨rfl,H.tq,K.keep []⟩
  rw [hc1] at H
  refine qg 1 [(8,aN a0)] H fun fr H=>?_
  refine qb hr (fun x h s=>F62_R  _ x h (p0:=.shut)) H fun x2 hr fr H=>?_
  refine qg 3 [(12,vB !x2)] H fun fr H=>?_
  rcases csplit hr with ⟨hc3,hr⟩ | ⟨hc3,hr⟩
  ·rw [hc3] at H
   refine qg 4 [(16,vB true)] H fun fr H=>?_
   refine qe ?_
   refine qT H rfl ?_
   refine W_seq (W_reg ?_)
   refine qg 1 [(2,vB false)] H fun fr H=>?_
   refine qe ?_
   refine W_ret ?_
   obtain rfl:=Option.some.inj hr
   exact ⟨rfl,H.tq,K.keep []⟩
  rw [hc3] at H
  refine qg 1 [(13,aN a0)] H fun fr H=>?_
  refine qb hr (fun x h s=>F59_R n _ x h (p0:=.shut)) H fun x4 hr fr H=>?_
  refine qg 2 [(16,vB !x4)] H fun fr H=>?_
  refine qe ?_
  rcases csplit hr with ⟨hc6,hr⟩ | ⟨hc6,hr⟩
  rotate_left
  ·refine qF H hc6 ?_
   refine W_skip ?_
   obtain rfl:=Option.some.inj hr
   exact ⟨rfl,H.tq,K.keep []⟩
  refine qT H hc6 ?_
  refine W_seq (W_reg ?_)
  refine qg 1 [(2,vB false)] H fun fr H=>?_
  refine qe ?_
  refine W_ret ?_
  obtain rfl:=Option.some.inj hr
  exact ⟨rfl,H.tq,K.keep []⟩
 rcases j8 with j8a | j8b
 ·rintro e fr st ⟨rfl,H,K⟩
  obtain rfl:=Option.some.inj hr
  exact qr [vB false] H K
 rintro e fr st ⟨rfl,H,K⟩
 refine W_seq (W_reg ?_)
 refine qc (fun s=>keyWords_R) H fun fr H=>?_
 refine qg 1 [(18,.agg [keysV])] H fun fr H=>?_
 refine qal 93 [.sc (.map none)] H K fun id9 st K fr H=>?_
 refine qst 93 0 (.agg [keysV]) [keysV] 0 H K rfl fun st K fr H=>?_
 refine qe ?_
 refine W_seq (W_reg ?_)
 refine qld 93 0 (.agg [keysV]) 0 H K rfl fun fr H=>?_
 refine qg 1 [(20,aN a0)] H fun fr H=>?_
 refine qb hr (fun x h s=>F64_R n _ x h (p0:=.shut)) H fun x10 hr fr H=>?_
 refine qg 1 [(2,vB x10)] H fun fr H=>?_
 refine qe ?_
 refine W_ret ?_
 obtain rfl:=Option.some.inj hr
 exact qr [vB x10] H K
end Go.Proofs.YtbecjgckobhmpaaGreatDoor
end
