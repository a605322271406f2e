/-
  Proved here: a part of what the claim needs (texts YG4 of the prover's own).
-/
import Derived.Test.YtbecjgckobhmpaaGreatDoorPS05
namespace Go.Proofs.YtbecjgckobhmpaaGreatDoor
open Go Go.AM Go.Proofs
set_option maxRecDepth 100000
set_option maxHeartbeats 4000000
def F122_step (_:Node→Int→Option ByteArray) (F181:(List Node)→Int→Option ByteArray) (_:Node→Int→Option ByteArray) (_:Node→Int→Option ByteArray) (_:Node→Int→Option ByteArray) (n:Nat) (a0:Node) (a1:Int):Option ByteArray := bif a0.kind == 60 then ((catS (bs [109,111,100,117,108,101,32]) a0.name).bind fun x2 => (catS x2 (bs [32,111,119,110,101,114,32])).bind fun x3 => (catS x3 a0.other).bind fun x4 => (catS x4 (bs [32])).bind fun x5 => (F181 a0.kids a1).bind fun x6 => (catS x5 x6).bind fun x7 => some x7) else (bif a0.kind == 61 then ((F175 (bs [97,115,108,101,101,112]) (a0.n == 1)).bind fun x9 => (catS x9 (bs [116,104,114,101,97,100,32])).bind fun x10 => (catS x10 a0.name).bind fun x11 => (catS x11 (bs [32,61,32])).bind fun x12 => (catS x12 a0.other).bind fun x13 => (catS x13 (bs [40])).bind fun x14 => (F179 n a0.kids).bind fun x15 => (catS x14 x15).bind fun x16 => (catS x16 (bs [41,59])).bind fun x17 => some x17) else (bif a0.kind == 51 then ((catS (bs [114,101,99,111,114,100,32]) a0.name).bind fun x19 => (catS x19 (bs [32])).bind fun x20 => (F181 a0.kids a1).bind fun x21 => (catS x20 x21).bind fun x22 => some x22) else (bif a0.kind == 52 then ((catS a0.name (bs [32,58,32])).bind fun x24 => (itoaF a0.n).bind fun x25 => (catS x24 x25).bind fun x26 => (catS x26 (bs [59])).bind fun x27 => some x27) else (bif a0.kind == 50 then ((F182 a0).bind fun x29 => some x29) else (bif a0.kind == 53 then ((catS (bs [108,111,99,107,32]) a0.name).bind fun x31 => (catS x31 (bs [32,105,110,118,97,114,105,97,110,116,32])).bind fun x32 => (idxL a0.kids 0).bind fun x33 => (F80 n x33).bind fun x34 => (catS x32 x34).bind fun x35 => (catS x35 (bs [59])).bind fun x36 => some x36) else (bif a0.kind == 54 then ((idxL a0.kids 0).bind fun x38 => (F80 n x38).bind fun x39 => (catS (bs [114,101,108,121,32]) x39).bind fun x40 => (catS x40 (bs [59])).bind fun x41 => some x41) else (bif a0.kind == 55 then ((idxL a0.kids 0).bind fun x43 => (F80 n x43).bind fun x44 => (catS (bs [103,117,97,114,97,110,116,101,101,32]) x44).bind fun x45 => (catS x45 (bs [59])).bind fun x46 => some x46) else (bif a0.kind == 56 then ((F179 n a0.kids).bind fun x48 => (catS (bs [102,114,97,109,101,32]) x48).bind fun x49 => (catS x49 (bs [59])).bind fun x50 => some x50) else ((bif !(strEq a0.other (bs [])) then ((catS (bs [108,111,99,107,101,100,32]) a0.other).bind fun x52 => (catS x52 (bs [32])).bind fun x53 => some x53) else (some (bs [])):Option (ByteArray)).bind fun j54 => (catS (bs [112,114,111,99,32]) a0.name).bind fun x55 => (catS x55 (bs [40])).bind fun x56 => (subL a0.kids 0 (w64 ((a0.kids.length:Int) - 1))).bind fun x57 => (F183 n x57).bind fun x58 => (catS x56 x58).bind fun x59 => (catS x59 (bs [41,32])).bind fun x60 => (catS x60 j54).bind fun x61 => (idxL a0.kids (w64 ((a0.kids.length:Int) - 1))).bind fun x62 => (F181 x62.kids a1).bind fun x63 => (catS x61 x63).bind fun x64 => some x64)))))))))
def F181_step (_:Node→Int→Option ByteArray) (_:(List Node)→Int→Option ByteArray) (_:Node→Int→Option ByteArray) (_:Node→Int→Option ByteArray) (F77:Node→Int→Option ByteArray) (n:Nat) (a0:List Node) (a1:Int):Option ByteArray := (iter (σ:=ByteArray × Int) (ρ:=ByteArray) (fun s1=>bif decide (s1.2 < (a0.length:Int)) then ((idxL a0 s1.2).bind fun x3 => (F77 x3 (w64 (a1 + 1))).bind fun x4 => (catS s1.1 x4).bind fun x5 => some (.inl (x5,w64 (s1.2 + 1)))) else (some (.inr s1.1))) n ((bs [123,10]),(0:Int))).bind fun r6 => (F120 n a1).bind fun x7 => (catS r6 x7).bind fun x8 => (catS x8 (bs [125])).bind fun x9 => some x9
def F180_step (_:Node→Int→Option ByteArray) (F181:(List Node)→Int→Option ByteArray) (_:Node→Int→Option ByteArray) (_:Node→Int→Option ByteArray) (_:Node→Int→Option ByteArray) (n:Nat) (a0:Node) (a1:Int):Option ByteArray := bif a0.kind == 31 then ((idxL a0.kids 0).bind fun x2 => (F80 n x2).bind fun x3 => (catS (bs [105,102,32]) x3).bind fun x4 => (catS x4 (bs [32])).bind fun x5 => (idxL a0.kids 1).bind fun x6 => (F181 x6.kids a1).bind fun x7 => (catS x5 x7).bind fun x8 => (idxL a0.kids 2).bind fun x9 => bif decide (0 < (x9.kids.length:Int)) then ((catS x8 (bs [32,101,108,115,101,32])).bind fun x11 => (idxL a0.kids 2).bind fun x12 => (F181 x12.kids a1).bind fun x13 => (catS x11 x13).bind fun x14 => some x14) else (some x8)) else ((idxL a0.kids 0).bind fun x15 => (F80 n x15).bind fun x16 => (catS (bs [119,104,105,108,101,32]) x16).bind fun x17 => (catS x17 (bs [32])).bind fun x18 => ((idxL a0.kids 1).bind fun x19 => bif x19.kind != 63 then ((catS x18 (bs [118,97,114,105,97,110,116,32])).bind fun x21 => (idxL a0.kids 1).bind fun x22 => (F80 n x22).bind fun x23 => (catS x21 x23).bind fun x24 => (catS x24 (bs [32])).bind fun x25 => some x25) else (some x18):Option (ByteArray)).bind fun j26 => (idxL a0.kids 2).bind fun x27 => (F181 x27.kids a1).bind fun x28 => (catS j26 x28).bind fun x29 => some x29)
def F121_step (_:Node→Int→Option ByteArray) (_:(List Node)→Int→Option ByteArray) (F180:Node→Int→Option ByteArray) (_:Node→Int→Option ByteArray) (_:Node→Int→Option ByteArray) (n:Nat) (a0:Node) (a1:Int):Option ByteArray := bif a0.kind == 20 then ((idxL a0.kids 0).bind fun x2 => (F80 n x2).bind fun x3 => (catS (bs [97,115,115,101,114,116,32]) x3).bind fun x4 => (catS x4 (bs [59])).bind fun x5 => some x5) else (bif a0.kind == 29 then ((idxL a0.kids 0).bind fun x7 => (F80 n x7).bind fun x8 => (catS (bs [97,119,97,105,116,32]) x8).bind fun x9 => (catS x9 (bs [59])).bind fun x10 => some x10) else (bif a0.kind == 26 then (some (bs [102,101,110,99,101,59])) else (bif a0.kind == 30 then (some (bs [115,107,105,112,59])) else (bif a0.kind == 21 then ((F175 (bs [114,101,108,101,97,115,101]) (a0.n == 1)).bind fun x14 => (subL a0.kids 0 2).bind fun x15 => (F176 n x15).bind fun x16 => (catS x14 x16).bind fun x17 => (subL a0.kids 2 (a0.kids.length:Int)).bind fun x18 => (F177 n x18).bind fun x19 => (catS x17 x19).bind fun x20 => (catS x20 (bs [59])).bind fun x21 => some x21) else (bif a0.kind == 22 then ((F178 n a0).bind fun x23 => some x23) else (bif a0.kind == 23 then ((subL a0.kids 0 3).bind fun x25 => (F179 n x25).bind fun x26 => (catS (bs [99,97,115,32]) x26).bind fun x27 => (catS x27 (bs [32,105,110,116,111,32])).bind fun x28 => (idxL a0.kids 3).bind fun x29 => (F80 n x29).bind fun x30 => (catS x28 x30).bind fun x31 => (subL a0.kids 4 (a0.kids.length:Int)).bind fun x32 => (F177 n x32).bind fun x33 => (catS x31 x33).bind fun x34 => (catS x34 (bs [59])).bind fun x35 => some x35) else (bif a0.kind == 24 then ((catS (bs [97,99,113,117,105,114,101,32]) a0.name).bind fun x37 => (catS x37 (bs [59])).bind fun x38 => some x38) else (bif a0.kind == 25 then ((catS (bs [102,114,101,101,32]) a0.name).bind fun x40 => (catS x40 (bs [59])).bind fun x41 => some x41) else (bif a0.kind == 27 then ((catS (bs [115,112,97,119,110,32]) a0.name).bind fun x43 => (catS x43 (bs [59])).bind fun x44 => some x44) else (bif a0.kind == 28 then ((catS (bs [106,111,105,110,32]) a0.name).bind fun x46 => (catS x46 (bs [59])).bind fun x47 => some x47) else (bif a0.kind == 33 then ((catS (bs [99,97,108,108,32]) a0.name).bind fun x49 => (catS x49 (bs [40])).bind fun x50 => (F179 n a0.kids).bind fun x51 => (catS x50 x51).bind fun x52 => (catS x52 (bs [41,59])).bind fun x53 => some x53) else (bif a0.kind == 35 then ((F175 (bs [103,104,111,115,116]) a0.ghost).bind fun x55 => (catS x55 (bs [108,111,99,97,108,32])).bind fun x56 => (catS x56 a0.name).bind fun x57 => (catS x57 (bs [32,58,32])).bind fun x58 => (itoaF a0.n).bind fun x59 => (catS x58 x59).bind fun x60 => (catS x60 (bs [59])).bind fun x61 => some x61) else ((F180 a0 a1).bind fun x62 => some x62)))))))))))))
def F77_step (F122:Node→Int→Option ByteArray) (_:(List Node)→Int→Option ByteArray) (_:Node→Int→Option ByteArray) (F121:Node→Int→Option ByteArray) (_:Node→Int→Option ByteArray) (n:Nat) (a0:Node) (a1:Int):Option ByteArray := bif decide (a0.kind < 50) then ((F120 n a1).bind fun x2 => (F121 a0 a1).bind fun x3 => (catS x2 x3).bind fun x4 => (catS x4 (bs [10])).bind fun x5 => some x5) else ((F120 n a1).bind fun x6 => (F122 a0 a1).bind fun x7 => (catS x6 x7).bind fun x8 => (catS x8 (bs [10])).bind fun x9 => some x9)
mutual
def F122:Nat→Node→Int→Option ByteArray
 | 0,_,_=>none
 | n + 1,a0,a1=>F122_step (F122 n) (F181 n) (F180 n) (F121 n) (F77 n) n a0 a1
def F181:Nat→(List Node)→Int→Option ByteArray
 | 0,_,_=>none
 | n + 1,a0,a1=>F181_step (F122 n) (F181 n) (F180 n) (F121 n) (F77 n) n a0 a1
def F180:Nat→Node→Int→Option ByteArray
 | 0,_,_=>none
 | n + 1,a0,a1=>F180_step (F122 n) (F181 n) (F180 n) (F121 n) (F77 n) n a0 a1
def F121:Nat→Node→Int→Option ByteArray
 | 0,_,_=>none
 | n + 1,a0,a1=>F121_step (F122 n) (F181 n) (F180 n) (F121 n) (F77 n) n a0 a1
def F77:Nat→Node→Int→Option ByteArray
 | 0,_,_=>none
 | n + 1,a0,a1=>F77_step (F122 n) (F181 n) (F180 n) (F121 n) (F77 n) n a0 a1
end
def F113 (a0:ByteArray) (a1:Int) (a2:ByteArray):Option Bool := bif decide ((w64 (a1 + (a2.size:Int)))≤(a0.size:Int)) then ((subS a0 a1 (w64 (a1 + (a2.size:Int)))).bind fun x2 => some (strEq x2 a2)) else (some false)
theorem F113_R (a0:ByteArray) (a1:Int) (a2:ByteArray) (r:Bool) (hr:F113 a0 a1 a2 = some r) {st:St}:R Tryz.prog AN 113 [vS a0,vI a1,vS a2] st (.ret (vB r)) st:=by
 unfold F113 at hr
 refine pK [vS a0,vI a1,vS a2] [(0,vS a0),(1,vI a1),(2,vS a2)] Tryz.func113 rfl fun fr st H K=>W_seq (W_reg (q_g 1 [(0,vS a0),(1,vI a1),(2,vS a2)] H fun _ H=>q_e (W_seq (W_reg (q_g 8 [(0,vS a0),(1,vI a1),(2,vS a2),(14,vB (decide ((w64 (a1 + (a2.size:Int)))≤(a0.size:Int))))] H fun _ H=>?_)))))
 rcases csplit hr with ⟨c1,hr⟩|⟨c1,hr⟩
 rotate_left
 ·rw [c1] at H
  refine q_g 11 [(6,vB false)] H fun _ H=>q_e (W_ret ?_)
  obtain rfl:=sj hr
  exact q_r [vB false] H K
 rw [c1] at H
 refine q_g 6 [(2,vS a2),(14,vB true),(15,vS a0),(16,vI a1),(20,vI (w64 (a1 + (a2.size:Int))))] H fun _ H=>?_
 obtain ⟨x2,hx2,hr⟩:=obind hr
 refine q_v (.slice 9 (vS a0) (some (vI a1)) (some (vI (w64 (a1 + (a2.size:Int)))))) [(2,vS a2),(14,vB true),(21,vS x2)] H (run_subS (by kernel_rfl) hx2) fun _ H=>q_g 4 [(6,vB (strEq x2 a2))] H fun _ H=>q_e (W_ret ?_)
 obtain rfl:=sj hr
 exact q_r [vB (strEq x2 a2)] H K
def F114 (a0:Int):Option Bool := some ((((a0 == 32) || (a0 == 9)) || (a0 == 10)) || (a0 == 13))
theorem F114_R (a0:Int) (r:Bool) (hr:F114 a0 = some r) {st:St}:R Tryz.prog AN 114 [vU a0] st (.ret (vB r)) st:=by
 unfold F114 at hr
 refine pK [vU a0] [(0,vU a0)] Tryz.func114 rfl fun fr st H K=>W_seq (W_reg (q_g 1 [(0,vU a0)] H fun _ H=>q_e (W_seq (W_reg (q_g 3 [(0,vU a0),(5,vB (a0 == 32))] H fun _ H=>?_)))))
 refine k_g 3 [(0,vU a0),(8,vB ((a0 == 32) || (a0 == 9)))] H (fun _ _=>by generalize (a0 == 32) = b0; cases b0 <;> kernel_rfl) fun _ H=>q_g 1 [(0,vU a0),(9,vB ((a0 == 32) || (a0 == 9)))] H fun _ H=>?_
 refine k_g 3 [(0,vU a0),(12,vB (((a0 == 32) || (a0 == 9)) || (a0 == 10)))] H (fun _ _=>by generalize ((a0 == 32) || (a0 == 9)) = b0; cases b0 <;> kernel_rfl) fun _ H=>q_g 1 [(0,vU a0),(13,vB (((a0 == 32) || (a0 == 9)) || (a0 == 10)))] H fun _ H=>?_
 refine k_g 3 [(16,vB ((((a0 == 32) || (a0 == 9)) || (a0 == 10)) || (a0 == 13)))] H (fun _ _=>by generalize (((a0 == 32) || (a0 == 9)) || (a0 == 10)) = b0; cases b0 <;> kernel_rfl) fun _ H=>q_g 1 [(2,vB ((((a0 == 32) || (a0 == 9)) || (a0 == 10)) || (a0 == 13)))] H fun _ H=>q_e (W_ret ?_)
 obtain rfl:=sj hr
 exact q_r [vB ((((a0 == 32) || (a0 == 9)) || (a0 == 10)) || (a0 == 13))] H K
def F74 (n:Nat) (a0:ByteArray) (a1:Int):Option Int := (iter (σ:=Int) (ρ:=Int ⊕ Int) (fun s1=>bif decide (s1 < (a0.size:Int)) then ((F113 a0 s1 (bs [47,47])).bind fun x3 => bif x3 then ((iter (σ:=Int) (ρ:=Int) (fun s5=>bif decide (s5 < (a0.size:Int)) then ((idxS a0 s5).bind fun x7 => bif x7 != 10 then (some (.inl (w64 (s5 + 1)))) else (some (.inr s5))) else (some (.inr s5))) n s1).bind fun r9 => some (.inl r9)) else ((idxS a0 s1).bind fun x10 => (F114 x10).bind fun x11 => bif x11 then (some (.inl (w64 (s1 + 1)))) else (some (.inr (.inl s1))))) else (some (.inr (.inr s1)))) n a1).bind fun r13=>match r13 with | .inl r13a=>some r13a | .inr r13b=>some r13b
theorem F74_R (n:Nat) (a0:ByteArray) (a1:Int) (r:Int) (hr:F74 n a0 a1 = some r) {st:St}:R Tryz.prog AN 74 [vS a0,vI a1] st (.ret (vI r)) st:=by
 unfold F74 at hr
 refine pK [vS a0,vI a1] [(0,vS a0),(1,vI a1)] Tryz.func74 rfl fun fr st H K=>W_seq (W_reg (q_g 1 [(0,vS a0),(1,vI a1)] H fun _ H=>q_e (W_seq (W_block ?_))))
 obtain ⟨r13,hr13,hr⟩:=obind hr
 refine W_iter hr13 (fun (s1:Int) fr st=>Rd fr [(0,vS a0),(1,vI s1)]∧HL st []) (fun (r13:Int ⊕ Int) e fr st=>match r13 with | .inl r13a=>(e = .ret∧Rd fr [(4,vI r13a)]∧HL st []) | .inr r13b=>(e = .exit 0∧Rd fr [(1,vI r13b)]∧HL st [])) ⟨H.tq,K.keep []⟩ ?_ ?_
 ·intro s1 fr st r hi hr
  obtain ⟨H,K⟩:=hi
  refine W_seq (W_seq (W_reg (q_g 4 [(0,vS a0),(1,vI s1),(8,vB (decide (s1 < (a0.size:Int))))] H fun _ H=>q_e ?_)))
  rcases csplit hr with ⟨c2,hr⟩|⟨c2,hr⟩
  rotate_left
  ·refine q_F H c2 ?_
   refine W_exit ?_
   obtain rfl:=sj hr
   exact ⟨by simp,⟨rfl,H.tq,K.keep []⟩⟩
  refine q_T H c2 (W_skip (W_block (W_seq (W_reg (q_g 2 [(0,vS a0),(1,vI s1),(9,vS a0),(10,vI s1)] H fun _ H=>?_)))))
  obtain ⟨x3,hx3,hr⟩:=obind hr
  refine q_c (F113_R  a0 s1 (bs [47,47]) x3 hx3) 0 [(0,vS a0),(1,vI s1),(11,vB x3)] H fun _ H=>q_e ?_
  rcases csplit hr with ⟨c4,hr⟩|⟨c4,hr⟩
  rotate_left
  ·refine q_F H c4 (W_seq (W_reg (q_g 2 [(0,vS a0),(1,vI s1),(24,vS a0),(25,vI s1)] H fun _ H=>?_)))
   obtain ⟨x10,hx10,hr⟩:=obind hr
   refine q_v (.index 9 (vS a0) (vI s1)) [(0,vS a0),(1,vI s1),(26,vU x10)] H (run_idxS (by kernel_rfl) hx10) fun _ H=>?_
   obtain ⟨x11,hx11,hr⟩:=obind hr
   refine q_c (F114_R  x10 x11 hx11) 0 [(0,vS a0),(1,vI s1),(27,vB x11)] H fun _ H=>q_e ?_
   rcases csplit hr with ⟨c12,hr⟩|⟨c12,hr⟩
   ·refine q_T H c12 (W_reg (q_g 3 [(0,vS a0),(1,vI (w64 (s1 + 1)))] H fun _ H=>q_e ?_))
    obtain rfl:=sj hr
    exact ⟨rfl,⟨H.tq,K.keep []⟩⟩
   refine q_F H c12 (W_seq (W_reg (q_g 2 [(4,vI s1)] H fun _ H=>q_e (W_ret ?_))))
   obtain rfl:=sj hr
   exact ⟨by simp,⟨rfl,H.tq,K.keep []⟩⟩
  refine q_T H c4 (W_block ?_)
  obtain ⟨r9,hr9,hr⟩:=obind hr
  refine W_iter hr9 (fun (s5:Int) fr st=>Rd fr [(0,vS a0),(1,vI s5)]∧HL st []) (fun (r9:Int) e fr st=>e = .exit 2∧Rd fr [(0,vS a0),(1,vI r9)]∧HL st []) ⟨H.tq,K.keep []⟩ ?_ ?_
  ·intro s5 fr st r hi hr
   obtain ⟨H,K⟩:=hi
   refine W_seq (W_seq (W_reg (q_g 5 [(0,vS a0),(1,vI s5),(16,vB (decide (s5 < (a0.size:Int))))] H fun _ H=>?_)))
   rcases csplit hr with ⟨c6,hr⟩|⟨c6,hr⟩
   rotate_left
   ·rw [c6] at H
    refine q_g 5 [(0,vS a0),(1,vI s5),(21,vB false)] H fun _ H=>q_e (q_F H rfl ?_)
    refine W_exit ?_
    obtain rfl:=sj hr
    exact ⟨by simp,⟨rfl,H.tq,K.keep []⟩⟩
   rw [c6] at H
   refine q_g 2 [(0,vS a0),(1,vI s5),(16,vB true),(17,vS a0),(18,vI s5)] H fun _ H=>?_
   obtain ⟨x7,hx7,hr⟩:=obind hr
   refine q_v (.index 9 (vS a0) (vI s5)) [(0,vS a0),(1,vI s5),(16,vB true),(19,vU x7)] H (run_idxS (by kernel_rfl) hx7) fun _ H=>q_g 2 [(0,vS a0),(1,vI s5),(21,vB (x7 != 10))] H fun _ H=>q_e ?_
   rcases csplit hr with ⟨c8,hr⟩|⟨c8,hr⟩
   rotate_left
   ·refine q_F H c8 ?_
    refine W_exit ?_
    obtain rfl:=sj hr
    exact ⟨by simp,⟨rfl,H.tq,K.keep []⟩⟩
   refine q_T H c8 (W_skip (W_block (W_reg (q_g 3 [(0,vS a0),(1,vI (w64 (s5 + 1)))] H fun _ H=>q_e ?_))))
   obtain rfl:=sj hr
   exact ⟨rfl,⟨H.tq,K.keep []⟩⟩
  rintro e fr st ⟨rfl,H,K⟩
  obtain rfl:=sj hr
  exact ⟨rfl,⟨H.tq,K.keep []⟩⟩
 rcases r13 with r13a | r13b
 ·rintro e fr st ⟨rfl,H,K⟩
  obtain rfl:=sj hr
  exact q_r [vI r13a] H K
 rintro e fr st ⟨rfl,H,K⟩
 refine W_seq (W_reg (q_g 2 [(4,vI r13b)] H fun _ H=>q_e (W_ret ?_)))
 obtain rfl:=sj hr
 exact q_r [vI r13b] H K
def F115 (a0:Int):Option Bool := some (((decide (97≤a0)) && (decide (a0≤122))) || ((decide (65≤a0)) && (decide (a0≤90))))
theorem F115_R (a0:Int) (r:Bool) (hr:F115 a0 = some r) {st:St}:R Tryz.prog AN 115 [vU a0] st (.ret (vB r)) st:=by
 unfold F115 at hr
 refine pK [vU a0] [(0,vU a0)] Tryz.func115 rfl fun fr st H K=>W_seq (W_reg (q_g 1 [(0,vU a0)] H fun _ H=>q_e (W_seq (W_reg (q_g 3 [(0,vU a0),(5,vB (decide (97≤a0)))] H fun _ H=>?_)))))
 refine k_g 3 [(0,vU a0),(8,vB ((decide (97≤a0)) && (decide (a0≤122))))] H (fun _ _=>by generalize (decide (97≤a0)) = b0; cases b0 <;> kernel_rfl) fun _ H=>q_g 1 [(0,vU a0),(9,vB ((decide (97≤a0)) && (decide (a0≤122))))] H fun _ H=>?_
 refine k_seg 7 [(16,vB (((decide (97≤a0)) && (decide (a0≤122))) || ((decide (65≤a0)) && (decide (a0≤90)))))] ?_ ?_
 ·cases hg1:((decide (97≤a0)) && (decide (a0≤122)))
  ·rw [hg1] at H
   refine seg_go (m:=4) 3 [(0,vU a0),(9,vB false),(12,vB (decide (65≤a0)))] H (fun _ _=>by kernel_rfl) fun _ H=>?_
   cases hg2:(decide (65≤a0))
   ·rw [hg2] at H
    refine seg_go (m:=0) 4 [(16,vB false)] H (fun _ _=>by kernel_rfl) fun _ H=>?_
    exact seg_end (by (try simp only [hg1,hg2]); exact H.tq)
   ·rw [hg2] at H
    refine seg_go (m:=0) 4 [(16,vB (decide (a0≤90)))] H (fun _ _=>by kernel_rfl) fun _ H=>?_
    exact seg_end (by (try simp only [hg1,hg2]); exact H.tq)
  ·rw [hg1] at H
   refine seg_go (m:=0) 7 [(16,vB true)] H (fun _ _=>by kernel_rfl) fun _ H=>?_
   exact seg_end (by (try simp only [hg1]); exact H.tq)
 intro fr H
 refine q_g 1 [(2,vB (((decide (97≤a0)) && (decide (a0≤122))) || ((decide (65≤a0)) && (decide (a0≤90)))))] H fun _ H=>q_e (W_ret ?_)
 obtain rfl:=sj hr
 exact q_r [vB (((decide (97≤a0)) && (decide (a0≤122))) || ((decide (65≤a0)) && (decide (a0≤90))))] H K
def F117 (a0:Int):Option Bool := some ((decide (48≤a0)) && (decide (a0≤57)))
theorem F117_R (a0:Int) (r:Bool) (hr:F117 a0 = some r) {st:St}:R Tryz.prog AN 117 [vU a0] st (.ret (vB r)) st:=by
 unfold F117 at hr
 refine pK [vU a0] [(0,vU a0)] Tryz.func117 rfl fun fr st H K=>W_seq (W_reg (q_g 1 [(0,vU a0)] H fun _ H=>q_e (W_seq (W_reg (q_g 3 [(0,vU a0),(5,vB (decide (48≤a0)))] H fun _ H=>?_)))))
 refine k_g 3 [(8,vB ((decide (48≤a0)) && (decide (a0≤57))))] H (fun _ _=>by generalize (decide (48≤a0)) = b0; cases b0 <;> kernel_rfl) fun _ H=>q_g 1 [(2,vB ((decide (48≤a0)) && (decide (a0≤57))))] H fun _ H=>q_e (W_ret ?_)
 obtain rfl:=sj hr
 exact q_r [vB ((decide (48≤a0)) && (decide (a0≤57)))] H K
def F116 (n:Nat) (a0:ByteArray) (a1:Int):Option (Token × Bool) := (iter (σ:=Int) (ρ:=Int) (fun s2=>bif decide (s2 < (a0.size:Int)) then ((idxS a0 s2).bind fun x4 => (F115 x4).bind fun x5 => bif x5 then (some (.inl (w64 (s2 + 1)))) else ((idxS a0 s2).bind fun x7 => (F117 x7).bind fun x8 => bif x8 then (some (.inl (w64 (s2 + 1)))) else ((idxS a0 s2).bind fun x10 => bif x10 == 95 then (some (.inl (w64 (s2 + 1)))) else (some (.inr s2))))) else (some (.inr s2))) n a1).bind fun r12 => (subS a0 a1 r12).bind fun x13 => some ((Token.mk 1 x13 a1),(decide ((w64 (r12 - a1))≤16)))
theorem F116_R (n:Nat) (a0:ByteArray) (a1:Int) (r:Token × Bool) (hr:F116 n a0 a1 = some r) {st:St}:R Tryz.prog AN 116 [vS a0,vI a1] st (.ret (.tuple [.agg (cToken r.1),vB r.2])) st:=by
 unfold F116 at hr
 refine pK [vS a0,vI a1] [(0,vS a0),(1,vI a1)] Tryz.func116 rfl fun fr st H K=>W_seq (W_reg ?_)
 refine k_alloc (t:=61) (cs:=[vI 0,vS (bs []),vI 0]) (fun id1=>[(0,vS a0),(1,vI a1),(4,.ptr id1 0)]) H K (by kernel_rfl) (fun _ _=>by kernel_rfl) fun id1 st K fr H=>q_g 1 [(0,vS a0),(1,vI a1),(4,.ptr id1 0)] H fun _ H=>q_e (W_seq (W_reg (q_g 2 [(0,vS a0),(1,vI a1),(4,.ptr id1 0),(6,vI a1)] H fun _ H=>q_e (W_seq (W_block ?_)))))
 obtain ⟨r12,hr12,hr⟩:=obind hr
 refine W_iter hr12 (fun (s2:Int) fr st=>Rd fr [(0,vS a0),(1,vI a1),(4,.ptr id1 0),(6,vI s2)]∧HL st [.obj id1 (.cells 61 [vI 0,vS (bs []),vI 0])]) (fun (r12:Int) e fr st=>e = .exit 0∧Rd fr [(0,vS a0),(1,vI a1),(4,.ptr id1 0),(6,vI r12)]∧HL st [.obj id1 (.cells 61 [vI 0,vS (bs []),vI 0])]) ⟨H.tq,K.keep [true]⟩ ?_ ?_
 ·intro s2 fr st r hi hr
  obtain ⟨H,K⟩:=hi
  refine W_seq (W_seq (W_reg (q_g 5 [(0,vS a0),(1,vI a1),(4,.ptr id1 0),(6,vI s2),(12,vB (decide (s2 < (a0.size:Int))))] H fun _ H=>?_)))
  rcases csplit hr with ⟨c3,hr⟩|⟨c3,hr⟩
  rotate_left
  ·rw [c3] at H
   refine q_g 17 [(0,vS a0),(1,vI a1),(4,.ptr id1 0),(6,vI s2),(29,vB false)] H fun _ H=>q_e (q_F H rfl ?_)
   refine W_exit ?_
   obtain rfl:=sj hr
   exact ⟨by simp,⟨rfl,H.tq,K.keep [true]⟩⟩
  rw [c3] at H
  refine q_g 2 [(0,vS a0),(1,vI a1),(4,.ptr id1 0),(6,vI s2),(12,vB true),(13,vS a0),(14,vI s2)] H fun _ H=>?_
  obtain ⟨x4,hx4,hr⟩:=obind hr
  refine q_v (.index 9 (vS a0) (vI s2)) [(0,vS a0),(1,vI a1),(4,.ptr id1 0),(6,vI s2),(12,vB true),(15,vU x4)] H (run_idxS (by kernel_rfl) hx4) fun _ H=>?_
  obtain ⟨x5,hx5,hr⟩:=obind hr
  refine q_c (F115_R  x4 x5 hx5) 0 [(0,vS a0),(1,vI a1),(4,.ptr id1 0),(6,vI s2),(12,vB true),(16,vB x5)] H fun _ H=>q_g 1 [(0,vS a0),(1,vI a1),(4,.ptr id1 0),(6,vI s2),(12,vB true),(17,vB x5)] H fun _ H=>?_
  rcases csplit hr with ⟨c6,hr⟩|⟨c6,hr⟩
  ·rw [c6] at H
   refine q_g 12 [(0,vS a0),(1,vI a1),(4,.ptr id1 0),(6,vI s2),(29,vB true)] H fun _ H=>q_e (q_T H rfl (W_skip (W_block (W_reg (q_g 3 [(0,vS a0),(1,vI a1),(4,.ptr id1 0),(6,vI (w64 (s2 + 1)))] H fun _ H=>q_e ?_)))))
   obtain rfl:=sj hr
   exact ⟨rfl,⟨H.tq,K.keep [true]⟩⟩
  rw [c6] at H
  refine q_g 2 [(0,vS a0),(1,vI a1),(4,.ptr id1 0),(6,vI s2),(12,vB true),(17,vB false),(18,vS a0),(19,vI s2)] H fun _ H=>?_
  obtain ⟨x7,hx7,hr⟩:=obind hr
  refine q_v (.index 9 (vS a0) (vI s2)) [(0,vS a0),(1,vI a1),(4,.ptr id1 0),(6,vI s2),(12,vB true),(17,vB false),(20,vU x7)] H (run_idxS (by kernel_rfl) hx7) fun _ H=>?_
  obtain ⟨x8,hx8,hr⟩:=obind hr
  refine q_c (F117_R  x7 x8 hx8) 0 [(0,vS a0),(1,vI a1),(4,.ptr id1 0),(6,vI s2),(12,vB true),(17,vB false),(21,vB x8)] H fun _ H=>q_g 2 [(0,vS a0),(1,vI a1),(4,.ptr id1 0),(6,vI s2),(12,vB true),(23,vB x8)] H fun _ H=>?_
  rcases csplit hr with ⟨c9,hr⟩|⟨c9,hr⟩
  ·rw [c9] at H
   refine q_g 6 [(0,vS a0),(1,vI a1),(4,.ptr id1 0),(6,vI s2),(29,vB true)] H fun _ H=>q_e (q_T H rfl (W_skip (W_block (W_reg (q_g 3 [(0,vS a0),(1,vI a1),(4,.ptr id1 0),(6,vI (w64 (s2 + 1)))] H fun _ H=>q_e ?_)))))
   obtain rfl:=sj hr
   exact ⟨rfl,⟨H.tq,K.keep [true]⟩⟩
  rw [c9] at H
  refine q_g 2 [(0,vS a0),(1,vI a1),(4,.ptr id1 0),(6,vI s2),(12,vB true),(23,vB false),(24,vS a0),(25,vI s2)] H fun _ H=>?_
  obtain ⟨x10,hx10,hr⟩:=obind hr
  refine q_v (.index 9 (vS a0) (vI s2)) [(0,vS a0),(1,vI a1),(4,.ptr id1 0),(6,vI s2),(12,vB true),(23,vB false),(26,vU x10)] H (run_idxS (by kernel_rfl) hx10) fun _ H=>q_g 3 [(0,vS a0),(1,vI a1),(4,.ptr id1 0),(6,vI s2),(29,vB (x10 == 95))] H fun _ H=>q_e ?_
  rcases csplit hr with ⟨c11,hr⟩|⟨c11,hr⟩
  rotate_left
  ·refine q_F H c11 ?_
   refine W_exit ?_
   obtain rfl:=sj hr
   exact ⟨by simp,⟨rfl,H.tq,K.keep [true]⟩⟩
  refine q_T H c11 (W_skip (W_block (W_reg (q_g 3 [(0,vS a0),(1,vI a1),(4,.ptr id1 0),(6,vI (w64 (s2 + 1)))] H fun _ H=>q_e ?_))))
  obtain rfl:=sj hr
  exact ⟨rfl,⟨H.tq,K.keep [true]⟩⟩
 rintro e fr st ⟨rfl,H,K⟩
 refine W_seq (W_reg (q_g 3 [(1,vI a1),(4,.ptr id1 0),(6,vI r12),(32,vS a0),(33,vI a1),(34,vI r12)] H fun _ H=>?_))
 obtain ⟨x13,hx13,hr⟩:=obind hr
 refine q_v (.slice 9 (vS a0) (some (vI a1)) (some (vI r12))) [(1,vI a1),(4,.ptr id1 0),(6,vI r12),(35,vS x13)] H (run_subS (by kernel_rfl) hx13) fun _ H=>q_g 6 [(4,.ptr id1 0),(37,.agg [vI 1,vS x13,vI a1]),(41,vB (decide ((w64 (r12 - a1))≤16)))] H fun _ H=>?_
 refine k_store (t:=61) (off:=0) (v:=.agg [vI 1,vS x13,vI a1]) (cs':=[vI 1,vS x13,vI a1]) 0 [(4,.ptr id1 0),(41,vB (decide ((w64 (r12 - a1))≤16)))] H K rfl (by kernel_rfl) (fun _=>by kernel_rfl) fun st K fr H=>q_g 1 [(4,.ptr id1 0),(5,vB (decide ((w64 (r12 - a1))≤16)))] H fun _ H=>q_e (W_ret ?_)
 obtain rfl:=sj hr
 exact e_ret [.agg [vI 1,vS x13,vI a1],vB (decide ((w64 (r12 - a1))≤16))] H K (fun _=>resC id1 0 61 [vI 1,vS x13,vI a1] 0 (by kernel_rfl) rfl (by kernel_rfl) (resT (by kernel_rfl) resN)) (fun _=>by kernel_rfl)
def F118 (n:Nat) (a0:ByteArray) (a1:Int):Option (Token × Bool) := (iter (σ:=Int) (ρ:=Int) (fun s2=>bif decide (s2 < (a0.size:Int)) then ((idxS a0 s2).bind fun x4 => (F117 x4).bind fun x5 => bif x5 then (some (.inl (w64 (s2 + 1)))) else (some (.inr s2))) else (some (.inr s2))) n a1).bind fun r7 => (bif decide ((w64 (r7 - a1))≤9) then ((idxS a0 a1).bind fun x9 => some ((x9 != 48) || (r7 == (w64 (a1 + 1))))) else (some false):Option (Bool)).bind fun j10 => (bif decide (r7 < (a0.size:Int)) then ((idxS a0 r7).bind fun x12 => (F115 x12).bind fun x13 => bif x13 then (some false) else ((idxS a0 r7).bind fun x15 => bif x15 == 95 then (some false) else (some j10))) else (some j10):Option (Bool)).bind fun j17 => (subS a0 a1 r7).bind fun x18 => some ((Token.mk 2 x18 a1),j17)
theorem F118_R (n:Nat) (a0:ByteArray) (a1:Int) (r:Token × Bool) (hr:F118 n a0 a1 = some r) {st:St}:R Tryz.prog AN 118 [vS a0,vI a1] st (.ret (.tuple [.agg (cToken r.1),vB r.2])) st:=by
 unfold F118 at hr
 refine pK [vS a0,vI a1] [(0,vS a0),(1,vI a1)] Tryz.func118 rfl fun fr st H K=>W_seq (W_reg ?_)
 refine k_alloc (t:=61) (cs:=[vI 0,vS (bs []),vI 0]) (fun id1=>[(0,vS a0),(1,vI a1),(4,.ptr id1 0)]) H K (by kernel_rfl) (fun _ _=>by kernel_rfl) fun id1 st K fr H=>q_g 1 [(0,vS a0),(1,vI a1),(4,.ptr id1 0)] H fun _ H=>q_e (W_seq (W_reg (q_g 2 [(0,vS a0),(1,vI a1),(4,.ptr id1 0),(6,vI a1)] H fun _ H=>q_e (W_seq (W_block ?_)))))
 obtain ⟨r7,hr7,hr⟩:=obind hr
 refine W_iter hr7 (fun (s2:Int) fr st=>Rd fr [(0,vS a0),(1,vI a1),(4,.ptr id1 0),(6,vI s2)]∧HL st [.obj id1 (.cells 61 [vI 0,vS (bs []),vI 0])]) (fun (r7:Int) e fr st=>e = .exit 0∧Rd fr [(0,vS a0),(1,vI a1),(4,.ptr id1 0),(6,vI r7)]∧HL st [.obj id1 (.cells 61 [vI 0,vS (bs []),vI 0])]) ⟨H.tq,K.keep [true]⟩ ?_ ?_
 ·intro s2 fr st r hi hr
  obtain ⟨H,K⟩:=hi
  refine W_seq (W_seq (W_reg (q_g 5 [(0,vS a0),(1,vI a1),(4,.ptr id1 0),(6,vI s2),(13,vB (decide (s2 < (a0.size:Int))))] H fun _ H=>?_)))
  rcases csplit hr with ⟨c3,hr⟩|⟨c3,hr⟩
  rotate_left
  ·rw [c3] at H
   refine q_g 5 [(0,vS a0),(1,vI a1),(4,.ptr id1 0),(6,vI s2),(18,vB false)] H fun _ H=>q_e (q_F H rfl ?_)
   refine W_exit ?_
   obtain rfl:=sj hr
   exact ⟨by simp,⟨rfl,H.tq,K.keep [true]⟩⟩
  rw [c3] at H
  refine q_g 2 [(0,vS a0),(1,vI a1),(4,.ptr id1 0),(6,vI s2),(13,vB true),(14,vS a0),(15,vI s2)] H fun _ H=>?_
  obtain ⟨x4,hx4,hr⟩:=obind hr
  refine q_v (.index 9 (vS a0) (vI s2)) [(0,vS a0),(1,vI a1),(4,.ptr id1 0),(6,vI s2),(13,vB true),(16,vU x4)] H (run_idxS (by kernel_rfl) hx4) fun _ H=>?_
  obtain ⟨x5,hx5,hr⟩:=obind hr
  refine q_c (F117_R  x4 x5 hx5) 0 [(0,vS a0),(1,vI a1),(4,.ptr id1 0),(6,vI s2),(13,vB true),(17,vB x5)] H fun _ H=>q_g 1 [(0,vS a0),(1,vI a1),(4,.ptr id1 0),(6,vI s2),(18,vB x5)] H fun _ H=>q_e ?_
  rcases csplit hr with ⟨c6,hr⟩|⟨c6,hr⟩
  rotate_left
  ·refine q_F H c6 ?_
   refine W_exit ?_
   obtain rfl:=sj hr
   exact ⟨by simp,⟨rfl,H.tq,K.keep [true]⟩⟩
  refine q_T H c6 (W_skip (W_block (W_reg (q_g 3 [(0,vS a0),(1,vI a1),(4,.ptr id1 0),(6,vI (w64 (s2 + 1)))] H fun _ H=>q_e ?_))))
  obtain rfl:=sj hr
  exact ⟨rfl,⟨H.tq,K.keep [true]⟩⟩
 rintro e fr st ⟨rfl,H,K⟩
 refine W_seq ?_
 obtain ⟨j10,hj10,hr⟩:=obind hr
 refine W_via (fun e fr st=>e = .normal∧Rd fr [(0,vS a0),(1,vI a1),(4,.ptr id1 0),(6,vI r7),(7,vB j10)]∧HL st [.obj id1 (.cells 61 [vI 0,vS (bs []),vI 0])]) ?_ ?_
 ·replace hr:=hj10
  refine W_reg (q_g 5 [(0,vS a0),(1,vI a1),(4,.ptr id1 0),(6,vI r7),(25,vB (decide ((w64 (r7 - a1))≤9)))] H fun _ H=>?_)
  rcases csplit hr with ⟨c8,hr⟩|⟨c8,hr⟩
  rotate_left
  ·rw [c8] at H
   refine q_g 12 [(0,vS a0),(1,vI a1),(4,.ptr id1 0),(6,vI r7),(7,vB false)] H fun _ H=>q_e ?_
   obtain rfl:=sj hr
   exact ⟨rfl,H.to (env':=_) (fun _=>by kernel_rfl),K.keep [true]⟩
  rw [c8] at H
  refine q_g 2 [(0,vS a0),(1,vI a1),(4,.ptr id1 0),(6,vI r7),(25,vB true),(26,vS a0),(27,vI a1)] H fun _ H=>?_
  obtain ⟨x9,hx9,hr⟩:=obind hr
  refine q_v (.index 9 (vS a0) (vI a1)) [(0,vS a0),(1,vI a1),(4,.ptr id1 0),(6,vI r7),(25,vB true),(28,vU x9)] H (run_idxS (by kernel_rfl) hx9) fun _ H=>q_g 2 [(0,vS a0),(1,vI a1),(4,.ptr id1 0),(6,vI r7),(25,vB true),(30,vB (x9 != 48))] H fun _ H=>?_
  refine k_g 6 [(0,vS a0),(1,vI a1),(4,.ptr id1 0),(6,vI r7),(36,vB ((x9 != 48) || (r7 == (w64 (a1 + 1)))))] H (fun _ _=>by generalize (x9 != 48) = b0; cases b0 <;> kernel_rfl) fun _ H=>q_g 1 [(0,vS a0),(1,vI a1),(4,.ptr id1 0),(6,vI r7),(7,vB ((x9 != 48) || (r7 == (w64 (a1 + 1)))))] H fun _ H=>q_e ?_
  obtain rfl:=sj hr
  exact ⟨rfl,H.to (env':=_) (fun _=>by kernel_rfl),K.keep [true]⟩
 rintro e fr st ⟨rfl,H,K⟩
 refine W_seq ?_
 obtain ⟨j17,hj17,hr⟩:=obind hr
 refine W_via (fun e fr st=>e = .normal∧Rd fr [(0,vS a0),(1,vI a1),(4,.ptr id1 0),(6,vI r7),(7,vB j17)]∧HL st [.obj id1 (.cells 61 [vI 0,vS (bs []),vI 0])]) ?_ ?_
 ·replace hr:=hj17
  refine W_seq (W_reg (q_g 5 [(0,vS a0),(1,vI a1),(4,.ptr id1 0),(6,vI r7),(7,vB j10),(41,vB (decide (r7 < (a0.size:Int))))] H fun _ H=>?_))
  rcases csplit hr with ⟨c11,hr⟩|⟨c11,hr⟩
  rotate_left
  ·rw [c11] at H
   refine q_g 11 [(0,vS a0),(1,vI a1),(4,.ptr id1 0),(6,vI r7),(7,vB j10),(52,vB false)] H fun _ H=>q_e (q_F H rfl (W_skip ?_))
   obtain rfl:=sj hr
   exact ⟨rfl,H.to (env':=_) (fun _=>by kernel_rfl),K.keep [true]⟩
  rw [c11] at H
  refine q_g 2 [(0,vS a0),(1,vI a1),(4,.ptr id1 0),(6,vI r7),(7,vB j10),(41,vB true),(42,vS a0),(43,vI r7)] H fun _ H=>?_
  obtain ⟨x12,hx12,hr⟩:=obind hr
  refine q_v (.index 9 (vS a0) (vI r7)) [(0,vS a0),(1,vI a1),(4,.ptr id1 0),(6,vI r7),(7,vB j10),(41,vB true),(44,vU x12)] H (run_idxS (by kernel_rfl) hx12) fun _ H=>?_
  obtain ⟨x13,hx13,hr⟩:=obind hr
  refine q_c (F115_R  x12 x13 hx13) 0 [(0,vS a0),(1,vI a1),(4,.ptr id1 0),(6,vI r7),(7,vB j10),(41,vB true),(45,vB x13)] H fun _ H=>q_g 1 [(0,vS a0),(1,vI a1),(4,.ptr id1 0),(6,vI r7),(7,vB j10),(41,vB true),(46,vB x13)] H fun _ H=>?_
  rcases csplit hr with ⟨c14,hr⟩|⟨c14,hr⟩
  ·rw [c14] at H
   refine q_g 6 [(0,vS a0),(1,vI a1),(4,.ptr id1 0),(6,vI r7),(7,vB j10),(52,vB true)] H fun _ H=>q_e (q_T H rfl (W_reg (q_g 1 [(0,vS a0),(1,vI a1),(4,.ptr id1 0),(6,vI r7),(7,vB false)] H fun _ H=>q_e ?_)))
   obtain rfl:=sj hr
   exact ⟨rfl,H.to (env':=_) (fun _=>by kernel_rfl),K.keep [true]⟩
  rw [c14] at H
  refine q_g 2 [(0,vS a0),(1,vI a1),(4,.ptr id1 0),(6,vI r7),(7,vB j10),(41,vB true),(46,vB false),(47,vS a0),(48,vI r7)] H fun _ H=>?_
  obtain ⟨x15,hx15,hr⟩:=obind hr
  refine q_v (.index 9 (vS a0) (vI r7)) [(0,vS a0),(1,vI a1),(4,.ptr id1 0),(6,vI r7),(7,vB j10),(41,vB true),(46,vB false),(49,vU x15)] H (run_idxS (by kernel_rfl) hx15) fun _ H=>q_g 3 [(0,vS a0),(1,vI a1),(4,.ptr id1 0),(6,vI r7),(7,vB j10),(52,vB (x15 == 95))] H fun _ H=>q_e ?_
  rcases csplit hr with ⟨c16,hr⟩|⟨c16,hr⟩
  rotate_left
  ·refine q_F H c16 (W_skip ?_)
   obtain rfl:=sj hr
   exact ⟨rfl,H.to (env':=_) (fun _=>by kernel_rfl),K.keep [true]⟩
  refine q_T H c16 (W_reg (q_g 1 [(0,vS a0),(1,vI a1),(4,.ptr id1 0),(6,vI r7),(7,vB false)] H fun _ H=>q_e ?_))
  obtain rfl:=sj hr
  exact ⟨rfl,H.to (env':=_) (fun _=>by kernel_rfl),K.keep [true]⟩
 rintro e fr st ⟨rfl,H,K⟩
 refine W_seq (W_reg (q_g 3 [(1,vI a1),(4,.ptr id1 0),(7,vB j17),(53,vS a0),(54,vI a1),(55,vI r7)] H fun _ H=>?_))
 obtain ⟨x18,hx18,hr⟩:=obind hr
 refine q_v (.slice 9 (vS a0) (some (vI a1)) (some (vI r7))) [(1,vI a1),(4,.ptr id1 0),(7,vB j17),(56,vS x18)] H (run_subS (by kernel_rfl) hx18) fun _ H=>q_g 3 [(4,.ptr id1 0),(58,.agg [vI 2,vS x18,vI a1]),(59,vB j17)] H fun _ H=>?_
 refine k_store (t:=61) (off:=0) (v:=.agg [vI 2,vS x18,vI a1]) (cs':=[vI 2,vS x18,vI a1]) 0 [(4,.ptr id1 0),(59,vB j17)] H K rfl (by kernel_rfl) (fun _=>by kernel_rfl) fun st K fr H=>q_g 1 [(4,.ptr id1 0),(5,vB j17)] H fun _ H=>q_e (W_ret ?_)
 obtain rfl:=sj hr
 exact e_ret [.agg [vI 2,vS x18,vI a1],vB j17] H K (fun _=>resC id1 0 61 [vI 2,vS x18,vI a1] 0 (by kernel_rfl) rfl (by kernel_rfl) (resT (by kernel_rfl) resN)) (fun _=>by kernel_rfl)
def F119 :Option ((List ByteArray)) := some ([(bs [61,61,62]),(bs [58,61]),(bs [61,61]),(bs [33,61]),(bs [60,61]),(bs [38,38]),(bs [124,124]),(bs [123]),(bs [125]),(bs [40]),(bs [41]),(bs [91]),(bs [93]),(bs [59]),(bs [58]),(bs [44]),(bs [46]),(bs [63]),(bs [61]),(bs [33]),(bs [60]),(bs [38]),(bs [124]),(bs [94]),(bs [43]),(bs [45]),(bs [42])]:List ByteArray)
theorem F119_R  (r:(List ByteArray)) (hr:F119  = some r) {st:St}:R Tryz.prog AN 119 [] st (.ret (vL tS r .shut)) st:=by
 unfold F119 at hr
 refine pK [] [] Tryz.func119 rfl fun fr st H K=>W_seq (W_reg (q_g 1 [] H fun _ H=>q_e (W_seq (W_reg ?_))))
 refine q_v (.buildSlice 30 27 [(0,vS (bs [61,61,62])),(1,vS (bs [58,61])),(2,vS (bs [61,61])),(3,vS (bs [33,61])),(4,vS (bs [60,61])),(5,vS (bs [38,38])),(6,vS (bs [124,124])),(7,vS (bs [123])),(8,vS (bs [125])),(9,vS (bs [40])),(10,vS (bs [41])),(11,vS (bs [91])),(12,vS (bs [93])),(13,vS (bs [59])),(14,vS (bs [58])),(15,vS (bs [44])),(16,vS (bs [46])),(17,vS (bs [63])),(18,vS (bs [61])),(19,vS (bs [33])),(20,vS (bs [60])),(21,vS (bs [38])),(22,vS (bs [124])),(23,vS (bs [94])),(24,vS (bs [43])),(25,vS (bs [45])),(26,vS (bs [42]))]) [(1,vL tS ([(bs [61,61,62]),(bs [58,61]),(bs [61,61]),(bs [33,61]),(bs [60,61]),(bs [38,38]),(bs [124,124]),(bs [123]),(bs [125]),(bs [40]),(bs [41]),(bs [91]),(bs [93]),(bs [59]),(bs [58]),(bs [44]),(bs [46]),(bs [63]),(bs [61]),(bs [33]),(bs [60]),(bs [38]),(bs [124]),(bs [94]),(bs [43]),(bs [45]),(bs [42])]:List ByteArray) .full)] H (run_bslice (v:=vL tS ([(bs [61,61,62]),(bs [58,61]),(bs [61,61]),(bs [33,61]),(bs [60,61]),(bs [38,38]),(bs [124,124]),(bs [123]),(bs [125]),(bs [40]),(bs [41]),(bs [91]),(bs [93]),(bs [59]),(bs [58]),(bs [44]),(bs [46]),(bs [63]),(bs [61]),(bs [33]),(bs [60]),(bs [38]),(bs [124]),(bs [94]),(bs [43]),(bs [45]),(bs [42])]:List ByteArray) .full) (v0:=.slice [vS (bs [61,61,62]),vS (bs [58,61]),vS (bs [61,61]),vS (bs [33,61]),vS (bs [60,61]),vS (bs [38,38]),vS (bs [124,124]),vS (bs [123]),vS (bs [125]),vS (bs [40]),vS (bs [41]),vS (bs [91]),vS (bs [93]),vS (bs [59]),vS (bs [58]),vS (bs [44]),vS (bs [46]),vS (bs [63]),vS (bs [61]),vS (bs [33]),vS (bs [60]),vS (bs [38]),vS (bs [124]),vS (bs [94]),vS (bs [43]),vS (bs [45]),vS (bs [42])] .full) (by kernel_rfl) (rfl)) fun _ H=>q_g 1 [(0,vL tS ([(bs [61,61,62]),(bs [58,61]),(bs [61,61]),(bs [33,61]),(bs [60,61]),(bs [38,38]),(bs [124,124]),(bs [123]),(bs [125]),(bs [40]),(bs [41]),(bs [91]),(bs [93]),(bs [59]),(bs [58]),(bs [44]),(bs [46]),(bs [63]),(bs [61]),(bs [33]),(bs [60]),(bs [38]),(bs [124]),(bs [94]),(bs [43]),(bs [45]),(bs [42])]:List ByteArray) .full)] H fun _ H=>q_e (W_ret ?_)
 obtain rfl:=sj hr
 exact q_r [vL tS ([(bs [61,61,62]),(bs [58,61]),(bs [61,61]),(bs [33,61]),(bs [60,61]),(bs [38,38]),(bs [124,124]),(bs [123]),(bs [125]),(bs [40]),(bs [41]),(bs [91]),(bs [93]),(bs [59]),(bs [58]),(bs [44]),(bs [46]),(bs [63]),(bs [61]),(bs [33]),(bs [60]),(bs [38]),(bs [124]),(bs [94]),(bs [43]),(bs [45]),(bs [42])]:List ByteArray) .full] H K (hs:=fun _=>by simp only [strip,stripL_ET,Option.map_some,oneOf] <;> rfl)
def F75 (n:Nat) (a0:ByteArray) (a1:Int):Option (Token × Bool) := (idxS a0 a1).bind fun x2 => (F115 x2).bind fun x3 => bif x3 then ((F116 n a0 a1).bind fun x5 => some (x5.1,x5.2)) else ((idxS a0 a1).bind fun x6 => (F117 x6).bind fun x7 => bif x7 then ((F118 n a0 a1).bind fun x9 => some (x9.1,x9.2)) else ((F119 ).bind fun x10 => (iter (σ:=Int) (ρ:=ByteArray ⊕ Unit) (fun s11=>bif decide (s11 < (x10.length:Int)) then ((idxL x10 s11).bind fun x13 => (F113 a0 a1 x13).bind fun x14 => bif x14 then ((idxL x10 s11).bind fun x16 => some (.inr (.inl x16))) else (some (.inl (w64 (s11 + 1))))) else (some (.inr (.inr ())))) n (0:Int)).bind fun r17=>match r17 with | .inl r17a=>some ((Token.mk 3 r17a a1),true) | .inr _=>some ((Token.mk 0 (bs []) 0),false)))
theorem F75_R (n:Nat) (a0:ByteArray) (a1:Int) (r:Token × Bool) (hr:F75 n a0 a1 = some r) {st:St}:R Tryz.prog AN 75 [vS a0,vI a1] st (.ret (.tuple [.agg (cToken r.1),vB r.2])) st:=by
 unfold F75 at hr
 refine pK [vS a0,vI a1] [(0,vS a0),(1,vI a1)] Tryz.func75 rfl fun fr st H K=>W_seq (W_reg ?_)
 refine k_alloc (t:=61) (cs:=[vI 0,vS (bs []),vI 0]) (fun id1=>[(0,vS a0),(1,vI a1),(4,.ptr id1 0)]) H K (by kernel_rfl) (fun _ _=>by kernel_rfl) fun id1 st K fr H=>q_g 1 [(0,vS a0),(1,vI a1),(4,.ptr id1 0)] H fun _ H=>q_e (W_seq (W_seq (W_reg (q_g 2 [(0,vS a0),(1,vI a1),(4,.ptr id1 0),(8,vS a0),(9,vI a1)] H fun _ H=>?_))))
 obtain ⟨x2,hx2,hr⟩:=obind hr
 refine q_v (.index 9 (vS a0) (vI a1)) [(0,vS a0),(1,vI a1),(4,.ptr id1 0),(10,vU x2)] H (run_idxS (by kernel_rfl) hx2) fun _ H=>?_
 obtain ⟨x3,hx3,hr⟩:=obind hr
 refine q_c (F115_R  x2 x3 hx3) 0 [(0,vS a0),(1,vI a1),(4,.ptr id1 0),(11,vB x3)] H fun _ H=>q_e ?_
 rcases csplit hr with ⟨c4,hr⟩|⟨c4,hr⟩
 ·refine q_T H c4 (W_seq (W_reg (q_g 2 [(4,.ptr id1 0),(12,vS a0),(13,vI a1)] H fun _ H=>?_)))
  obtain ⟨x5,hx5,hr⟩:=obind hr
  refine q_c (F116_R n a0 a1 x5 hx5) 0 [(4,.ptr id1 0),(14,.tuple [.agg (cToken x5.1),vB x5.2])] H fun _ H=>q_g 2 [(4,.ptr id1 0),(15,.agg (cToken x5.1)),(16,vB x5.2)] H fun _ H=>?_
  refine k_store (t:=61) (off:=0) (v:=.agg (cToken x5.1)) (cs':=[vI x5.1.kind,vS x5.1.text,vI x5.1.pos]) 0 [(4,.ptr id1 0),(16,vB x5.2)] H K rfl (by kernel_rfl) (fun _=>by kernel_rfl) fun st K fr H=>q_g 1 [(4,.ptr id1 0),(5,vB x5.2)] H fun _ H=>q_e (W_ret ?_)
  obtain rfl:=sj hr
  exact e_ret [.agg (cToken x5.1),vB x5.2] H K (fun _=>resC id1 0 61 [vI x5.1.kind,vS x5.1.text,vI x5.1.pos] 0 (by kernel_rfl) rfl (by kernel_rfl) (resT (by kernel_rfl) resN)) (fun _=>by kernel_rfl)
 refine q_F H c4 (W_skip (W_seq (W_seq (W_reg (q_g 2 [(0,vS a0),(1,vI a1),(4,.ptr id1 0),(17,vS a0),(18,vI a1)] H fun _ H=>?_)))))
 obtain ⟨x6,hx6,hr⟩:=obind hr
 refine q_v (.index 9 (vS a0) (vI a1)) [(0,vS a0),(1,vI a1),(4,.ptr id1 0),(19,vU x6)] H (run_idxS (by kernel_rfl) hx6) fun _ H=>?_
 obtain ⟨x7,hx7,hr⟩:=obind hr
 refine q_c (F117_R  x6 x7 hx7) 0 [(0,vS a0),(1,vI a1),(4,.ptr id1 0),(20,vB x7)] H fun _ H=>q_e ?_
 rcases csplit hr with ⟨c8,hr⟩|⟨c8,hr⟩
 ·refine q_T H c8 (W_seq (W_reg (q_g 2 [(4,.ptr id1 0),(21,vS a0),(22,vI a1)] H fun _ H=>?_)))
  obtain ⟨x9,hx9,hr⟩:=obind hr
  refine q_c (F118_R n a0 a1 x9 hx9) 0 [(4,.ptr id1 0),(23,.tuple [.agg (cToken x9.1),vB x9.2])] H fun _ H=>q_g 2 [(4,.ptr id1 0),(24,.agg (cToken x9.1)),(25,vB x9.2)] H fun _ H=>?_
  refine k_store (t:=61) (off:=0) (v:=.agg (cToken x9.1)) (cs':=[vI x9.1.kind,vS x9.1.text,vI x9.1.pos]) 0 [(4,.ptr id1 0),(25,vB x9.2)] H K rfl (by kernel_rfl) (fun _=>by kernel_rfl) fun st K fr H=>q_g 1 [(4,.ptr id1 0),(5,vB x9.2)] H fun _ H=>q_e (W_ret ?_)
  obtain rfl:=sj hr
  exact e_ret [.agg (cToken x9.1),vB x9.2] H K (fun _=>resC id1 0 61 [vI x9.1.kind,vS x9.1.text,vI x9.1.pos] 0 (by kernel_rfl) rfl (by kernel_rfl) (resT (by kernel_rfl) resN)) (fun _=>by kernel_rfl)
 refine q_F H c8 (W_skip (W_seq (W_reg ?_)))
 obtain ⟨x10,hx10,hr⟩:=obind hr
 refine q_c (F119_R   x10 hx10) 0 [(0,vS a0),(1,vI a1),(4,.ptr id1 0),(26,vL tS x10 .shut)] H fun _ H=>q_g 1 [(0,vS a0),(1,vI a1),(4,.ptr id1 0),(6,vL tS x10 .shut)] H fun _ H=>q_e (W_seq (W_seq (W_reg (q_g 1 [(0,vS a0),(1,vI a1),(4,.ptr id1 0),(6,vL tS x10 .shut),(7,vI 0)] H fun _ H=>q_e (W_block ?_)))))
 obtain ⟨r17,hr17,hr⟩:=obind hr
 refine W_iter hr17 (fun (s11:Int) fr st=>Rd fr [(0,vS a0),(1,vI a1),(4,.ptr id1 0),(6,vL tS x10 .shut),(7,vI s11)]∧HL st [.obj id1 (.cells 61 [vI 0,vS (bs []),vI 0])]) (fun (r17:ByteArray ⊕ Unit) e fr st=>match r17 with | .inl r17a=>(e = .ret∧Rd fr [(4,.ptr id1 0),(5,vB true)]∧HL st [.obj id1 (.cells 61 [vI 3,vS r17a,vI a1])]) | .inr r17b=>(e = .exit 0∧Rd fr [(4,.ptr id1 0)]∧HL st [.obj id1 (.cells 61 [vI 0,vS (bs []),vI 0])])) ⟨H.tq,K.keep [true]⟩ ?_ ?_
 ·intro s11 fr st r hi hr
  obtain ⟨H,K⟩:=hi
  refine W_seq (W_seq (W_reg (q_g 2 [(0,vS a0),(1,vI a1),(4,.ptr id1 0),(6,vL tS x10 .shut),(7,vI s11),(27,vI s11),(28,vL tS x10 .shut)] H fun _ H=>?_)))
  refine q_v (.len 30 (vL tS x10 .shut)) [(0,vS a0),(1,vI a1),(4,.ptr id1 0),(6,vL tS x10 .shut),(7,vI s11),(27,vI s11),(29,vI (x10.length:Int))] H (run_len tS (by kernel_rfl)) fun _ H=>q_g 1 [(0,vS a0),(1,vI a1),(4,.ptr id1 0),(6,vL tS x10 .shut),(7,vI s11),(30,vB (decide (s11 < (x10.length:Int))))] H fun _ H=>q_e ?_
  rcases csplit hr with ⟨c12,hr⟩|⟨c12,hr⟩
  rotate_left
  ·refine q_F H c12 ?_
   refine W_exit ?_
   obtain rfl:=sj hr
   exact ⟨by simp,⟨rfl,H.tq,K.keep [true]⟩⟩
  refine q_T H c12 (W_skip (W_seq (W_block (W_seq (W_reg (q_g 4 [(0,vS a0),(1,vI a1),(4,.ptr id1 0),(6,vL tS x10 .shut),(7,vI s11),(33,vS a0),(34,vI a1),(35,vL tS x10 .shut),(36,vI s11)] H fun _ H=>?_))))))
  obtain ⟨x13,hx13,hr⟩:=obind hr
  refine q_v (.indexAddr 30 (vL tS x10 .shut) (vI s11)) [(0,vS a0),(1,vI a1),(4,.ptr id1 0),(6,vL tS x10 .shut),(7,vI s11),(33,vS a0),(34,vI a1),(37,.cptr ([vS x13]) 0)] H (run_idxL tS (by kernel_rfl) hx13) fun _ H=>q_g 1 [(0,vS a0),(1,vI a1),(4,.ptr id1 0),(6,vL tS x10 .shut),(7,vI s11),(33,vS a0),(34,vI a1),(38,vS x13)] H fun _ H=>?_
  obtain ⟨x14,hx14,hr⟩:=obind hr
  refine q_c (F113_R  a0 a1 x13 x14 hx14) 0 [(0,vS a0),(1,vI a1),(4,.ptr id1 0),(6,vL tS x10 .shut),(7,vI s11),(39,vB x14)] H fun _ H=>q_e ?_
  rcases csplit hr with ⟨c15,hr⟩|⟨c15,hr⟩
  rotate_left
  ·refine q_F H c15 (W_skip (W_reg (q_g 3 [(0,vS a0),(1,vI a1),(4,.ptr id1 0),(6,vL tS x10 .shut),(7,vI (w64 (s11 + 1)))] H fun _ H=>q_e ?_)))
   obtain rfl:=sj hr
   exact ⟨rfl,⟨H.tq,K.keep [true]⟩⟩
  refine q_T H c15 (W_seq (W_reg (q_g 2 [(1,vI a1),(4,.ptr id1 0),(40,vL tS x10 .shut),(41,vI s11)] H fun _ H=>?_)))
  obtain ⟨x16,hx16,hr⟩:=obind hr
  refine q_v (.indexAddr 30 (vL tS x10 .shut) (vI s11)) [(1,vI a1),(4,.ptr id1 0),(42,.cptr ([vS x16]) 0)] H (run_idxL tS (by kernel_rfl) hx16) fun _ H=>q_g 3 [(4,.ptr id1 0),(45,.agg [vI 3,vS x16,vI a1])] H fun _ H=>?_
  refine k_store (t:=61) (off:=0) (v:=.agg [vI 3,vS x16,vI a1]) (cs':=[vI 3,vS x16,vI a1]) 0 [(4,.ptr id1 0)] H K rfl (by kernel_rfl) (fun _=>by kernel_rfl) fun st K fr H=>q_g 1 [(4,.ptr id1 0),(5,vB true)] H fun _ H=>q_e (W_ret ?_)
  obtain rfl:=sj hr
  exact ⟨by simp,⟨rfl,H.tq,K.keep [true]⟩⟩
 rcases r17 with r17a | r17b
 ·rintro e fr st ⟨rfl,H,K⟩
  obtain rfl:=sj hr
  exact e_ret [.agg [vI 3,vS r17a,vI a1],vB true] H K (fun _=>resC id1 0 61 [vI 3,vS r17a,vI a1] 0 (by kernel_rfl) rfl (by kernel_rfl) (resT (by kernel_rfl) resN)) (fun _=>by kernel_rfl)
 rintro e fr st ⟨rfl,H,K⟩
 refine W_seq (W_reg (q_g 1 [(4,.ptr id1 0),(46,.agg [vI 0,vS (bs []),vI 0])] H fun _ H=>?_))
 refine k_store (t:=61) (off:=0) (v:=.agg [vI 0,vS (bs []),vI 0]) (cs':=[vI 0,vS (bs []),vI 0]) 0 [(4,.ptr id1 0)] H K rfl (by kernel_rfl) (fun _=>by kernel_rfl) fun st K fr H=>q_g 1 [(4,.ptr id1 0),(5,vB false)] H fun _ H=>q_e (W_ret ?_)
 obtain rfl:=sj hr
 exact e_ret [.agg [vI 0,vS (bs []),vI 0],vB false] H K (fun _=>resC id1 0 61 [vI 0,vS (bs []),vI 0] 0 (by kernel_rfl) rfl (by kernel_rfl) (resT (by kernel_rfl) resN)) (fun _=>by kernel_rfl)
def F39 (n:Nat) (a0:ByteArray):Option ((List Token) × Int × Int) := bif decide (4000 < (a0.size:Int)) then (some (([]:List Token),(2:Int),(0:Int))) else ((F74 n a0 (0:Int)).bind fun x2 => (iter (σ:=(List Token) × Int) (ρ:=(Int × Int) ⊕ ((List Token))) (fun s3=>bif decide (s3.2 < (a0.size:Int)) then (bif decide (1500≤(s3.1.length:Int)) then (some (.inr (.inl ((2:Int),s3.2)))) else ((F75 n a0 s3.2).bind fun x6 => bif !x6.2 then (some (.inr (.inl ((10:Int),s3.2)))) else ((appL 32 s3.1 ([x6.1]:List Token)).bind fun x9 => (F74 n a0 (w64 (s3.2 + (x6.1.text.size:Int)))).bind fun x11 => some (.inl (x9,x11))))) else (some (.inr (.inr s3.1)))) n (([]:List Token),x2)).bind fun r12=>match r12 with | .inl r12a=>some (([]:List Token),r12a.1,r12a.2) | .inr r12b=>some (r12b,(0:Int),(0:Int)))
theorem F39_R (n:Nat) (a0:ByteArray) (r:(List Token) × Int × Int) (hr:F39 n a0 = some r) {st:St}:R Tryz.prog AN 39 [vS a0] st (.ret (.tuple [vL tToken r.1 .shut,vI r.2.1,vI r.2.2])) st:=by
 unfold F39 at hr
 refine pK [vS a0] [(0,vS a0)] Tryz.func39 rfl fun fr st H K=>W_seq (W_reg (q_g 3 [(0,vS a0)] H fun _ H=>q_e (W_seq (W_seq (W_reg (q_g 3 [(0,vS a0),(11,vB (decide (4000 < (a0.size:Int))))] H fun _ H=>q_e ?_))))))
 rcases csplit hr with ⟨c1,hr⟩|⟨c1,hr⟩
 ·refine q_T H c1 (W_seq (W_reg (q_g 3 [(2,vL tToken ([]:List Token) .nil),(3,vI 2),(4,vI 0)] H fun _ H=>q_e (W_ret ?_))))
  obtain rfl:=sj hr
  exact e_ret [vL tToken ([]:List Token) .nil,vI 2,vI 0] H K (fun _=>resT (by kernel_rfl) (resT (by kernel_rfl) (resT (by kernel_rfl) resN))) (fun _=>by simp only [strip,stripL,stripL_ET,Option.bind_some,Option.map_some,oneOf] <;> rfl)
 refine q_F H c1 (W_skip (W_seq (W_reg (q_g 1 [(0,vS a0),(5,vL tToken ([]:List Token) .nil)] H fun _ H=>q_e (W_seq (W_reg (q_g 1 [(0,vS a0),(5,vL tToken ([]:List Token) .nil),(12,vS a0)] H fun _ H=>?_)))))))
 obtain ⟨x2,hx2,hr⟩:=obind hr
 refine q_c (F74_R n a0 (0:Int) x2 hx2) 0 [(0,vS a0),(5,vL tToken ([]:List Token) .nil),(13,vI x2)] H fun _ H=>q_g 1 [(0,vS a0),(5,vL tToken ([]:List Token) .nil),(6,vI x2)] H fun _ H=>q_e (W_seq (W_block ?_))
 obtain ⟨r12,hr12,hr⟩:=obind hr
 refine W_iter hr12 (fun (s3:(List Token) × Int) fr st=>∃ (s3sp0:Spare),Rd fr [(0,vS a0),(5,vL tToken s3.1 s3sp0),(6,vI s3.2)]∧HL st [.own s3sp0]) (fun (r12:(Int × Int) ⊕ ((List Token))) e fr st=>match r12 with | .inl r12a=>(e = .ret∧Rd fr [(2,vL tToken ([]:List Token) .nil),(3,vI r12a.1),(4,vI r12a.2)]∧HL st []) | .inr r12b=>(e = .exit 0∧∃ (r12bsp0:Spare),Rd fr [(5,vL tToken r12b r12bsp0)]∧HL st [.own r12bsp0])) ⟨.nil,H.tq,((K.keep []).nilo)⟩ ?_ ?_
 ·intro s3 fr st r hi hr
  obtain ⟨s3sp0,H,K⟩:=hi
  refine W_seq (W_seq (W_reg (q_g 4 [(0,vS a0),(5,vL tToken s3.1 s3sp0),(6,vI s3.2),(17,vB (decide (s3.2 < (a0.size:Int))))] H fun _ H=>q_e ?_)))
  rcases csplit hr with ⟨c4,hr⟩|⟨c4,hr⟩
  rotate_left
  ·refine q_F H c4 ?_
   refine W_exit ?_
   obtain rfl:=sj hr
   exact ⟨by simp,⟨rfl,s3sp0,H.tq,K.keep [true]⟩⟩
  refine q_T H c4 (W_skip (W_block (W_seq (W_seq (W_reg (q_g 1 [(0,vS a0),(5,vL tToken s3.1 s3sp0),(6,vI s3.2),(18,vL tToken s3.1 s3sp0)] H fun _ H=>?_))))))
  refine q_v (.len 56 (vL tToken s3.1 s3sp0)) [(0,vS a0),(5,vL tToken s3.1 s3sp0),(6,vI s3.2),(19,vI (s3.1.length:Int))] H (run_len tToken (by kernel_rfl)) fun _ H=>q_g 1 [(0,vS a0),(5,vL tToken s3.1 s3sp0),(6,vI s3.2),(20,vB (decide (1500≤(s3.1.length:Int))))] H fun _ H=>q_e ?_
  rcases csplit hr with ⟨c5,hr⟩|⟨c5,hr⟩
  ·refine q_T H c5 (W_seq (W_reg (q_g 4 [(2,vL tToken ([]:List Token) .nil),(3,vI 2),(4,vI s3.2)] H fun _ H=>q_e (W_ret ?_))))
   obtain rfl:=sj hr
   exact ⟨by simp,⟨rfl,H.tq,K.keep [false]⟩⟩
  refine q_F H c5 (W_skip (W_seq (W_reg (q_g 2 [(0,vS a0),(5,vL tToken s3.1 s3sp0),(6,vI s3.2),(23,vS a0),(24,vI s3.2)] H fun _ H=>?_))))
  obtain ⟨x6,hx6,hr⟩:=obind hr
  refine q_c (F75_R n a0 s3.2 x6 hx6) 0 [(0,vS a0),(5,vL tToken s3.1 s3sp0),(6,vI s3.2),(25,.tuple [.agg (cToken x6.1),vB x6.2])] H fun _ H=>q_g 3 [(0,vS a0),(5,vL tToken s3.1 s3sp0),(6,vI s3.2),(26,.agg (cToken x6.1)),(27,vB x6.2)] H fun _ H=>?_
  refine k_alloc (t:=61) (cs:=[vI 0,vS (bs []),vI 0]) (fun id7=>[(0,vS a0),(5,vL tToken s3.1 s3sp0),(6,vI s3.2),(7,.ptr id7 0),(26,.agg (cToken x6.1)),(27,vB x6.2)]) H K (by kernel_rfl) (fun _ _=>by kernel_rfl) fun id7 st K fr H=>?_
  refine k_store (t:=61) (off:=0) (v:=.agg (cToken x6.1)) (cs':=[vI x6.1.kind,vS x6.1.text,vI x6.1.pos]) 0 [(0,vS a0),(5,vL tToken s3.1 s3sp0),(6,vI s3.2),(7,.ptr id7 0),(27,vB x6.2)] H K rfl (by kernel_rfl) (fun _=>by kernel_rfl) fun st K fr H=>q_g 1 [(0,vS a0),(5,vL tToken s3.1 s3sp0),(6,vI s3.2),(7,.ptr id7 0),(8,vB x6.2)] H fun _ H=>q_e (W_seq (W_seq (W_reg (q_g 2 [(0,vS a0),(5,vL tToken s3.1 s3sp0),(6,vI s3.2),(7,.ptr id7 0),(29,vB !x6.2)] H fun _ H=>q_e ?_))))
  rcases csplit hr with ⟨c8,hr⟩|⟨c8,hr⟩
  ·refine q_T H c8 (W_seq (W_reg (q_g 4 [(2,vL tToken ([]:List Token) .nil),(3,vI 10),(4,vI s3.2)] H fun _ H=>q_e (W_ret ?_))))
   obtain rfl:=sj hr
   exact ⟨by simp,⟨rfl,H.tq,K.keep [false,false]⟩⟩
  refine q_F H c8 (W_skip (W_seq (W_reg (q_g 1 [(0,vS a0),(6,vI s3.2),(7,.ptr id7 0),(31,vL tToken s3.1 s3sp0)] H fun _ H=>?_))))
  refine k_load (t:=61) (off:=0) 0 [(0,vS a0),(6,vI s3.2),(7,.ptr id7 0),(31,vL tToken s3.1 s3sp0),(32,.agg (cToken x6.1))] H K rfl (v:=.agg (cToken x6.1)) (by kernel_rfl) (fun _=>by kernel_rfl) fun _ H=>?_
  refine q_v (.buildSlice 56 1 [(0,.agg (cToken x6.1))]) [(0,vS a0),(6,vI s3.2),(7,.ptr id7 0),(31,vL tToken s3.1 s3sp0),(33,vL tToken ([x6.1]:List Token) .full)] H (run_bslice (v:=vL tToken ([x6.1]:List Token) .full) (v0:=.slice [.agg (cToken x6.1)] .full) (by kernel_rfl) (rfl)) fun _ H=>?_
  obtain ⟨x9,hx9,hr⟩:=obind hr
  refine k_app tToken hx9 (t:=56) (t2:=56) (sp2:=.full) 1 (fun sp10=>[(0,vS a0),(6,vI s3.2),(7,.ptr id7 0),(34,vL tToken x9 sp10)]) H K rfl (by kernel_rfl) (fun _ _=>by kernel_rfl) fun sp10 st K fr H=>q_g 1 [(0,vS a0),(5,vL tToken x9 sp10),(6,vI s3.2),(7,.ptr id7 0)] H fun _ H=>q_e (W_reg (q_g 3 [(0,vS a0),(5,vL tToken x9 sp10),(35,vS a0),(36,vI s3.2),(37,.ptr id7 1)] H fun _ H=>?_))
  refine k_load (t:=9) (off:=1) 0 [(0,vS a0),(5,vL tToken x9 sp10),(35,vS a0),(36,vI s3.2),(38,vS x6.1.text)] H K rfl (v:=vS x6.1.text) (by kernel_rfl) (fun _=>by kernel_rfl) fun _ H=>q_g 2 [(0,vS a0),(5,vL tToken x9 sp10),(35,vS a0),(40,vI (w64 (s3.2 + (x6.1.text.size:Int))))] H fun _ H=>?_
  obtain ⟨x11,hx11,hr⟩:=obind hr
  refine q_c (F74_R n a0 (w64 (s3.2 + (x6.1.text.size:Int))) x11 hx11) 0 [(0,vS a0),(5,vL tToken x9 sp10),(41,vI x11)] H fun _ H=>q_g 1 [(0,vS a0),(5,vL tToken x9 sp10),(6,vI x11)] H fun _ H=>q_e ?_
  obtain rfl:=sj hr
  exact ⟨rfl,⟨sp10,H.tq,K.keep [false,true]⟩⟩
 rcases r12 with r12a | r12b
 ·rintro e fr st ⟨rfl,H,K⟩
  obtain rfl:=sj hr
  exact e_ret [vL tToken ([]:List Token) .nil,vI r12a.1,vI r12a.2] H K (fun _=>resT (by kernel_rfl) (resT (by kernel_rfl) (resT (by kernel_rfl) resN))) (fun _=>by simp only [strip,stripL,stripL_ET,Option.bind_some,Option.map_some,oneOf] <;> rfl)
 rintro e fr st ⟨rfl,r12bsp0,H,K⟩
 refine W_seq (W_reg (q_g 4 [(2,vL tToken r12b r12bsp0),(3,vI 0),(4,vI 0)] H fun _ H=>q_e (W_ret ?_)))
 obtain rfl:=sj hr
 exact e_ret [vL tToken r12b r12bsp0,vI 0,vI 0] H K (fun _=>resT (by kernel_rfl) (resT (by kernel_rfl) (resT (by kernel_rfl) resN))) (fun _=>by simp only [strip,stripL,stripL_ET,Option.bind_some,Option.map_some,oneOf] <;> rfl)
def F78 (n:Nat) (a0:ByteArray):Option (ByteArray × Int) := (F39 n a0).bind fun x1 => bif x1.2.1 != 0 then (some ((bs []),(2:Int))) else (some (a0,(0:Int)))
theorem F78_R (n:Nat) (a0:ByteArray) (r:ByteArray × Int) (hr:F78 n a0 = some r) {st:St}:R Tryz.prog AN 78 [vS a0] st (.ret (.tuple [vS r.1,vI r.2])) st:=by
 unfold F78 at hr
 refine pK [vS a0] [(0,vS a0)] Tryz.func78 rfl fun fr st H K=>W_seq (W_reg (q_g 2 [(0,vS a0)] H fun _ H=>q_e (W_seq (W_reg (q_g 1 [(0,vS a0),(8,vS a0)] H fun _ H=>?_)))))
 obtain ⟨x1,hx1,hr⟩:=obind hr
 refine q_c (F39_R n a0 x1 hx1) 0 [(0,vS a0),(9,.tuple [vL tToken x1.1 .shut,vI x1.2.1,vI x1.2.2])] H fun _ H=>q_g 7 [(0,vS a0),(5,vI x1.2.1)] H fun _ H=>q_e (W_seq (W_seq (W_reg (q_g 2 [(0,vS a0),(14,vB (x1.2.1 != 0))] H fun _ H=>q_e ?_))))
 rcases csplit hr with ⟨c2,hr⟩|⟨c2,hr⟩
 ·refine q_T H c2 (W_seq (W_reg (q_g 2 [(2,vS (bs [])),(3,vI 2)] H fun _ H=>q_e (W_ret ?_))))
  obtain rfl:=sj hr
  exact e_ret [vS (bs []),vI 2] H K (fun _=>resT (by kernel_rfl) (resT (by kernel_rfl) resN)) (fun _=>by kernel_rfl)
 refine q_F H c2 (W_skip (W_seq (W_reg (q_g 3 [(2,vS a0),(3,vI 0)] H fun _ H=>q_e (W_ret ?_)))))
 obtain rfl:=sj hr
 exact e_ret [vS a0,vI 0] H K (fun _=>resT (by kernel_rfl) (resT (by kernel_rfl) resN)) (fun _=>by kernel_rfl)
end Go.Proofs.YtbecjgckobhmpaaGreatDoor
