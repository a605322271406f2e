/-
  Proved here: a part of what the claim needs (texts YG3 of the prover's own).
-/
import Derived.Test.YtbecjgckobhmpaaGreatDoorPS04
namespace Go.Proofs.YtbecjgckobhmpaaGreatDoor
open Go Go.AM Go.Proofs
set_option maxRecDepth 100000
set_option maxHeartbeats 4000000
def F205 (n:Nat) (a0:ByteArray):Option Bool := (iter (σ:=Int × Int × Int) (ρ:=Unit ⊕ (Int × Int)) (fun s1=>bif decide (s1.2.2 < (a0.size:Int)) then ((idxS a0 s1.2.2).bind fun x3 => bif x3 != 46 then (some (.inl (s1.1,s1.2.1,w64 (s1.2.2 + 1)))) else ((subS a0 s1.2.1 s1.2.2).bind fun x5 => (F174 n x5).bind fun x6 => bif !x6 then (some (.inr (.inl ()))) else (some (.inl (w64 (s1.1 + 1),w64 (s1.2.2 + 1),w64 (s1.2.2 + 1)))))) else (some (.inr (.inr (s1.1,s1.2.1))))) n ((1:Int),(0:Int),(0:Int))).bind fun r8=>match r8 with | .inl _=>some false | .inr r8b=>bif decide (r8b.1≤3) then ((subS a0 r8b.2 (a0.size:Int)).bind fun x10 => (F174 n x10).bind fun x11 => some x11) else (some false)
theorem F205_R (n:Nat) (a0:ByteArray) (r:Bool) (hr:F205 n a0 = some r) {st:St}:R Tryz.prog AN 205 [vS a0] st (.ret (vB r)) st:=by
 unfold F205 at hr
 refine pK [vS a0] [(0,vS a0)] Tryz.func205 rfl fun fr st H K=>W_seq (W_reg (q_g 1 [(0,vS a0)] H fun _ H=>q_e (W_seq (W_reg (q_g 1 [(0,vS a0),(3,vI 1)] H fun _ H=>q_e (W_seq (W_reg (q_g 1 [(0,vS a0),(3,vI 1),(4,vI 0)] H fun _ H=>q_e (W_seq (W_seq (W_reg (q_g 1 [(0,vS a0),(3,vI 1),(4,vI 0),(5,vI 0)] H fun _ H=>q_e (W_block ?_)))))))))))))
 obtain ⟨r8,hr8,hr⟩:=obind hr
 refine W_iter hr8 (fun (s1:Int × Int × Int) fr st=>Rd fr [(0,vS a0),(3,vI s1.1),(4,vI s1.2.1),(5,vI s1.2.2)]∧HL st []) (fun (r8:Unit ⊕ (Int × Int)) e fr st=>match r8 with | .inl r8a=>(e = .ret∧Rd fr [(2,vB false)]∧HL st []) | .inr r8b=>(e = .exit 0∧Rd fr [(0,vS a0),(3,vI r8b.1),(4,vI r8b.2)]∧HL st [])) ⟨H.tq,K.keep []⟩ ?_ ?_
 ·intro s1 fr st r hi hr
  obtain ⟨H,K⟩:=hi
  refine W_seq (W_seq (W_reg (q_g 4 [(0,vS a0),(3,vI s1.1),(4,vI s1.2.1),(5,vI s1.2.2),(9,vB (decide (s1.2.2 < (a0.size:Int))))] H fun _ H=>q_e ?_)))
  rcases csplit hr with ⟨c2,hr⟩|⟨c2,hr⟩
  rotate_left
  ·refine q_F H c2 ?_
   refine W_exit ?_
   obtain rfl:=sj hr
   exact ⟨by simp,⟨rfl,H.tq,K.keep []⟩⟩
  refine q_T H c2 (W_skip (W_seq (W_block (W_seq (W_seq (W_reg (q_g 2 [(0,vS a0),(3,vI s1.1),(4,vI s1.2.1),(5,vI s1.2.2),(12,vS a0),(13,vI s1.2.2)] H fun _ H=>?_)))))))
  obtain ⟨x3,hx3,hr⟩:=obind hr
  refine q_v (.index 9 (vS a0) (vI s1.2.2)) [(0,vS a0),(3,vI s1.1),(4,vI s1.2.1),(5,vI s1.2.2),(14,vU x3)] H (run_idxS (by kernel_rfl) hx3) fun _ H=>q_g 1 [(0,vS a0),(3,vI s1.1),(4,vI s1.2.1),(5,vI s1.2.2),(15,vB (x3 != 46))] H fun _ H=>q_e ?_
  rcases csplit hr with ⟨c4,hr⟩|⟨c4,hr⟩
  ·refine q_T H c4 ?_
   refine W_exit (W_reg (q_g 3 [(0,vS a0),(3,vI s1.1),(4,vI s1.2.1),(5,vI (w64 (s1.2.2 + 1)))] H fun _ H=>q_e ?_))
   obtain rfl:=sj hr
   exact ⟨rfl,⟨H.tq,K.keep []⟩⟩
  refine q_F H c4 (W_skip (W_seq (W_seq (W_reg (q_g 3 [(0,vS a0),(3,vI s1.1),(5,vI s1.2.2),(16,vS a0),(17,vI s1.2.1),(18,vI s1.2.2)] H fun _ H=>?_)))))
  obtain ⟨x5,hx5,hr⟩:=obind hr
  refine q_v (.slice 9 (vS a0) (some (vI s1.2.1)) (some (vI s1.2.2))) [(0,vS a0),(3,vI s1.1),(5,vI s1.2.2),(19,vS x5)] H (run_subS (by kernel_rfl) hx5) fun _ H=>?_
  obtain ⟨x6,hx6,hr⟩:=obind hr
  refine q_c (F174_R n x5 x6 hx6) 0 [(0,vS a0),(3,vI s1.1),(5,vI s1.2.2),(20,vB x6)] H fun _ H=>q_g 1 [(0,vS a0),(3,vI s1.1),(5,vI s1.2.2),(21,vB !x6)] H fun _ H=>q_e ?_
  rcases csplit hr with ⟨c7,hr⟩|⟨c7,hr⟩
  ·refine q_T H c7 (W_seq (W_reg (q_g 1 [(2,vB false)] H fun _ H=>q_e (W_ret ?_))))
   obtain rfl:=sj hr
   exact ⟨by simp,⟨rfl,H.tq,K.keep []⟩⟩
  refine q_F H c7 (W_skip (W_seq (W_reg (q_g 3 [(0,vS a0),(3,vI (w64 (s1.1 + 1))),(5,vI s1.2.2)] H fun _ H=>q_e (W_reg (q_g 3 [(0,vS a0),(3,vI (w64 (s1.1 + 1))),(4,vI (w64 (s1.2.2 + 1))),(5,vI s1.2.2)] H fun _ H=>q_e (W_reg (q_g 3 [(0,vS a0),(3,vI (w64 (s1.1 + 1))),(4,vI (w64 (s1.2.2 + 1))),(5,vI (w64 (s1.2.2 + 1)))] H fun _ H=>q_e ?_))))))))
  obtain rfl:=sj hr
  exact ⟨rfl,⟨H.tq,K.keep []⟩⟩
 rcases r8 with r8a | r8b
 ·rintro e fr st ⟨rfl,H,K⟩
  obtain rfl:=sj hr
  exact q_r [vB false] H K
 rintro e fr st ⟨rfl,H,K⟩
 refine W_seq (W_reg (q_g 3 [(0,vS a0),(4,vI r8b.2),(28,vB (decide (r8b.1≤3)))] H fun _ H=>?_))
 rcases csplit hr with ⟨c9,hr⟩|⟨c9,hr⟩
 rotate_left
 ·rw [c9] at H
  refine q_g 6 [(2,vB false)] H fun _ H=>q_e (W_ret ?_)
  obtain rfl:=sj hr
  exact q_r [vB false] H K
 rw [c9] at H
 refine q_g 2 [(28,vB true),(29,vS a0),(30,vI r8b.2)] H fun _ H=>?_
 obtain ⟨x10,hx10,hr⟩:=obind hr
 refine q_v (.slice 9 (vS a0) (some (vI r8b.2)) none) [(28,vB true),(31,vS x10)] H (run_subS_lo (by kernel_rfl) hx10) fun _ H=>?_
 obtain ⟨x11,hx11,hr⟩:=obind hr
 refine q_c (F174_R n x10 x11 hx11) 0 [(28,vB true),(32,vB x11)] H fun _ H=>q_g 2 [(2,vB x11)] H fun _ H=>q_e (W_ret ?_)
 obtain rfl:=sj hr
 exact q_r [vB x11] H K
def F73 :Option ((List (List ByteArray))) := some ([([(bs [124,124])]:List ByteArray),([(bs [38,38])]:List ByteArray),([(bs [61,61]),(bs [33,61]),(bs [60]),(bs [60,61])]:List ByteArray),([(bs [124])]:List ByteArray),([(bs [94])]:List ByteArray),([(bs [38])]:List ByteArray),([(bs [43]),(bs [45])]:List ByteArray),([(bs [42])]:List ByteArray)]:List (List ByteArray))
theorem F73_R  (r:(List (List ByteArray))) (hr:F73  = some r) {st:St}:R Tryz.prog AN 73 [] st (.ret (vL (tL tS) r .shut)) st:=by
 unfold F73 at hr
 refine pK [] [] Tryz.func73 rfl fun fr st H K=>W_seq (W_reg (q_g 1 [] H fun _ H=>q_e (W_seq (W_reg ?_))))
 refine q_v (.buildSlice 30 1 [(0,vS (bs [124,124]))]) [(1,vL tS ([(bs [124,124])]:List ByteArray) .full)] H (run_bslice (v:=vL tS ([(bs [124,124])]:List ByteArray) .full) (v0:=.slice [vS (bs [124,124])] .full) (by kernel_rfl) (rfl)) fun _ H=>?_
 refine q_v (.buildSlice 30 1 [(0,vS (bs [38,38]))]) [(1,vL tS ([(bs [124,124])]:List ByteArray) .full),(2,vL tS ([(bs [38,38])]:List ByteArray) .full)] H (run_bslice (v:=vL tS ([(bs [38,38])]:List ByteArray) .full) (v0:=.slice [vS (bs [38,38])] .full) (by kernel_rfl) (rfl)) fun _ H=>?_
 refine q_v (.buildSlice 30 4 [(0,vS (bs [61,61])),(1,vS (bs [33,61])),(2,vS (bs [60])),(3,vS (bs [60,61]))]) [(1,vL tS ([(bs [124,124])]:List ByteArray) .full),(2,vL tS ([(bs [38,38])]:List ByteArray) .full),(3,vL tS ([(bs [61,61]),(bs [33,61]),(bs [60]),(bs [60,61])]:List ByteArray) .full)] H (run_bslice (v:=vL tS ([(bs [61,61]),(bs [33,61]),(bs [60]),(bs [60,61])]:List ByteArray) .full) (v0:=.slice [vS (bs [61,61]),vS (bs [33,61]),vS (bs [60]),vS (bs [60,61])] .full) (by kernel_rfl) (rfl)) fun _ H=>?_
 refine q_v (.buildSlice 30 1 [(0,vS (bs [124]))]) [(1,vL tS ([(bs [124,124])]:List ByteArray) .full),(2,vL tS ([(bs [38,38])]:List ByteArray) .full),(3,vL tS ([(bs [61,61]),(bs [33,61]),(bs [60]),(bs [60,61])]:List ByteArray) .full),(4,vL tS ([(bs [124])]:List ByteArray) .full)] H (run_bslice (v:=vL tS ([(bs [124])]:List ByteArray) .full) (v0:=.slice [vS (bs [124])] .full) (by kernel_rfl) (rfl)) fun _ H=>?_
 refine q_v (.buildSlice 30 1 [(0,vS (bs [94]))]) [(1,vL tS ([(bs [124,124])]:List ByteArray) .full),(2,vL tS ([(bs [38,38])]:List ByteArray) .full),(3,vL tS ([(bs [61,61]),(bs [33,61]),(bs [60]),(bs [60,61])]:List ByteArray) .full),(4,vL tS ([(bs [124])]:List ByteArray) .full),(5,vL tS ([(bs [94])]:List ByteArray) .full)] H (run_bslice (v:=vL tS ([(bs [94])]:List ByteArray) .full) (v0:=.slice [vS (bs [94])] .full) (by kernel_rfl) (rfl)) fun _ H=>?_
 refine q_v (.buildSlice 30 1 [(0,vS (bs [38]))]) [(1,vL tS ([(bs [124,124])]:List ByteArray) .full),(2,vL tS ([(bs [38,38])]:List ByteArray) .full),(3,vL tS ([(bs [61,61]),(bs [33,61]),(bs [60]),(bs [60,61])]:List ByteArray) .full),(4,vL tS ([(bs [124])]:List ByteArray) .full),(5,vL tS ([(bs [94])]:List ByteArray) .full),(6,vL tS ([(bs [38])]:List ByteArray) .full)] H (run_bslice (v:=vL tS ([(bs [38])]:List ByteArray) .full) (v0:=.slice [vS (bs [38])] .full) (by kernel_rfl) (rfl)) fun _ H=>?_
 refine q_v (.buildSlice 30 2 [(0,vS (bs [43])),(1,vS (bs [45]))]) [(1,vL tS ([(bs [124,124])]:List ByteArray) .full),(2,vL tS ([(bs [38,38])]:List ByteArray) .full),(3,vL tS ([(bs [61,61]),(bs [33,61]),(bs [60]),(bs [60,61])]:List ByteArray) .full),(4,vL tS ([(bs [124])]:List ByteArray) .full),(5,vL tS ([(bs [94])]:List ByteArray) .full),(6,vL tS ([(bs [38])]:List ByteArray) .full),(7,vL tS ([(bs [43]),(bs [45])]:List ByteArray) .full)] H (run_bslice (v:=vL tS ([(bs [43]),(bs [45])]:List ByteArray) .full) (v0:=.slice [vS (bs [43]),vS (bs [45])] .full) (by kernel_rfl) (rfl)) fun _ H=>?_
 refine q_v (.buildSlice 30 1 [(0,vS (bs [42]))]) [(1,vL tS ([(bs [124,124])]:List ByteArray) .full),(2,vL tS ([(bs [38,38])]:List ByteArray) .full),(3,vL tS ([(bs [61,61]),(bs [33,61]),(bs [60]),(bs [60,61])]:List ByteArray) .full),(4,vL tS ([(bs [124])]:List ByteArray) .full),(5,vL tS ([(bs [94])]:List ByteArray) .full),(6,vL tS ([(bs [38])]:List ByteArray) .full),(7,vL tS ([(bs [43]),(bs [45])]:List ByteArray) .full),(8,vL tS ([(bs [42])]:List ByteArray) .full)] H (run_bslice (v:=vL tS ([(bs [42])]:List ByteArray) .full) (v0:=.slice [vS (bs [42])] .full) (by kernel_rfl) (rfl)) fun _ H=>?_
 refine q_v (.buildSlice 98 8 [(0,vL tS ([(bs [124,124])]:List ByteArray) .shut),(1,vL tS ([(bs [38,38])]:List ByteArray) .shut),(2,vL tS ([(bs [61,61]),(bs [33,61]),(bs [60]),(bs [60,61])]:List ByteArray) .shut),(3,vL tS ([(bs [124])]:List ByteArray) .shut),(4,vL tS ([(bs [94])]:List ByteArray) .shut),(5,vL tS ([(bs [38])]:List ByteArray) .shut),(6,vL tS ([(bs [43]),(bs [45])]:List ByteArray) .shut),(7,vL tS ([(bs [42])]:List ByteArray) .shut)]) [(9,vL (tL tS) ([([(bs [124,124])]:List ByteArray),([(bs [38,38])]:List ByteArray),([(bs [61,61]),(bs [33,61]),(bs [60]),(bs [60,61])]:List ByteArray),([(bs [124])]:List ByteArray),([(bs [94])]:List ByteArray),([(bs [38])]:List ByteArray),([(bs [43]),(bs [45])]:List ByteArray),([(bs [42])]:List ByteArray)]:List (List ByteArray)) .full)] H (run_bslice (v:=vL (tL tS) ([([(bs [124,124])]:List ByteArray),([(bs [38,38])]:List ByteArray),([(bs [61,61]),(bs [33,61]),(bs [60]),(bs [60,61])]:List ByteArray),([(bs [124])]:List ByteArray),([(bs [94])]:List ByteArray),([(bs [38])]:List ByteArray),([(bs [43]),(bs [45])]:List ByteArray),([(bs [42])]:List ByteArray)]:List (List ByteArray)) .full) (v0:=.slice [vL tS ([(bs [124,124])]:List ByteArray) .shut,vL tS ([(bs [38,38])]:List ByteArray) .shut,vL tS ([(bs [61,61]),(bs [33,61]),(bs [60]),(bs [60,61])]:List ByteArray) .shut,vL tS ([(bs [124])]:List ByteArray) .shut,vL tS ([(bs [94])]:List ByteArray) .shut,vL tS ([(bs [38])]:List ByteArray) .shut,vL tS ([(bs [43]),(bs [45])]:List ByteArray) .shut,vL tS ([(bs [42])]:List ByteArray) .shut] .full) (by kernel_rfl) (rfl)) fun _ H=>q_g 1 [(0,vL (tL tS) ([([(bs [124,124])]:List ByteArray),([(bs [38,38])]:List ByteArray),([(bs [61,61]),(bs [33,61]),(bs [60]),(bs [60,61])]:List ByteArray),([(bs [124])]:List ByteArray),([(bs [94])]:List ByteArray),([(bs [38])]:List ByteArray),([(bs [43]),(bs [45])]:List ByteArray),([(bs [42])]:List ByteArray)]:List (List ByteArray)) .full)] H fun _ H=>q_e (W_ret ?_)
 obtain rfl:=sj hr
 exact q_r [vL (tL tS) ([([(bs [124,124])]:List ByteArray),([(bs [38,38])]:List ByteArray),([(bs [61,61]),(bs [33,61]),(bs [60]),(bs [60,61])]:List ByteArray),([(bs [124])]:List ByteArray),([(bs [94])]:List ByteArray),([(bs [38])]:List ByteArray),([(bs [43]),(bs [45])]:List ByteArray),([(bs [42])]:List ByteArray)]:List (List ByteArray)) .full] H K (hs:=fun _=>by simp only [strip,stripL_ET,Option.map_some,oneOf] <;> rfl)
def F230 (n:Nat) (a0:Node):Option Bool := bif a0.kind == 63 then ((F104 n a0 (bs [])).bind fun x2 => bif x2 then (some ((a0.kids.length:Int) == 0)) else (some false)) else (some false)
theorem F230_R (n:Nat) (a0:Node) (r:Bool) (hr:F230 n a0 = some r) {st:St} {p0:Spare}:R Tryz.prog AN 230 [.agg (cNode p0 a0)] st (.ret (vB r)) st:=by
 unfold F230 at hr
 refine R_pureX [aN a0] [(0,aN a0)] (by kernel_rfl) Tryz.func230 rfl (by kernel_rfl) (by simp only [strip,stripL,stripL_cNode,Option.bind_some,Option.map_some]) rfl fun fr st H K=>W_seq (W_reg (q_g 2 [(1,cN a0 0)] H fun _ H=>q_e (W_seq (W_reg (q_g 4 [(1,cN a0 0),(6,vB (a0.kind == 63))] H fun _ H=>?_)))))
 rcases csplit hr with ⟨c1,hr⟩|⟨c1,hr⟩
 rotate_left
 ·rw [c1] at H
  refine q_g 10 [(2,vB false)] H fun _ H=>q_e (W_ret ?_)
  obtain rfl:=sj hr
  exact q_r [vB false] H K
 rw [c1] at H
 refine q_g 1 [(1,cN a0 0),(6,vB true),(7,aN a0)] H fun _ H=>?_
 obtain ⟨x2,hx2,hr⟩:=obind hr
 refine q_c (F104_R n a0 (bs []) x2 hx2 (p0:=.shut)) 0 [(1,cN a0 0),(6,vB true),(8,vB x2)] H fun _ H=>q_g 2 [(1,cN a0 0),(10,vB x2)] H fun _ H=>?_
 rcases csplit hr with ⟨c3,hr⟩|⟨c3,hr⟩
 rotate_left
 ·rw [c3] at H
  refine q_g 6 [(2,vB false)] H fun _ H=>q_e (W_ret ?_)
  obtain rfl:=sj hr
  exact q_r [vB false] H K
 rw [c3] at H
 refine q_g 2 [(10,vB true),(12,kN a0)] H fun _ H=>?_
 refine q_v (.len 22 (kN a0)) [(10,vB true),(13,vI (a0.kids.length:Int))] H (run_len tNode (by kernel_rfl)) fun _ H=>q_g 3 [(2,vB ((a0.kids.length:Int) == 0))] H fun _ H=>q_e (W_ret ?_)
 obtain rfl:=sj hr
 exact q_r [vB ((a0.kids.length:Int) == 0)] H K
def F204_step (_:Node→Option Bool) (_:Node→Option Bool) (_:Node→Int→Option Bool) (_:Node→Option Bool) (_:Node→Option Bool) (_:Node→Option Bool) (_:Node→Option Bool) (_:Int→Node→Option Bool) (F105:Node→Int→Option Bool) (n:Nat) (a0:Node):Option Bool := bif a0.kind == 60 then ((F104 n a0 (bs [110,111])).bind fun x2 => bif x2 then ((F174 n a0.name).bind fun x4 => bif x4 then ((F174 n a0.other).bind fun x6 => bif x6 then ((F105 a0 (4:Int)).bind fun x8 => some x8) else (some false)) else (some false)) else (some false)) else (bif a0.kind == 61 then ((F104 n a0 (bs [110,111,35])).bind fun x10 => bif x10 && (decide (a0.n≤1)) then ((F174 n a0.name).bind fun x12 => bif x12 then ((F205 n a0.other).bind fun x14 => bif x14 then ((F105 a0 (6:Int)).bind fun x16 => some x16) else (some false)) else (some false)) else (some false)) else (some false))
def F203_step (_:Node→Option Bool) (_:Node→Option Bool) (_:Node→Int→Option Bool) (F231:Node→Option Bool) (_:Node→Option Bool) (_:Node→Option Bool) (_:Node→Option Bool) (_:Int→Node→Option Bool) (F105:Node→Int→Option Bool) (n:Nat) (a0:Node):Option Bool := bif a0.kind == 51 then ((F104 n a0 (bs [110])).bind fun x2 => bif x2 then ((F174 n a0.name).bind fun x4 => bif x4 then ((F105 a0 (2:Int)).bind fun x6 => some x6) else (some false)) else (some false)) else (bif a0.kind == 50 then ((F104 n a0 (bs [110,111,35,108,105,103])).bind fun x8 => bif x8 then ((F174 n a0.name).bind fun x10 => bif x10 then (bif strEq a0.other (bs []) then (some ((a0.kids.length:Int) == 0)) else (bif a0.n == 0 then ((F174 n a0.other).bind fun x14 => some (x14 && ((a0.kids.length:Int) == 0))) else (some false))) else (some false)) else (some false)) else (bif a0.kind == 53 then ((F104 n a0 (bs [110])).bind fun x16 => bif x16 then ((F174 n a0.name).bind fun x18 => bif x18 && ((a0.kids.length:Int) == 1) then ((F105 a0 (0:Int)).bind fun x20 => some x20) else (some false)) else (some false)) else ((bif a0.kind == 54 then (some (a0.kind == 54)) else (some (a0.kind == 55)):Option (Bool)).bind fun j22 => bif j22 then ((F104 n a0 (bs [])).bind fun x24 => bif x24 && ((a0.kids.length:Int) == 1) then ((F105 a0 (0:Int)).bind fun x26 => some x26) else (some false)) else (bif a0.kind == 56 then ((F104 n a0 (bs [])).bind fun x28 => bif x28 && (decide (1≤(a0.kids.length:Int))) then ((F105 a0 (7:Int)).bind fun x30 => some x30) else (some false)) else (bif a0.kind == 57 then ((bif (a0.kids.length:Int) == 0 then (some (.inl ())) else ((F104 n a0 (bs [110,111])).bind fun x33 => bif !x33 then (some (.inl ())) else ((F174 n a0.name).bind fun x35 => bif !x35 then (some (.inl ())) else (bif !(strEq a0.other (bs [])) then ((F174 n a0.other).bind fun x38 => bif !x38 then (some (.inl ())) else ((idxL a0.kids (w64 ((a0.kids.length:Int) - 1))).bind fun x40 => (F231 x40).bind fun x41 => bif !x41 then (some (.inl ())) else (some (.inr ())))) else ((idxL a0.kids (w64 ((a0.kids.length:Int) - 1))).bind fun x42 => (F231 x42).bind fun x43 => bif !x43 then (some (.inl ())) else (some (.inr ())))))):Option (Unit ⊕ Unit)).bind fun j46=>match j46 with | .inl _=>some false | .inr _=>(subL a0.kids 0 (w64 ((a0.kids.length:Int) - 1))).bind fun x47 => (F105 (Node.mk 0 (bs []) (bs []) 0 0 0 false x47 0) (3:Int)).bind fun x48 => some x48) else (some false))))))
def F229_step (_:Node→Option Bool) (_:Node→Option Bool) (_:Node→Int→Option Bool) (_:Node→Option Bool) (_:Node→Option Bool) (F173:Node→Option Bool) (F106:Node→Option Bool) (_:Int→Node→Option Bool) (_:Node→Int→Option Bool) (n:Nat) (a0:Node) (a1:Int):Option Bool := (iter (σ:=Int) (ρ:=Unit ⊕ Unit) (fun s1=>bif decide (s1 < (a0.kids.length:Int)) then (bif (Int.tmod (w64 (s1 - a1)) 2) == 0 then ((idxL a0.kids s1).bind fun x4 => (F173 x4).bind fun x5 => bif !x5 then (some (.inr (.inl ()))) else (bif (Int.tmod (w64 (s1 - a1)) 2) == 1 then ((idxL a0.kids s1).bind fun x8 => (F106 x8).bind fun x9 => bif !x9 then (some (.inr (.inl ()))) else (some (.inl (w64 (s1 + 1))))) else (some (.inl (w64 (s1 + 1)))))) else (bif (Int.tmod (w64 (s1 - a1)) 2) == 1 then ((idxL a0.kids s1).bind fun x11 => (F106 x11).bind fun x12 => bif !x12 then (some (.inr (.inl ()))) else (some (.inl (w64 (s1 + 1))))) else (some (.inl (w64 (s1 + 1)))))) else (some (.inr (.inr ())))) n a1).bind fun r15=>match r15 with | .inl _=>some false | .inr _=>some ((Int.tmod (w64 ((a0.kids.length:Int) - a1)) 2) == 0)
def F231_step (_:Node→Option Bool) (_:Node→Option Bool) (_:Node→Int→Option Bool) (_:Node→Option Bool) (_:Node→Option Bool) (_:Node→Option Bool) (_:Node→Option Bool) (_:Int→Node→Option Bool) (F105:Node→Int→Option Bool) (n:Nat) (a0:Node):Option Bool := bif a0.kind == 34 then ((F104 n a0 (bs [])).bind fun x2 => bif x2 then ((F105 a0 (1:Int)).bind fun x4 => some x4) else (some false)) else (some false)
def F202_step (_:Node→Option Bool) (_:Node→Option Bool) (F229:Node→Int→Option Bool) (F231:Node→Option Bool) (_:Node→Option Bool) (F173:Node→Option Bool) (F106:Node→Option Bool) (_:Int→Node→Option Bool) (F105:Node→Int→Option Bool) (n:Nat) (a0:Node):Option Bool := (bif a0.kind == 20 then (some (a0.kind == 20)) else (some (a0.kind == 29)):Option (Bool)).bind fun j2 => bif j2 then ((F104 n a0 (bs [])).bind fun x4 => bif x4 && ((a0.kids.length:Int) == 1) then ((F105 a0 (0:Int)).bind fun x6 => some x6) else (some false)) else ((bif a0.kind == 26 then (some (a0.kind == 26)) else (some (a0.kind == 30)):Option (Bool)).bind fun j8 => bif j8 then ((F104 n a0 (bs [])).bind fun x10 => some (x10 && ((a0.kids.length:Int) == 0))) else (bif a0.kind == 21 then ((F104 n a0 (bs [35])).bind fun x12 => bif (x12 && (decide (a0.n≤1))) && (decide (2≤(a0.kids.length:Int))) then ((F229 a0 (0:Int)).bind fun x14 => some x14) else (some false)) else (bif a0.kind == 22 then ((F104 n a0 (bs [])).bind fun x16 => bif x16 && (decide (1≤(a0.kids.length:Int))) then ((idxL a0.kids 0).bind fun x18 => (F230 n x18).bind fun x19 => bif x19 then ((F229 a0 (1:Int)).bind fun x21 => some x21) else ((idxL a0.kids 0).bind fun x22 => (F106 x22).bind fun x23 => bif x23 then ((F229 a0 (1:Int)).bind fun x25 => some x25) else (some false))) else (some false)) else (bif a0.kind == 23 then ((F104 n a0 (bs [])).bind fun x27 => bif x27 && (decide (4≤(a0.kids.length:Int))) then ((idxL a0.kids 0).bind fun x29 => (F173 x29).bind fun x30 => bif x30 then ((idxL a0.kids 1).bind fun x32 => (F106 x32).bind fun x33 => bif x33 then ((idxL a0.kids 2).bind fun x35 => (F106 x35).bind fun x36 => bif x36 then ((idxL a0.kids 3).bind fun x38 => (F173 x38).bind fun x39 => bif x39 then ((F229 a0 (4:Int)).bind fun x41 => some x41) else (some false)) else (some false)) else (some false)) else (some false)) else (some false)) else ((bif a0.kind == 24 then (some (a0.kind == 24)) else (some (a0.kind == 25)):Option (Bool)).bind fun j43 => bif j43 then ((F104 n a0 (bs [110])).bind fun x45 => bif x45 then ((F205 n a0.name).bind fun x47 => some (x47 && ((a0.kids.length:Int) == 0))) else (some false)) else ((bif a0.kind == 27 then (some (a0.kind == 27)) else (some (a0.kind == 28)):Option (Bool)).bind fun j49 => bif j49 then ((F104 n a0 (bs [110])).bind fun x51 => bif x51 then ((F174 n a0.name).bind fun x53 => some (x53 && ((a0.kids.length:Int) == 0))) else (some false)) else (bif a0.kind == 31 then ((F104 n a0 (bs [])).bind fun x55 => bif x55 && ((a0.kids.length:Int) == 3) then ((idxL a0.kids 0).bind fun x57 => (F106 x57).bind fun x58 => bif x58 then ((idxL a0.kids 1).bind fun x60 => (F231 x60).bind fun x61 => bif x61 then ((idxL a0.kids 2).bind fun x63 => (F231 x63).bind fun x64 => some x64) else (some false)) else (some false)) else (some false)) else (bif a0.kind == 32 then ((F104 n a0 (bs [])).bind fun x66 => bif x66 && ((a0.kids.length:Int) == 3) then ((idxL a0.kids 0).bind fun x68 => (F106 x68).bind fun x69 => bif x69 then ((idxL a0.kids 1).bind fun x71 => (F230 n x71).bind fun x72 => bif x72 then ((idxL a0.kids 2).bind fun x74 => (F231 x74).bind fun x75 => some x75) else ((idxL a0.kids 1).bind fun x76 => (F106 x76).bind fun x77 => bif x77 then ((idxL a0.kids 2).bind fun x79 => (F231 x79).bind fun x80 => some x80) else (some false))) else (some false)) else (some false)) else (bif a0.kind == 33 then ((F104 n a0 (bs [110])).bind fun x82 => bif x82 then ((F205 n a0.name).bind fun x84 => bif x84 then ((F105 a0 (0:Int)).bind fun x86 => some x86) else (some false)) else (some false)) else (bif a0.kind == 35 then ((F104 n a0 (bs [110,35,103])).bind fun x88 => bif x88 then ((F174 n a0.name).bind fun x90 => some (x90 && ((a0.kids.length:Int) == 0))) else (some false)) else (some false)))))))))))
def F173_step (_:Node→Option Bool) (_:Node→Option Bool) (_:Node→Int→Option Bool) (_:Node→Option Bool) (_:Node→Option Bool) (_:Node→Option Bool) (_:Node→Option Bool) (_:Int→Node→Option Bool) (F105:Node→Int→Option Bool) (n:Nat) (a0:Node):Option Bool := bif a0.kind == 2 then ((F104 n a0 (bs [110])).bind fun x2 => bif x2 then ((F205 n a0.name).bind fun x4 => bif x4 then (bif decide ((a0.kids.length:Int)≤1) then ((F105 a0 (0:Int)).bind fun x7 => some x7) else (some false)) else (some false)) else (some false)) else (some false)
def F106_step (_:Node→Option Bool) (_:Node→Option Bool) (_:Node→Int→Option Bool) (_:Node→Option Bool) (_:Node→Option Bool) (F173:Node→Option Bool) (_:Node→Option Bool) (_:Int→Node→Option Bool) (F105:Node→Int→Option Bool) (n:Nat) (a0:Node):Option Bool := bif a0.kind == 1 then ((F104 n a0 (bs [35])).bind fun x2 => some (x2 && ((a0.kids.length:Int) == 0))) else (bif a0.kind == 2 then ((F173 a0).bind fun x4 => some x4) else (bif a0.kind == 3 then ((F104 n a0 (bs [])).bind fun x6 => bif x6 && ((a0.kids.length:Int) == 1) then ((idxL a0.kids 0).bind fun x8 => (F173 x8).bind fun x9 => some x9) else (some false)) else (bif a0.kind == 4 then ((F104 n a0 (bs [])).bind fun x11 => bif x11 && ((a0.kids.length:Int) == 1) then ((F105 a0 (0:Int)).bind fun x13 => some x13) else (some false)) else (bif a0.kind == 5 then ((F73 ).bind fun x15 => (iter (σ:=Bool × Int) (ρ:=Bool) (fun s16=>bif decide (s16.2 < (x15.length:Int)) then ((iter (σ:=Bool × Int) (ρ:=Bool) (fun s18=>(idxL x15 s16.2).bind fun x19 => bif decide (s18.2 < (x19.length:Int)) then (bif s18.1 then (some (.inl (true,w64 (s18.2 + 1)))) else ((idxL x15 s16.2).bind fun x22 => (idxL x22 s18.2).bind fun x23 => some (.inl ((strEq x23 a0.name),w64 (s18.2 + 1))))) else (some (.inr s18.1))) n (s16.1,(0:Int))).bind fun r24 => some (.inl (r24,w64 (s16.2 + 1)))) else (some (.inr s16.1))) n ((strEq a0.name (bs [61,61,62])),(0:Int))).bind fun r25 => bif r25 then ((F104 n a0 (bs [110])).bind fun x27 => bif x27 && ((a0.kids.length:Int) == 2) then ((F105 a0 (0:Int)).bind fun x29 => some x29) else (some false)) else (some false)) else (bif a0.kind == 6 then ((F104 n a0 (bs [])).bind fun x31 => bif x31 && ((a0.kids.length:Int) == 3) then ((F105 a0 (0:Int)).bind fun x33 => some x33) else (some false)) else ((bif a0.kind == 7 then (some (a0.kind == 7)) else (some (a0.kind == 8)):Option (Bool)).bind fun j35 => bif j35 then ((F104 n a0 (bs [110,35])).bind fun x37 => bif x37 then ((F174 n a0.name).bind fun x39 => bif x39 && ((a0.kids.length:Int) == 1) then ((F105 a0 (0:Int)).bind fun x41 => some x41) else (some false)) else (some false)) else (some false)))))))
def F172_step (F204:Node→Option Bool) (F203:Node→Option Bool) (_:Node→Int→Option Bool) (_:Node→Option Bool) (F202:Node→Option Bool) (F173:Node→Option Bool) (F106:Node→Option Bool) (_:Int→Node→Option Bool) (_:Node→Int→Option Bool) (n:Nat) (a0:Int) (a1:Node):Option Bool := bif a0 == 1 then ((F202 a1).bind fun x2 => some x2) else (bif a0 == 2 then (bif a1.kind == 52 then ((F104 n a1 (bs [110,35])).bind fun x5 => bif x5 then ((F174 n a1.name).bind fun x7 => bif x7 then (some ((a1.kids.length:Int) == 0)) else (some false)) else (some false)) else (some false)) else (bif a0 == 3 then (bif a1.kind == 58 then ((F104 n a1 (bs [110,35])).bind fun x11 => bif x11 then ((F174 n a1.name).bind fun x13 => bif x13 then (some ((a1.kids.length:Int) == 0)) else (some false)) else (some false)) else (some false)) else (bif a0 == 4 then ((F203 a1).bind fun x16 => some x16) else (bif a0 == 5 then ((F204 a1).bind fun x18 => some x18) else (bif a0 == 6 then (bif a1.kind == 1 then ((F106 a1).bind fun x21 => some x21) else (some false)) else (bif a0 == 7 then ((F173 a1).bind fun x23 => bif x23 then (some ((a1.kids.length:Int) == 0)) else (some false)) else ((F106 a1).bind fun x25 => some x25)))))))
def F105_step (_:Node→Option Bool) (_:Node→Option Bool) (_:Node→Int→Option Bool) (_:Node→Option Bool) (_:Node→Option Bool) (_:Node→Option Bool) (_:Node→Option Bool) (F172:Int→Node→Option Bool) (_:Node→Int→Option Bool) (n:Nat) (a0:Node) (a1:Int):Option Bool := (iter (σ:=Int) (ρ:=Unit ⊕ Unit) (fun s1=>bif decide (s1 < (a0.kids.length:Int)) then ((idxL a0.kids s1).bind fun x3 => (F172 a1 x3).bind fun x4 => bif !x4 then (some (.inr (.inl ()))) else (some (.inl (w64 (s1 + 1))))) else (some (.inr (.inr ())))) n (0:Int)).bind fun r6=>match r6 with | .inl _=>some false | .inr _=>some true
mutual
def F204:Nat→Node→Option Bool
 | 0,_=>none
 | n + 1,a0=>F204_step (F204 n) (F203 n) (F229 n) (F231 n) (F202 n) (F173 n) (F106 n) (F172 n) (F105 n) n a0
def F203:Nat→Node→Option Bool
 | 0,_=>none
 | n + 1,a0=>F203_step (F204 n) (F203 n) (F229 n) (F231 n) (F202 n) (F173 n) (F106 n) (F172 n) (F105 n) n a0
def F229:Nat→Node→Int→Option Bool
 | 0,_,_=>none
 | n + 1,a0,a1=>F229_step (F204 n) (F203 n) (F229 n) (F231 n) (F202 n) (F173 n) (F106 n) (F172 n) (F105 n) n a0 a1
def F231:Nat→Node→Option Bool
 | 0,_=>none
 | n + 1,a0=>F231_step (F204 n) (F203 n) (F229 n) (F231 n) (F202 n) (F173 n) (F106 n) (F172 n) (F105 n) n a0
def F202:Nat→Node→Option Bool
 | 0,_=>none
 | n + 1,a0=>F202_step (F204 n) (F203 n) (F229 n) (F231 n) (F202 n) (F173 n) (F106 n) (F172 n) (F105 n) n a0
def F173:Nat→Node→Option Bool
 | 0,_=>none
 | n + 1,a0=>F173_step (F204 n) (F203 n) (F229 n) (F231 n) (F202 n) (F173 n) (F106 n) (F172 n) (F105 n) n a0
def F106:Nat→Node→Option Bool
 | 0,_=>none
 | n + 1,a0=>F106_step (F204 n) (F203 n) (F229 n) (F231 n) (F202 n) (F173 n) (F106 n) (F172 n) (F105 n) n a0
def F172:Nat→Int→Node→Option Bool
 | 0,_,_=>none
 | n + 1,a0,a1=>F172_step (F204 n) (F203 n) (F229 n) (F231 n) (F202 n) (F173 n) (F106 n) (F172 n) (F105 n) n a0 a1
def F105:Nat→Node→Int→Option Bool
 | 0,_,_=>none
 | n + 1,a0,a1=>F105_step (F204 n) (F203 n) (F229 n) (F231 n) (F202 n) (F173 n) (F106 n) (F172 n) (F105 n) n a0 a1
end
theorem F204_RR (n:Nat):(∀ (a0:Node) (r:Bool),F204 n a0 = some r→∀ {st:St} {p0:Spare},R Tryz.prog AN 204 [.agg (cNode p0 a0)] st (.ret (vB r)) st)∧(∀ (a0:Node) (r:Bool),F203 n a0 = some r→∀ {st:St} {p0:Spare},R Tryz.prog AN 203 [.agg (cNode p0 a0)] st (.ret (vB r)) st)∧(∀ (a0:Node) (a1:Int) (r:Bool),F229 n a0 a1 = some r→∀ {st:St} {p0:Spare},R Tryz.prog AN 229 [.agg (cNode p0 a0),vI a1] st (.ret (vB r)) st)∧(∀ (a0:Node) (r:Bool),F231 n a0 = some r→∀ {st:St} {p0:Spare},R Tryz.prog AN 231 [.agg (cNode p0 a0)] st (.ret (vB r)) st)∧(∀ (a0:Node) (r:Bool),F202 n a0 = some r→∀ {st:St} {p0:Spare},R Tryz.prog AN 202 [.agg (cNode p0 a0)] st (.ret (vB r)) st)∧(∀ (a0:Node) (r:Bool),F173 n a0 = some r→∀ {st:St} {p0:Spare},R Tryz.prog AN 173 [.agg (cNode p0 a0)] st (.ret (vB r)) st)∧(∀ (a0:Node) (r:Bool),F106 n a0 = some r→∀ {st:St} {p0:Spare},R Tryz.prog AN 106 [.agg (cNode p0 a0)] st (.ret (vB r)) st)∧(∀ (a0:Int) (a1:Node) (r:Bool),F172 n a0 a1 = some r→∀ {st:St} {p0:Spare},R Tryz.prog AN 172 [vI a0,.agg (cNode p0 a1)] st (.ret (vB r)) st)∧(∀ (a0:Node) (a1:Int) (r:Bool),F105 n a0 a1 = some r→∀ {st:St} {p0:Spare},R Tryz.prog AN 105 [.agg (cNode p0 a0),vI a1] st (.ret (vB r)) st):=by
 induction n with
 | zero=>exact ⟨by intros; contradiction,by intros; contradiction,by intros; contradiction,by intros; contradiction,by intros; contradiction,by intros; contradiction,by intros; contradiction,by intros; contradiction,by intros; contradiction⟩
 | succ n ih =>
  obtain ⟨ih_F204,ih_F203,ih_F229,ih_F231,ih_F202,ih_F173,ih_F106,ih_F172,ih_F105⟩:=ih
  refine ⟨?_,?_,?_,?_,?_,?_,?_,?_,?_⟩
  ·intro a0 r hr st p0
   change F204_step (F204 n) (F203 n) (F229 n) (F231 n) (F202 n) (F173 n) (F106 n) (F172 n) (F105 n) n a0 = some r at hr
   unfold F204_step at hr
   refine R_pureX [aN a0] [(0,aN a0)] (by kernel_rfl) Tryz.func204 rfl (by kernel_rfl) (by simp only [strip,stripL,stripL_cNode,Option.bind_some,Option.map_some]) rfl fun fr st H K=>W_seq (W_reg (q_g 2 [(1,cN a0 0)] H fun _ H=>q_e (W_seq (W_seq (W_reg (q_g 3 [(1,cN a0 0),(5,vB (a0.kind == 60))] H fun _ H=>q_e ?_))))))
   rcases csplit hr with ⟨c1,hr⟩|⟨c1,hr⟩
   ·refine q_T H c1 (W_seq (W_reg (q_g 1 [(1,cN a0 0),(6,aN a0)] H fun _ H=>?_)))
    obtain ⟨x2,hx2,hr⟩:=obind hr
    refine q_c (F104_R n a0 (bs [110,111]) x2 hx2 (p0:=.shut)) 0 [(1,cN a0 0),(7,vB x2)] H fun _ H=>q_g 1 [(1,cN a0 0),(8,vB x2)] H fun _ H=>?_
    rcases csplit hr with ⟨c3,hr⟩|⟨c3,hr⟩
    rotate_left
    ·rw [c3] at H
     refine q_g 14 [(2,vB false)] H fun _ H=>q_e (W_ret ?_)
     obtain rfl:=sj hr
     exact q_r [vB false] H K
    rw [c3] at H
    refine q_g 2 [(1,cN a0 0),(8,vB true),(10,vS a0.name)] H fun _ H=>?_
    obtain ⟨x4,hx4,hr⟩:=obind hr
    refine q_c (F174_R n a0.name x4 hx4) 0 [(1,cN a0 0),(8,vB true),(11,vB x4)] H fun _ H=>q_g 2 [(1,cN a0 0),(13,vB x4)] H fun _ H=>?_
    rcases csplit hr with ⟨c5,hr⟩|⟨c5,hr⟩
    rotate_left
    ·rw [c5] at H
     refine q_g 9 [(2,vB false)] H fun _ H=>q_e (W_ret ?_)
     obtain rfl:=sj hr
     exact q_r [vB false] H K
    rw [c5] at H
    refine q_g 2 [(1,cN a0 0),(13,vB true),(15,vS a0.other)] H fun _ H=>?_
    obtain ⟨x6,hx6,hr⟩:=obind hr
    refine q_c (F174_R n a0.other x6 hx6) 0 [(1,cN a0 0),(13,vB true),(16,vB x6)] H fun _ H=>q_g 2 [(1,cN a0 0),(18,vB x6)] H fun _ H=>?_
    rcases csplit hr with ⟨c7,hr⟩|⟨c7,hr⟩
    rotate_left
    ·rw [c7] at H
     refine q_g 4 [(2,vB false)] H fun _ H=>q_e (W_ret ?_)
     obtain rfl:=sj hr
     exact q_r [vB false] H K
    rw [c7] at H
    refine q_g 1 [(18,vB true),(19,aN a0)] H fun _ H=>?_
    obtain ⟨x8,hx8,hr⟩:=obind hr
    refine q_c (ih_F105 a0 (4:Int) x8 hx8 (p0:=.shut)) 0 [(18,vB true),(20,vB x8)] H fun _ H=>q_g 2 [(2,vB x8)] H fun _ H=>q_e (W_ret ?_)
    obtain rfl:=sj hr
    exact q_r [vB x8] H K
   refine q_F H c1 (W_skip (W_seq (W_reg (q_g 4 [(1,cN a0 0),(25,vB (a0.kind == 61))] H fun _ H=>?_))))
   rcases csplit hr with ⟨c9,hr⟩|⟨c9,hr⟩
   rotate_left
   ·rw [c9] at H
    refine q_g 23 [(2,vB false)] H fun _ H=>q_e (W_ret ?_)
    obtain rfl:=sj hr
    exact q_r [vB false] H K
   rw [c9] at H
   refine q_g 1 [(1,cN a0 0),(25,vB true),(26,aN a0)] H fun _ H=>?_
   obtain ⟨x10,hx10,hr⟩:=obind hr
   refine q_c (F104_R n a0 (bs [110,111,35]) x10 hx10 (p0:=.shut)) 0 [(1,cN a0 0),(25,vB true),(27,vB x10)] H fun _ H=>q_g 2 [(1,cN a0 0),(29,vB x10)] H fun _ H=>?_
   refine k_g 4 [(1,cN a0 0),(33,vB (x10 && (decide (a0.n≤1))))] H (fun _ _=>by generalize (x10) = b0; cases b0 <;> kernel_rfl) fun _ H=>q_g 1 [(1,cN a0 0),(34,vB (x10 && (decide (a0.n≤1))))] H fun _ H=>?_
   rcases csplit hr with ⟨c11,hr⟩|⟨c11,hr⟩
   rotate_left
   ·rw [c11] at H
    refine q_g 14 [(2,vB false)] H fun _ H=>q_e (W_ret ?_)
    obtain rfl:=sj hr
    exact q_r [vB false] H K
   rw [c11] at H
   refine q_g 2 [(1,cN a0 0),(34,vB true),(36,vS a0.name)] H fun _ H=>?_
   obtain ⟨x12,hx12,hr⟩:=obind hr
   refine q_c (F174_R n a0.name x12 hx12) 0 [(1,cN a0 0),(34,vB true),(37,vB x12)] H fun _ H=>q_g 2 [(1,cN a0 0),(39,vB x12)] H fun _ H=>?_
   rcases csplit hr with ⟨c13,hr⟩|⟨c13,hr⟩
   rotate_left
   ·rw [c13] at H
    refine q_g 9 [(2,vB false)] H fun _ H=>q_e (W_ret ?_)
    obtain rfl:=sj hr
    exact q_r [vB false] H K
   rw [c13] at H
   refine q_g 2 [(1,cN a0 0),(39,vB true),(41,vS a0.other)] H fun _ H=>?_
   obtain ⟨x14,hx14,hr⟩:=obind hr
   refine q_c (F205_R n a0.other x14 hx14) 0 [(1,cN a0 0),(39,vB true),(42,vB x14)] H fun _ H=>q_g 2 [(1,cN a0 0),(44,vB x14)] H fun _ H=>?_
   rcases csplit hr with ⟨c15,hr⟩|⟨c15,hr⟩
   rotate_left
   ·rw [c15] at H
    refine q_g 4 [(2,vB false)] H fun _ H=>q_e (W_ret ?_)
    obtain rfl:=sj hr
    exact q_r [vB false] H K
   rw [c15] at H
   refine q_g 1 [(44,vB true),(45,aN a0)] H fun _ H=>?_
   obtain ⟨x16,hx16,hr⟩:=obind hr
   refine q_c (ih_F105 a0 (6:Int) x16 hx16 (p0:=.shut)) 0 [(44,vB true),(46,vB x16)] H fun _ H=>q_g 2 [(2,vB x16)] H fun _ H=>q_e (W_ret ?_)
   obtain rfl:=sj hr
   exact q_r [vB x16] H K
  ·intro a0 r hr st p0
   change F203_step (F204 n) (F203 n) (F229 n) (F231 n) (F202 n) (F173 n) (F106 n) (F172 n) (F105 n) n a0 = some r at hr
   unfold F203_step at hr
   refine R_pureX [aN a0] [(0,aN a0)] (by kernel_rfl) Tryz.func203 rfl (by kernel_rfl) (by simp only [strip,stripL,stripL_cNode,Option.bind_some,Option.map_some]) rfl fun fr st H K=>W_seq (W_reg (q_g 2 [(1,cN a0 0)] H fun _ H=>q_e (W_seq (W_reg (q_g 2 [(1,cN a0 0),(5,kN a0)] H fun _ H=>?_)))))
   refine q_v (.len 22 (kN a0)) [(1,cN a0 0),(6,vI (a0.kids.length:Int))] H (run_len tNode (by kernel_rfl)) fun _ H=>q_g 1 [(1,cN a0 0),(3,vI (a0.kids.length:Int))] H fun _ H=>q_e (W_seq (W_seq (W_reg (q_g 2 [(1,cN a0 0),(3,vI (a0.kids.length:Int)),(8,vI a0.kind)] H fun _ H=>q_e (W_block (W_seq (W_reg (q_g 2 [(1,cN a0 0),(3,vI (a0.kids.length:Int)),(8,vI a0.kind),(9,vB (a0.kind == 51))] H fun _ H=>q_e ?_))))))))
   rcases csplit hr with ⟨c1,hr⟩|⟨c1,hr⟩
   ·refine q_T H c1 (W_seq (W_reg (q_g 1 [(1,cN a0 0),(11,aN a0)] H fun _ H=>?_)))
    obtain ⟨x2,hx2,hr⟩:=obind hr
    refine q_c (F104_R n a0 (bs [110]) x2 hx2 (p0:=.shut)) 0 [(1,cN a0 0),(12,vB x2)] H fun _ H=>q_g 1 [(1,cN a0 0),(13,vB x2)] H fun _ H=>?_
    rcases csplit hr with ⟨c3,hr⟩|⟨c3,hr⟩
    rotate_left
    ·rw [c3] at H
     refine q_g 9 [(2,vB false)] H fun _ H=>q_e (W_ret ?_)
     obtain rfl:=sj hr
     exact q_r [vB false] H K
    rw [c3] at H
    refine q_g 2 [(1,cN a0 0),(13,vB true),(15,vS a0.name)] H fun _ H=>?_
    obtain ⟨x4,hx4,hr⟩:=obind hr
    refine q_c (F174_R n a0.name x4 hx4) 0 [(1,cN a0 0),(13,vB true),(16,vB x4)] H fun _ H=>q_g 2 [(1,cN a0 0),(18,vB x4)] H fun _ H=>?_
    rcases csplit hr with ⟨c5,hr⟩|⟨c5,hr⟩
    rotate_left
    ·rw [c5] at H
     refine q_g 4 [(2,vB false)] H fun _ H=>q_e (W_ret ?_)
     obtain rfl:=sj hr
     exact q_r [vB false] H K
    rw [c5] at H
    refine q_g 1 [(18,vB true),(19,aN a0)] H fun _ H=>?_
    obtain ⟨x6,hx6,hr⟩:=obind hr
    refine q_c (ih_F105 a0 (2:Int) x6 hx6 (p0:=.shut)) 0 [(18,vB true),(20,vB x6)] H fun _ H=>q_g 2 [(2,vB x6)] H fun _ H=>q_e (W_ret ?_)
    obtain rfl:=sj hr
    exact q_r [vB x6] H K
   refine q_F H c1 (W_seq (W_reg (q_g 2 [(1,cN a0 0),(3,vI (a0.kids.length:Int)),(8,vI a0.kind),(22,vB (a0.kind == 50))] H fun _ H=>q_e ?_)))
   rcases csplit hr with ⟨c7,hr⟩|⟨c7,hr⟩
   ·refine q_T H c7 (W_seq (W_reg (q_g 1 [(1,cN a0 0),(3,vI (a0.kids.length:Int)),(24,aN a0)] H fun _ H=>?_)))
    obtain ⟨x8,hx8,hr⟩:=obind hr
    refine q_c (F104_R n a0 (bs [110,111,35,108,105,103]) x8 hx8 (p0:=.shut)) 0 [(1,cN a0 0),(3,vI (a0.kids.length:Int)),(25,vB x8)] H fun _ H=>q_g 1 [(1,cN a0 0),(3,vI (a0.kids.length:Int)),(26,vB x8)] H fun _ H=>?_
    rcases csplit hr with ⟨c9,hr⟩|⟨c9,hr⟩
    rotate_left
    ·rw [c9] at H
     refine q_g 24 [(2,vB false)] H fun _ H=>q_e (W_ret ?_)
     obtain rfl:=sj hr
     exact q_r [vB false] H K
    rw [c9] at H
    refine q_g 2 [(1,cN a0 0),(3,vI (a0.kids.length:Int)),(26,vB true),(28,vS a0.name)] H fun _ H=>?_
    obtain ⟨x10,hx10,hr⟩:=obind hr
    refine q_c (F174_R n a0.name x10 hx10) 0 [(1,cN a0 0),(3,vI (a0.kids.length:Int)),(26,vB true),(29,vB x10)] H fun _ H=>q_g 2 [(1,cN a0 0),(3,vI (a0.kids.length:Int)),(31,vB x10)] H fun _ H=>?_
    rcases csplit hr with ⟨c11,hr⟩|⟨c11,hr⟩
    rotate_left
    ·rw [c11] at H
     refine q_g 19 [(2,vB false)] H fun _ H=>q_e (W_ret ?_)
     obtain rfl:=sj hr
     exact q_r [vB false] H K
    rw [c11] at H
    refine q_g 4 [(1,cN a0 0),(3,vI (a0.kids.length:Int)),(31,vB true),(35,vB (strEq a0.other (bs [])))] H fun _ H=>?_
    rcases csplit hr with ⟨c12,hr⟩|⟨c12,hr⟩
    ·rw [c12] at H
     refine q_g 15 [(2,vB ((a0.kids.length:Int) == 0))] H fun _ H=>q_e (W_ret ?_)
     obtain rfl:=sj hr
     exact q_r [vB ((a0.kids.length:Int) == 0)] H K
    rw [c12] at H
    refine q_g 4 [(1,cN a0 0),(3,vI (a0.kids.length:Int)),(31,vB true),(35,vB false),(39,vB (a0.n == 0))] H fun _ H=>?_
    rcases csplit hr with ⟨c13,hr⟩|⟨c13,hr⟩
    rotate_left
    ·rw [c13] at H
     refine q_g 11 [(2,vB false)] H fun _ H=>q_e (W_ret ?_)
     obtain rfl:=sj hr
     exact q_r [vB false] H K
    rw [c13] at H
    refine q_g 2 [(3,vI (a0.kids.length:Int)),(31,vB true),(35,vB false),(39,vB true),(41,vS a0.other)] H fun _ H=>?_
    obtain ⟨x14,hx14,hr⟩:=obind hr
    refine q_c (F174_R n a0.other x14 hx14) 0 [(3,vI (a0.kids.length:Int)),(31,vB true),(35,vB false),(39,vB true),(42,vB x14)] H fun _ H=>q_g 4 [(3,vI (a0.kids.length:Int)),(46,vB x14)] H fun _ H=>?_
    refine k_g 3 [(49,vB (x14 && ((a0.kids.length:Int) == 0)))] H (fun _ _=>by generalize (x14) = b0; cases b0 <;> kernel_rfl) fun _ H=>q_g 1 [(2,vB (x14 && ((a0.kids.length:Int) == 0)))] H fun _ H=>q_e (W_ret ?_)
    obtain rfl:=sj hr
    exact q_r [vB (x14 && ((a0.kids.length:Int) == 0))] H K
   refine q_F H c7 (W_seq (W_reg (q_g 2 [(1,cN a0 0),(3,vI (a0.kids.length:Int)),(8,vI a0.kind),(50,vB (a0.kind == 53))] H fun _ H=>q_e ?_)))
   rcases csplit hr with ⟨c15,hr⟩|⟨c15,hr⟩
   ·refine q_T H c15 (W_seq (W_reg (q_g 1 [(1,cN a0 0),(3,vI (a0.kids.length:Int)),(52,aN a0)] H fun _ H=>?_)))
    obtain ⟨x16,hx16,hr⟩:=obind hr
    refine q_c (F104_R n a0 (bs [110]) x16 hx16 (p0:=.shut)) 0 [(1,cN a0 0),(3,vI (a0.kids.length:Int)),(53,vB x16)] H fun _ H=>q_g 1 [(1,cN a0 0),(3,vI (a0.kids.length:Int)),(54,vB x16)] H fun _ H=>?_
    rcases csplit hr with ⟨c17,hr⟩|⟨c17,hr⟩
    rotate_left
    ·rw [c17] at H
     refine q_g 13 [(2,vB false)] H fun _ H=>q_e (W_ret ?_)
     obtain rfl:=sj hr
     exact q_r [vB false] H K
    rw [c17] at H
    refine q_g 2 [(1,cN a0 0),(3,vI (a0.kids.length:Int)),(54,vB true),(56,vS a0.name)] H fun _ H=>?_
    obtain ⟨x18,hx18,hr⟩:=obind hr
    refine q_c (F174_R n a0.name x18 hx18) 0 [(1,cN a0 0),(3,vI (a0.kids.length:Int)),(54,vB true),(57,vB x18)] H fun _ H=>q_g 2 [(1,cN a0 0),(3,vI (a0.kids.length:Int)),(59,vB x18)] H fun _ H=>?_
    refine k_g 3 [(1,cN a0 0),(62,vB (x18 && ((a0.kids.length:Int) == 1)))] H (fun _ _=>by generalize (x18) = b0; cases b0 <;> kernel_rfl) fun _ H=>q_g 1 [(1,cN a0 0),(63,vB (x18 && ((a0.kids.length:Int) == 1)))] H fun _ H=>?_
    rcases csplit hr with ⟨c19,hr⟩|⟨c19,hr⟩
    rotate_left
    ·rw [c19] at H
     refine q_g 4 [(2,vB false)] H fun _ H=>q_e (W_ret ?_)
     obtain rfl:=sj hr
     exact q_r [vB false] H K
    rw [c19] at H
    refine q_g 1 [(63,vB true),(64,aN a0)] H fun _ H=>?_
    obtain ⟨x20,hx20,hr⟩:=obind hr
    refine q_c (ih_F105 a0 (0:Int) x20 hx20 (p0:=.shut)) 0 [(63,vB true),(65,vB x20)] H fun _ H=>q_g 2 [(2,vB x20)] H fun _ H=>q_e (W_ret ?_)
    obtain rfl:=sj hr
    exact q_r [vB x20] H K
   refine q_F H c15 (W_seq ?_)
   obtain ⟨j22,hj22,hr⟩:=obind hr
   refine W_via (fun e fr st=>e = .normal∧Rd fr [(1,cN a0 0),(3,vI (a0.kids.length:Int)),(8,vI a0.kind),(67,vB j22)]∧HL st []) ?_ ?_
   ·replace hr:=hj22
    refine W_seq (W_reg (q_g 2 [(1,cN a0 0),(3,vI (a0.kids.length:Int)),(8,vI a0.kind),(67,vB (a0.kind == 54))] H fun _ H=>q_e ?_))
    rcases csplit hr with ⟨c21,hr⟩|⟨c21,hr⟩
    ·refine q_T H c21 (W_skip ?_)
     obtain rfl:=sj hr
     exact ⟨rfl,H.to (env':=_) (fun _=>by kernel_rfl),K.keep []⟩
    refine q_F H c21 (W_reg (q_g 2 [(1,cN a0 0),(3,vI (a0.kids.length:Int)),(8,vI a0.kind),(67,vB (a0.kind == 55))] H fun _ H=>q_e ?_))
    obtain rfl:=sj hr
    exact ⟨rfl,H.to (env':=_) (fun _=>by kernel_rfl),K.keep []⟩
   rintro e fr st ⟨rfl,H,K⟩
   rcases csplit hr with ⟨c23,hr⟩|⟨c23,hr⟩
   ·refine q_T H c23 (W_seq (W_reg (q_g 1 [(1,cN a0 0),(3,vI (a0.kids.length:Int)),(70,aN a0)] H fun _ H=>?_)))
    obtain ⟨x24,hx24,hr⟩:=obind hr
    refine q_c (F104_R n a0 (bs []) x24 hx24 (p0:=.shut)) 0 [(1,cN a0 0),(3,vI (a0.kids.length:Int)),(71,vB x24)] H fun _ H=>q_g 1 [(1,cN a0 0),(3,vI (a0.kids.length:Int)),(72,vB x24)] H fun _ H=>?_
    refine k_g 3 [(1,cN a0 0),(75,vB (x24 && ((a0.kids.length:Int) == 1)))] H (fun _ _=>by generalize (x24) = b0; cases b0 <;> kernel_rfl) fun _ H=>q_g 1 [(1,cN a0 0),(76,vB (x24 && ((a0.kids.length:Int) == 1)))] H fun _ H=>?_
    rcases csplit hr with ⟨c25,hr⟩|⟨c25,hr⟩
    rotate_left
    ·rw [c25] at H
     refine q_g 4 [(2,vB false)] H fun _ H=>q_e (W_ret ?_)
     obtain rfl:=sj hr
     exact q_r [vB false] H K
    rw [c25] at H
    refine q_g 1 [(76,vB true),(77,aN a0)] H fun _ H=>?_
    obtain ⟨x26,hx26,hr⟩:=obind hr
    refine q_c (ih_F105 a0 (0:Int) x26 hx26 (p0:=.shut)) 0 [(76,vB true),(78,vB x26)] H fun _ H=>q_g 2 [(2,vB x26)] H fun _ H=>q_e (W_ret ?_)
    obtain rfl:=sj hr
    exact q_r [vB x26] H K
   refine q_F H c23 (W_seq (W_reg (q_g 2 [(1,cN a0 0),(3,vI (a0.kids.length:Int)),(8,vI a0.kind),(80,vB (a0.kind == 56))] H fun _ H=>q_e ?_)))
   rcases csplit hr with ⟨c27,hr⟩|⟨c27,hr⟩
   ·refine q_T H c27 (W_seq (W_reg (q_g 1 [(1,cN a0 0),(3,vI (a0.kids.length:Int)),(82,aN a0)] H fun _ H=>?_)))
    obtain ⟨x28,hx28,hr⟩:=obind hr
    refine q_c (F104_R n a0 (bs []) x28 hx28 (p0:=.shut)) 0 [(1,cN a0 0),(3,vI (a0.kids.length:Int)),(83,vB x28)] H fun _ H=>q_g 1 [(1,cN a0 0),(3,vI (a0.kids.length:Int)),(84,vB x28)] H fun _ H=>?_
    refine k_g 3 [(1,cN a0 0),(87,vB (x28 && (decide (1≤(a0.kids.length:Int)))))] H (fun _ _=>by generalize (x28) = b0; cases b0 <;> kernel_rfl) fun _ H=>q_g 1 [(1,cN a0 0),(88,vB (x28 && (decide (1≤(a0.kids.length:Int)))))] H fun _ H=>?_
    rcases csplit hr with ⟨c29,hr⟩|⟨c29,hr⟩
    rotate_left
    ·rw [c29] at H
     refine q_g 4 [(2,vB false)] H fun _ H=>q_e (W_ret ?_)
     obtain rfl:=sj hr
     exact q_r [vB false] H K
    rw [c29] at H
    refine q_g 1 [(88,vB true),(89,aN a0)] H fun _ H=>?_
    obtain ⟨x30,hx30,hr⟩:=obind hr
    refine q_c (ih_F105 a0 (7:Int) x30 hx30 (p0:=.shut)) 0 [(88,vB true),(90,vB x30)] H fun _ H=>q_g 2 [(2,vB x30)] H fun _ H=>q_e (W_ret ?_)
    obtain rfl:=sj hr
    exact q_r [vB x30] H K
   refine q_F H c27 (W_seq (W_reg (q_g 2 [(1,cN a0 0),(3,vI (a0.kids.length:Int)),(92,vB (a0.kind == 57))] H fun _ H=>q_e ?_)))
   rcases csplit hr with ⟨c31,hr⟩|⟨c31,hr⟩
   rotate_left
   ·refine q_F H c31 (W_skip (W_seq (W_reg (q_g 1 [(2,vB false)] H fun _ H=>q_e (W_ret ?_)))))
    obtain rfl:=sj hr
    exact q_r [vB false] H K
   refine q_T H c31 (W_seq ?_)
   obtain ⟨j46,hj46,hr⟩:=obind hr
   refine W_via (fun e fr st=>match j46 with | .inl j46a=>(e = .ret∧Rd fr [(2,vB false)]∧HL st []) | .inr j46b=>(e = .normal∧Rd fr [(1,cN a0 0),(3,vI (a0.kids.length:Int))]∧HL st [])) ?_ ?_
   ·replace hr:=hj46
    refine W_seq (W_reg (q_g 3 [(1,cN a0 0),(3,vI (a0.kids.length:Int)),(96,vB ((a0.kids.length:Int) == 0))] H fun _ H=>?_))
    rcases csplit hr with ⟨c32,hr⟩|⟨c32,hr⟩
    ·rw [c32] at H
     refine q_g 31 [(1,cN a0 0),(3,vI (a0.kids.length:Int)),(127,vB true)] H fun _ H=>q_e (q_T H rfl (W_seq (W_reg (q_g 1 [(2,vB false)] H fun _ H=>q_e (W_ret ?_)))))
     obtain rfl:=sj hr
     exact ⟨rfl,H.to (env':=_) (fun _=>by kernel_rfl),K.keep []⟩
    rw [c32] at H
    refine q_g 1 [(1,cN a0 0),(3,vI (a0.kids.length:Int)),(96,vB false),(97,aN a0)] H fun _ H=>?_
    obtain ⟨x33,hx33,hr⟩:=obind hr
    refine q_c (F104_R n a0 (bs [110,111]) x33 hx33 (p0:=.shut)) 0 [(1,cN a0 0),(3,vI (a0.kids.length:Int)),(96,vB false),(98,vB x33)] H fun _ H=>q_g 3 [(1,cN a0 0),(3,vI (a0.kids.length:Int)),(101,vB !x33)] H fun _ H=>?_
    rcases csplit hr with ⟨c34,hr⟩|⟨c34,hr⟩
    ·rw [c34] at H
     refine q_g 26 [(1,cN a0 0),(3,vI (a0.kids.length:Int)),(127,vB true)] H fun _ H=>q_e (q_T H rfl (W_seq (W_reg (q_g 1 [(2,vB false)] H fun _ H=>q_e (W_ret ?_)))))
     obtain rfl:=sj hr
     exact ⟨rfl,H.to (env':=_) (fun _=>by kernel_rfl),K.keep []⟩
    rw [c34] at H
    refine q_g 2 [(1,cN a0 0),(3,vI (a0.kids.length:Int)),(101,vB false),(103,vS a0.name)] H fun _ H=>?_
    obtain ⟨x35,hx35,hr⟩:=obind hr
    refine q_c (F174_R n a0.name x35 hx35) 0 [(1,cN a0 0),(3,vI (a0.kids.length:Int)),(101,vB false),(104,vB x35)] H fun _ H=>q_g 3 [(1,cN a0 0),(3,vI (a0.kids.length:Int)),(107,vB !x35)] H fun _ H=>?_
    rcases csplit hr with ⟨c36,hr⟩|⟨c36,hr⟩
    ·rw [c36] at H
     refine q_g 20 [(1,cN a0 0),(3,vI (a0.kids.length:Int)),(127,vB true)] H fun _ H=>q_e (q_T H rfl (W_seq (W_reg (q_g 1 [(2,vB false)] H fun _ H=>q_e (W_ret ?_)))))
     obtain rfl:=sj hr
     exact ⟨rfl,H.to (env':=_) (fun _=>by kernel_rfl),K.keep []⟩
    rw [c36] at H
    refine q_g 4 [(1,cN a0 0),(3,vI (a0.kids.length:Int)),(107,vB false),(111,vB (!(strEq a0.other (bs []))))] H fun _ H=>?_
    rcases csplit hr with ⟨c37,hr⟩|⟨c37,hr⟩
    rotate_left
    ·rw [c37] at H
     refine q_g 11 [(1,cN a0 0),(3,vI (a0.kids.length:Int)),(118,vB false),(120,kN a0),(122,vI (w64 ((a0.kids.length:Int) - 1)))] H fun _ H=>?_
     obtain ⟨x42,hx42,hr⟩:=obind hr
     refine q_v (.indexAddr 22 (kN a0) (vI (w64 ((a0.kids.length:Int) - 1)))) [(1,cN a0 0),(3,vI (a0.kids.length:Int)),(118,vB false),(123,cN x42 0)] H (run_idxL tNode (by kernel_rfl) hx42) fun _ H=>q_g 1 [(1,cN a0 0),(3,vI (a0.kids.length:Int)),(118,vB false),(124,aN x42)] H fun _ H=>?_
     obtain ⟨x43,hx43,hr⟩:=obind hr
     refine q_c (ih_F231 x42 x43 hx43 (p0:=.shut)) 0 [(1,cN a0 0),(3,vI (a0.kids.length:Int)),(118,vB false),(125,vB x43)] H fun _ H=>q_g 2 [(1,cN a0 0),(3,vI (a0.kids.length:Int)),(127,vB !x43)] H fun _ H=>q_e ?_
     rcases csplit hr with ⟨c45,hr⟩|⟨c45,hr⟩
     rotate_left
     ·refine q_F H c45 (W_skip ?_)
      obtain rfl:=sj hr
      exact ⟨rfl,H.to (env':=_) (fun _=>by kernel_rfl),K.keep []⟩
     refine q_T H c45 (W_seq (W_reg (q_g 1 [(2,vB false)] H fun _ H=>q_e (W_ret ?_))))
     obtain rfl:=sj hr
     exact ⟨rfl,H.to (env':=_) (fun _=>by kernel_rfl),K.keep []⟩
    rw [c37] at H
    refine q_g 2 [(1,cN a0 0),(3,vI (a0.kids.length:Int)),(107,vB false),(111,vB true),(113,vS a0.other)] H fun _ H=>?_
    obtain ⟨x38,hx38,hr⟩:=obind hr
    refine q_c (F174_R n a0.other x38 hx38) 0 [(1,cN a0 0),(3,vI (a0.kids.length:Int)),(107,vB false),(111,vB true),(114,vB x38)] H fun _ H=>q_g 4 [(1,cN a0 0),(3,vI (a0.kids.length:Int)),(118,vB !x38)] H fun _ H=>?_
    rcases csplit hr with ⟨c39,hr⟩|⟨c39,hr⟩
    ·rw [c39] at H
     refine q_g 9 [(1,cN a0 0),(3,vI (a0.kids.length:Int)),(127,vB true)] H fun _ H=>q_e (q_T H rfl (W_seq (W_reg (q_g 1 [(2,vB false)] H fun _ H=>q_e (W_ret ?_)))))
     obtain rfl:=sj hr
     exact ⟨rfl,H.to (env':=_) (fun _=>by kernel_rfl),K.keep []⟩
    rw [c39] at H
    refine q_g 4 [(1,cN a0 0),(3,vI (a0.kids.length:Int)),(118,vB false),(120,kN a0),(122,vI (w64 ((a0.kids.length:Int) - 1)))] H fun _ H=>?_
    obtain ⟨x40,hx40,hr⟩:=obind hr
    refine q_v (.indexAddr 22 (kN a0) (vI (w64 ((a0.kids.length:Int) - 1)))) [(1,cN a0 0),(3,vI (a0.kids.length:Int)),(118,vB false),(123,cN x40 0)] H (run_idxL tNode (by kernel_rfl) hx40) fun _ H=>q_g 1 [(1,cN a0 0),(3,vI (a0.kids.length:Int)),(118,vB false),(124,aN x40)] H fun _ H=>?_
    obtain ⟨x41,hx41,hr⟩:=obind hr
    refine q_c (ih_F231 x40 x41 hx41 (p0:=.shut)) 0 [(1,cN a0 0),(3,vI (a0.kids.length:Int)),(118,vB false),(125,vB x41)] H fun _ H=>q_g 2 [(1,cN a0 0),(3,vI (a0.kids.length:Int)),(127,vB !x41)] H fun _ H=>q_e ?_
    rcases csplit hr with ⟨c44,hr⟩|⟨c44,hr⟩
    rotate_left
    ·refine q_F H c44 (W_skip ?_)
     obtain rfl:=sj hr
     exact ⟨rfl,H.to (env':=_) (fun _=>by kernel_rfl),K.keep []⟩
    refine q_T H c44 (W_seq (W_reg (q_g 1 [(2,vB false)] H fun _ H=>q_e (W_ret ?_))))
    obtain rfl:=sj hr
    exact ⟨rfl,H.to (env':=_) (fun _=>by kernel_rfl),K.keep []⟩
   rcases j46 with j46a | j46b
   ·rintro e fr st ⟨rfl,H,K⟩
    obtain rfl:=sj hr
    exact q_r [vB false] H K
   rintro e fr st ⟨rfl,H,K⟩
   refine W_seq (W_reg (q_g 4 [(129,kN a0),(131,vI (w64 ((a0.kids.length:Int) - 1)))] H fun _ H=>?_))
   obtain ⟨x47,hx47,hr⟩:=obind hr
   refine q_v (.slice 22 (kN a0) none (some (vI (w64 ((a0.kids.length:Int) - 1))))) [(132,vL tNode x47 .shut)] H (run_subL_hi tNode (by kernel_rfl) hx47) fun _ H=>q_g 1 [(133,.agg [vI 0,vS (bs []),vS (bs []),vI 0,vI 0,vI 0,vB false,vL tNode x47 .shut,vI 0])] H fun _ H=>?_
   obtain ⟨x48,hx48,hr⟩:=obind hr
   refine q_c (ih_F105 (Node.mk 0 (bs []) (bs []) 0 0 0 false x47 0) (3:Int) x48 hx48 (p0:=.shut)) 0 [(134,vB x48)] H fun _ H=>q_g 1 [(2,vB x48)] H fun _ H=>q_e (W_ret ?_)
   obtain rfl:=sj hr
   exact q_r [vB x48] H K
  ·intro a0 a1 r hr st p0
   change F229_step (F204 n) (F203 n) (F229 n) (F231 n) (F202 n) (F173 n) (F106 n) (F172 n) (F105 n) n a0 a1 = some r at hr
   unfold F229_step at hr
   refine R_pureX [aN a0,vI a1] [(0,aN a0),(1,vI a1)] (by kernel_rfl) Tryz.func229 rfl (by kernel_rfl) (by simp only [strip,stripL,stripL_cNode,Option.bind_some,Option.map_some]) rfl fun fr st H K=>W_seq (W_reg (q_g 2 [(1,vI a1),(2,cN a0 0)] H fun _ H=>q_e (W_seq (W_seq (W_reg (q_g 2 [(1,vI a1),(2,cN a0 0),(5,vI a1)] H fun _ H=>q_e (W_block ?_)))))))
   obtain ⟨r15,hr15,hr⟩:=obind hr
   refine W_iter hr15 (fun (s1:Int) fr st=>Rd fr [(1,vI a1),(2,cN a0 0),(5,vI s1)]∧HL st []) (fun (r15:Unit ⊕ Unit) e fr st=>match r15 with | .inl r15a=>(e = .ret∧Rd fr [(4,vB false)]∧HL st []) | .inr r15b=>(e = .exit 0∧Rd fr [(1,vI a1),(2,cN a0 0)]∧HL st [])) ⟨H.tq,K.keep []⟩ ?_ ?_
   ·intro s1 fr st r hi hr
    obtain ⟨H,K⟩:=hi
    refine W_seq (W_seq (W_reg (q_g 3 [(1,vI a1),(2,cN a0 0),(5,vI s1),(7,vI s1),(9,kN a0)] H fun _ H=>?_)))
    refine q_v (.len 22 (kN a0)) [(1,vI a1),(2,cN a0 0),(5,vI s1),(7,vI s1),(10,vI (a0.kids.length:Int))] H (run_len tNode (by kernel_rfl)) fun _ H=>q_g 1 [(1,vI a1),(2,cN a0 0),(5,vI s1),(11,vB (decide (s1 < (a0.kids.length:Int))))] H fun _ H=>q_e ?_
    rcases csplit hr with ⟨c2,hr⟩|⟨c2,hr⟩
    rotate_left
    ·refine q_F H c2 ?_
     refine W_exit ?_
     obtain rfl:=sj hr
     exact ⟨by simp,⟨rfl,H.tq,K.keep []⟩⟩
    refine q_T H c2 (W_skip (W_seq (W_block (W_seq (W_reg (q_g 6 [(1,vI a1),(2,cN a0 0),(5,vI s1),(19,vB ((Int.tmod (w64 (s1 - a1)) 2) == 0))] H fun _ H=>?_))))))
    rcases csplit hr with ⟨c3,hr⟩|⟨c3,hr⟩
    rotate_left
    ·rw [c3] at H
     refine q_g 15 [(1,vI a1),(2,cN a0 0),(5,vI s1),(28,vB false),(34,vB ((Int.tmod (w64 (s1 - a1)) 2) == 1))] H fun _ H=>?_
     rcases csplit hr with ⟨c10,hr⟩|⟨c10,hr⟩
     rotate_left
     ·rw [c10] at H
      refine q_g 9 [(1,vI a1),(2,cN a0 0),(5,vI s1),(43,vB false)] H fun _ H=>q_e (q_F H rfl (W_skip (W_reg (q_g 3 [(1,vI a1),(2,cN a0 0),(5,vI (w64 (s1 + 1)))] H fun _ H=>q_e ?_))))
      obtain rfl:=sj hr
      exact ⟨rfl,⟨H.tq,K.keep []⟩⟩
     rw [c10] at H
     refine q_g 3 [(1,vI a1),(2,cN a0 0),(5,vI s1),(28,vB false),(34,vB true),(36,kN a0),(37,vI s1)] H fun _ H=>?_
     obtain ⟨x11,hx11,hr⟩:=obind hr
     refine q_v (.indexAddr 22 (kN a0) (vI s1)) [(1,vI a1),(2,cN a0 0),(5,vI s1),(28,vB false),(34,vB true),(38,cN x11 0)] H (run_idxL tNode (by kernel_rfl) hx11) fun _ H=>q_g 1 [(1,vI a1),(2,cN a0 0),(5,vI s1),(28,vB false),(34,vB true),(39,aN x11)] H fun _ H=>?_
     obtain ⟨x12,hx12,hr⟩:=obind hr
     refine q_c (ih_F106 x11 x12 hx12 (p0:=.shut)) 0 [(1,vI a1),(2,cN a0 0),(5,vI s1),(28,vB false),(34,vB true),(40,vB x12)] H fun _ H=>q_g 3 [(1,vI a1),(2,cN a0 0),(5,vI s1),(43,vB !x12)] H fun _ H=>q_e ?_
     rcases csplit hr with ⟨c14,hr⟩|⟨c14,hr⟩
     ·refine q_T H c14 (W_seq (W_reg (q_g 1 [(4,vB false)] H fun _ H=>q_e (W_ret ?_))))
      obtain rfl:=sj hr
      exact ⟨by simp,⟨rfl,H.tq,K.keep []⟩⟩
     refine q_F H c14 (W_skip (W_reg (q_g 3 [(1,vI a1),(2,cN a0 0),(5,vI (w64 (s1 + 1)))] H fun _ H=>q_e ?_)))
     obtain rfl:=sj hr
     exact ⟨rfl,⟨H.tq,K.keep []⟩⟩
    rw [c3] at H
    refine q_g 3 [(1,vI a1),(2,cN a0 0),(5,vI s1),(19,vB true),(21,kN a0),(22,vI s1)] H fun _ H=>?_
    obtain ⟨x4,hx4,hr⟩:=obind hr
    refine q_v (.indexAddr 22 (kN a0) (vI s1)) [(1,vI a1),(2,cN a0 0),(5,vI s1),(19,vB true),(23,cN x4 0)] H (run_idxL tNode (by kernel_rfl) hx4) fun _ H=>q_g 1 [(1,vI a1),(2,cN a0 0),(5,vI s1),(19,vB true),(24,aN x4)] H fun _ H=>?_
    obtain ⟨x5,hx5,hr⟩:=obind hr
    refine q_c (ih_F173 x4 x5 hx5 (p0:=.shut)) 0 [(1,vI a1),(2,cN a0 0),(5,vI s1),(19,vB true),(25,vB x5)] H fun _ H=>q_g 3 [(1,vI a1),(2,cN a0 0),(5,vI s1),(28,vB !x5)] H fun _ H=>?_
    rcases csplit hr with ⟨c6,hr⟩|⟨c6,hr⟩
    ·rw [c6] at H
     refine q_g 15 [(1,vI a1),(2,cN a0 0),(5,vI s1),(43,vB true)] H fun _ H=>q_e (q_T H rfl (W_seq (W_reg (q_g 1 [(4,vB false)] H fun _ H=>q_e (W_ret ?_)))))
     obtain rfl:=sj hr
     exact ⟨by simp,⟨rfl,H.tq,K.keep []⟩⟩
    rw [c6] at H
    refine q_g 6 [(1,vI a1),(2,cN a0 0),(5,vI s1),(28,vB false),(34,vB ((Int.tmod (w64 (s1 - a1)) 2) == 1))] H fun _ H=>?_
    rcases csplit hr with ⟨c7,hr⟩|⟨c7,hr⟩
    rotate_left
    ·rw [c7] at H
     refine q_g 9 [(1,vI a1),(2,cN a0 0),(5,vI s1),(43,vB false)] H fun _ H=>q_e (q_F H rfl (W_skip (W_reg (q_g 3 [(1,vI a1),(2,cN a0 0),(5,vI (w64 (s1 + 1)))] H fun _ H=>q_e ?_))))
     obtain rfl:=sj hr
     exact ⟨rfl,⟨H.tq,K.keep []⟩⟩
    rw [c7] at H
    refine q_g 3 [(1,vI a1),(2,cN a0 0),(5,vI s1),(28,vB false),(34,vB true),(36,kN a0),(37,vI s1)] H fun _ H=>?_
    obtain ⟨x8,hx8,hr⟩:=obind hr
    refine q_v (.indexAddr 22 (kN a0) (vI s1)) [(1,vI a1),(2,cN a0 0),(5,vI s1),(28,vB false),(34,vB true),(38,cN x8 0)] H (run_idxL tNode (by kernel_rfl) hx8) fun _ H=>q_g 1 [(1,vI a1),(2,cN a0 0),(5,vI s1),(28,vB false),(34,vB true),(39,aN x8)] H fun _ H=>?_
    obtain ⟨x9,hx9,hr⟩:=obind hr
    refine q_c (ih_F106 x8 x9 hx9 (p0:=.shut)) 0 [(1,vI a1),(2,cN a0 0),(5,vI s1),(28,vB false),(34,vB true),(40,vB x9)] H fun _ H=>q_g 3 [(1,vI a1),(2,cN a0 0),(5,vI s1),(43,vB !x9)] H fun _ H=>q_e ?_
    rcases csplit hr with ⟨c13,hr⟩|⟨c13,hr⟩
    ·refine q_T H c13 (W_seq (W_reg (q_g 1 [(4,vB false)] H fun _ H=>q_e (W_ret ?_))))
     obtain rfl:=sj hr
     exact ⟨by simp,⟨rfl,H.tq,K.keep []⟩⟩
    refine q_F H c13 (W_skip (W_reg (q_g 3 [(1,vI a1),(2,cN a0 0),(5,vI (w64 (s1 + 1)))] H fun _ H=>q_e ?_)))
    obtain rfl:=sj hr
    exact ⟨rfl,⟨H.tq,K.keep []⟩⟩
   rcases r15 with r15a | r15b
   ·rintro e fr st ⟨rfl,H,K⟩
    obtain rfl:=sj hr
    exact q_r [vB false] H K
   rintro e fr st ⟨rfl,H,K⟩
   refine W_seq (W_reg (q_g 2 [(1,vI a1),(45,kN a0)] H fun _ H=>?_))
   refine q_v (.len 22 (kN a0)) [(1,vI a1),(46,vI (a0.kids.length:Int))] H (run_len tNode (by kernel_rfl)) fun _ H=>q_g 5 [(4,vB ((Int.tmod (w64 ((a0.kids.length:Int) - a1)) 2) == 0))] H fun _ H=>q_e (W_ret ?_)
   obtain rfl:=sj hr
   exact q_r [vB ((Int.tmod (w64 ((a0.kids.length:Int) - a1)) 2) == 0)] H K
  ·intro a0 r hr st p0
   change F231_step (F204 n) (F203 n) (F229 n) (F231 n) (F202 n) (F173 n) (F106 n) (F172 n) (F105 n) n a0 = some r at hr
   unfold F231_step at hr
   refine R_pureX [aN a0] [(0,aN a0)] (by kernel_rfl) Tryz.func231 rfl (by kernel_rfl) (by simp only [strip,stripL,stripL_cNode,Option.bind_some,Option.map_some]) rfl fun fr st H K=>W_seq (W_reg (q_g 2 [(1,cN a0 0)] H fun _ H=>q_e (W_seq (W_reg (q_g 4 [(1,cN a0 0),(6,vB (a0.kind == 34))] H fun _ H=>?_)))))
   rcases csplit hr with ⟨c1,hr⟩|⟨c1,hr⟩
   rotate_left
   ·rw [c1] at H
    refine q_g 8 [(2,vB false)] H fun _ H=>q_e (W_ret ?_)
    obtain rfl:=sj hr
    exact q_r [vB false] H K
   rw [c1] at H
   refine q_g 1 [(1,cN a0 0),(6,vB true),(7,aN a0)] H fun _ H=>?_
   obtain ⟨x2,hx2,hr⟩:=obind hr
   refine q_c (F104_R n a0 (bs []) x2 hx2 (p0:=.shut)) 0 [(1,cN a0 0),(6,vB true),(8,vB x2)] H fun _ H=>q_g 2 [(1,cN a0 0),(10,vB x2)] H fun _ H=>?_
   rcases csplit hr with ⟨c3,hr⟩|⟨c3,hr⟩
   rotate_left
   ·rw [c3] at H
    refine q_g 4 [(2,vB false)] H fun _ H=>q_e (W_ret ?_)
    obtain rfl:=sj hr
    exact q_r [vB false] H K
   rw [c3] at H
   refine q_g 1 [(10,vB true),(11,aN a0)] H fun _ H=>?_
   obtain ⟨x4,hx4,hr⟩:=obind hr
   refine q_c (ih_F105 a0 (1:Int) x4 hx4 (p0:=.shut)) 0 [(10,vB true),(12,vB x4)] H fun _ H=>q_g 2 [(2,vB x4)] H fun _ H=>q_e (W_ret ?_)
   obtain rfl:=sj hr
   exact q_r [vB x4] H K
  ·intro a0 r hr st p0
   change F202_step (F204 n) (F203 n) (F229 n) (F231 n) (F202 n) (F173 n) (F106 n) (F172 n) (F105 n) n a0 = some r at hr
   unfold F202_step at hr
   refine R_pureX [aN a0] [(0,aN a0)] (by kernel_rfl) Tryz.func202 rfl (by kernel_rfl) (by simp only [strip,stripL,stripL_cNode,Option.bind_some,Option.map_some]) rfl fun fr st H K=>W_seq (W_reg (q_g 2 [(1,cN a0 0)] H fun _ H=>q_e (W_seq (W_reg (q_g 2 [(1,cN a0 0),(5,kN a0)] H fun _ H=>?_)))))
   refine q_v (.len 22 (kN a0)) [(1,cN a0 0),(6,vI (a0.kids.length:Int))] H (run_len tNode (by kernel_rfl)) fun _ H=>q_g 1 [(1,cN a0 0),(3,vI (a0.kids.length:Int))] H fun _ H=>q_e (W_seq (W_seq (W_reg (q_g 2 [(1,cN a0 0),(3,vI (a0.kids.length:Int)),(8,vI a0.kind)] H fun _ H=>q_e (W_block (W_seq ?_))))))
   obtain ⟨j2,hj2,hr⟩:=obind hr
   refine W_via (fun e fr st=>e = .normal∧Rd fr [(1,cN a0 0),(3,vI (a0.kids.length:Int)),(8,vI a0.kind),(9,vB j2)]∧HL st []) ?_ ?_
   ·replace hr:=hj2
    refine W_seq (W_reg (q_g 2 [(1,cN a0 0),(3,vI (a0.kids.length:Int)),(8,vI a0.kind),(9,vB (a0.kind == 20))] H fun _ H=>q_e ?_))
    rcases csplit hr with ⟨c1,hr⟩|⟨c1,hr⟩
    ·refine q_T H c1 (W_skip ?_)
     obtain rfl:=sj hr
     exact ⟨rfl,H.to (env':=_) (fun _=>by kernel_rfl),K.keep []⟩
    refine q_F H c1 (W_reg (q_g 2 [(1,cN a0 0),(3,vI (a0.kids.length:Int)),(8,vI a0.kind),(9,vB (a0.kind == 29))] H fun _ H=>q_e ?_))
    obtain rfl:=sj hr
    exact ⟨rfl,H.to (env':=_) (fun _=>by kernel_rfl),K.keep []⟩
   rintro e fr st ⟨rfl,H,K⟩
   rcases csplit hr with ⟨c3,hr⟩|⟨c3,hr⟩
   ·refine q_T H c3 (W_seq (W_reg (q_g 1 [(1,cN a0 0),(3,vI (a0.kids.length:Int)),(12,aN a0)] H fun _ H=>?_)))
    obtain ⟨x4,hx4,hr⟩:=obind hr
    refine q_c (F104_R n a0 (bs []) x4 hx4 (p0:=.shut)) 0 [(1,cN a0 0),(3,vI (a0.kids.length:Int)),(13,vB x4)] H fun _ H=>q_g 1 [(1,cN a0 0),(3,vI (a0.kids.length:Int)),(14,vB x4)] H fun _ H=>?_
    refine k_g 3 [(1,cN a0 0),(17,vB (x4 && ((a0.kids.length:Int) == 1)))] H (fun _ _=>by generalize (x4) = b0; cases b0 <;> kernel_rfl) fun _ H=>q_g 1 [(1,cN a0 0),(18,vB (x4 && ((a0.kids.length:Int) == 1)))] H fun _ H=>?_
    rcases csplit hr with ⟨c5,hr⟩|⟨c5,hr⟩
    rotate_left
    ·rw [c5] at H
     refine q_g 4 [(2,vB false)] H fun _ H=>q_e (W_ret ?_)
     obtain rfl:=sj hr
     exact q_r [vB false] H K
    rw [c5] at H
    refine q_g 1 [(18,vB true),(19,aN a0)] H fun _ H=>?_
    obtain ⟨x6,hx6,hr⟩:=obind hr
    refine q_c (ih_F105 a0 (0:Int) x6 hx6 (p0:=.shut)) 0 [(18,vB true),(20,vB x6)] H fun _ H=>q_g 2 [(2,vB x6)] H fun _ H=>q_e (W_ret ?_)
    obtain rfl:=sj hr
    exact q_r [vB x6] H K
   refine q_F H c3 (W_seq ?_)
   obtain ⟨j8,hj8,hr⟩:=obind hr
   refine W_via (fun e fr st=>e = .normal∧Rd fr [(1,cN a0 0),(3,vI (a0.kids.length:Int)),(8,vI a0.kind),(22,vB j8)]∧HL st []) ?_ ?_
   ·replace hr:=hj8
    refine W_seq (W_reg (q_g 2 [(1,cN a0 0),(3,vI (a0.kids.length:Int)),(8,vI a0.kind),(22,vB (a0.kind == 26))] H fun _ H=>q_e ?_))
    rcases csplit hr with ⟨c7,hr⟩|⟨c7,hr⟩
    ·refine q_T H c7 (W_skip ?_)
     obtain rfl:=sj hr
     exact ⟨rfl,H.to (env':=_) (fun _=>by kernel_rfl),K.keep []⟩
    refine q_F H c7 (W_reg (q_g 2 [(1,cN a0 0),(3,vI (a0.kids.length:Int)),(8,vI a0.kind),(22,vB (a0.kind == 30))] H fun _ H=>q_e ?_))
    obtain rfl:=sj hr
    exact ⟨rfl,H.to (env':=_) (fun _=>by kernel_rfl),K.keep []⟩
   rintro e fr st ⟨rfl,H,K⟩
   rcases csplit hr with ⟨c9,hr⟩|⟨c9,hr⟩
   ·refine q_T H c9 (W_seq (W_reg (q_g 1 [(3,vI (a0.kids.length:Int)),(25,aN a0)] H fun _ H=>?_)))
    obtain ⟨x10,hx10,hr⟩:=obind hr
    refine q_c (F104_R n a0 (bs []) x10 hx10 (p0:=.shut)) 0 [(3,vI (a0.kids.length:Int)),(26,vB x10)] H fun _ H=>q_g 1 [(3,vI (a0.kids.length:Int)),(27,vB x10)] H fun _ H=>?_
    refine k_g 3 [(30,vB (x10 && ((a0.kids.length:Int) == 0)))] H (fun _ _=>by generalize (x10) = b0; cases b0 <;> kernel_rfl) fun _ H=>q_g 1 [(2,vB (x10 && ((a0.kids.length:Int) == 0)))] H fun _ H=>q_e (W_ret ?_)
    obtain rfl:=sj hr
    exact q_r [vB (x10 && ((a0.kids.length:Int) == 0))] H K
   refine q_F H c9 (W_seq (W_reg (q_g 2 [(1,cN a0 0),(3,vI (a0.kids.length:Int)),(8,vI a0.kind),(31,vB (a0.kind == 21))] H fun _ H=>q_e ?_)))
   rcases csplit hr with ⟨c11,hr⟩|⟨c11,hr⟩
   ·refine q_T H c11 (W_seq (W_reg (q_g 1 [(1,cN a0 0),(3,vI (a0.kids.length:Int)),(33,aN a0)] H fun _ H=>?_)))
    obtain ⟨x12,hx12,hr⟩:=obind hr
    refine q_c (F104_R n a0 (bs [35]) x12 hx12 (p0:=.shut)) 0 [(1,cN a0 0),(3,vI (a0.kids.length:Int)),(34,vB x12)] H fun _ H=>q_g 1 [(1,cN a0 0),(3,vI (a0.kids.length:Int)),(35,vB x12)] H fun _ H=>?_
    refine k_g 4 [(1,cN a0 0),(3,vI (a0.kids.length:Int)),(39,vB (x12 && (decide (a0.n≤1))))] H (fun _ _=>by generalize (x12) = b0; cases b0 <;> kernel_rfl) fun _ H=>q_g 1 [(1,cN a0 0),(3,vI (a0.kids.length:Int)),(40,vB (x12 && (decide (a0.n≤1))))] H fun _ H=>?_
    refine k_g 3 [(1,cN a0 0),(43,vB ((x12 && (decide (a0.n≤1))) && (decide (2≤(a0.kids.length:Int)))))] H (fun _ _=>by generalize (x12 && (decide (a0.n≤1))) = b0; cases b0 <;> kernel_rfl) fun _ H=>q_g 1 [(1,cN a0 0),(44,vB ((x12 && (decide (a0.n≤1))) && (decide (2≤(a0.kids.length:Int)))))] H fun _ H=>?_
    rcases csplit hr with ⟨c13,hr⟩|⟨c13,hr⟩
    rotate_left
    ·rw [c13] at H
     refine q_g 4 [(2,vB false)] H fun _ H=>q_e (W_ret ?_)
     obtain rfl:=sj hr
     exact q_r [vB false] H K
    rw [c13] at H
    refine q_g 1 [(44,vB true),(45,aN a0)] H fun _ H=>?_
    obtain ⟨x14,hx14,hr⟩:=obind hr
    refine q_c (ih_F229 a0 (0:Int) x14 hx14 (p0:=.shut)) 0 [(44,vB true),(46,vB x14)] H fun _ H=>q_g 2 [(2,vB x14)] H fun _ H=>q_e (W_ret ?_)
    obtain rfl:=sj hr
    exact q_r [vB x14] H K
   refine q_F H c11 (W_seq (W_reg (q_g 2 [(1,cN a0 0),(3,vI (a0.kids.length:Int)),(8,vI a0.kind),(48,vB (a0.kind == 22))] H fun _ H=>q_e ?_)))
   rcases csplit hr with ⟨c15,hr⟩|⟨c15,hr⟩
   ·refine q_T H c15 (W_seq (W_reg (q_g 1 [(1,cN a0 0),(3,vI (a0.kids.length:Int)),(50,aN a0)] H fun _ H=>?_)))
    obtain ⟨x16,hx16,hr⟩:=obind hr
    refine q_c (F104_R n a0 (bs []) x16 hx16 (p0:=.shut)) 0 [(1,cN a0 0),(3,vI (a0.kids.length:Int)),(51,vB x16)] H fun _ H=>q_g 1 [(1,cN a0 0),(3,vI (a0.kids.length:Int)),(52,vB x16)] H fun _ H=>?_
    refine k_g 3 [(1,cN a0 0),(55,vB (x16 && (decide (1≤(a0.kids.length:Int)))))] H (fun _ _=>by generalize (x16) = b0; cases b0 <;> kernel_rfl) fun _ H=>q_g 1 [(1,cN a0 0),(56,vB (x16 && (decide (1≤(a0.kids.length:Int)))))] H fun _ H=>?_
    rcases csplit hr with ⟨c17,hr⟩|⟨c17,hr⟩
    rotate_left
    ·rw [c17] at H
     refine q_g 18 [(2,vB false)] H fun _ H=>q_e (W_ret ?_)
     obtain rfl:=sj hr
     exact q_r [vB false] H K
    rw [c17] at H
    refine q_g 2 [(1,cN a0 0),(56,vB true),(58,kN a0)] H fun _ H=>?_
    obtain ⟨x18,hx18,hr⟩:=obind hr
    refine q_v (.indexAddr 22 (kN a0) (vI 0)) [(1,cN a0 0),(56,vB true),(59,cN x18 0)] H (run_idxL tNode (by kernel_rfl) hx18) fun _ H=>q_g 1 [(1,cN a0 0),(56,vB true),(60,aN x18)] H fun _ H=>?_
    obtain ⟨x19,hx19,hr⟩:=obind hr
    refine q_c (F230_R n x18 x19 hx19 (p0:=.shut)) 0 [(1,cN a0 0),(56,vB true),(61,vB x19)] H fun _ H=>q_g 1 [(1,cN a0 0),(56,vB true),(62,vB x19)] H fun _ H=>?_
    rcases csplit hr with ⟨c20,hr⟩|⟨c20,hr⟩
    ·rw [c20] at H
     refine q_g 9 [(70,vB true),(71,aN a0)] H fun _ H=>?_
     obtain ⟨x21,hx21,hr⟩:=obind hr
     refine q_c (ih_F229 a0 (1:Int) x21 hx21 (p0:=.shut)) 0 [(70,vB true),(72,vB x21)] H fun _ H=>q_g 2 [(2,vB x21)] H fun _ H=>q_e (W_ret ?_)
     obtain rfl:=sj hr
     exact q_r [vB x21] H K
    rw [c20] at H
    refine q_g 2 [(1,cN a0 0),(56,vB true),(62,vB false),(64,kN a0)] H fun _ H=>?_
    obtain ⟨x22,hx22,hr⟩:=obind hr
    refine q_v (.indexAddr 22 (kN a0) (vI 0)) [(1,cN a0 0),(56,vB true),(62,vB false),(65,cN x22 0)] H (run_idxL tNode (by kernel_rfl) hx22) fun _ H=>q_g 1 [(1,cN a0 0),(56,vB true),(62,vB false),(66,aN x22)] H fun _ H=>?_
    obtain ⟨x23,hx23,hr⟩:=obind hr
    refine q_c (ih_F106 x22 x23 hx23 (p0:=.shut)) 0 [(1,cN a0 0),(56,vB true),(62,vB false),(67,vB x23)] H fun _ H=>q_g 3 [(1,cN a0 0),(70,vB x23)] H fun _ H=>?_
    rcases csplit hr with ⟨c24,hr⟩|⟨c24,hr⟩
    rotate_left
    ·rw [c24] at H
     refine q_g 4 [(2,vB false)] H fun _ H=>q_e (W_ret ?_)
     obtain rfl:=sj hr
     exact q_r [vB false] H K
    rw [c24] at H
    refine q_g 1 [(70,vB true),(71,aN a0)] H fun _ H=>?_
    obtain ⟨x25,hx25,hr⟩:=obind hr
    refine q_c (ih_F229 a0 (1:Int) x25 hx25 (p0:=.shut)) 0 [(70,vB true),(72,vB x25)] H fun _ H=>q_g 2 [(2,vB x25)] H fun _ H=>q_e (W_ret ?_)
    obtain rfl:=sj hr
    exact q_r [vB x25] H K
   refine q_F H c15 (W_seq (W_reg (q_g 2 [(1,cN a0 0),(3,vI (a0.kids.length:Int)),(8,vI a0.kind),(74,vB (a0.kind == 23))] H fun _ H=>q_e ?_)))
   rcases csplit hr with ⟨c26,hr⟩|⟨c26,hr⟩
   ·refine q_T H c26 (W_seq (W_reg (q_g 1 [(1,cN a0 0),(3,vI (a0.kids.length:Int)),(76,aN a0)] H fun _ H=>?_)))
    obtain ⟨x27,hx27,hr⟩:=obind hr
    refine q_c (F104_R n a0 (bs []) x27 hx27 (p0:=.shut)) 0 [(1,cN a0 0),(3,vI (a0.kids.length:Int)),(77,vB x27)] H fun _ H=>q_g 1 [(1,cN a0 0),(3,vI (a0.kids.length:Int)),(78,vB x27)] H fun _ H=>?_
    refine k_g 3 [(1,cN a0 0),(81,vB (x27 && (decide (4≤(a0.kids.length:Int)))))] H (fun _ _=>by generalize (x27) = b0; cases b0 <;> kernel_rfl) fun _ H=>q_g 1 [(1,cN a0 0),(82,vB (x27 && (decide (4≤(a0.kids.length:Int)))))] H fun _ H=>?_
    rcases csplit hr with ⟨c28,hr⟩|⟨c28,hr⟩
    rotate_left
    ·rw [c28] at H
     refine q_g 32 [(2,vB false)] H fun _ H=>q_e (W_ret ?_)
     obtain rfl:=sj hr
     exact q_r [vB false] H K
    rw [c28] at H
    refine q_g 2 [(1,cN a0 0),(82,vB true),(84,kN a0)] H fun _ H=>?_
    obtain ⟨x29,hx29,hr⟩:=obind hr
    refine q_v (.indexAddr 22 (kN a0) (vI 0)) [(1,cN a0 0),(82,vB true),(85,cN x29 0)] H (run_idxL tNode (by kernel_rfl) hx29) fun _ H=>q_g 1 [(1,cN a0 0),(82,vB true),(86,aN x29)] H fun _ H=>?_
    obtain ⟨x30,hx30,hr⟩:=obind hr
    refine q_c (ih_F173 x29 x30 hx30 (p0:=.shut)) 0 [(1,cN a0 0),(82,vB true),(87,vB x30)] H fun _ H=>q_g 2 [(1,cN a0 0),(89,vB x30)] H fun _ H=>?_
    rcases csplit hr with ⟨c31,hr⟩|⟨c31,hr⟩
    rotate_left
    ·rw [c31] at H
     refine q_g 25 [(2,vB false)] H fun _ H=>q_e (W_ret ?_)
     obtain rfl:=sj hr
     exact q_r [vB false] H K
    rw [c31] at H
    refine q_g 2 [(1,cN a0 0),(89,vB true),(91,kN a0)] H fun _ H=>?_
    obtain ⟨x32,hx32,hr⟩:=obind hr
    refine q_v (.indexAddr 22 (kN a0) (vI 1)) [(1,cN a0 0),(89,vB true),(92,cN x32 0)] H (run_idxL tNode (by kernel_rfl) hx32) fun _ H=>q_g 1 [(1,cN a0 0),(89,vB true),(93,aN x32)] H fun _ H=>?_
    obtain ⟨x33,hx33,hr⟩:=obind hr
    refine q_c (ih_F106 x32 x33 hx33 (p0:=.shut)) 0 [(1,cN a0 0),(89,vB true),(94,vB x33)] H fun _ H=>q_g 2 [(1,cN a0 0),(96,vB x33)] H fun _ H=>?_
    rcases csplit hr with ⟨c34,hr⟩|⟨c34,hr⟩
    rotate_left
    ·rw [c34] at H
     refine q_g 18 [(2,vB false)] H fun _ H=>q_e (W_ret ?_)
     obtain rfl:=sj hr
     exact q_r [vB false] H K
    rw [c34] at H
    refine q_g 2 [(1,cN a0 0),(96,vB true),(98,kN a0)] H fun _ H=>?_
    obtain ⟨x35,hx35,hr⟩:=obind hr
    refine q_v (.indexAddr 22 (kN a0) (vI 2)) [(1,cN a0 0),(96,vB true),(99,cN x35 0)] H (run_idxL tNode (by kernel_rfl) hx35) fun _ H=>q_g 1 [(1,cN a0 0),(96,vB true),(100,aN x35)] H fun _ H=>?_
    obtain ⟨x36,hx36,hr⟩:=obind hr
    refine q_c (ih_F106 x35 x36 hx36 (p0:=.shut)) 0 [(1,cN a0 0),(96,vB true),(101,vB x36)] H fun _ H=>q_g 2 [(1,cN a0 0),(103,vB x36)] H fun _ H=>?_
    rcases csplit hr with ⟨c37,hr⟩|⟨c37,hr⟩
    rotate_left
    ·rw [c37] at H
     refine q_g 11 [(2,vB false)] H fun _ H=>q_e (W_ret ?_)
     obtain rfl:=sj hr
     exact q_r [vB false] H K
    rw [c37] at H
    refine q_g 2 [(1,cN a0 0),(103,vB true),(105,kN a0)] H fun _ H=>?_
    obtain ⟨x38,hx38,hr⟩:=obind hr
    refine q_v (.indexAddr 22 (kN a0) (vI 3)) [(1,cN a0 0),(103,vB true),(106,cN x38 0)] H (run_idxL tNode (by kernel_rfl) hx38) fun _ H=>q_g 1 [(1,cN a0 0),(103,vB true),(107,aN x38)] H fun _ H=>?_
    obtain ⟨x39,hx39,hr⟩:=obind hr
    refine q_c (ih_F173 x38 x39 hx39 (p0:=.shut)) 0 [(1,cN a0 0),(103,vB true),(108,vB x39)] H fun _ H=>q_g 2 [(1,cN a0 0),(110,vB x39)] H fun _ H=>?_
    rcases csplit hr with ⟨c40,hr⟩|⟨c40,hr⟩
    rotate_left
    ·rw [c40] at H
     refine q_g 4 [(2,vB false)] H fun _ H=>q_e (W_ret ?_)
     obtain rfl:=sj hr
     exact q_r [vB false] H K
    rw [c40] at H
    refine q_g 1 [(110,vB true),(111,aN a0)] H fun _ H=>?_
    obtain ⟨x41,hx41,hr⟩:=obind hr
    refine q_c (ih_F229 a0 (4:Int) x41 hx41 (p0:=.shut)) 0 [(110,vB true),(112,vB x41)] H fun _ H=>q_g 2 [(2,vB x41)] H fun _ H=>q_e (W_ret ?_)
    obtain rfl:=sj hr
    exact q_r [vB x41] H K
   refine q_F H c26 (W_seq ?_)
   obtain ⟨j43,hj43,hr⟩:=obind hr
   refine W_via (fun e fr st=>e = .normal∧Rd fr [(1,cN a0 0),(3,vI (a0.kids.length:Int)),(8,vI a0.kind),(114,vB j43)]∧HL st []) ?_ ?_
   ·replace hr:=hj43
    refine W_seq (W_reg (q_g 2 [(1,cN a0 0),(3,vI (a0.kids.length:Int)),(8,vI a0.kind),(114,vB (a0.kind == 24))] H fun _ H=>q_e ?_))
    rcases csplit hr with ⟨c42,hr⟩|⟨c42,hr⟩
    ·refine q_T H c42 (W_skip ?_)
     obtain rfl:=sj hr
     exact ⟨rfl,H.to (env':=_) (fun _=>by kernel_rfl),K.keep []⟩
    refine q_F H c42 (W_reg (q_g 2 [(1,cN a0 0),(3,vI (a0.kids.length:Int)),(8,vI a0.kind),(114,vB (a0.kind == 25))] H fun _ H=>q_e ?_))
    obtain rfl:=sj hr
    exact ⟨rfl,H.to (env':=_) (fun _=>by kernel_rfl),K.keep []⟩
   rintro e fr st ⟨rfl,H,K⟩
   rcases csplit hr with ⟨c44,hr⟩|⟨c44,hr⟩
   ·refine q_T H c44 (W_seq (W_reg (q_g 1 [(1,cN a0 0),(3,vI (a0.kids.length:Int)),(117,aN a0)] H fun _ H=>?_)))
    obtain ⟨x45,hx45,hr⟩:=obind hr
    refine q_c (F104_R n a0 (bs [110]) x45 hx45 (p0:=.shut)) 0 [(1,cN a0 0),(3,vI (a0.kids.length:Int)),(118,vB x45)] H fun _ H=>q_g 1 [(1,cN a0 0),(3,vI (a0.kids.length:Int)),(119,vB x45)] H fun _ H=>?_
    rcases csplit hr with ⟨c46,hr⟩|⟨c46,hr⟩
    rotate_left
    ·rw [c46] at H
     refine q_g 9 [(2,vB false)] H fun _ H=>q_e (W_ret ?_)
     obtain rfl:=sj hr
     exact q_r [vB false] H K
    rw [c46] at H
    refine q_g 2 [(3,vI (a0.kids.length:Int)),(119,vB true),(121,vS a0.name)] H fun _ H=>?_
    obtain ⟨x47,hx47,hr⟩:=obind hr
    refine q_c (F205_R n a0.name x47 hx47) 0 [(3,vI (a0.kids.length:Int)),(119,vB true),(122,vB x47)] H fun _ H=>q_g 2 [(3,vI (a0.kids.length:Int)),(124,vB x47)] H fun _ H=>?_
    refine k_g 3 [(127,vB (x47 && ((a0.kids.length:Int) == 0)))] H (fun _ _=>by generalize (x47) = b0; cases b0 <;> kernel_rfl) fun _ H=>q_g 1 [(2,vB (x47 && ((a0.kids.length:Int) == 0)))] H fun _ H=>q_e (W_ret ?_)
    obtain rfl:=sj hr
    exact q_r [vB (x47 && ((a0.kids.length:Int) == 0))] H K
   refine q_F H c44 (W_seq ?_)
   obtain ⟨j49,hj49,hr⟩:=obind hr
   refine W_via (fun e fr st=>e = .normal∧Rd fr [(1,cN a0 0),(3,vI (a0.kids.length:Int)),(8,vI a0.kind),(128,vB j49)]∧HL st []) ?_ ?_
   ·replace hr:=hj49
    refine W_seq (W_reg (q_g 2 [(1,cN a0 0),(3,vI (a0.kids.length:Int)),(8,vI a0.kind),(128,vB (a0.kind == 27))] H fun _ H=>q_e ?_))
    rcases csplit hr with ⟨c48,hr⟩|⟨c48,hr⟩
    ·refine q_T H c48 (W_skip ?_)
     obtain rfl:=sj hr
     exact ⟨rfl,H.to (env':=_) (fun _=>by kernel_rfl),K.keep []⟩
    refine q_F H c48 (W_reg (q_g 2 [(1,cN a0 0),(3,vI (a0.kids.length:Int)),(8,vI a0.kind),(128,vB (a0.kind == 28))] H fun _ H=>q_e ?_))
    obtain rfl:=sj hr
    exact ⟨rfl,H.to (env':=_) (fun _=>by kernel_rfl),K.keep []⟩
   rintro e fr st ⟨rfl,H,K⟩
   rcases csplit hr with ⟨c50,hr⟩|⟨c50,hr⟩
   ·refine q_T H c50 (W_seq (W_reg (q_g 1 [(1,cN a0 0),(3,vI (a0.kids.length:Int)),(131,aN a0)] H fun _ H=>?_)))
    obtain ⟨x51,hx51,hr⟩:=obind hr
    refine q_c (F104_R n a0 (bs [110]) x51 hx51 (p0:=.shut)) 0 [(1,cN a0 0),(3,vI (a0.kids.length:Int)),(132,vB x51)] H fun _ H=>q_g 1 [(1,cN a0 0),(3,vI (a0.kids.length:Int)),(133,vB x51)] H fun _ H=>?_
    rcases csplit hr with ⟨c52,hr⟩|⟨c52,hr⟩
    rotate_left
    ·rw [c52] at H
     refine q_g 9 [(2,vB false)] H fun _ H=>q_e (W_ret ?_)
     obtain rfl:=sj hr
     exact q_r [vB false] H K
    rw [c52] at H
    refine q_g 2 [(3,vI (a0.kids.length:Int)),(133,vB true),(135,vS a0.name)] H fun _ H=>?_
    obtain ⟨x53,hx53,hr⟩:=obind hr
    refine q_c (F174_R n a0.name x53 hx53) 0 [(3,vI (a0.kids.length:Int)),(133,vB true),(136,vB x53)] H fun _ H=>q_g 2 [(3,vI (a0.kids.length:Int)),(138,vB x53)] H fun _ H=>?_
    refine k_g 3 [(141,vB (x53 && ((a0.kids.length:Int) == 0)))] H (fun _ _=>by generalize (x53) = b0; cases b0 <;> kernel_rfl) fun _ H=>q_g 1 [(2,vB (x53 && ((a0.kids.length:Int) == 0)))] H fun _ H=>q_e (W_ret ?_)
    obtain rfl:=sj hr
    exact q_r [vB (x53 && ((a0.kids.length:Int) == 0))] H K
   refine q_F H c50 (W_seq (W_reg (q_g 2 [(1,cN a0 0),(3,vI (a0.kids.length:Int)),(8,vI a0.kind),(142,vB (a0.kind == 31))] H fun _ H=>q_e ?_)))
   rcases csplit hr with ⟨c54,hr⟩|⟨c54,hr⟩
   ·refine q_T H c54 (W_seq (W_reg (q_g 1 [(1,cN a0 0),(3,vI (a0.kids.length:Int)),(144,aN a0)] H fun _ H=>?_)))
    obtain ⟨x55,hx55,hr⟩:=obind hr
    refine q_c (F104_R n a0 (bs []) x55 hx55 (p0:=.shut)) 0 [(1,cN a0 0),(3,vI (a0.kids.length:Int)),(145,vB x55)] H fun _ H=>q_g 1 [(1,cN a0 0),(3,vI (a0.kids.length:Int)),(146,vB x55)] H fun _ H=>?_
    refine k_g 3 [(1,cN a0 0),(149,vB (x55 && ((a0.kids.length:Int) == 3)))] H (fun _ _=>by generalize (x55) = b0; cases b0 <;> kernel_rfl) fun _ H=>q_g 1 [(1,cN a0 0),(150,vB (x55 && ((a0.kids.length:Int) == 3)))] H fun _ H=>?_
    rcases csplit hr with ⟨c56,hr⟩|⟨c56,hr⟩
    rotate_left
    ·rw [c56] at H
     refine q_g 21 [(2,vB false)] H fun _ H=>q_e (W_ret ?_)
     obtain rfl:=sj hr
     exact q_r [vB false] H K
    rw [c56] at H
    refine q_g 2 [(1,cN a0 0),(150,vB true),(152,kN a0)] H fun _ H=>?_
    obtain ⟨x57,hx57,hr⟩:=obind hr
    refine q_v (.indexAddr 22 (kN a0) (vI 0)) [(1,cN a0 0),(150,vB true),(153,cN x57 0)] H (run_idxL tNode (by kernel_rfl) hx57) fun _ H=>q_g 1 [(1,cN a0 0),(150,vB true),(154,aN x57)] H fun _ H=>?_
    obtain ⟨x58,hx58,hr⟩:=obind hr
    refine q_c (ih_F106 x57 x58 hx58 (p0:=.shut)) 0 [(1,cN a0 0),(150,vB true),(155,vB x58)] H fun _ H=>q_g 2 [(1,cN a0 0),(157,vB x58)] H fun _ H=>?_
    rcases csplit hr with ⟨c59,hr⟩|⟨c59,hr⟩
    rotate_left
    ·rw [c59] at H
     refine q_g 14 [(2,vB false)] H fun _ H=>q_e (W_ret ?_)
     obtain rfl:=sj hr
     exact q_r [vB false] H K
    rw [c59] at H
    refine q_g 2 [(1,cN a0 0),(157,vB true),(159,kN a0)] H fun _ H=>?_
    obtain ⟨x60,hx60,hr⟩:=obind hr
    refine q_v (.indexAddr 22 (kN a0) (vI 1)) [(1,cN a0 0),(157,vB true),(160,cN x60 0)] H (run_idxL tNode (by kernel_rfl) hx60) fun _ H=>q_g 1 [(1,cN a0 0),(157,vB true),(161,aN x60)] H fun _ H=>?_
    obtain ⟨x61,hx61,hr⟩:=obind hr
    refine q_c (ih_F231 x60 x61 hx61 (p0:=.shut)) 0 [(1,cN a0 0),(157,vB true),(162,vB x61)] H fun _ H=>q_g 2 [(1,cN a0 0),(164,vB x61)] H fun _ H=>?_
    rcases csplit hr with ⟨c62,hr⟩|⟨c62,hr⟩
    rotate_left
    ·rw [c62] at H
     refine q_g 7 [(2,vB false)] H fun _ H=>q_e (W_ret ?_)
     obtain rfl:=sj hr
     exact q_r [vB false] H K
    rw [c62] at H
    refine q_g 2 [(164,vB true),(166,kN a0)] H fun _ H=>?_
    obtain ⟨x63,hx63,hr⟩:=obind hr
    refine q_v (.indexAddr 22 (kN a0) (vI 2)) [(164,vB true),(167,cN x63 0)] H (run_idxL tNode (by kernel_rfl) hx63) fun _ H=>q_g 1 [(164,vB true),(168,aN x63)] H fun _ H=>?_
    obtain ⟨x64,hx64,hr⟩:=obind hr
    refine q_c (ih_F231 x63 x64 hx64 (p0:=.shut)) 0 [(164,vB true),(169,vB x64)] H fun _ H=>q_g 2 [(2,vB x64)] H fun _ H=>q_e (W_ret ?_)
    obtain rfl:=sj hr
    exact q_r [vB x64] H K
   refine q_F H c54 (W_seq (W_reg (q_g 2 [(1,cN a0 0),(3,vI (a0.kids.length:Int)),(8,vI a0.kind),(171,vB (a0.kind == 32))] H fun _ H=>q_e ?_)))
   rcases csplit hr with ⟨c65,hr⟩|⟨c65,hr⟩
   rotate_left
   ·refine q_F H c65 (W_seq (W_reg (q_g 2 [(1,cN a0 0),(3,vI (a0.kids.length:Int)),(8,vI a0.kind),(207,vB (a0.kind == 33))] H fun _ H=>q_e ?_)))
    rcases csplit hr with ⟨c81,hr⟩|⟨c81,hr⟩
    ·refine q_T H c81 (W_seq (W_reg (q_g 1 [(1,cN a0 0),(209,aN a0)] H fun _ H=>?_)))
     obtain ⟨x82,hx82,hr⟩:=obind hr
     refine q_c (F104_R n a0 (bs [110]) x82 hx82 (p0:=.shut)) 0 [(1,cN a0 0),(210,vB x82)] H fun _ H=>q_g 1 [(1,cN a0 0),(211,vB x82)] H fun _ H=>?_
     rcases csplit hr with ⟨c83,hr⟩|⟨c83,hr⟩
     rotate_left
     ·rw [c83] at H
      refine q_g 9 [(2,vB false)] H fun _ H=>q_e (W_ret ?_)
      obtain rfl:=sj hr
      exact q_r [vB false] H K
     rw [c83] at H
     refine q_g 2 [(1,cN a0 0),(211,vB true),(213,vS a0.name)] H fun _ H=>?_
     obtain ⟨x84,hx84,hr⟩:=obind hr
     refine q_c (F205_R n a0.name x84 hx84) 0 [(1,cN a0 0),(211,vB true),(214,vB x84)] H fun _ H=>q_g 2 [(1,cN a0 0),(216,vB x84)] H fun _ H=>?_
     rcases csplit hr with ⟨c85,hr⟩|⟨c85,hr⟩
     rotate_left
     ·rw [c85] at H
      refine q_g 4 [(2,vB false)] H fun _ H=>q_e (W_ret ?_)
      obtain rfl:=sj hr
      exact q_r [vB false] H K
     rw [c85] at H
     refine q_g 1 [(216,vB true),(217,aN a0)] H fun _ H=>?_
     obtain ⟨x86,hx86,hr⟩:=obind hr
     refine q_c (ih_F105 a0 (0:Int) x86 hx86 (p0:=.shut)) 0 [(216,vB true),(218,vB x86)] H fun _ H=>q_g 2 [(2,vB x86)] H fun _ H=>q_e (W_ret ?_)
     obtain rfl:=sj hr
     exact q_r [vB x86] H K
    refine q_F H c81 (W_seq (W_reg (q_g 2 [(1,cN a0 0),(3,vI (a0.kids.length:Int)),(220,vB (a0.kind == 35))] H fun _ H=>q_e ?_)))
    rcases csplit hr with ⟨c87,hr⟩|⟨c87,hr⟩
    rotate_left
    ·refine q_F H c87 (W_skip (W_seq (W_reg (q_g 1 [(2,vB false)] H fun _ H=>q_e (W_ret ?_)))))
     obtain rfl:=sj hr
     exact q_r [vB false] H K
    refine q_T H c87 (W_seq (W_reg (q_g 1 [(1,cN a0 0),(3,vI (a0.kids.length:Int)),(222,aN a0)] H fun _ H=>?_)))
    obtain ⟨x88,hx88,hr⟩:=obind hr
    refine q_c (F104_R n a0 (bs [110,35,103]) x88 hx88 (p0:=.shut)) 0 [(1,cN a0 0),(3,vI (a0.kids.length:Int)),(223,vB x88)] H fun _ H=>q_g 1 [(1,cN a0 0),(3,vI (a0.kids.length:Int)),(224,vB x88)] H fun _ H=>?_
    rcases csplit hr with ⟨c89,hr⟩|⟨c89,hr⟩
    rotate_left
    ·rw [c89] at H
     refine q_g 9 [(2,vB false)] H fun _ H=>q_e (W_ret ?_)
     obtain rfl:=sj hr
     exact q_r [vB false] H K
    rw [c89] at H
    refine q_g 2 [(3,vI (a0.kids.length:Int)),(224,vB true),(226,vS a0.name)] H fun _ H=>?_
    obtain ⟨x90,hx90,hr⟩:=obind hr
    refine q_c (F174_R n a0.name x90 hx90) 0 [(3,vI (a0.kids.length:Int)),(224,vB true),(227,vB x90)] H fun _ H=>q_g 2 [(3,vI (a0.kids.length:Int)),(229,vB x90)] H fun _ H=>?_
    refine k_g 3 [(232,vB (x90 && ((a0.kids.length:Int) == 0)))] H (fun _ _=>by generalize (x90) = b0; cases b0 <;> kernel_rfl) fun _ H=>q_g 1 [(2,vB (x90 && ((a0.kids.length:Int) == 0)))] H fun _ H=>q_e (W_ret ?_)
    obtain rfl:=sj hr
    exact q_r [vB (x90 && ((a0.kids.length:Int) == 0))] H K
   refine q_T H c65 (W_seq (W_reg (q_g 1 [(1,cN a0 0),(3,vI (a0.kids.length:Int)),(173,aN a0)] H fun _ H=>?_)))
   obtain ⟨x66,hx66,hr⟩:=obind hr
   refine q_c (F104_R n a0 (bs []) x66 hx66 (p0:=.shut)) 0 [(1,cN a0 0),(3,vI (a0.kids.length:Int)),(174,vB x66)] H fun _ H=>q_g 1 [(1,cN a0 0),(3,vI (a0.kids.length:Int)),(175,vB x66)] H fun _ H=>?_
   refine k_g 3 [(1,cN a0 0),(178,vB (x66 && ((a0.kids.length:Int) == 3)))] H (fun _ _=>by generalize (x66) = b0; cases b0 <;> kernel_rfl) fun _ H=>q_g 1 [(1,cN a0 0),(179,vB (x66 && ((a0.kids.length:Int) == 3)))] H fun _ H=>?_
   rcases csplit hr with ⟨c67,hr⟩|⟨c67,hr⟩
   rotate_left
   ·rw [c67] at H
    refine q_g 28 [(2,vB false)] H fun _ H=>q_e (W_ret ?_)
    obtain rfl:=sj hr
    exact q_r [vB false] H K
   rw [c67] at H
   refine q_g 2 [(1,cN a0 0),(179,vB true),(181,kN a0)] H fun _ H=>?_
   obtain ⟨x68,hx68,hr⟩:=obind hr
   refine q_v (.indexAddr 22 (kN a0) (vI 0)) [(1,cN a0 0),(179,vB true),(182,cN x68 0)] H (run_idxL tNode (by kernel_rfl) hx68) fun _ H=>q_g 1 [(1,cN a0 0),(179,vB true),(183,aN x68)] H fun _ H=>?_
   obtain ⟨x69,hx69,hr⟩:=obind hr
   refine q_c (ih_F106 x68 x69 hx69 (p0:=.shut)) 0 [(1,cN a0 0),(179,vB true),(184,vB x69)] H fun _ H=>q_g 2 [(1,cN a0 0),(186,vB x69)] H fun _ H=>?_
   rcases csplit hr with ⟨c70,hr⟩|⟨c70,hr⟩
   rotate_left
   ·rw [c70] at H
    refine q_g 21 [(2,vB false)] H fun _ H=>q_e (W_ret ?_)
    obtain rfl:=sj hr
    exact q_r [vB false] H K
   rw [c70] at H
   refine q_g 2 [(1,cN a0 0),(186,vB true),(188,kN a0)] H fun _ H=>?_
   obtain ⟨x71,hx71,hr⟩:=obind hr
   refine q_v (.indexAddr 22 (kN a0) (vI 1)) [(1,cN a0 0),(186,vB true),(189,cN x71 0)] H (run_idxL tNode (by kernel_rfl) hx71) fun _ H=>q_g 1 [(1,cN a0 0),(186,vB true),(190,aN x71)] H fun _ H=>?_
   obtain ⟨x72,hx72,hr⟩:=obind hr
   refine q_c (F230_R n x71 x72 hx72 (p0:=.shut)) 0 [(1,cN a0 0),(186,vB true),(191,vB x72)] H fun _ H=>q_g 1 [(1,cN a0 0),(186,vB true),(192,vB x72)] H fun _ H=>?_
   rcases csplit hr with ⟨c73,hr⟩|⟨c73,hr⟩
   ·rw [c73] at H
    refine q_g 10 [(200,vB true),(202,kN a0)] H fun _ H=>?_
    obtain ⟨x74,hx74,hr⟩:=obind hr
    refine q_v (.indexAddr 22 (kN a0) (vI 2)) [(200,vB true),(203,cN x74 0)] H (run_idxL tNode (by kernel_rfl) hx74) fun _ H=>q_g 1 [(200,vB true),(204,aN x74)] H fun _ H=>?_
    obtain ⟨x75,hx75,hr⟩:=obind hr
    refine q_c (ih_F231 x74 x75 hx75 (p0:=.shut)) 0 [(200,vB true),(205,vB x75)] H fun _ H=>q_g 2 [(2,vB x75)] H fun _ H=>q_e (W_ret ?_)
    obtain rfl:=sj hr
    exact q_r [vB x75] H K
   rw [c73] at H
   refine q_g 2 [(1,cN a0 0),(186,vB true),(192,vB false),(194,kN a0)] H fun _ H=>?_
   obtain ⟨x76,hx76,hr⟩:=obind hr
   refine q_v (.indexAddr 22 (kN a0) (vI 1)) [(1,cN a0 0),(186,vB true),(192,vB false),(195,cN x76 0)] H (run_idxL tNode (by kernel_rfl) hx76) fun _ H=>q_g 1 [(1,cN a0 0),(186,vB true),(192,vB false),(196,aN x76)] H fun _ H=>?_
   obtain ⟨x77,hx77,hr⟩:=obind hr
   refine q_c (ih_F106 x76 x77 hx77 (p0:=.shut)) 0 [(1,cN a0 0),(186,vB true),(192,vB false),(197,vB x77)] H fun _ H=>q_g 3 [(1,cN a0 0),(200,vB x77)] H fun _ H=>?_
   rcases csplit hr with ⟨c78,hr⟩|⟨c78,hr⟩
   rotate_left
   ·rw [c78] at H
    refine q_g 7 [(2,vB false)] H fun _ H=>q_e (W_ret ?_)
    obtain rfl:=sj hr
    exact q_r [vB false] H K
   rw [c78] at H
   refine q_g 2 [(200,vB true),(202,kN a0)] H fun _ H=>?_
   obtain ⟨x79,hx79,hr⟩:=obind hr
   refine q_v (.indexAddr 22 (kN a0) (vI 2)) [(200,vB true),(203,cN x79 0)] H (run_idxL tNode (by kernel_rfl) hx79) fun _ H=>q_g 1 [(200,vB true),(204,aN x79)] H fun _ H=>?_
   obtain ⟨x80,hx80,hr⟩:=obind hr
   refine q_c (ih_F231 x79 x80 hx80 (p0:=.shut)) 0 [(200,vB true),(205,vB x80)] H fun _ H=>q_g 2 [(2,vB x80)] H fun _ H=>q_e (W_ret ?_)
   obtain rfl:=sj hr
   exact q_r [vB x80] H K
  ·intro a0 r hr st p0
   change F173_step (F204 n) (F203 n) (F229 n) (F231 n) (F202 n) (F173 n) (F106 n) (F172 n) (F105 n) n a0 = some r at hr
   unfold F173_step at hr
   refine R_pureX [aN a0] [(0,aN a0)] (by kernel_rfl) Tryz.func173 rfl (by kernel_rfl) (by simp only [strip,stripL,stripL_cNode,Option.bind_some,Option.map_some]) rfl fun fr st H K=>W_seq (W_reg (q_g 2 [(1,cN a0 0)] H fun _ H=>q_e (W_seq (W_reg (q_g 4 [(1,cN a0 0),(6,vB (a0.kind == 2))] H fun _ H=>?_)))))
   rcases csplit hr with ⟨c1,hr⟩|⟨c1,hr⟩
   rotate_left
   ·rw [c1] at H
    refine q_g 19 [(2,vB false)] H fun _ H=>q_e (W_ret ?_)
    obtain rfl:=sj hr
    exact q_r [vB false] H K
   rw [c1] at H
   refine q_g 1 [(1,cN a0 0),(6,vB true),(7,aN a0)] H fun _ H=>?_
   obtain ⟨x2,hx2,hr⟩:=obind hr
   refine q_c (F104_R n a0 (bs [110]) x2 hx2 (p0:=.shut)) 0 [(1,cN a0 0),(6,vB true),(8,vB x2)] H fun _ H=>q_g 2 [(1,cN a0 0),(10,vB x2)] H fun _ H=>?_
   rcases csplit hr with ⟨c3,hr⟩|⟨c3,hr⟩
   rotate_left
   ·rw [c3] at H
    refine q_g 15 [(2,vB false)] H fun _ H=>q_e (W_ret ?_)
    obtain rfl:=sj hr
    exact q_r [vB false] H K
   rw [c3] at H
   refine q_g 2 [(1,cN a0 0),(10,vB true),(12,vS a0.name)] H fun _ H=>?_
   obtain ⟨x4,hx4,hr⟩:=obind hr
   refine q_c (F205_R n a0.name x4 hx4) 0 [(1,cN a0 0),(10,vB true),(13,vB x4)] H fun _ H=>q_g 2 [(1,cN a0 0),(15,vB x4)] H fun _ H=>?_
   rcases csplit hr with ⟨c5,hr⟩|⟨c5,hr⟩
   rotate_left
   ·rw [c5] at H
    refine q_g 10 [(2,vB false)] H fun _ H=>q_e (W_ret ?_)
    obtain rfl:=sj hr
    exact q_r [vB false] H K
   rw [c5] at H
   refine q_g 2 [(1,cN a0 0),(15,vB true),(17,kN a0)] H fun _ H=>?_
   refine q_v (.len 22 (kN a0)) [(1,cN a0 0),(15,vB true),(18,vI (a0.kids.length:Int))] H (run_len tNode (by kernel_rfl)) fun _ H=>q_g 3 [(1,cN a0 0),(21,vB (decide ((a0.kids.length:Int)≤1)))] H fun _ H=>?_
   rcases csplit hr with ⟨c6,hr⟩|⟨c6,hr⟩
   rotate_left
   ·rw [c6] at H
    refine q_g 4 [(2,vB false)] H fun _ H=>q_e (W_ret ?_)
    obtain rfl:=sj hr
    exact q_r [vB false] H K
   rw [c6] at H
   refine q_g 1 [(21,vB true),(22,aN a0)] H fun _ H=>?_
   obtain ⟨x7,hx7,hr⟩:=obind hr
   refine q_c (ih_F105 a0 (0:Int) x7 hx7 (p0:=.shut)) 0 [(21,vB true),(23,vB x7)] H fun _ H=>q_g 2 [(2,vB x7)] H fun _ H=>q_e (W_ret ?_)
   obtain rfl:=sj hr
   exact q_r [vB x7] H K
  ·intro a0 r hr st p0
   change F106_step (F204 n) (F203 n) (F229 n) (F231 n) (F202 n) (F173 n) (F106 n) (F172 n) (F105 n) n a0 = some r at hr
   unfold F106_step at hr
   refine R_pureX [aN a0] [(0,aN a0)] (by kernel_rfl) Tryz.func106 rfl (by kernel_rfl) (by simp only [strip,stripL,stripL_cNode,Option.bind_some,Option.map_some]) rfl fun fr st H K=>W_seq (W_reg (q_g 2 [(1,cN a0 0)] H fun _ H=>q_e (W_seq (W_reg (q_g 2 [(1,cN a0 0),(9,kN a0)] H fun _ H=>?_)))))
   refine q_v (.len 22 (kN a0)) [(1,cN a0 0),(10,vI (a0.kids.length:Int))] H (run_len tNode (by kernel_rfl)) fun _ H=>q_g 1 [(1,cN a0 0),(3,vI (a0.kids.length:Int))] H fun _ H=>q_e (W_seq (W_seq (W_reg (q_g 2 [(1,cN a0 0),(3,vI (a0.kids.length:Int)),(12,vI a0.kind)] H fun _ H=>q_e (W_block (W_seq (W_reg (q_g 2 [(1,cN a0 0),(3,vI (a0.kids.length:Int)),(12,vI a0.kind),(13,vB (a0.kind == 1))] H fun _ H=>q_e ?_))))))))
   rcases csplit hr with ⟨c1,hr⟩|⟨c1,hr⟩
   ·refine q_T H c1 (W_seq (W_reg (q_g 1 [(3,vI (a0.kids.length:Int)),(15,aN a0)] H fun _ H=>?_)))
    obtain ⟨x2,hx2,hr⟩:=obind hr
    refine q_c (F104_R n a0 (bs [35]) x2 hx2 (p0:=.shut)) 0 [(3,vI (a0.kids.length:Int)),(16,vB x2)] H fun _ H=>q_g 1 [(3,vI (a0.kids.length:Int)),(17,vB x2)] H fun _ H=>?_
    refine k_g 3 [(20,vB (x2 && ((a0.kids.length:Int) == 0)))] H (fun _ _=>by generalize (x2) = b0; cases b0 <;> kernel_rfl) fun _ H=>q_g 1 [(2,vB (x2 && ((a0.kids.length:Int) == 0)))] H fun _ H=>q_e (W_ret ?_)
    obtain rfl:=sj hr
    exact q_r [vB (x2 && ((a0.kids.length:Int) == 0))] H K
   refine q_F H c1 (W_seq (W_reg (q_g 2 [(1,cN a0 0),(3,vI (a0.kids.length:Int)),(12,vI a0.kind),(21,vB (a0.kind == 2))] H fun _ H=>q_e ?_)))
   rcases csplit hr with ⟨c3,hr⟩|⟨c3,hr⟩
   ·refine q_T H c3 (W_seq (W_reg (q_g 1 [(23,aN a0)] H fun _ H=>?_)))
    obtain ⟨x4,hx4,hr⟩:=obind hr
    refine q_c (ih_F173 a0 x4 hx4 (p0:=.shut)) 0 [(24,vB x4)] H fun _ H=>q_g 1 [(2,vB x4)] H fun _ H=>q_e (W_ret ?_)
    obtain rfl:=sj hr
    exact q_r [vB x4] H K
   refine q_F H c3 (W_seq (W_reg (q_g 2 [(1,cN a0 0),(3,vI (a0.kids.length:Int)),(12,vI a0.kind),(25,vB (a0.kind == 3))] H fun _ H=>q_e ?_)))
   rcases csplit hr with ⟨c5,hr⟩|⟨c5,hr⟩
   ·refine q_T H c5 (W_seq (W_reg (q_g 1 [(1,cN a0 0),(3,vI (a0.kids.length:Int)),(27,aN a0)] H fun _ H=>?_)))
    obtain ⟨x6,hx6,hr⟩:=obind hr
    refine q_c (F104_R n a0 (bs []) x6 hx6 (p0:=.shut)) 0 [(1,cN a0 0),(3,vI (a0.kids.length:Int)),(28,vB x6)] H fun _ H=>q_g 1 [(1,cN a0 0),(3,vI (a0.kids.length:Int)),(29,vB x6)] H fun _ H=>?_
    refine k_g 3 [(1,cN a0 0),(32,vB (x6 && ((a0.kids.length:Int) == 1)))] H (fun _ _=>by generalize (x6) = b0; cases b0 <;> kernel_rfl) fun _ H=>q_g 1 [(1,cN a0 0),(33,vB (x6 && ((a0.kids.length:Int) == 1)))] H fun _ H=>?_
    rcases csplit hr with ⟨c7,hr⟩|⟨c7,hr⟩
    rotate_left
    ·rw [c7] at H
     refine q_g 7 [(2,vB false)] H fun _ H=>q_e (W_ret ?_)
     obtain rfl:=sj hr
     exact q_r [vB false] H K
    rw [c7] at H
    refine q_g 2 [(33,vB true),(35,kN a0)] H fun _ H=>?_
    obtain ⟨x8,hx8,hr⟩:=obind hr
    refine q_v (.indexAddr 22 (kN a0) (vI 0)) [(33,vB true),(36,cN x8 0)] H (run_idxL tNode (by kernel_rfl) hx8) fun _ H=>q_g 1 [(33,vB true),(37,aN x8)] H fun _ H=>?_
    obtain ⟨x9,hx9,hr⟩:=obind hr
    refine q_c (ih_F173 x8 x9 hx9 (p0:=.shut)) 0 [(33,vB true),(38,vB x9)] H fun _ H=>q_g 2 [(2,vB x9)] H fun _ H=>q_e (W_ret ?_)
    obtain rfl:=sj hr
    exact q_r [vB x9] H K
   refine q_F H c5 (W_seq (W_reg (q_g 2 [(1,cN a0 0),(3,vI (a0.kids.length:Int)),(12,vI a0.kind),(40,vB (a0.kind == 4))] H fun _ H=>q_e ?_)))
   rcases csplit hr with ⟨c10,hr⟩|⟨c10,hr⟩
   ·refine q_T H c10 (W_seq (W_reg (q_g 1 [(1,cN a0 0),(3,vI (a0.kids.length:Int)),(42,aN a0)] H fun _ H=>?_)))
    obtain ⟨x11,hx11,hr⟩:=obind hr
    refine q_c (F104_R n a0 (bs []) x11 hx11 (p0:=.shut)) 0 [(1,cN a0 0),(3,vI (a0.kids.length:Int)),(43,vB x11)] H fun _ H=>q_g 1 [(1,cN a0 0),(3,vI (a0.kids.length:Int)),(44,vB x11)] H fun _ H=>?_
    refine k_g 3 [(1,cN a0 0),(47,vB (x11 && ((a0.kids.length:Int) == 1)))] H (fun _ _=>by generalize (x11) = b0; cases b0 <;> kernel_rfl) fun _ H=>q_g 1 [(1,cN a0 0),(48,vB (x11 && ((a0.kids.length:Int) == 1)))] H fun _ H=>?_
    rcases csplit hr with ⟨c12,hr⟩|⟨c12,hr⟩
    rotate_left
    ·rw [c12] at H
     refine q_g 4 [(2,vB false)] H fun _ H=>q_e (W_ret ?_)
     obtain rfl:=sj hr
     exact q_r [vB false] H K
    rw [c12] at H
    refine q_g 1 [(48,vB true),(49,aN a0)] H fun _ H=>?_
    obtain ⟨x13,hx13,hr⟩:=obind hr
    refine q_c (ih_F105 a0 (0:Int) x13 hx13 (p0:=.shut)) 0 [(48,vB true),(50,vB x13)] H fun _ H=>q_g 2 [(2,vB x13)] H fun _ H=>q_e (W_ret ?_)
    obtain rfl:=sj hr
    exact q_r [vB x13] H K
   refine q_F H c10 (W_seq (W_reg (q_g 2 [(1,cN a0 0),(3,vI (a0.kids.length:Int)),(12,vI a0.kind),(52,vB (a0.kind == 5))] H fun _ H=>q_e ?_)))
   rcases csplit hr with ⟨c14,hr⟩|⟨c14,hr⟩
   rotate_left
   ·refine q_F H c14 (W_seq (W_reg (q_g 2 [(1,cN a0 0),(3,vI (a0.kids.length:Int)),(12,vI a0.kind),(99,vB (a0.kind == 6))] H fun _ H=>q_e ?_)))
    rcases csplit hr with ⟨c30,hr⟩|⟨c30,hr⟩
    ·refine q_T H c30 (W_seq (W_reg (q_g 1 [(1,cN a0 0),(3,vI (a0.kids.length:Int)),(101,aN a0)] H fun _ H=>?_)))
     obtain ⟨x31,hx31,hr⟩:=obind hr
     refine q_c (F104_R n a0 (bs []) x31 hx31 (p0:=.shut)) 0 [(1,cN a0 0),(3,vI (a0.kids.length:Int)),(102,vB x31)] H fun _ H=>q_g 1 [(1,cN a0 0),(3,vI (a0.kids.length:Int)),(103,vB x31)] H fun _ H=>?_
     refine k_g 3 [(1,cN a0 0),(106,vB (x31 && ((a0.kids.length:Int) == 3)))] H (fun _ _=>by generalize (x31) = b0; cases b0 <;> kernel_rfl) fun _ H=>q_g 1 [(1,cN a0 0),(107,vB (x31 && ((a0.kids.length:Int) == 3)))] H fun _ H=>?_
     rcases csplit hr with ⟨c32,hr⟩|⟨c32,hr⟩
     rotate_left
     ·rw [c32] at H
      refine q_g 4 [(2,vB false)] H fun _ H=>q_e (W_ret ?_)
      obtain rfl:=sj hr
      exact q_r [vB false] H K
     rw [c32] at H
     refine q_g 1 [(107,vB true),(108,aN a0)] H fun _ H=>?_
     obtain ⟨x33,hx33,hr⟩:=obind hr
     refine q_c (ih_F105 a0 (0:Int) x33 hx33 (p0:=.shut)) 0 [(107,vB true),(109,vB x33)] H fun _ H=>q_g 2 [(2,vB x33)] H fun _ H=>q_e (W_ret ?_)
     obtain rfl:=sj hr
     exact q_r [vB x33] H K
    refine q_F H c30 (W_seq ?_)
    obtain ⟨j35,hj35,hr⟩:=obind hr
    refine W_via (fun e fr st=>e = .normal∧Rd fr [(1,cN a0 0),(3,vI (a0.kids.length:Int)),(111,vB j35)]∧HL st []) ?_ ?_
    ·replace hr:=hj35
     refine W_seq (W_reg (q_g 2 [(1,cN a0 0),(3,vI (a0.kids.length:Int)),(12,vI a0.kind),(111,vB (a0.kind == 7))] H fun _ H=>q_e ?_))
     rcases csplit hr with ⟨c34,hr⟩|⟨c34,hr⟩
     ·refine q_T H c34 (W_skip ?_)
      obtain rfl:=sj hr
      exact ⟨rfl,H.to (env':=_) (fun _=>by kernel_rfl),K.keep []⟩
     refine q_F H c34 (W_reg (q_g 2 [(1,cN a0 0),(3,vI (a0.kids.length:Int)),(111,vB (a0.kind == 8))] H fun _ H=>q_e ?_))
     obtain rfl:=sj hr
     exact ⟨rfl,H.to (env':=_) (fun _=>by kernel_rfl),K.keep []⟩
    rintro e fr st ⟨rfl,H,K⟩
    rcases csplit hr with ⟨c36,hr⟩|⟨c36,hr⟩
    rotate_left
    ·refine q_F H c36 (W_skip (W_seq (W_reg (q_g 1 [(2,vB false)] H fun _ H=>q_e (W_ret ?_)))))
     obtain rfl:=sj hr
     exact q_r [vB false] H K
    refine q_T H c36 (W_seq (W_reg (q_g 1 [(1,cN a0 0),(3,vI (a0.kids.length:Int)),(114,aN a0)] H fun _ H=>?_)))
    obtain ⟨x37,hx37,hr⟩:=obind hr
    refine q_c (F104_R n a0 (bs [110,35]) x37 hx37 (p0:=.shut)) 0 [(1,cN a0 0),(3,vI (a0.kids.length:Int)),(115,vB x37)] H fun _ H=>q_g 1 [(1,cN a0 0),(3,vI (a0.kids.length:Int)),(116,vB x37)] H fun _ H=>?_
    rcases csplit hr with ⟨c38,hr⟩|⟨c38,hr⟩
    rotate_left
    ·rw [c38] at H
     refine q_g 13 [(2,vB false)] H fun _ H=>q_e (W_ret ?_)
     obtain rfl:=sj hr
     exact q_r [vB false] H K
    rw [c38] at H
    refine q_g 2 [(1,cN a0 0),(3,vI (a0.kids.length:Int)),(116,vB true),(118,vS a0.name)] H fun _ H=>?_
    obtain ⟨x39,hx39,hr⟩:=obind hr
    refine q_c (F174_R n a0.name x39 hx39) 0 [(1,cN a0 0),(3,vI (a0.kids.length:Int)),(116,vB true),(119,vB x39)] H fun _ H=>q_g 2 [(1,cN a0 0),(3,vI (a0.kids.length:Int)),(121,vB x39)] H fun _ H=>?_
    refine k_g 3 [(1,cN a0 0),(124,vB (x39 && ((a0.kids.length:Int) == 1)))] H (fun _ _=>by generalize (x39) = b0; cases b0 <;> kernel_rfl) fun _ H=>q_g 1 [(1,cN a0 0),(125,vB (x39 && ((a0.kids.length:Int) == 1)))] H fun _ H=>?_
    rcases csplit hr with ⟨c40,hr⟩|⟨c40,hr⟩
    rotate_left
    ·rw [c40] at H
     refine q_g 4 [(2,vB false)] H fun _ H=>q_e (W_ret ?_)
     obtain rfl:=sj hr
     exact q_r [vB false] H K
    rw [c40] at H
    refine q_g 1 [(125,vB true),(126,aN a0)] H fun _ H=>?_
    obtain ⟨x41,hx41,hr⟩:=obind hr
    refine q_c (ih_F105 a0 (0:Int) x41 hx41 (p0:=.shut)) 0 [(125,vB true),(127,vB x41)] H fun _ H=>q_g 2 [(2,vB x41)] H fun _ H=>q_e (W_ret ?_)
    obtain rfl:=sj hr
    exact q_r [vB x41] H K
   refine q_T H c14 (W_seq (W_reg (q_g 4 [(1,cN a0 0),(3,vI (a0.kids.length:Int)),(4,vB (strEq a0.name (bs [61,61,62])))] H fun _ H=>q_e (W_seq (W_reg ?_)))))
   obtain ⟨x15,hx15,hr⟩:=obind hr
   refine q_c (F73_R   x15 hx15) 0 [(1,cN a0 0),(3,vI (a0.kids.length:Int)),(4,vB (strEq a0.name (bs [61,61,62]))),(57,vL (tL tS) x15 .shut)] H fun _ H=>q_g 1 [(1,cN a0 0),(3,vI (a0.kids.length:Int)),(4,vB (strEq a0.name (bs [61,61,62]))),(5,vL (tL tS) x15 .shut)] H fun _ H=>q_e (W_seq (W_seq (W_reg (q_g 1 [(1,cN a0 0),(3,vI (a0.kids.length:Int)),(4,vB (strEq a0.name (bs [61,61,62]))),(5,vL (tL tS) x15 .shut),(6,vI 0)] H fun _ H=>q_e (W_block ?_)))))
   obtain ⟨r25,hr25,hr⟩:=obind hr
   refine W_iter hr25 (fun (s16:Bool × Int) fr st=>Rd fr [(1,cN a0 0),(3,vI (a0.kids.length:Int)),(4,vB s16.1),(5,vL (tL tS) x15 .shut),(6,vI s16.2)]∧HL st []) (fun (r25:Bool) e fr st=>e = .exit 1∧Rd fr [(1,cN a0 0),(3,vI (a0.kids.length:Int)),(4,vB r25)]∧HL st []) ⟨H.tq,K.keep []⟩ ?_ ?_
   ·intro s16 fr st r hi hr
    obtain ⟨H,K⟩:=hi
    refine W_seq (W_seq (W_reg (q_g 2 [(1,cN a0 0),(3,vI (a0.kids.length:Int)),(4,vB s16.1),(5,vL (tL tS) x15 .shut),(6,vI s16.2),(58,vI s16.2),(59,vL (tL tS) x15 .shut)] H fun _ H=>?_)))
    refine q_v (.len 98 (vL (tL tS) x15 .shut)) [(1,cN a0 0),(3,vI (a0.kids.length:Int)),(4,vB s16.1),(5,vL (tL tS) x15 .shut),(6,vI s16.2),(58,vI s16.2),(60,vI (x15.length:Int))] H (run_len (tL tS) (by kernel_rfl)) fun _ H=>q_g 1 [(1,cN a0 0),(3,vI (a0.kids.length:Int)),(4,vB s16.1),(5,vL (tL tS) x15 .shut),(6,vI s16.2),(61,vB (decide (s16.2 < (x15.length:Int))))] H fun _ H=>q_e ?_
    rcases csplit hr with ⟨c17,hr⟩|⟨c17,hr⟩
    rotate_left
    ·refine q_F H c17 ?_
     refine W_exit ?_
     obtain rfl:=sj hr
     exact ⟨by simp,⟨rfl,H.tq,K.keep []⟩⟩
    refine q_T H c17 (W_skip (W_seq (W_block (W_seq (W_reg (q_g 1 [(1,cN a0 0),(3,vI (a0.kids.length:Int)),(4,vB s16.1),(5,vL (tL tS) x15 .shut),(6,vI s16.2),(7,vI 0)] H fun _ H=>q_e (W_block ?_)))))))
    obtain ⟨r24,hr24,hr⟩:=obind hr
    refine W_iter hr24 (fun (s18:Bool × Int) fr st=>Rd fr [(1,cN a0 0),(3,vI (a0.kids.length:Int)),(4,vB s18.1),(5,vL (tL tS) x15 .shut),(6,vI s16.2),(7,vI s18.2)]∧HL st []) (fun (r24:Bool) e fr st=>e = .exit 3∧Rd fr [(1,cN a0 0),(3,vI (a0.kids.length:Int)),(4,vB r24),(5,vL (tL tS) x15 .shut),(6,vI s16.2)]∧HL st []) ⟨H.tq,K.keep []⟩ ?_ ?_
    ·intro s18 fr st r hi hr
     obtain ⟨H,K⟩:=hi
     refine W_seq (W_seq (W_reg (q_g 3 [(1,cN a0 0),(3,vI (a0.kids.length:Int)),(4,vB s18.1),(5,vL (tL tS) x15 .shut),(6,vI s16.2),(7,vI s18.2),(64,vI s18.2),(65,vL (tL tS) x15 .shut),(66,vI s16.2)] H fun _ H=>?_)))
     obtain ⟨x19,hx19,hr⟩:=obind hr
     refine q_v (.indexAddr 98 (vL (tL tS) x15 .shut) (vI s16.2)) [(1,cN a0 0),(3,vI (a0.kids.length:Int)),(4,vB s18.1),(5,vL (tL tS) x15 .shut),(6,vI s16.2),(7,vI s18.2),(64,vI s18.2),(67,.cptr ([vL tS x19 .shut]) 0)] H (run_idxL (tL tS) (by kernel_rfl) hx19) fun _ H=>q_g 1 [(1,cN a0 0),(3,vI (a0.kids.length:Int)),(4,vB s18.1),(5,vL (tL tS) x15 .shut),(6,vI s16.2),(7,vI s18.2),(64,vI s18.2),(68,vL tS x19 .shut)] H fun _ H=>?_
     refine q_v (.len 30 (vL tS x19 .shut)) [(1,cN a0 0),(3,vI (a0.kids.length:Int)),(4,vB s18.1),(5,vL (tL tS) x15 .shut),(6,vI s16.2),(7,vI s18.2),(64,vI s18.2),(69,vI (x19.length:Int))] H (run_len tS (by kernel_rfl)) fun _ H=>q_g 1 [(1,cN a0 0),(3,vI (a0.kids.length:Int)),(4,vB s18.1),(5,vL (tL tS) x15 .shut),(6,vI s16.2),(7,vI s18.2),(70,vB (decide (s18.2 < (x19.length:Int))))] H fun _ H=>q_e ?_
     rcases csplit hr with ⟨c20,hr⟩|⟨c20,hr⟩
     rotate_left
     ·refine q_F H c20 ?_
      refine W_exit ?_
      obtain rfl:=sj hr
      exact ⟨by simp,⟨rfl,H.tq,K.keep []⟩⟩
     refine q_T H c20 (W_skip (W_seq (W_block (W_drw (q_g 2 [(1,cN a0 0),(3,vI (a0.kids.length:Int)),(5,vL (tL tS) x15 .shut),(6,vI s16.2),(7,vI s18.2),(74,vB s18.1)] H fun _ H=>?_)))))
     rcases csplit hr with ⟨c21,hr⟩|⟨c21,hr⟩
     ·rw [c21] at H
      refine q_g 12 [(1,cN a0 0),(3,vI (a0.kids.length:Int)),(4,vB true),(5,vL (tL tS) x15 .shut),(6,vI s16.2),(7,vI s18.2)] H fun _ H=>q_e (q_d (W_reg (q_g 3 [(1,cN a0 0),(3,vI (a0.kids.length:Int)),(4,vB true),(5,vL (tL tS) x15 .shut),(6,vI s16.2),(7,vI (w64 (s18.2 + 1)))] H fun _ H=>q_e ?_)))
      obtain rfl:=sj hr
      exact ⟨rfl,⟨H.tq,K.keep []⟩⟩
     rw [c21] at H
     refine q_g 2 [(1,cN a0 0),(3,vI (a0.kids.length:Int)),(5,vL (tL tS) x15 .shut),(6,vI s16.2),(7,vI s18.2),(74,vB false),(75,vL (tL tS) x15 .shut),(76,vI s16.2)] H fun _ H=>?_
     obtain ⟨x22,hx22,hr⟩:=obind hr
     refine q_v (.indexAddr 98 (vL (tL tS) x15 .shut) (vI s16.2)) [(1,cN a0 0),(3,vI (a0.kids.length:Int)),(5,vL (tL tS) x15 .shut),(6,vI s16.2),(7,vI s18.2),(74,vB false),(77,.cptr ([vL tS x22 .shut]) 0)] H (run_idxL (tL tS) (by kernel_rfl) hx22) fun _ H=>q_g 2 [(1,cN a0 0),(3,vI (a0.kids.length:Int)),(5,vL (tL tS) x15 .shut),(6,vI s16.2),(7,vI s18.2),(74,vB false),(78,vL tS x22 .shut),(79,vI s18.2)] H fun _ H=>?_
     obtain ⟨x23,hx23,hr⟩:=obind hr
     refine q_v (.indexAddr 30 (vL tS x22 .shut) (vI s18.2)) [(1,cN a0 0),(3,vI (a0.kids.length:Int)),(5,vL (tL tS) x15 .shut),(6,vI s16.2),(7,vI s18.2),(74,vB false),(80,.cptr ([vS x23]) 0)] H (run_idxL tS (by kernel_rfl) hx23) fun _ H=>q_g 6 [(1,cN a0 0),(3,vI (a0.kids.length:Int)),(4,vB (strEq x23 a0.name)),(5,vL (tL tS) x15 .shut),(6,vI s16.2),(7,vI s18.2)] H fun _ H=>q_e (q_d (W_reg (q_g 3 [(1,cN a0 0),(3,vI (a0.kids.length:Int)),(4,vB (strEq x23 a0.name)),(5,vL (tL tS) x15 .shut),(6,vI s16.2),(7,vI (w64 (s18.2 + 1)))] H fun _ H=>q_e ?_)))
     obtain rfl:=sj hr
     exact ⟨rfl,⟨H.tq,K.keep []⟩⟩
    rintro e fr st ⟨rfl,H,K⟩
    refine W_reg (q_g 3 [(1,cN a0 0),(3,vI (a0.kids.length:Int)),(4,vB r24),(5,vL (tL tS) x15 .shut),(6,vI (w64 (s16.2 + 1)))] H fun _ H=>q_e ?_)
    obtain rfl:=sj hr
    exact ⟨rfl,⟨H.tq,K.keep []⟩⟩
   rintro e fr st ⟨rfl,H,K⟩
   refine W_seq (W_reg (q_g 2 [(1,cN a0 0),(3,vI (a0.kids.length:Int)),(87,vB r25)] H fun _ H=>?_))
   rcases csplit hr with ⟨c26,hr⟩|⟨c26,hr⟩
   rotate_left
   ·rw [c26] at H
    refine q_g 12 [(2,vB false)] H fun _ H=>q_e (W_ret ?_)
    obtain rfl:=sj hr
    exact q_r [vB false] H K
   rw [c26] at H
   refine q_g 1 [(1,cN a0 0),(3,vI (a0.kids.length:Int)),(87,vB true),(88,aN a0)] H fun _ H=>?_
   obtain ⟨x27,hx27,hr⟩:=obind hr
   refine q_c (F104_R n a0 (bs [110]) x27 hx27 (p0:=.shut)) 0 [(1,cN a0 0),(3,vI (a0.kids.length:Int)),(87,vB true),(89,vB x27)] H fun _ H=>q_g 2 [(1,cN a0 0),(3,vI (a0.kids.length:Int)),(91,vB x27)] H fun _ H=>?_
   refine k_g 3 [(1,cN a0 0),(94,vB (x27 && ((a0.kids.length:Int) == 2)))] H (fun _ _=>by generalize (x27) = b0; cases b0 <;> kernel_rfl) fun _ H=>q_g 1 [(1,cN a0 0),(95,vB (x27 && ((a0.kids.length:Int) == 2)))] H fun _ H=>?_
   rcases csplit hr with ⟨c28,hr⟩|⟨c28,hr⟩
   rotate_left
   ·rw [c28] at H
    refine q_g 4 [(2,vB false)] H fun _ H=>q_e (W_ret ?_)
    obtain rfl:=sj hr
    exact q_r [vB false] H K
   rw [c28] at H
   refine q_g 1 [(95,vB true),(96,aN a0)] H fun _ H=>?_
   obtain ⟨x29,hx29,hr⟩:=obind hr
   refine q_c (ih_F105 a0 (0:Int) x29 hx29 (p0:=.shut)) 0 [(95,vB true),(97,vB x29)] H fun _ H=>q_g 2 [(2,vB x29)] H fun _ H=>q_e (W_ret ?_)
   obtain rfl:=sj hr
   exact q_r [vB x29] H K
  ·intro a0 a1 r hr st p0
   change F172_step (F204 n) (F203 n) (F229 n) (F231 n) (F202 n) (F173 n) (F106 n) (F172 n) (F105 n) n a0 a1 = some r at hr
   unfold F172_step at hr
   refine R_pureX [vI a0,aN a1] [(0,vI a0),(1,aN a1)] (by kernel_rfl) Tryz.func172 rfl (by kernel_rfl) (by simp only [strip,stripL,stripL_cNode,Option.bind_some,Option.map_some]) rfl fun fr st H K=>W_seq (W_reg (q_g 2 [(0,vI a0),(3,cN a1 0)] H fun _ H=>q_e (W_seq (W_seq (W_reg (q_g 1 [(3,cN a1 0),(5,vI a0)] H fun _ H=>q_e (W_block (W_seq (W_reg (q_g 2 [(3,cN a1 0),(5,vI a0),(6,vB (a0 == 1))] H fun _ H=>q_e ?_))))))))))
   rcases csplit hr with ⟨c1,hr⟩|⟨c1,hr⟩
   ·refine q_T H c1 (W_seq (W_reg (q_g 1 [(8,aN a1)] H fun _ H=>?_)))
    obtain ⟨x2,hx2,hr⟩:=obind hr
    refine q_c (ih_F202 a1 x2 hx2 (p0:=.shut)) 0 [(9,vB x2)] H fun _ H=>q_g 1 [(4,vB x2)] H fun _ H=>q_e (W_ret ?_)
    obtain rfl:=sj hr
    exact q_r [vB x2] H K
   refine q_F H c1 (W_seq (W_reg (q_g 2 [(3,cN a1 0),(5,vI a0),(10,vB (a0 == 2))] H fun _ H=>q_e ?_)))
   rcases csplit hr with ⟨c3,hr⟩|⟨c3,hr⟩
   ·refine q_T H c3 (W_seq (W_reg (q_g 4 [(3,cN a1 0),(15,vB (a1.kind == 52))] H fun _ H=>?_)))
    rcases csplit hr with ⟨c4,hr⟩|⟨c4,hr⟩
    rotate_left
    ·rw [c4] at H
     refine q_g 15 [(4,vB false)] H fun _ H=>q_e (W_ret ?_)
     obtain rfl:=sj hr
     exact q_r [vB false] H K
    rw [c4] at H
    refine q_g 1 [(3,cN a1 0),(15,vB true),(16,aN a1)] H fun _ H=>?_
    obtain ⟨x5,hx5,hr⟩:=obind hr
    refine q_c (F104_R n a1 (bs [110,35]) x5 hx5 (p0:=.shut)) 0 [(3,cN a1 0),(15,vB true),(17,vB x5)] H fun _ H=>q_g 2 [(3,cN a1 0),(19,vB x5)] H fun _ H=>?_
    rcases csplit hr with ⟨c6,hr⟩|⟨c6,hr⟩
    rotate_left
    ·rw [c6] at H
     refine q_g 11 [(4,vB false)] H fun _ H=>q_e (W_ret ?_)
     obtain rfl:=sj hr
     exact q_r [vB false] H K
    rw [c6] at H
    refine q_g 2 [(3,cN a1 0),(19,vB true),(21,vS a1.name)] H fun _ H=>?_
    obtain ⟨x7,hx7,hr⟩:=obind hr
    refine q_c (F174_R n a1.name x7 hx7) 0 [(3,cN a1 0),(19,vB true),(22,vB x7)] H fun _ H=>q_g 2 [(3,cN a1 0),(24,vB x7)] H fun _ H=>?_
    rcases csplit hr with ⟨c8,hr⟩|⟨c8,hr⟩
    rotate_left
    ·rw [c8] at H
     refine q_g 6 [(4,vB false)] H fun _ H=>q_e (W_ret ?_)
     obtain rfl:=sj hr
     exact q_r [vB false] H K
    rw [c8] at H
    refine q_g 2 [(24,vB true),(26,kN a1)] H fun _ H=>?_
    refine q_v (.len 22 (kN a1)) [(24,vB true),(27,vI (a1.kids.length:Int))] H (run_len tNode (by kernel_rfl)) fun _ H=>q_g 3 [(4,vB ((a1.kids.length:Int) == 0))] H fun _ H=>q_e (W_ret ?_)
    obtain rfl:=sj hr
    exact q_r [vB ((a1.kids.length:Int) == 0)] H K
   refine q_F H c3 (W_seq (W_reg (q_g 2 [(3,cN a1 0),(5,vI a0),(30,vB (a0 == 3))] H fun _ H=>q_e ?_)))
   rcases csplit hr with ⟨c9,hr⟩|⟨c9,hr⟩
   ·refine q_T H c9 (W_seq (W_reg (q_g 4 [(3,cN a1 0),(35,vB (a1.kind == 58))] H fun _ H=>?_)))
    rcases csplit hr with ⟨c10,hr⟩|⟨c10,hr⟩
    rotate_left
    ·rw [c10] at H
     refine q_g 15 [(4,vB false)] H fun _ H=>q_e (W_ret ?_)
     obtain rfl:=sj hr
     exact q_r [vB false] H K
    rw [c10] at H
    refine q_g 1 [(3,cN a1 0),(35,vB true),(36,aN a1)] H fun _ H=>?_
    obtain ⟨x11,hx11,hr⟩:=obind hr
    refine q_c (F104_R n a1 (bs [110,35]) x11 hx11 (p0:=.shut)) 0 [(3,cN a1 0),(35,vB true),(37,vB x11)] H fun _ H=>q_g 2 [(3,cN a1 0),(39,vB x11)] H fun _ H=>?_
    rcases csplit hr with ⟨c12,hr⟩|⟨c12,hr⟩
    rotate_left
    ·rw [c12] at H
     refine q_g 11 [(4,vB false)] H fun _ H=>q_e (W_ret ?_)
     obtain rfl:=sj hr
     exact q_r [vB false] H K
    rw [c12] at H
    refine q_g 2 [(3,cN a1 0),(39,vB true),(41,vS a1.name)] H fun _ H=>?_
    obtain ⟨x13,hx13,hr⟩:=obind hr
    refine q_c (F174_R n a1.name x13 hx13) 0 [(3,cN a1 0),(39,vB true),(42,vB x13)] H fun _ H=>q_g 2 [(3,cN a1 0),(44,vB x13)] H fun _ H=>?_
    rcases csplit hr with ⟨c14,hr⟩|⟨c14,hr⟩
    rotate_left
    ·rw [c14] at H
     refine q_g 6 [(4,vB false)] H fun _ H=>q_e (W_ret ?_)
     obtain rfl:=sj hr
     exact q_r [vB false] H K
    rw [c14] at H
    refine q_g 2 [(44,vB true),(46,kN a1)] H fun _ H=>?_
    refine q_v (.len 22 (kN a1)) [(44,vB true),(47,vI (a1.kids.length:Int))] H (run_len tNode (by kernel_rfl)) fun _ H=>q_g 3 [(4,vB ((a1.kids.length:Int) == 0))] H fun _ H=>q_e (W_ret ?_)
    obtain rfl:=sj hr
    exact q_r [vB ((a1.kids.length:Int) == 0)] H K
   refine q_F H c9 (W_seq (W_reg (q_g 2 [(3,cN a1 0),(5,vI a0),(50,vB (a0 == 4))] H fun _ H=>q_e ?_)))
   rcases csplit hr with ⟨c15,hr⟩|⟨c15,hr⟩
   ·refine q_T H c15 (W_seq (W_reg (q_g 1 [(52,aN a1)] H fun _ H=>?_)))
    obtain ⟨x16,hx16,hr⟩:=obind hr
    refine q_c (ih_F203 a1 x16 hx16 (p0:=.shut)) 0 [(53,vB x16)] H fun _ H=>q_g 1 [(4,vB x16)] H fun _ H=>q_e (W_ret ?_)
    obtain rfl:=sj hr
    exact q_r [vB x16] H K
   refine q_F H c15 (W_seq (W_reg (q_g 2 [(3,cN a1 0),(5,vI a0),(54,vB (a0 == 5))] H fun _ H=>q_e ?_)))
   rcases csplit hr with ⟨c17,hr⟩|⟨c17,hr⟩
   ·refine q_T H c17 (W_seq (W_reg (q_g 1 [(56,aN a1)] H fun _ H=>?_)))
    obtain ⟨x18,hx18,hr⟩:=obind hr
    refine q_c (ih_F204 a1 x18 hx18 (p0:=.shut)) 0 [(57,vB x18)] H fun _ H=>q_g 1 [(4,vB x18)] H fun _ H=>q_e (W_ret ?_)
    obtain rfl:=sj hr
    exact q_r [vB x18] H K
   refine q_F H c17 (W_seq (W_reg (q_g 2 [(3,cN a1 0),(5,vI a0),(58,vB (a0 == 6))] H fun _ H=>q_e ?_)))
   rcases csplit hr with ⟨c19,hr⟩|⟨c19,hr⟩
   ·refine q_T H c19 (W_seq (W_reg (q_g 4 [(3,cN a1 0),(63,vB (a1.kind == 1))] H fun _ H=>?_)))
    rcases csplit hr with ⟨c20,hr⟩|⟨c20,hr⟩
    rotate_left
    ·rw [c20] at H
     refine q_g 4 [(4,vB false)] H fun _ H=>q_e (W_ret ?_)
     obtain rfl:=sj hr
     exact q_r [vB false] H K
    rw [c20] at H
    refine q_g 1 [(63,vB true),(64,aN a1)] H fun _ H=>?_
    obtain ⟨x21,hx21,hr⟩:=obind hr
    refine q_c (ih_F106 a1 x21 hx21 (p0:=.shut)) 0 [(63,vB true),(65,vB x21)] H fun _ H=>q_g 2 [(4,vB x21)] H fun _ H=>q_e (W_ret ?_)
    obtain rfl:=sj hr
    exact q_r [vB x21] H K
   refine q_F H c19 (W_seq (W_reg (q_g 2 [(3,cN a1 0),(67,vB (a0 == 7))] H fun _ H=>q_e ?_)))
   rcases csplit hr with ⟨c22,hr⟩|⟨c22,hr⟩
   rotate_left
   ·refine q_F H c22 (W_skip (W_seq (W_reg (q_g 1 [(77,aN a1)] H fun _ H=>?_))))
    obtain ⟨x25,hx25,hr⟩:=obind hr
    refine q_c (ih_F106 a1 x25 hx25 (p0:=.shut)) 0 [(78,vB x25)] H fun _ H=>q_g 1 [(4,vB x25)] H fun _ H=>q_e (W_ret ?_)
    obtain rfl:=sj hr
    exact q_r [vB x25] H K
   refine q_T H c22 (W_seq (W_reg (q_g 1 [(3,cN a1 0),(69,aN a1)] H fun _ H=>?_)))
   obtain ⟨x23,hx23,hr⟩:=obind hr
   refine q_c (ih_F173 a1 x23 hx23 (p0:=.shut)) 0 [(3,cN a1 0),(70,vB x23)] H fun _ H=>q_g 1 [(3,cN a1 0),(71,vB x23)] H fun _ H=>?_
   rcases csplit hr with ⟨c24,hr⟩|⟨c24,hr⟩
   rotate_left
   ·rw [c24] at H
    refine q_g 6 [(4,vB false)] H fun _ H=>q_e (W_ret ?_)
    obtain rfl:=sj hr
    exact q_r [vB false] H K
   rw [c24] at H
   refine q_g 2 [(71,vB true),(73,kN a1)] H fun _ H=>?_
   refine q_v (.len 22 (kN a1)) [(71,vB true),(74,vI (a1.kids.length:Int))] H (run_len tNode (by kernel_rfl)) fun _ H=>q_g 3 [(4,vB ((a1.kids.length:Int) == 0))] H fun _ H=>q_e (W_ret ?_)
   obtain rfl:=sj hr
   exact q_r [vB ((a1.kids.length:Int) == 0)] H K
  ·intro a0 a1 r hr st p0
   change F105_step (F204 n) (F203 n) (F229 n) (F231 n) (F202 n) (F173 n) (F106 n) (F172 n) (F105 n) n a0 a1 = some r at hr
   unfold F105_step at hr
   refine R_pureX [aN a0,vI a1] [(0,aN a0),(1,vI a1)] (by kernel_rfl) Tryz.func105 rfl (by kernel_rfl) (by simp only [strip,stripL,stripL_cNode,Option.bind_some,Option.map_some]) rfl fun fr st H K=>W_seq (W_reg (q_g 2 [(1,vI a1),(2,cN a0 0)] H fun _ H=>q_e (W_seq (W_seq (W_reg (q_g 1 [(1,vI a1),(2,cN a0 0),(5,vI 0)] H fun _ H=>q_e (W_block ?_)))))))
   obtain ⟨r6,hr6,hr⟩:=obind hr
   refine W_iter hr6 (fun (s1:Int) fr st=>Rd fr [(1,vI a1),(2,cN a0 0),(5,vI s1)]∧HL st []) (fun (r6:Unit ⊕ Unit) e fr st=>match r6 with | .inl r6a=>(e = .ret∧Rd fr [(4,vB false)]∧HL st []) | .inr r6b=>(e = .exit 0∧Rd fr []∧HL st [])) ⟨H.tq,K.keep []⟩ ?_ ?_
   ·intro s1 fr st r hi hr
    obtain ⟨H,K⟩:=hi
    refine W_seq (W_seq (W_reg (q_g 3 [(1,vI a1),(2,cN a0 0),(5,vI s1),(6,vI s1),(8,kN a0)] H fun _ H=>?_)))
    refine q_v (.len 22 (kN a0)) [(1,vI a1),(2,cN a0 0),(5,vI s1),(6,vI s1),(9,vI (a0.kids.length:Int))] H (run_len tNode (by kernel_rfl)) fun _ H=>q_g 1 [(1,vI a1),(2,cN a0 0),(5,vI s1),(10,vB (decide (s1 < (a0.kids.length:Int))))] H fun _ H=>q_e ?_
    rcases csplit hr with ⟨c2,hr⟩|⟨c2,hr⟩
    rotate_left
    ·refine q_F H c2 ?_
     refine W_exit ?_
     obtain rfl:=sj hr
     exact ⟨by simp,⟨rfl,H.tq,K.keep []⟩⟩
    refine q_T H c2 (W_skip (W_seq (W_block (W_seq (W_reg (q_g 4 [(1,vI a1),(2,cN a0 0),(5,vI s1),(13,vI a1),(15,kN a0),(16,vI s1)] H fun _ H=>?_))))))
    obtain ⟨x3,hx3,hr⟩:=obind hr
    refine q_v (.indexAddr 22 (kN a0) (vI s1)) [(1,vI a1),(2,cN a0 0),(5,vI s1),(13,vI a1),(17,cN x3 0)] H (run_idxL tNode (by kernel_rfl) hx3) fun _ H=>q_g 1 [(1,vI a1),(2,cN a0 0),(5,vI s1),(13,vI a1),(18,aN x3)] H fun _ H=>?_
    obtain ⟨x4,hx4,hr⟩:=obind hr
    refine q_c (ih_F172 a1 x3 x4 hx4 (p0:=.shut)) 0 [(1,vI a1),(2,cN a0 0),(5,vI s1),(19,vB x4)] H fun _ H=>q_g 1 [(1,vI a1),(2,cN a0 0),(5,vI s1),(20,vB !x4)] H fun _ H=>q_e ?_
    rcases csplit hr with ⟨c5,hr⟩|⟨c5,hr⟩
    ·refine q_T H c5 (W_seq (W_reg (q_g 1 [(4,vB false)] H fun _ H=>q_e (W_ret ?_))))
     obtain rfl:=sj hr
     exact ⟨by simp,⟨rfl,H.tq,K.keep []⟩⟩
    refine q_F H c5 (W_skip (W_reg (q_g 3 [(1,vI a1),(2,cN a0 0),(5,vI (w64 (s1 + 1)))] H fun _ H=>q_e ?_)))
    obtain rfl:=sj hr
    exact ⟨rfl,⟨H.tq,K.keep []⟩⟩
   rcases r6 with r6a | r6b
   ·rintro e fr st ⟨rfl,H,K⟩
    obtain rfl:=sj hr
    exact q_r [vB false] H K
   rintro e fr st ⟨rfl,H,K⟩
   refine W_seq (W_reg (q_g 1 [(4,vB true)] H fun _ H=>q_e (W_ret ?_)))
   obtain rfl:=sj hr
   exact q_r [vB true] H K
theorem F106_R (n:Nat) (a0:Node) (r:Bool) (hr:F106 n a0 = some r) {st:St} {p0:Spare}:R Tryz.prog AN 106 [.agg (cNode p0 a0)] st (.ret (vB r)) st:=(F204_RR n).2.2.2.2.2.2.1 a0 r hr
theorem F105_R (n:Nat) (a0:Node) (a1:Int) (r:Bool) (hr:F105 n a0 a1 = some r) {st:St} {p0:Spare}:R Tryz.prog AN 105 [.agg (cNode p0 a0),vI a1] st (.ret (vB r)) st:=(F204_RR n).2.2.2.2.2.2.2.2 a0 a1 r hr
def F69 (n:Nat) (a0:Node):Option Bool := bif a0.kind == 62 then ((F104 n a0 (bs [])).bind fun x2 => bif x2 then ((F105 n a0 (5:Int)).bind fun x4 => some x4) else (some false)) else ((F106 n a0).bind fun x5 => some x5)
theorem F69_R (n:Nat) (a0:Node) (r:Bool) (hr:F69 n a0 = some r) {st:St} {p0:Spare}:R Tryz.prog AN 69 [.agg (cNode p0 a0)] st (.ret (vB r)) st:=by
 unfold F69 at hr
 refine R_pureX [aN a0] [(0,aN a0)] (by kernel_rfl) Tryz.func69 rfl (by kernel_rfl) (by simp only [strip,stripL,stripL_cNode,Option.bind_some,Option.map_some]) rfl fun fr st H K=>W_seq (W_reg (q_g 2 [(1,cN a0 0)] H fun _ H=>q_e (W_seq (W_seq (W_reg (q_g 3 [(1,cN a0 0),(5,vB (a0.kind == 62))] H fun _ H=>q_e ?_))))))
 rcases csplit hr with ⟨c1,hr⟩|⟨c1,hr⟩
 rotate_left
 ·refine q_F H c1 (W_skip (W_seq (W_reg (q_g 1 [(12,aN a0)] H fun _ H=>?_))))
  obtain ⟨x5,hx5,hr⟩:=obind hr
  refine q_c (F106_R n a0 x5 hx5 (p0:=.shut)) 0 [(13,vB x5)] H fun _ H=>q_g 1 [(2,vB x5)] H fun _ H=>q_e (W_ret ?_)
  obtain rfl:=sj hr
  exact q_r [vB x5] H K
 refine q_T H c1 (W_seq (W_reg (q_g 1 [(1,cN a0 0),(6,aN a0)] H fun _ H=>?_)))
 obtain ⟨x2,hx2,hr⟩:=obind hr
 refine q_c (F104_R n a0 (bs []) x2 hx2 (p0:=.shut)) 0 [(1,cN a0 0),(7,vB x2)] H fun _ H=>q_g 1 [(1,cN a0 0),(8,vB x2)] H fun _ H=>?_
 rcases csplit hr with ⟨c3,hr⟩|⟨c3,hr⟩
 rotate_left
 ·rw [c3] at H
  refine q_g 4 [(2,vB false)] H fun _ H=>q_e (W_ret ?_)
  obtain rfl:=sj hr
  exact q_r [vB false] H K
 rw [c3] at H
 refine q_g 1 [(8,vB true),(9,aN a0)] H fun _ H=>?_
 obtain ⟨x4,hx4,hr⟩:=obind hr
 refine q_c (F105_R n a0 (5:Int) x4 hx4 (p0:=.shut)) 0 [(8,vB true),(10,vB x4)] H fun _ H=>q_g 2 [(2,vB x4)] H fun _ H=>q_e (W_ret ?_)
 obtain rfl:=sj hr
 exact q_r [vB x4] H K
def F31 (n:Nat) (a0:Node):Option Bool := (F27 n a0).bind fun x1 => bif x1 then ((F69 n a0).bind fun x3 => some x3) else (some false)
theorem F31_R (n:Nat) (a0:Node) (r:Bool) (hr:F31 n a0 = some r) {st:St} {p0:Spare}:R Tryz.prog AN 31 [.agg (cNode p0 a0)] st (.ret (vB r)) st:=by
 unfold F31 at hr
 refine R_pureX [aN a0] [(0,aN a0)] (by kernel_rfl) Tryz.func31 rfl (by kernel_rfl) (by simp only [strip,stripL,stripL_cNode,Option.bind_some,Option.map_some]) rfl fun fr st H K=>W_seq (W_reg (q_g 2 [(1,cN a0 0)] H fun _ H=>q_e (W_seq (W_reg (q_g 1 [(1,cN a0 0),(3,aN a0)] H fun _ H=>?_)))))
 obtain ⟨x1,hx1,hr⟩:=obind hr
 refine q_c (F27_R n a0 x1 hx1 (p0:=.shut)) 0 [(1,cN a0 0),(4,vB x1)] H fun _ H=>q_g 1 [(1,cN a0 0),(5,vB x1)] H fun _ H=>?_
 rcases csplit hr with ⟨c2,hr⟩|⟨c2,hr⟩
 rotate_left
 ·rw [c2] at H
  refine q_g 4 [(2,vB false)] H fun _ H=>q_e (W_ret ?_)
  obtain rfl:=sj hr
  exact q_r [vB false] H K
 rw [c2] at H
 refine q_g 1 [(5,vB true),(6,aN a0)] H fun _ H=>?_
 obtain ⟨x3,hx3,hr⟩:=obind hr
 refine q_c (F69_R n a0 x3 hx3 (p0:=.shut)) 0 [(5,vB true),(7,vB x3)] H fun _ H=>q_g 2 [(2,vB x3)] H fun _ H=>q_e (W_ret ?_)
 obtain rfl:=sj hr
 exact q_r [vB x3] H K
def F120 (n:Nat) (a0:Int):Option ByteArray := (iter (σ:=ByteArray × Int) (ρ:=ByteArray) (fun s1=>bif decide (s1.2 < a0) then ((catS s1.1 (bs [32,32])).bind fun x3 => some (.inl (x3,w64 (s1.2 + 1)))) else (some (.inr s1.1))) n ((bs []),(0:Int))).bind fun r4 => some r4
def F175 (a0:ByteArray) (a1:Bool):Option ByteArray := bif a1 then ((catS a0 (bs [32])).bind fun x2 => some x2) else (some (bs []))
def F189 (a0:ByteArray):Option Int := bif strEq a0 (bs [61,61,62]) then (some (2:Int)) else (bif strEq a0 (bs [124,124]) then (some (3:Int)) else (bif strEq a0 (bs [38,38]) then (some (4:Int)) else (bif strEq a0 (bs [124]) then (some (6:Int)) else (bif strEq a0 (bs [94]) then (some (7:Int)) else (bif strEq a0 (bs [38]) then (some (8:Int)) else ((bif strEq a0 (bs [43]) then (some (strEq a0 (bs [43]))) else (some (strEq a0 (bs [45]))):Option (Bool)).bind fun j8 => bif j8 then (some (9:Int)) else (bif strEq a0 (bs [42]) then (some (10:Int)) else (some (5:Int)))))))))
theorem F189_R (a0:ByteArray) (r:Int) (hr:F189 a0 = some r) {st:St}:R Tryz.prog AN 189 [vS a0] st (.ret (vI r)) st:=by
 unfold F189 at hr
 refine pK [vS a0] [(0,vS a0)] Tryz.func189 rfl fun fr st H K=>W_seq (W_reg (q_g 1 [(0,vS a0)] H fun _ H=>q_e (W_seq (W_seq (W_reg (q_g 1 [(3,vS a0)] H fun _ H=>q_e (W_block (W_seq (W_reg (q_g 2 [(3,vS a0),(4,vB (strEq a0 (bs [61,61,62])))] H fun _ H=>q_e ?_))))))))))
 rcases csplit hr with ⟨c1,hr⟩|⟨c1,hr⟩
 ·refine q_T H c1 (W_seq (W_reg (q_g 1 [(2,vI 2)] H fun _ H=>q_e (W_ret ?_))))
  obtain rfl:=sj hr
  exact q_r [vI 2] H K
 refine q_F H c1 (W_seq (W_reg (q_g 2 [(3,vS a0),(6,vB (strEq a0 (bs [124,124])))] H fun _ H=>q_e ?_)))
 rcases csplit hr with ⟨c2,hr⟩|⟨c2,hr⟩
 ·refine q_T H c2 (W_seq (W_reg (q_g 1 [(2,vI 3)] H fun _ H=>q_e (W_ret ?_))))
  obtain rfl:=sj hr
  exact q_r [vI 3] H K
 refine q_F H c2 (W_seq (W_reg (q_g 2 [(3,vS a0),(8,vB (strEq a0 (bs [38,38])))] H fun _ H=>q_e ?_)))
 rcases csplit hr with ⟨c3,hr⟩|⟨c3,hr⟩
 ·refine q_T H c3 (W_seq (W_reg (q_g 1 [(2,vI 4)] H fun _ H=>q_e (W_ret ?_))))
  obtain rfl:=sj hr
  exact q_r [vI 4] H K
 refine q_F H c3 (W_seq (W_reg (q_g 2 [(3,vS a0),(10,vB (strEq a0 (bs [124])))] H fun _ H=>q_e ?_)))
 rcases csplit hr with ⟨c4,hr⟩|⟨c4,hr⟩
 ·refine q_T H c4 (W_seq (W_reg (q_g 1 [(2,vI 6)] H fun _ H=>q_e (W_ret ?_))))
  obtain rfl:=sj hr
  exact q_r [vI 6] H K
 refine q_F H c4 (W_seq (W_reg (q_g 2 [(3,vS a0),(12,vB (strEq a0 (bs [94])))] H fun _ H=>q_e ?_)))
 rcases csplit hr with ⟨c5,hr⟩|⟨c5,hr⟩
 ·refine q_T H c5 (W_seq (W_reg (q_g 1 [(2,vI 7)] H fun _ H=>q_e (W_ret ?_))))
  obtain rfl:=sj hr
  exact q_r [vI 7] H K
 refine q_F H c5 (W_seq (W_reg (q_g 2 [(3,vS a0),(14,vB (strEq a0 (bs [38])))] H fun _ H=>q_e ?_)))
 rcases csplit hr with ⟨c6,hr⟩|⟨c6,hr⟩
 ·refine q_T H c6 (W_seq (W_reg (q_g 1 [(2,vI 8)] H fun _ H=>q_e (W_ret ?_))))
  obtain rfl:=sj hr
  exact q_r [vI 8] H K
 refine q_F H c6 (W_seq ?_)
 obtain ⟨j8,hj8,hr⟩:=obind hr
 refine W_via (fun e fr st=>e = .normal∧Rd fr [(3,vS a0),(16,vB j8)]∧HL st []) ?_ ?_
 ·replace hr:=hj8
  refine W_seq (W_reg (q_g 2 [(3,vS a0),(16,vB (strEq a0 (bs [43])))] H fun _ H=>q_e ?_))
  rcases csplit hr with ⟨c7,hr⟩|⟨c7,hr⟩
  ·refine q_T H c7 (W_skip ?_)
   obtain rfl:=sj hr
   exact ⟨rfl,H.to (env':=_) (fun _=>by kernel_rfl),K.keep []⟩
  refine q_F H c7 (W_reg (q_g 2 [(3,vS a0),(16,vB (strEq a0 (bs [45])))] H fun _ H=>q_e ?_))
  obtain rfl:=sj hr
  exact ⟨rfl,H.to (env':=_) (fun _=>by kernel_rfl),K.keep []⟩
 rintro e fr st ⟨rfl,H,K⟩
 rcases csplit hr with ⟨c9,hr⟩|⟨c9,hr⟩
 ·refine q_T H c9 (W_seq (W_reg (q_g 1 [(2,vI 9)] H fun _ H=>q_e (W_ret ?_))))
  obtain rfl:=sj hr
  exact q_r [vI 9] H K
 refine q_F H c9 (W_seq (W_reg (q_g 2 [(19,vB (strEq a0 (bs [42])))] H fun _ H=>q_e ?_)))
 rcases csplit hr with ⟨c10,hr⟩|⟨c10,hr⟩
 ·refine q_T H c10 (W_seq (W_reg (q_g 1 [(2,vI 10)] H fun _ H=>q_e (W_ret ?_))))
  obtain rfl:=sj hr
  exact q_r [vI 10] H K
 refine q_F H c10 (W_skip (W_seq (W_reg (q_g 1 [(2,vI 5)] H fun _ H=>q_e (W_ret ?_)))))
 obtain rfl:=sj hr
 exact q_r [vI 5] H K
def F188 (a0:Node):Option Int := (bif a0.kind == 7 then (some (a0.kind == 7)) else (some (a0.kind == 8)):Option (Bool)).bind fun j2 => bif j2 then (some (0:Int)) else (bif a0.kind == 6 then (some (1:Int)) else (bif a0.kind == 4 then (some (11:Int)) else (bif a0.kind == 5 then ((F189 a0.name).bind fun x7 => some x7) else (some (12:Int)))))
theorem F188_R (a0:Node) (r:Int) (hr:F188 a0 = some r) {st:St} {p0:Spare}:R Tryz.prog AN 188 [.agg (cNode p0 a0)] st (.ret (vI r)) st:=by
 unfold F188 at hr
 refine R_pureX [aN a0] [(0,aN a0)] (by kernel_rfl) Tryz.func188 rfl (by kernel_rfl) (by simp only [strip,stripL,stripL_cNode,Option.bind_some,Option.map_some]) rfl fun fr st H K=>W_seq (W_reg (q_g 2 [(1,cN a0 0)] H fun _ H=>q_e (W_seq (W_seq (W_reg (q_g 2 [(1,cN a0 0),(4,vI a0.kind)] H fun _ H=>q_e (W_block (W_seq ?_))))))))
 obtain ⟨j2,hj2,hr⟩:=obind hr
 refine W_via (fun e fr st=>e = .normal∧Rd fr [(1,cN a0 0),(4,vI a0.kind),(5,vB j2)]∧HL st []) ?_ ?_
 ·replace hr:=hj2
  refine W_seq (W_reg (q_g 2 [(1,cN a0 0),(4,vI a0.kind),(5,vB (a0.kind == 7))] H fun _ H=>q_e ?_))
  rcases csplit hr with ⟨c1,hr⟩|⟨c1,hr⟩
  ·refine q_T H c1 (W_skip ?_)
   obtain rfl:=sj hr
   exact ⟨rfl,H.to (env':=_) (fun _=>by kernel_rfl),K.keep []⟩
  refine q_F H c1 (W_reg (q_g 2 [(1,cN a0 0),(4,vI a0.kind),(5,vB (a0.kind == 8))] H fun _ H=>q_e ?_))
  obtain rfl:=sj hr
  exact ⟨rfl,H.to (env':=_) (fun _=>by kernel_rfl),K.keep []⟩
 rintro e fr st ⟨rfl,H,K⟩
 rcases csplit hr with ⟨c3,hr⟩|⟨c3,hr⟩
 ·refine q_T H c3 (W_seq (W_reg (q_g 1 [(2,vI 0)] H fun _ H=>q_e (W_ret ?_))))
  obtain rfl:=sj hr
  exact q_r [vI 0] H K
 refine q_F H c3 (W_seq (W_reg (q_g 2 [(1,cN a0 0),(4,vI a0.kind),(8,vB (a0.kind == 6))] H fun _ H=>q_e ?_)))
 rcases csplit hr with ⟨c4,hr⟩|⟨c4,hr⟩
 ·refine q_T H c4 (W_seq (W_reg (q_g 1 [(2,vI 1)] H fun _ H=>q_e (W_ret ?_))))
  obtain rfl:=sj hr
  exact q_r [vI 1] H K
 refine q_F H c4 (W_seq (W_reg (q_g 2 [(1,cN a0 0),(4,vI a0.kind),(10,vB (a0.kind == 4))] H fun _ H=>q_e ?_)))
 rcases csplit hr with ⟨c5,hr⟩|⟨c5,hr⟩
 ·refine q_T H c5 (W_seq (W_reg (q_g 1 [(2,vI 11)] H fun _ H=>q_e (W_ret ?_))))
  obtain rfl:=sj hr
  exact q_r [vI 11] H K
 refine q_F H c5 (W_seq (W_reg (q_g 2 [(1,cN a0 0),(12,vB (a0.kind == 5))] H fun _ H=>q_e ?_)))
 rcases csplit hr with ⟨c6,hr⟩|⟨c6,hr⟩
 rotate_left
 ·refine q_F H c6 (W_skip (W_seq (W_reg (q_g 1 [(2,vI 12)] H fun _ H=>q_e (W_ret ?_)))))
  obtain rfl:=sj hr
  exact q_r [vI 12] H K
 refine q_T H c6 (W_seq (W_reg (q_g 2 [(15,vS a0.name)] H fun _ H=>?_)))
 obtain ⟨x7,hx7,hr⟩:=obind hr
 refine q_c (F189_R  a0.name x7 hx7) 0 [(16,vI x7)] H fun _ H=>q_g 1 [(2,vI x7)] H fun _ H=>q_e (W_ret ?_)
 obtain rfl:=sj hr
 exact q_r [vI x7] H K
def F131 (a0:ByteArray):Option (Int × Int) := (F189 a0).bind fun x1 => bif x1 == 2 then (some ((3:Int),(2:Int))) else (bif x1 == 5 then (some ((6:Int),(6:Int))) else (some (x1,w64 (x1 + 1))))
theorem F131_R (a0:ByteArray) (r:Int × Int) (hr:F131 a0 = some r) {st:St}:R Tryz.prog AN 131 [vS a0] st (.ret (.tuple [vI r.1,vI r.2])) st:=by
 unfold F131 at hr
 refine pK [vS a0] [(0,vS a0)] Tryz.func131 rfl fun fr st H K=>W_seq (W_reg (q_g 2 [(0,vS a0)] H fun _ H=>q_e (W_seq (W_reg (q_g 1 [(5,vS a0)] H fun _ H=>?_)))))
 obtain ⟨x1,hx1,hr⟩:=obind hr
 refine q_c (F189_R  a0 x1 hx1) 0 [(6,vI x1)] H fun _ H=>q_g 1 [(4,vI x1)] H fun _ H=>q_e (W_seq (W_seq (W_reg (q_g 2 [(4,vI x1),(8,vB (x1 == 2))] H fun _ H=>q_e ?_))))
 rcases csplit hr with ⟨c2,hr⟩|⟨c2,hr⟩
 ·refine q_T H c2 (W_seq (W_reg (q_g 2 [(2,vI 3),(3,vI 2)] H fun _ H=>q_e (W_ret ?_))))
  obtain rfl:=sj hr
  exact e_ret [vI 3,vI 2] H K (fun _=>resT (by kernel_rfl) (resT (by kernel_rfl) resN)) (fun _=>by kernel_rfl)
 refine q_F H c2 (W_skip (W_seq (W_seq (W_reg (q_g 2 [(4,vI x1),(10,vB (x1 == 5))] H fun _ H=>q_e ?_)))))
 rcases csplit hr with ⟨c3,hr⟩|⟨c3,hr⟩
 ·refine q_T H c3 (W_seq (W_reg (q_g 2 [(2,vI 6),(3,vI 6)] H fun _ H=>q_e (W_ret ?_))))
  obtain rfl:=sj hr
  exact e_ret [vI 6,vI 6] H K (fun _=>resT (by kernel_rfl) (resT (by kernel_rfl) resN)) (fun _=>by kernel_rfl)
 refine q_F H c3 (W_skip (W_seq (W_reg (q_g 5 [(2,vI x1),(3,vI (w64 (x1 + 1)))] H fun _ H=>q_e (W_ret ?_)))))
 obtain rfl:=sj hr
 exact e_ret [vI x1,vI (w64 (x1 + 1))] H K (fun _=>resT (by kernel_rfl) (resT (by kernel_rfl) resN)) (fun _=>by kernel_rfl)
def F130_step (_:Node→Int→Option ByteArray) (F80:Node→Option ByteArray) (_:Nat) (a0:Node) (a1:Int):Option ByteArray := (F188 a0).bind fun x1 => bif decide (x1 < a1) then ((F80 a0).bind fun x3 => (catS (bs [40]) x3).bind fun x4 => (catS x4 (bs [41])).bind fun x5 => some x5) else ((F80 a0).bind fun x6 => some x6)
def F80_step (F130:Node→Int→Option ByteArray) (_:Node→Option ByteArray) (_:Nat) (a0:Node):Option ByteArray := bif a0.kind == 1 then ((itoaF a0.n).bind fun x2 => some x2) else (bif a0.kind == 2 then (bif (a0.kids.length:Int) == 0 then (some a0.name) else ((catS a0.name (bs [91])).bind fun x5 => (idxL a0.kids 0).bind fun x6 => (F130 x6 (0:Int)).bind fun x7 => (catS x5 x7).bind fun x8 => (catS x8 (bs [93])).bind fun x9 => some x9)) else (bif a0.kind == 3 then ((idxL a0.kids 0).bind fun x11 => (F130 x11 (0:Int)).bind fun x12 => (catS (bs [111,108,100,40]) x12).bind fun x13 => (catS x13 (bs [41])).bind fun x14 => some x14) else (bif a0.kind == 4 then ((idxL a0.kids 0).bind fun x16 => (F130 x16 (11:Int)).bind fun x17 => (catS (bs [33]) x17).bind fun x18 => some x18) else (bif a0.kind == 5 then ((F131 a0.name).bind fun x20 => (idxL a0.kids 0).bind fun x21 => (F130 x21 x20.1).bind fun x22 => (catS x22 (bs [32])).bind fun x23 => (catS x23 a0.name).bind fun x24 => (catS x24 (bs [32])).bind fun x25 => (idxL a0.kids 1).bind fun x26 => (F130 x26 x20.2).bind fun x27 => (catS x25 x27).bind fun x28 => some x28) else (bif a0.kind == 6 then ((idxL a0.kids 0).bind fun x30 => (F130 x30 (2:Int)).bind fun x31 => (catS x31 (bs [32,63,32])).bind fun x32 => (idxL a0.kids 1).bind fun x33 => (F130 x33 (1:Int)).bind fun x34 => (catS x32 x34).bind fun x35 => (catS x35 (bs [32,58,32])).bind fun x36 => (idxL a0.kids 2).bind fun x37 => (F130 x37 (1:Int)).bind fun x38 => (catS x36 x38).bind fun x39 => some x39) else ((bif a0.kind == 8 then (some (bs [115,111,109,101,32])) else (some (bs [97,108,108,32])):Option (ByteArray)).bind fun j41 => (catS j41 a0.name).bind fun x42 => (catS x42 (bs [32,60,32])).bind fun x43 => (itoaF a0.n).bind fun x44 => (catS x43 x44).bind fun x45 => (catS x45 (bs [32,58,32])).bind fun x46 => (idxL a0.kids 0).bind fun x47 => (F130 x47 (0:Int)).bind fun x48 => (catS x46 x48).bind fun x49 => some x49))))))
mutual
def F130:Nat→Node→Int→Option ByteArray
 | 0,_,_=>none
 | n + 1,a0,a1=>F130_step (F130 n) (F80 n) n a0 a1
def F80:Nat→Node→Option ByteArray
 | 0,_=>none
 | n + 1,a0=>F80_step (F130 n) (F80 n) n a0
end
theorem F130_RR (n:Nat):(∀ (a0:Node) (a1:Int) (r:ByteArray),F130 n a0 a1 = some r→∀ {st:St} {p0:Spare},R Tryz.prog AN 130 [.agg (cNode p0 a0),vI a1] st (.ret (vS r)) st)∧(∀ (a0:Node) (r:ByteArray),F80 n a0 = some r→∀ {st:St} {p0:Spare},R Tryz.prog AN 80 [.agg (cNode p0 a0)] st (.ret (vS r)) st):=by
 induction n with
 | zero=>exact ⟨by intros; contradiction,by intros; contradiction⟩
 | succ n ih =>
  obtain ⟨ih_F130,ih_F80⟩:=ih
  refine ⟨?_,?_⟩
  ·intro a0 a1 r hr st p0
   change F130_step (F130 n) (F80 n) n a0 a1 = some r at hr
   unfold F130_step at hr
   refine R_pureX [aN a0,vI a1] [(0,aN a0),(1,vI a1)] (by kernel_rfl) Tryz.func130 rfl (by kernel_rfl) (by simp only [strip,stripL,stripL_cNode,Option.bind_some,Option.map_some]) rfl fun fr st H K=>W_seq (W_reg (q_g 2 [(1,vI a1),(2,cN a0 0)] H fun _ H=>q_e (W_seq (W_seq (W_reg (q_g 1 [(1,vI a1),(2,cN a0 0),(5,aN a0)] H fun _ H=>?_))))))
   obtain ⟨x1,hx1,hr⟩:=obind hr
   refine q_c (F188_R  a0 x1 hx1 (p0:=.shut)) 0 [(1,vI a1),(2,cN a0 0),(6,vI x1)] H fun _ H=>q_g 2 [(2,cN a0 0),(8,vB (decide (x1 < a1)))] H fun _ H=>q_e ?_
   rcases csplit hr with ⟨c2,hr⟩|⟨c2,hr⟩
   rotate_left
   ·refine q_F H c2 (W_skip (W_seq (W_reg (q_g 1 [(13,aN a0)] H fun _ H=>?_))))
    obtain ⟨x6,hx6,hr⟩:=obind hr
    refine q_c (ih_F80 a0 x6 hx6 (p0:=.shut)) 0 [(14,vS x6)] H fun _ H=>q_g 1 [(4,vS x6)] H fun _ H=>q_e (W_ret ?_)
    obtain rfl:=sj hr
    exact q_r [vS x6] H K
   refine q_T H c2 (W_seq (W_reg (q_g 1 [(9,aN a0)] H fun _ H=>?_)))
   obtain ⟨x3,hx3,hr⟩:=obind hr
   refine q_c (ih_F80 a0 x3 hx3 (p0:=.shut)) 0 [(10,vS x3)] H fun _ H=>?_
   obtain ⟨x4,hx4,hr⟩:=obind hr
   refine q_v (.bin .add 9 (.const (.string (bs [40]))) (.tmp 10) (vS (bs [40])) (vS x3)) [(11,vS x4)] H (run_cat hx4) fun _ H=>?_
   obtain ⟨x5,hx5,hr⟩:=obind hr
   refine q_v (.bin .add 9 (.tmp 11) (.const (.string (bs [41]))) (vS x4) (vS (bs [41]))) [(12,vS x5)] H (run_cat hx5) fun _ H=>q_g 1 [(4,vS x5)] H fun _ H=>q_e (W_ret ?_)
   obtain rfl:=sj hr
   exact q_r [vS x5] H K
  ·intro a0 r hr st p0
   change F80_step (F130 n) (F80 n) n a0 = some r at hr
   unfold F80_step at hr
   refine R_pureX [aN a0] [(0,aN a0)] (by kernel_rfl) Tryz.func80 rfl (by kernel_rfl) (by simp only [strip,stripL,stripL_cNode,Option.bind_some,Option.map_some]) rfl fun fr st H K=>W_seq (W_reg (q_g 2 [(1,cN a0 0)] H fun _ H=>q_e (W_seq (W_seq (W_reg (q_g 2 [(1,cN a0 0),(7,vI a0.kind)] H fun _ H=>q_e (W_block (W_seq (W_reg (q_g 2 [(1,cN a0 0),(7,vI a0.kind),(8,vB (a0.kind == 1))] H fun _ H=>q_e ?_))))))))))
   rcases csplit hr with ⟨c1,hr⟩|⟨c1,hr⟩
   ·refine q_T H c1 (W_seq (W_reg (q_g 2 [(11,vI a0.n)] H fun _ H=>?_)))
    obtain ⟨x2,hx2,hr⟩:=obind hr
    refine q_c (itoa_R a0.n x2 hx2) 0 [(12,vS x2)] H fun _ H=>q_g 1 [(2,vS x2)] H fun _ H=>q_e (W_ret ?_)
    obtain rfl:=sj hr
    exact q_r [vS x2] H K
   refine q_F H c1 (W_seq (W_reg (q_g 2 [(1,cN a0 0),(7,vI a0.kind),(13,vB (a0.kind == 2))] H fun _ H=>q_e ?_)))
   rcases csplit hr with ⟨c3,hr⟩|⟨c3,hr⟩
   ·refine q_T H c3 (W_seq (W_seq (W_reg (q_g 2 [(1,cN a0 0),(16,kN a0)] H fun _ H=>?_))))
    refine q_v (.len 22 (kN a0)) [(1,cN a0 0),(17,vI (a0.kids.length:Int))] H (run_len tNode (by kernel_rfl)) fun _ H=>q_g 1 [(1,cN a0 0),(18,vB ((a0.kids.length:Int) == 0))] H fun _ H=>q_e ?_
    rcases csplit hr with ⟨c4,hr⟩|⟨c4,hr⟩
    ·refine q_T H c4 (W_seq (W_reg (q_g 3 [(2,vS a0.name)] H fun _ H=>q_e (W_ret ?_))))
     obtain rfl:=sj hr
     exact q_r [vS a0.name] H K
    refine q_F H c4 (W_skip (W_seq (W_drw (q_g 2 [(1,cN a0 0),(22,vS a0.name)] H fun _ H=>?_))))
    obtain ⟨x5,hx5,hr⟩:=obind hr
    refine q_v (.bin .add 9 (.tmp 22) (.const (.string (bs [91]))) (vS a0.name) (vS (bs [91]))) [(1,cN a0 0),(23,vS x5)] H (run_cat hx5) fun _ H=>q_g 2 [(23,vS x5),(25,kN a0)] H fun _ H=>?_
    obtain ⟨x6,hx6,hr⟩:=obind hr
    refine q_v (.indexAddr 22 (kN a0) (vI 0)) [(23,vS x5),(26,cN x6 0)] H (run_idxL tNode (by kernel_rfl) hx6) fun _ H=>q_g 1 [(23,vS x5),(27,aN x6)] H fun _ H=>?_
    obtain ⟨x7,hx7,hr⟩:=obind hr
    refine q_c (ih_F130 x6 (0:Int) x7 hx7 (p0:=.shut)) 0 [(23,vS x5),(28,vS x7)] H fun _ H=>?_
    obtain ⟨x8,hx8,hr⟩:=obind hr
    refine q_v (.bin .add 9 (.tmp 23) (.tmp 28) (vS x5) (vS x7)) [(29,vS x8)] H (run_cat hx8) fun _ H=>?_
    obtain ⟨x9,hx9,hr⟩:=obind hr
    refine q_v (.bin .add 9 (.tmp 29) (.const (.string (bs [93]))) (vS x8) (vS (bs [93]))) [(30,vS x9)] H (run_cat hx9) fun _ H=>q_g 1 [(2,vS x9)] H fun _ H=>q_e (q_d (W_ret ?_))
    obtain rfl:=sj hr
    exact q_r [vS x9] H K
   refine q_F H c3 (W_seq (W_reg (q_g 2 [(1,cN a0 0),(7,vI a0.kind),(31,vB (a0.kind == 3))] H fun _ H=>q_e ?_)))
   rcases csplit hr with ⟨c10,hr⟩|⟨c10,hr⟩
   ·refine q_T H c10 (W_seq (W_reg (q_g 2 [(34,kN a0)] H fun _ H=>?_)))
    obtain ⟨x11,hx11,hr⟩:=obind hr
    refine q_v (.indexAddr 22 (kN a0) (vI 0)) [(35,cN x11 0)] H (run_idxL tNode (by kernel_rfl) hx11) fun _ H=>q_g 1 [(36,aN x11)] H fun _ H=>?_
    obtain ⟨x12,hx12,hr⟩:=obind hr
    refine q_c (ih_F130 x11 (0:Int) x12 hx12 (p0:=.shut)) 0 [(37,vS x12)] H fun _ H=>?_
    obtain ⟨x13,hx13,hr⟩:=obind hr
    refine q_v (.bin .add 9 (.const (.string (bs [111,108,100,40]))) (.tmp 37) (vS (bs [111,108,100,40])) (vS x12)) [(38,vS x13)] H (run_cat hx13) fun _ H=>?_
    obtain ⟨x14,hx14,hr⟩:=obind hr
    refine q_v (.bin .add 9 (.tmp 38) (.const (.string (bs [41]))) (vS x13) (vS (bs [41]))) [(39,vS x14)] H (run_cat hx14) fun _ H=>q_g 1 [(2,vS x14)] H fun _ H=>q_e (W_ret ?_)
    obtain rfl:=sj hr
    exact q_r [vS x14] H K
   refine q_F H c10 (W_seq (W_reg (q_g 2 [(1,cN a0 0),(7,vI a0.kind),(40,vB (a0.kind == 4))] H fun _ H=>q_e ?_)))
   rcases csplit hr with ⟨c15,hr⟩|⟨c15,hr⟩
   ·refine q_T H c15 (W_seq (W_reg (q_g 2 [(43,kN a0)] H fun _ H=>?_)))
    obtain ⟨x16,hx16,hr⟩:=obind hr
    refine q_v (.indexAddr 22 (kN a0) (vI 0)) [(44,cN x16 0)] H (run_idxL tNode (by kernel_rfl) hx16) fun _ H=>q_g 1 [(45,aN x16)] H fun _ H=>?_
    obtain ⟨x17,hx17,hr⟩:=obind hr
    refine q_c (ih_F130 x16 (11:Int) x17 hx17 (p0:=.shut)) 0 [(46,vS x17)] H fun _ H=>?_
    obtain ⟨x18,hx18,hr⟩:=obind hr
    refine q_v (.bin .add 9 (.const (.string (bs [33]))) (.tmp 46) (vS (bs [33])) (vS x17)) [(47,vS x18)] H (run_cat hx18) fun _ H=>q_g 1 [(2,vS x18)] H fun _ H=>q_e (W_ret ?_)
    obtain rfl:=sj hr
    exact q_r [vS x18] H K
   refine q_F H c15 (W_seq (W_reg (q_g 2 [(1,cN a0 0),(7,vI a0.kind),(48,vB (a0.kind == 5))] H fun _ H=>q_e ?_)))
   rcases csplit hr with ⟨c19,hr⟩|⟨c19,hr⟩
   ·refine q_T H c19 (W_seq (W_reg (q_g 2 [(1,cN a0 0),(52,vS a0.name)] H fun _ H=>?_)))
    obtain ⟨x20,hx20,hr⟩:=obind hr
    refine q_c (F131_R  a0.name x20 hx20) 0 [(1,cN a0 0),(53,.tuple [vI x20.1,vI x20.2])] H fun _ H=>q_g 5 [(1,cN a0 0),(3,vI x20.1),(4,vI x20.2)] H fun _ H=>q_e (W_seq (W_drw (q_g 2 [(1,cN a0 0),(3,vI x20.1),(4,vI x20.2),(57,kN a0)] H fun _ H=>?_)))
    obtain ⟨x21,hx21,hr⟩:=obind hr
    refine q_v (.indexAddr 22 (kN a0) (vI 0)) [(1,cN a0 0),(3,vI x20.1),(4,vI x20.2),(58,cN x21 0)] H (run_idxL tNode (by kernel_rfl) hx21) fun _ H=>q_g 2 [(1,cN a0 0),(4,vI x20.2),(59,aN x21),(60,vI x20.1)] H fun _ H=>?_
    obtain ⟨x22,hx22,hr⟩:=obind hr
    refine q_c (ih_F130 x21 x20.1 x22 hx22 (p0:=.shut)) 0 [(1,cN a0 0),(4,vI x20.2),(61,vS x22)] H fun _ H=>?_
    obtain ⟨x23,hx23,hr⟩:=obind hr
    refine q_v (.bin .add 9 (.tmp 61) (.const (.string (bs [32]))) (vS x22) (vS (bs [32]))) [(1,cN a0 0),(4,vI x20.2),(62,vS x23)] H (run_cat hx23) fun _ H=>q_g 2 [(1,cN a0 0),(4,vI x20.2),(62,vS x23),(64,vS a0.name)] H fun _ H=>?_
    obtain ⟨x24,hx24,hr⟩:=obind hr
    refine q_v (.bin .add 9 (.tmp 62) (.tmp 64) (vS x23) (vS a0.name)) [(1,cN a0 0),(4,vI x20.2),(65,vS x24)] H (run_cat hx24) fun _ H=>?_
    obtain ⟨x25,hx25,hr⟩:=obind hr
    refine q_v (.bin .add 9 (.tmp 65) (.const (.string (bs [32]))) (vS x24) (vS (bs [32]))) [(1,cN a0 0),(4,vI x20.2),(66,vS x25)] H (run_cat hx25) fun _ H=>q_g 2 [(4,vI x20.2),(66,vS x25),(68,kN a0)] H fun _ H=>?_
    obtain ⟨x26,hx26,hr⟩:=obind hr
    refine q_v (.indexAddr 22 (kN a0) (vI 1)) [(4,vI x20.2),(66,vS x25),(69,cN x26 0)] H (run_idxL tNode (by kernel_rfl) hx26) fun _ H=>q_g 2 [(66,vS x25),(70,aN x26),(71,vI x20.2)] H fun _ H=>?_
    obtain ⟨x27,hx27,hr⟩:=obind hr
    refine q_c (ih_F130 x26 x20.2 x27 hx27 (p0:=.shut)) 0 [(66,vS x25),(72,vS x27)] H fun _ H=>?_
    obtain ⟨x28,hx28,hr⟩:=obind hr
    refine q_v (.bin .add 9 (.tmp 66) (.tmp 72) (vS x25) (vS x27)) [(73,vS x28)] H (run_cat hx28) fun _ H=>q_g 1 [(2,vS x28)] H fun _ H=>q_e (q_d (W_ret ?_))
    obtain rfl:=sj hr
    exact q_r [vS x28] H K
   refine q_F H c19 (W_seq (W_reg (q_g 2 [(1,cN a0 0),(74,vB (a0.kind == 6))] H fun _ H=>q_e ?_)))
   rcases csplit hr with ⟨c29,hr⟩|⟨c29,hr⟩
   ·refine q_T H c29 (W_seq (W_drw (q_g 2 [(1,cN a0 0),(77,kN a0)] H fun _ H=>?_)))
    obtain ⟨x30,hx30,hr⟩:=obind hr
    refine q_v (.indexAddr 22 (kN a0) (vI 0)) [(1,cN a0 0),(78,cN x30 0)] H (run_idxL tNode (by kernel_rfl) hx30) fun _ H=>q_g 1 [(1,cN a0 0),(79,aN x30)] H fun _ H=>?_
    obtain ⟨x31,hx31,hr⟩:=obind hr
    refine q_c (ih_F130 x30 (2:Int) x31 hx31 (p0:=.shut)) 0 [(1,cN a0 0),(80,vS x31)] H fun _ H=>?_
    obtain ⟨x32,hx32,hr⟩:=obind hr
    refine q_v (.bin .add 9 (.tmp 80) (.const (.string (bs [32,63,32]))) (vS x31) (vS (bs [32,63,32]))) [(1,cN a0 0),(81,vS x32)] H (run_cat hx32) fun _ H=>q_g 2 [(1,cN a0 0),(81,vS x32),(83,kN a0)] H fun _ H=>?_
    obtain ⟨x33,hx33,hr⟩:=obind hr
    refine q_v (.indexAddr 22 (kN a0) (vI 1)) [(1,cN a0 0),(81,vS x32),(84,cN x33 0)] H (run_idxL tNode (by kernel_rfl) hx33) fun _ H=>q_g 1 [(1,cN a0 0),(81,vS x32),(85,aN x33)] H fun _ H=>?_
    obtain ⟨x34,hx34,hr⟩:=obind hr
    refine q_c (ih_F130 x33 (1:Int) x34 hx34 (p0:=.shut)) 0 [(1,cN a0 0),(81,vS x32),(86,vS x34)] H fun _ H=>?_
    obtain ⟨x35,hx35,hr⟩:=obind hr
    refine q_v (.bin .add 9 (.tmp 81) (.tmp 86) (vS x32) (vS x34)) [(1,cN a0 0),(87,vS x35)] H (run_cat hx35) fun _ H=>?_
    obtain ⟨x36,hx36,hr⟩:=obind hr
    refine q_v (.bin .add 9 (.tmp 87) (.const (.string (bs [32,58,32]))) (vS x35) (vS (bs [32,58,32]))) [(1,cN a0 0),(88,vS x36)] H (run_cat hx36) fun _ H=>q_g 2 [(88,vS x36),(90,kN a0)] H fun _ H=>?_
    obtain ⟨x37,hx37,hr⟩:=obind hr
    refine q_v (.indexAddr 22 (kN a0) (vI 2)) [(88,vS x36),(91,cN x37 0)] H (run_idxL tNode (by kernel_rfl) hx37) fun _ H=>q_g 1 [(88,vS x36),(92,aN x37)] H fun _ H=>?_
    obtain ⟨x38,hx38,hr⟩:=obind hr
    refine q_c (ih_F130 x37 (1:Int) x38 hx38 (p0:=.shut)) 0 [(88,vS x36),(93,vS x38)] H fun _ H=>?_
    obtain ⟨x39,hx39,hr⟩:=obind hr
    refine q_v (.bin .add 9 (.tmp 88) (.tmp 93) (vS x36) (vS x38)) [(94,vS x39)] H (run_cat hx39) fun _ H=>q_g 1 [(2,vS x39)] H fun _ H=>q_e (q_d (W_ret ?_))
    obtain rfl:=sj hr
    exact q_r [vS x39] H K
   refine q_F H c29 (W_skip (W_seq (W_reg (q_g 1 [(1,cN a0 0),(5,vS (bs [97,108,108,32]))] H fun _ H=>q_e (W_seq ?_)))))
   obtain ⟨j41,hj41,hr⟩:=obind hr
   refine W_via (fun e fr st=>e = .normal∧Rd fr [(1,cN a0 0),(5,vS j41)]∧HL st []) ?_ ?_
   ·replace hr:=hj41
    refine W_seq (W_reg (q_g 3 [(1,cN a0 0),(5,vS (bs [97,108,108,32])),(97,vB (a0.kind == 8))] H fun _ H=>q_e ?_))
    rcases csplit hr with ⟨c40,hr⟩|⟨c40,hr⟩
    rotate_left
    ·refine q_F H c40 (W_skip ?_)
     obtain rfl:=sj hr
     exact ⟨rfl,H.to (env':=_) (fun _=>by kernel_rfl),K.keep []⟩
    refine q_T H c40 (W_reg (q_g 1 [(1,cN a0 0),(5,vS (bs [115,111,109,101,32]))] H fun _ H=>q_e ?_))
    obtain rfl:=sj hr
    exact ⟨rfl,H.to (env':=_) (fun _=>by kernel_rfl),K.keep []⟩
   rintro e fr st ⟨rfl,H,K⟩
   refine W_seq (W_drw (q_g 3 [(1,cN a0 0),(98,vS j41),(100,vS a0.name)] H fun _ H=>?_))
   obtain ⟨x42,hx42,hr⟩:=obind hr
   refine q_v (.bin .add 9 (.tmp 98) (.tmp 100) (vS j41) (vS a0.name)) [(1,cN a0 0),(101,vS x42)] H (run_cat hx42) fun _ H=>?_
   obtain ⟨x43,hx43,hr⟩:=obind hr
   refine q_v (.bin .add 9 (.tmp 101) (.const (.string (bs [32,60,32]))) (vS x42) (vS (bs [32,60,32]))) [(1,cN a0 0),(102,vS x43)] H (run_cat hx43) fun _ H=>q_g 2 [(1,cN a0 0),(102,vS x43),(104,vI a0.n)] H fun _ H=>?_
   obtain ⟨x44,hx44,hr⟩:=obind hr
   refine q_c (itoa_R a0.n x44 hx44) 0 [(1,cN a0 0),(102,vS x43),(105,vS x44)] H fun _ H=>?_
   obtain ⟨x45,hx45,hr⟩:=obind hr
   refine q_v (.bin .add 9 (.tmp 102) (.tmp 105) (vS x43) (vS x44)) [(1,cN a0 0),(106,vS x45)] H (run_cat hx45) fun _ H=>?_
   obtain ⟨x46,hx46,hr⟩:=obind hr
   refine q_v (.bin .add 9 (.tmp 106) (.const (.string (bs [32,58,32]))) (vS x45) (vS (bs [32,58,32]))) [(1,cN a0 0),(107,vS x46)] H (run_cat hx46) fun _ H=>q_g 2 [(107,vS x46),(109,kN a0)] H fun _ H=>?_
   obtain ⟨x47,hx47,hr⟩:=obind hr
   refine q_v (.indexAddr 22 (kN a0) (vI 0)) [(107,vS x46),(110,cN x47 0)] H (run_idxL tNode (by kernel_rfl) hx47) fun _ H=>q_g 1 [(107,vS x46),(111,aN x47)] H fun _ H=>?_
   obtain ⟨x48,hx48,hr⟩:=obind hr
   refine q_c (ih_F130 x47 (0:Int) x48 hx48 (p0:=.shut)) 0 [(107,vS x46),(112,vS x48)] H fun _ H=>?_
   obtain ⟨x49,hx49,hr⟩:=obind hr
   refine q_v (.bin .add 9 (.tmp 107) (.tmp 112) (vS x46) (vS x48)) [(113,vS x49)] H (run_cat hx49) fun _ H=>q_g 1 [(2,vS x49)] H fun _ H=>q_e (q_d (W_ret ?_))
   obtain rfl:=sj hr
   exact q_r [vS x49] H K
theorem F80_R (n:Nat) (a0:Node) (r:ByteArray) (hr:F80 n a0 = some r) {st:St} {p0:Spare}:R Tryz.prog AN 80 [.agg (cNode p0 a0)] st (.ret (vS r)) st:=(F130_RR n).2 a0 r hr
def F179 (n:Nat) (a0:List Node):Option ByteArray := (iter (σ:=ByteArray × Int) (ρ:=ByteArray) (fun s1=>bif decide (s1.2 < (a0.length:Int)) then ((bif decide (0 < s1.2) then ((catS s1.1 (bs [44,32])).bind fun x4 => some x4) else (some s1.1):Option (ByteArray)).bind fun j5 => (idxL a0 s1.2).bind fun x6 => (F80 n x6).bind fun x7 => (catS j5 x7).bind fun x8 => some (.inl (x8,w64 (s1.2 + 1)))) else (some (.inr s1.1))) n ((bs []),(0:Int))).bind fun r9 => some r9
def F176 (n:Nat) (a0:List Node):Option ByteArray := (iter (σ:=ByteArray × Int) (ρ:=ByteArray) (fun s1=>bif decide ((w64 (s1.2 + 1)) < (a0.length:Int)) then ((bif decide (0 < s1.2) then ((catS s1.1 (bs [44,32])).bind fun x4 => some x4) else (some s1.1):Option (ByteArray)).bind fun j5 => (idxL a0 s1.2).bind fun x6 => (F80 n x6).bind fun x7 => (catS j5 x7).bind fun x8 => (catS x8 (bs [32,58,61,32])).bind fun x9 => (idxL a0 (w64 (s1.2 + 1))).bind fun x10 => (F80 n x10).bind fun x11 => (catS x9 x11).bind fun x12 => some (.inl (x12,w64 (s1.2 + 2)))) else (some (.inr s1.1))) n ((bs []),(0:Int))).bind fun r13 => some r13
def F177 (n:Nat) (a0:List Node):Option ByteArray := bif (a0.length:Int) == 0 then (some (bs [])) else ((F176 n a0).bind fun x2 => (catS (bs [32,119,105,116,104,32]) x2).bind fun x3 => some x3)
def F178 (n:Nat) (a0:Node):Option ByteArray := (bif decide (1 < (a0.kids.length:Int)) then ((subL a0.kids 1 (a0.kids.length:Int)).bind fun x2 => (F176 n x2).bind fun x3 => (catS (bs [97,116,111,109,105,99,32,123,32]) x3).bind fun x4 => (catS x4 (bs [32])).bind fun x5 => some x5) else (some (bs [97,116,111,109,105,99,32,123,32])):Option (ByteArray)).bind fun j6 => (catS j6 (bs [125])).bind fun x7 => (idxL a0.kids 0).bind fun x8 => bif x8.kind != 63 then ((catS x7 (bs [32,119,104,101,110,32])).bind fun x10 => (idxL a0.kids 0).bind fun x11 => (F80 n x11).bind fun x12 => (catS x10 x12).bind fun x13 => (catS x13 (bs [59])).bind fun x14 => some x14) else ((catS x7 (bs [59])).bind fun x15 => some x15)
def F182 (a0:Node):Option ByteArray := (F175 (bs [103,104,111,115,116]) a0.ghost).bind fun x1 => (catS x1 (bs [115,104,97,114,101,100,32])).bind fun x2 => (catS x2 a0.name).bind fun x3 => (bif a0.len != 0 then ((catS x3 (bs [91])).bind fun x5 => (itoaF a0.len).bind fun x6 => (catS x5 x6).bind fun x7 => (catS x7 (bs [93])).bind fun x8 => some x8) else (some x3):Option (ByteArray)).bind fun j9 => (bif !(strEq a0.other (bs [])) then ((catS j9 (bs [32,58,32])).bind fun x11 => (catS x11 a0.other).bind fun x12 => some x12) else ((catS j9 (bs [32,58,32])).bind fun x13 => (itoaF a0.n).bind fun x14 => (catS x13 x14).bind fun x15 => some x15):Option (ByteArray)).bind fun j16 => bif a0.init != 0 then ((catS j16 (bs [32,61,32])).bind fun x18 => (itoaF a0.init).bind fun x19 => (catS x18 x19).bind fun x20 => (catS x20 (bs [59])).bind fun x21 => some x21) else ((catS j16 (bs [59])).bind fun x22 => some x22)
def F183 (n:Nat) (a0:List Node):Option ByteArray := (iter (σ:=ByteArray × Int) (ρ:=ByteArray) (fun s1=>bif decide (s1.2 < (a0.length:Int)) then ((bif decide (0 < s1.2) then ((catS s1.1 (bs [44,32])).bind fun x4 => some x4) else (some s1.1):Option (ByteArray)).bind fun j5 => (idxL a0 s1.2).bind fun x6 => (catS j5 x6.name).bind fun x7 => (catS x7 (bs [32,58,32])).bind fun x8 => (idxL a0 s1.2).bind fun x9 => (itoaF x9.n).bind fun x10 => (catS x8 x10).bind fun x11 => some (.inl (x11,w64 (s1.2 + 1)))) else (some (.inr s1.1))) n ((bs []),(0:Int))).bind fun r12 => some r12
end Go.Proofs.YtbecjgckobhmpaaGreatDoor
