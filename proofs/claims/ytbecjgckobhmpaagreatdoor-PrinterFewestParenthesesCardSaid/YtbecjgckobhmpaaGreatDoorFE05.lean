/-
  Proved here: a part of what the claim needs (texts YQ11 YQ12 YQ13 YBL1 YBW1 YBF1 YH YIB YBE1 of the prover's own).
-/
import Derived.Test.YtbecjgckobhmpaaGreatDoorFE04
import Derived.Lib.Builder
import Derived.Lib.UnsafeStr
import Derived.WalkKit
import Derived.Laws.Externs
import Derived.Shelf.RegionOpenPlain
section
namespace Go.Proofs.YtbecjgckobhmpaaGreatDoor
open Go Go.AM Go.Proofs
set_option maxRecDepth 100000
set_option maxHeartbeats 4000000
def PF98_0:Pred:=⟨62,[],[],fun y=>F62 y,fun _=>⟨by kernel_rfl,by kernel_rfl⟩,fun y r st sp h=>F62_R  y r h⟩
def PF98_1:Pred:=⟨197,[],[.cptr ([vI 2]) 0],fun y=>F197 y (2:Int),fun _=>⟨by kernel_rfl,by kernel_rfl⟩,fun y r st sp h=>F197_R  y (2:Int) r h⟩
def PF98_2:Pred:=⟨62,[],[],fun y=>F62 y,fun _=>⟨by kernel_rfl,by kernel_rfl⟩,fun y r st sp h=>F62_R  y r h⟩
def PF98_3:Pred:=⟨62,[],[],fun y=>F62 y,fun _=>⟨by kernel_rfl,by kernel_rfl⟩,fun y r st sp h=>F62_R  y r h⟩
def PF98_4:Pred:=⟨62,[],[],fun y=>F62 y,fun _=>⟨by kernel_rfl,by kernel_rfl⟩,fun y r st sp h=>F62_R  y r h⟩
def PF98_5:Pred:=⟨62,[],[],fun y=>F62 y,fun _=>⟨by kernel_rfl,by kernel_rfl⟩,fun y r st sp h=>F62_R  y r h⟩
def PF98_6:Pred:=⟨62,[],[],fun y=>F62 y,fun _=>⟨by kernel_rfl,by kernel_rfl⟩,fun y r st sp h=>F62_R  y r h⟩
def PF98_7:Pred:=⟨62,[],[],fun y=>F62 y,fun _=>⟨by kernel_rfl,by kernel_rfl⟩,fun y r st sp h=>F62_R  y r h⟩
def PF98_8:Pred:=⟨197,[],[.cptr ([vI 2]) 0],fun y=>F197 y (2:Int),fun _=>⟨by kernel_rfl,by kernel_rfl⟩,fun y r st sp h=>F197_R  y (2:Int) r h⟩
def PF98_9:Pred:=⟨62,[],[],fun y=>F62 y,fun _=>⟨by kernel_rfl,by kernel_rfl⟩,fun y r st sp h=>F62_R  y r h⟩
def PF98_10:Pred:=⟨62,[],[],fun y=>F62 y,fun _=>⟨by kernel_rfl,by kernel_rfl⟩,fun y r st sp h=>F62_R  y r h⟩
def PF98_11:Pred:=⟨197,[],[.cptr ([vI 2]) 0],fun y=>F197 y (2:Int),fun _=>⟨by kernel_rfl,by kernel_rfl⟩,fun y r st sp h=>F197_R  y (2:Int) r h⟩
def PF98_12:Pred:=⟨62,[],[],fun y=>F62 y,fun _=>⟨by kernel_rfl,by kernel_rfl⟩,fun y r st sp h=>F62_R  y r h⟩
def PF98_13:Pred:=⟨197,[],[.cptr ([vI 34]) 0],fun y=>F197 y (34:Int),fun _=>⟨by kernel_rfl,by kernel_rfl⟩,fun y r st sp h=>F197_R  y (34:Int) r h⟩
def PF98_14:Pred:=⟨197,[],[.cptr ([vI 34]) 0],fun y=>F197 y (34:Int),fun _=>⟨by kernel_rfl,by kernel_rfl⟩,fun y r st sp h=>F197_R  y (34:Int) r h⟩
def PF98_15:Pred:=⟨62,[],[],fun y=>F62 y,fun _=>⟨by kernel_rfl,by kernel_rfl⟩,fun y r st sp h=>F62_R  y r h⟩
def PF98_16:Pred:=⟨198,[],[.cptr ([.fn 62 [] []]) 0,.cptr ([.fn 161 [] []]) 0],fun y=>F198 y,fun _=>⟨by kernel_rfl,by kernel_rfl⟩,fun y r st sp h=>F198_R  y r h⟩
def PF98_17:Pred:=⟨197,[],[.cptr ([vI 34]) 0],fun y=>F197 y (34:Int),fun _=>⟨by kernel_rfl,by kernel_rfl⟩,fun y r st sp h=>F197_R  y (34:Int) r h⟩
def F98 (n:Nat) (a0:Node):Option Bool :=
 (bif a0.kind == 1 then
   (some (a0.kind == 1))
  else
   (bif a0.kind == 26 then
    (some (a0.kind == 26))
   else
    (bif a0.kind == 30 then
     (some (a0.kind == 30))
    else
     (bif a0.kind == 24 then
      (some (a0.kind == 24))
     else
      (bif a0.kind == 25 then
       (some (a0.kind == 25))
      else
       (bif a0.kind == 27 then
        (some (a0.kind == 27))
       else
        (bif a0.kind == 28 then
         (some (a0.kind == 28))
        else
         (bif a0.kind == 35 then
          (some (a0.kind == 35))
         else
          (bif a0.kind == 58 then
           (some (a0.kind == 58))
          else
           (bif a0.kind == 52 then
            (some (a0.kind == 52))
           else
            (bif a0.kind == 50 then
             (some (a0.kind == 50))
            else
             (some (a0.kind == 63)))))))))))):Option (Bool)).bind fun j12 =>
 bif j12 then
  (some ((a0.kids.length:Int) == 0))
 else
  (bif a0.kind == 2 then
   (bif (a0.kids.length:Int) == 0 then
    (some true)
   else
    ((F158 n a0.kids ([(PF98_0 )]:List Pred)).bind fun x16 =>
    some x16))
  else
   (bif a0.kind == 3 then
    ((F158 n a0.kids ([(PF98_1 )]:List Pred)).bind fun x18 =>
    some x18)
   else
    ((bif a0.kind == 4 then
      (some (a0.kind == 4))
     else
      (bif a0.kind == 7 then
       (some (a0.kind == 7))
      else
       (bif a0.kind == 8 then
        (some (a0.kind == 8))
       else
        (bif a0.kind == 20 then
         (some (a0.kind == 20))
        else
         (bif a0.kind == 29 then
          (some (a0.kind == 29))
         else
          (bif a0.kind == 54 then
           (some (a0.kind == 54))
          else
           (bif a0.kind == 55 then
            (some (a0.kind == 55))
           else
            (some (a0.kind == 53)))))))):Option (Bool)).bind fun j26 =>
    bif j26 then
     ((F158 n a0.kids ([(PF98_2 )]:List Pred)).bind fun x28 =>
     some x28)
    else
     (bif a0.kind == 5 then
      ((F158 n a0.kids ([(PF98_3 ),(PF98_4 )]:List Pred)).bind fun x30 =>
      some x30)
     else
      (bif a0.kind == 6 then
       ((F158 n a0.kids ([(PF98_5 ),(PF98_6 ),(PF98_7 )]:List Pred)).bind fun x32 =>
       some x32)
      else
       (bif a0.kind == 21 then
        (bif decide (0 < (a0.kids.length:Int)) then
         ((F160 n a0.kids).bind fun x35 =>
         some x35)
        else
         (some false))
       else
        (bif a0.kind == 22 then
         (bif decide (0 < (a0.kids.length:Int)) then
          ((idxL a0.kids 0).bind fun x38 =>
          (F62 x38).bind fun x39 =>
          bif x39 then
           ((subL a0.kids 1 (a0.kids.length:Int)).bind fun x41 =>
           (F160 n x41).bind fun x42 =>
           some x42)
          else
           ((idxL a0.kids 0).bind fun x43 =>
           (F161 x43).bind fun x44 =>
           bif x44 then
            ((subL a0.kids 1 (a0.kids.length:Int)).bind fun x46 =>
            (F160 n x46).bind fun x47 =>
            some x47)
           else
            (some false)))
         else
          (some false))
        else
         (bif a0.kind == 23 then
          (bif decide (4≤(a0.kids.length:Int)) then
           ((subL a0.kids 0 4).bind fun x50 =>
           (F158 n x50 ([(PF98_8 ),(PF98_9 ),(PF98_10 ),(PF98_11 )]:List Pred)).bind fun x51 =>
           bif x51 then
            ((subL a0.kids 4 (a0.kids.length:Int)).bind fun x53 =>
            (F160 n x53).bind fun x54 =>
            some x54)
           else
            (some false))
          else
           (some false))
         else
          (bif a0.kind == 31 then
           ((F158 n a0.kids ([(PF98_12 ),(PF98_13 ),(PF98_14 )]:List Pred)).bind fun x56 =>
           some x56)
          else
           (bif a0.kind == 32 then
            ((F158 n a0.kids ([(PF98_15 ),(PF98_16 ),(PF98_17 )]:List Pred)).bind fun x58 =>
            some x58)
           else
            (bif a0.kind == 33 then
             ((F99_1 n a0.kids).bind fun x60 =>
             some x60)
            else
             (bif a0.kind == 34 then
              ((F99_2 n a0.kids).bind fun x62 =>
              some x62)
             else
              (bif a0.kind == 51 then
               ((F99_3 n a0.kids (52:Int)).bind fun x64 =>
               some x64)
              else
               (bif a0.kind == 56 then
                (bif decide (0 < (a0.kids.length:Int)) then
                 ((F99_4 n a0.kids).bind fun x67 =>
                 some x67)
                else
                 (some false))
               else
                (bif a0.kind == 57 then
                 (bif decide (0≤(w64 ((a0.kids.length:Int) - 1))) then
                  ((idxL a0.kids (w64 ((a0.kids.length:Int) - 1))).bind fun x70 =>
                  bif x70.kind == 34 then
                   ((subL a0.kids 0 (w64 ((a0.kids.length:Int) - 1))).bind fun x72 =>
                   (F99_3 n x72 (58:Int)).bind fun x73 =>
                   some x73)
                  else
                   (some false))
                 else
                  (some false))
                else
                 (bif a0.kind == 60 then
                  ((F99_5 n a0.kids).bind fun x75 =>
                  some x75)
                 else
                  (bif a0.kind == 61 then
                   ((F99_3 n a0.kids (1:Int)).bind fun x77 =>
                   some x77)
                  else
                   (bif a0.kind == 62 then
                    ((F99_6 n a0.kids).bind fun x79 =>
                    some x79)
                   else
                    (some false)))))))))))))))))))
theorem F98_R (n:Nat) (a0:Node) (r:Bool) (hr:F98 n a0 = some r) {st:St} {p0:Spare}:R Tryz.prog AN 98 [.agg [keysV],.agg (cNode p0 a0)] st (.ret (vB r)) st:=by
 unfold F98 at hr
 refine R_pureX [.agg [keysV],aN a0] [(0,.agg [keysV]),(1,aN a0)] Tryz.func98 rfl (by simp only [strip,stripL,strip_keysV,stripL_cNode,Option.bind_some,Option.map_some]) rfl fun fr st H K=>sr (qg 3 [(3,cN a0 0)] H fun _ H=>qe (sr (qg 3 [(5,vL tNode a0.kids .shut)] H fun _ H=>qe (W_seq (W_seq (W_reg (qg 2 [(10,vI a0.kind)] H fun _ H=>qe (W_block (W_seq ?_)))))))))
 obtain ⟨j12,hj12,hr⟩:=obind hr
 refine W_via (fun e fr st=>e = .normal∧Rd fr [(5,vL tNode a0.kids .shut),(10,vI a0.kind),(11,vB j12)]∧HL st []) ?_ ?_
 ·replace hr:=hj12
  refine sr (qg 2 [(11,vB (a0.kind == 1))] H fun _ H=>qe ?_)
  rcases csplit hr with ⟨c1,hr⟩|⟨c1,hr⟩
  ·refine qT H c1 (W_skip ?_)
   cases hr
   exact ⟨rfl,H.tq,K.keep []⟩
  refine qF H c1 (sr (qg 2 [(11,vB (a0.kind == 26))] H fun _ H=>qe ?_))
  rcases csplit hr with ⟨c2,hr⟩|⟨c2,hr⟩
  ·refine qT H c2 (W_skip ?_)
   cases hr
   exact ⟨rfl,H.tq,K.keep []⟩
  refine qF H c2 (sr (qg 2 [(11,vB (a0.kind == 30))] H fun _ H=>qe ?_))
  rcases csplit hr with ⟨c3,hr⟩|⟨c3,hr⟩
  ·refine qT H c3 (W_skip ?_)
   cases hr
   exact ⟨rfl,H.tq,K.keep []⟩
  refine qF H c3 (sr (qg 2 [(11,vB (a0.kind == 24))] H fun _ H=>qe ?_))
  rcases csplit hr with ⟨c4,hr⟩|⟨c4,hr⟩
  ·refine qT H c4 (W_skip ?_)
   cases hr
   exact ⟨rfl,H.tq,K.keep []⟩
  refine qF H c4 (sr (qg 2 [(11,vB (a0.kind == 25))] H fun _ H=>qe ?_))
  rcases csplit hr with ⟨c5,hr⟩|⟨c5,hr⟩
  ·refine qT H c5 (W_skip ?_)
   cases hr
   exact ⟨rfl,H.tq,K.keep []⟩
  refine qF H c5 (sr (qg 2 [(11,vB (a0.kind == 27))] H fun _ H=>qe ?_))
  rcases csplit hr with ⟨c6,hr⟩|⟨c6,hr⟩
  ·refine qT H c6 (W_skip ?_)
   cases hr
   exact ⟨rfl,H.tq,K.keep []⟩
  refine qF H c6 (sr (qg 2 [(11,vB (a0.kind == 28))] H fun _ H=>qe ?_))
  rcases csplit hr with ⟨c7,hr⟩|⟨c7,hr⟩
  ·refine qT H c7 (W_skip ?_)
   cases hr
   exact ⟨rfl,H.tq,K.keep []⟩
  refine qF H c7 (sr (qg 2 [(11,vB (a0.kind == 35))] H fun _ H=>qe ?_))
  rcases csplit hr with ⟨c8,hr⟩|⟨c8,hr⟩
  ·refine qT H c8 (W_skip ?_)
   cases hr
   exact ⟨rfl,H.tq,K.keep []⟩
  refine qF H c8 (sr (qg 2 [(11,vB (a0.kind == 58))] H fun _ H=>qe ?_))
  rcases csplit hr with ⟨c9,hr⟩|⟨c9,hr⟩
  ·refine qT H c9 (W_skip ?_)
   cases hr
   exact ⟨rfl,H.tq,K.keep []⟩
  refine qF H c9 (sr (qg 2 [(11,vB (a0.kind == 52))] H fun _ H=>qe ?_))
  rcases csplit hr with ⟨c10,hr⟩|⟨c10,hr⟩
  ·refine qT H c10 (W_skip ?_)
   cases hr
   exact ⟨rfl,H.tq,K.keep []⟩
  refine qF H c10 (sr (qg 2 [(11,vB (a0.kind == 50))] H fun _ H=>qe ?_))
  rcases csplit hr with ⟨c11,hr⟩|⟨c11,hr⟩
  ·refine qT H c11 (W_skip ?_)
   cases hr
   exact ⟨rfl,H.tq,K.keep []⟩
  refine qF H c11 (W_reg (qg 2 [(11,vB (a0.kind == 63))] H fun _ H=>qe ?_))
  cases hr
  exact ⟨rfl,H.tq,K.keep []⟩
 rintro e fr st ⟨rfl,H,K⟩
 rcases csplit hr with ⟨c13,hr⟩|⟨c13,hr⟩
 ·refine qT H c13 (sr (qg 1 [(24,vL tNode a0.kids .shut)] H fun _ H=>?_))
  refine qln tNode 22 a0.kids .shut H fun _ H=>qg 2 [(4,vB ((a0.kids.length:Int) == 0))] H fun _ H=>qe (W_ret ?_)
  cases hr
  exact qr [vB ((a0.kids.length:Int) == 0)] H K
 refine qF H c13 (sr (qg 2 [(27,vB (a0.kind == 2))] H fun _ H=>qe ?_))
 rcases csplit hr with ⟨c14,hr⟩|⟨c14,hr⟩
 ·refine qT H c14 (sr (qg 1 [(29,vL tNode a0.kids .shut)] H fun _ H=>?_))
  refine qln tNode 22 a0.kids .shut H fun _ H=>qg 2 [(32,vB ((a0.kids.length:Int) == 0))] H fun _ H=>?_
  rcases csplit hr with ⟨c15,hr⟩|⟨c15,hr⟩
  ·rw [c15] at H
   refine qg 5 [(4,vB true)] H fun _ H=>qe (W_ret ?_)
   cases hr
   exact qr [vB true] H K
  rw [c15] at H
  refine qg 1 [(33,vL tNode a0.kids .shut)] H fun _ H=>?_
  refine qv (.buildSlice 167 1 [(0,.fn (PF98_0 ).g (PF98_0 ).a (PF98_0 ).b)]) H (run_bslice (v:=vL tPred ([(PF98_0 )]:List Pred) .full) (v0:=.slice [.fn (PF98_0 ).g (PF98_0 ).a (PF98_0 ).b] .full) (by kernel_rfl) (rfl)) fun _ H=>?_
  refine qb hr (fun x h s=>F158_R n _ _ x h (p0:=.shut) (p1:=.full)) H fun x16 hr fr H=>qg 2 [(4,vB x16)] H fun _ H=>qe (W_ret ?_)
  obtain rfl:=Option.some.inj hr
  exact qr [vB x16] H K
 refine qF H c14 (sr (qg 2 [(37,vB (a0.kind == 3))] H fun _ H=>qe ?_))
 rcases csplit hr with ⟨c17,hr⟩|⟨c17,hr⟩
 ·refine qT H c17 (sr (qg 1 [(39,vL tNode a0.kids .shut)] H fun _ H=>?_))
  refine qc (fun s=>cl159_R (2:Int)) H fun _ H=>?_
  refine qv (.buildSlice 167 1 [(0,.fn (PF98_1 ).g (PF98_1 ).a (PF98_1 ).b)]) H (run_bslice (v:=vL tPred ([(PF98_1 )]:List Pred) .full) (v0:=.slice [.fn (PF98_1 ).g (PF98_1 ).a (PF98_1 ).b] .full) (by kernel_rfl) (rfl)) fun _ H=>?_
  refine qb hr (fun x h s=>F158_R n _ _ x h (p0:=.shut) (p1:=.full)) H fun x18 hr fr H=>qg 1 [(4,vB x18)] H fun _ H=>qe (W_ret ?_)
  obtain rfl:=Option.some.inj hr
  exact qr [vB x18] H K
 refine qF H c17 (W_seq ?_)
 obtain ⟨j26,hj26,hr⟩:=obind hr
 refine W_via (fun e fr st=>e = .normal∧Rd fr [(5,vL tNode a0.kids .shut),(10,vI a0.kind),(43,vB j26)]∧HL st []) ?_ ?_
 ·replace hr:=hj26
  refine sr (qg 2 [(43,vB (a0.kind == 4))] H fun _ H=>qe ?_)
  rcases csplit hr with ⟨c19,hr⟩|⟨c19,hr⟩
  ·refine qT H c19 (W_skip ?_)
   cases hr
   exact ⟨rfl,H.tq,K.keep []⟩
  refine qF H c19 (sr (qg 2 [(43,vB (a0.kind == 7))] H fun _ H=>qe ?_))
  rcases csplit hr with ⟨c20,hr⟩|⟨c20,hr⟩
  ·refine qT H c20 (W_skip ?_)
   cases hr
   exact ⟨rfl,H.tq,K.keep []⟩
  refine qF H c20 (sr (qg 2 [(43,vB (a0.kind == 8))] H fun _ H=>qe ?_))
  rcases csplit hr with ⟨c21,hr⟩|⟨c21,hr⟩
  ·refine qT H c21 (W_skip ?_)
   cases hr
   exact ⟨rfl,H.tq,K.keep []⟩
  refine qF H c21 (sr (qg 2 [(43,vB (a0.kind == 20))] H fun _ H=>qe ?_))
  rcases csplit hr with ⟨c22,hr⟩|⟨c22,hr⟩
  ·refine qT H c22 (W_skip ?_)
   cases hr
   exact ⟨rfl,H.tq,K.keep []⟩
  refine qF H c22 (sr (qg 2 [(43,vB (a0.kind == 29))] H fun _ H=>qe ?_))
  rcases csplit hr with ⟨c23,hr⟩|⟨c23,hr⟩
  ·refine qT H c23 (W_skip ?_)
   cases hr
   exact ⟨rfl,H.tq,K.keep []⟩
  refine qF H c23 (sr (qg 2 [(43,vB (a0.kind == 54))] H fun _ H=>qe ?_))
  rcases csplit hr with ⟨c24,hr⟩|⟨c24,hr⟩
  ·refine qT H c24 (W_skip ?_)
   cases hr
   exact ⟨rfl,H.tq,K.keep []⟩
  refine qF H c24 (sr (qg 2 [(43,vB (a0.kind == 55))] H fun _ H=>qe ?_))
  rcases csplit hr with ⟨c25,hr⟩|⟨c25,hr⟩
  ·refine qT H c25 (W_skip ?_)
   cases hr
   exact ⟨rfl,H.tq,K.keep []⟩
  refine qF H c25 (W_reg (qg 2 [(43,vB (a0.kind == 53))] H fun _ H=>qe ?_))
  cases hr
  exact ⟨rfl,H.tq,K.keep []⟩
 rintro e fr st ⟨rfl,H,K⟩
 rcases csplit hr with ⟨c27,hr⟩|⟨c27,hr⟩
 ·refine qT H c27 (sr (qg 1 [(52,vL tNode a0.kids .shut)] H fun _ H=>?_))
  refine qv (.buildSlice 167 1 [(0,.fn (PF98_2 ).g (PF98_2 ).a (PF98_2 ).b)]) H (run_bslice (v:=vL tPred ([(PF98_2 )]:List Pred) .full) (v0:=.slice [.fn (PF98_2 ).g (PF98_2 ).a (PF98_2 ).b] .full) (by kernel_rfl) (rfl)) fun _ H=>?_
  refine qb hr (fun x h s=>F158_R n _ _ x h (p0:=.shut) (p1:=.full)) H fun x28 hr fr H=>qg 1 [(4,vB x28)] H fun _ H=>qe (W_ret ?_)
  obtain rfl:=Option.some.inj hr
  exact qr [vB x28] H K
 refine qF H c27 (sr (qg 2 [(55,vB (a0.kind == 5))] H fun _ H=>qe ?_))
 rcases csplit hr with ⟨c29,hr⟩|⟨c29,hr⟩
 ·refine qT H c29 (sr (qg 1 [(57,vL tNode a0.kids .shut)] H fun _ H=>?_))
  refine qv (.buildSlice 167 2 [(0,.fn (PF98_3 ).g (PF98_3 ).a (PF98_3 ).b),(1,.fn (PF98_4 ).g (PF98_4 ).a (PF98_4 ).b)]) H (run_bslice (v:=vL tPred ([(PF98_3 ),(PF98_4 )]:List Pred) .full) (v0:=.slice [.fn (PF98_3 ).g (PF98_3 ).a (PF98_3 ).b,.fn (PF98_4 ).g (PF98_4 ).a (PF98_4 ).b] .full) (by kernel_rfl) (rfl)) fun _ H=>?_
  refine qb hr (fun x h s=>F158_R n _ _ x h (p0:=.shut) (p1:=.full)) H fun x30 hr fr H=>qg 1 [(4,vB x30)] H fun _ H=>qe (W_ret ?_)
  obtain rfl:=Option.some.inj hr
  exact qr [vB x30] H K
 refine qF H c29 (sr (qg 2 [(60,vB (a0.kind == 6))] H fun _ H=>qe ?_))
 rcases csplit hr with ⟨c31,hr⟩|⟨c31,hr⟩
 ·refine qT H c31 (sr (qg 1 [(62,vL tNode a0.kids .shut)] H fun _ H=>?_))
  refine qv (.buildSlice 167 3 [(0,.fn (PF98_5 ).g (PF98_5 ).a (PF98_5 ).b),(1,.fn (PF98_6 ).g (PF98_6 ).a (PF98_6 ).b),(2,.fn (PF98_7 ).g (PF98_7 ).a (PF98_7 ).b)]) H (run_bslice (v:=vL tPred ([(PF98_5 ),(PF98_6 ),(PF98_7 )]:List Pred) .full) (v0:=.slice [.fn (PF98_5 ).g (PF98_5 ).a (PF98_5 ).b,.fn (PF98_6 ).g (PF98_6 ).a (PF98_6 ).b,.fn (PF98_7 ).g (PF98_7 ).a (PF98_7 ).b] .full) (by kernel_rfl) (rfl)) fun _ H=>?_
  refine qb hr (fun x h s=>F158_R n _ _ x h (p0:=.shut) (p1:=.full)) H fun x32 hr fr H=>qg 1 [(4,vB x32)] H fun _ H=>qe (W_ret ?_)
  obtain rfl:=Option.some.inj hr
  exact qr [vB x32] H K
 refine qF H c31 (sr (qg 2 [(65,vB (a0.kind == 21))] H fun _ H=>qe ?_))
 rcases csplit hr with ⟨c33,hr⟩|⟨c33,hr⟩
 ·refine qT H c33 (sr (qg 1 [(67,vL tNode a0.kids .shut)] H fun _ H=>?_))
  refine qln tNode 22 a0.kids .shut H fun _ H=>qg 2 [(70,vB (decide (0 < (a0.kids.length:Int))))] H fun _ H=>?_
  rcases csplit hr with ⟨c34,hr⟩|⟨c34,hr⟩
  rotate_left
  ·rw [c34] at H
   refine qg 4 [(4,vB false)] H fun _ H=>qe (W_ret ?_)
   cases hr
   exact qr [vB false] H K
  rw [c34] at H
  refine qg 1 [(71,vL tNode a0.kids .shut)] H fun _ H=>?_
  refine qb hr (fun x h s=>F160_R n _ x h (p0:=.shut)) H fun x35 hr fr H=>qg 2 [(4,vB x35)] H fun _ H=>qe (W_ret ?_)
  obtain rfl:=Option.some.inj hr
  exact qr [vB x35] H K
 refine qF H c33 (sr (qg 2 [(74,vB (a0.kind == 22))] H fun _ H=>qe ?_))
 rcases csplit hr with ⟨c36,hr⟩|⟨c36,hr⟩
 ·refine qT H c36 (sr (qg 1 [(76,vL tNode a0.kids .shut)] H fun _ H=>?_))
  refine qln tNode 22 a0.kids .shut H fun _ H=>qg 2 [(79,vB (decide (0 < (a0.kids.length:Int))))] H fun _ H=>?_
  rcases csplit hr with ⟨c37,hr⟩|⟨c37,hr⟩
  rotate_left
  ·rw [c37] at H
   refine qg 17 [(4,vB false)] H fun _ H=>qe (W_ret ?_)
   cases hr
   exact qr [vB false] H K
  rw [c37] at H
  refine qg 1 [(80,vL tNode a0.kids .shut)] H fun _ H=>?_
  refine qix tNode 22 .shut hr H fun x38 hr hx38 fr H=>qg 1 [(82,aN x38)] H fun _ H=>?_
  refine qb hr (fun x h s=>F62_R  _ x h (p0:=.shut)) H fun x39 hr fr H=>qg 1 [(84,vB x39)] H fun _ H=>?_
  rcases csplit hr with ⟨c40,hr⟩|⟨c40,hr⟩
  ·rw [c40] at H
   refine qg 8 [(91,vB true),(92,vL tNode a0.kids .shut)] H fun _ H=>?_
   obtain ⟨x41,hx41,hr⟩:=obind hr
   refine qv (.slice 22 (vL tNode a0.kids .shut) (some (vI 1)) none) H (run_subL_lo tNode (by kernel_rfl) hx41) fun _ H=>?_
   refine qb hr (fun x h s=>F160_R n _ x h (p0:=.shut)) H fun x42 hr fr H=>qg 2 [(4,vB x42)] H fun _ H=>qe (W_ret ?_)
   obtain rfl:=Option.some.inj hr
   exact qr [vB x42] H K
  rw [c40] at H
  refine qg 1 [(85,vL tNode a0.kids .shut)] H fun _ H=>?_
  refine qix tNode 22 .shut hr H fun x43 hr hx43 fr H=>qg 1 [(87,aN x43)] H fun _ H=>?_
  refine qb hr (fun x h s=>F161_R  _ x h (p0:=.shut)) H fun x44 hr fr H=>qg 3 [(91,vB x44)] H fun _ H=>?_
  rcases csplit hr with ⟨c45,hr⟩|⟨c45,hr⟩
  rotate_left
  ·rw [c45] at H
   refine qg 5 [(4,vB false)] H fun _ H=>qe (W_ret ?_)
   cases hr
   exact qr [vB false] H K
  rw [c45] at H
  refine qg 1 [(92,vL tNode a0.kids .shut)] H fun _ H=>?_
  obtain ⟨x46,hx46,hr⟩:=obind hr
  refine qv (.slice 22 (vL tNode a0.kids .shut) (some (vI 1)) none) H (run_subL_lo tNode (by kernel_rfl) hx46) fun _ H=>?_
  refine qb hr (fun x h s=>F160_R n _ x h (p0:=.shut)) H fun x47 hr fr H=>qg 2 [(4,vB x47)] H fun _ H=>qe (W_ret ?_)
  obtain rfl:=Option.some.inj hr
  exact qr [vB x47] H K
 refine qF H c36 (sr (qg 2 [(96,vB (a0.kind == 23))] H fun _ H=>qe ?_))
 rcases csplit hr with ⟨c48,hr⟩|⟨c48,hr⟩
 ·refine qT H c48 (W_seq (W_drw (qg 1 [(98,vL tNode a0.kids .shut)] H fun _ H=>?_)))
  refine qln tNode 22 a0.kids .shut H fun _ H=>qg 2 [(101,vB (decide (4≤(a0.kids.length:Int))))] H fun _ H=>?_
  rcases csplit hr with ⟨c49,hr⟩|⟨c49,hr⟩
  rotate_left
  ·rw [c49] at H
   refine qg 13 [(4,vB false)] H fun _ H=>qe (qd (W_ret ?_))
   cases hr
   exact qr [vB false] H K
  rw [c49] at H
  refine qg 1 [(102,vL tNode a0.kids .shut)] H fun _ H=>?_
  obtain ⟨x50,hx50,hr⟩:=obind hr
  refine qv (.slice 22 (vL tNode a0.kids .shut) none (some (vI 4))) H (run_subL_hi tNode (by kernel_rfl) hx50) fun _ H=>?_
  refine qc (fun s=>cl159_R (2:Int)) H fun _ H=>?_
  refine qc (fun s=>cl159_R (2:Int)) H fun _ H=>?_
  refine qv (.buildSlice 167 4 [(0,.fn (PF98_8 ).g (PF98_8 ).a (PF98_8 ).b),(1,.fn (PF98_9 ).g (PF98_9 ).a (PF98_9 ).b),(2,.fn (PF98_10 ).g (PF98_10 ).a (PF98_10 ).b),(3,.fn (PF98_11 ).g (PF98_11 ).a (PF98_11 ).b)]) H (run_bslice (v:=vL tPred ([(PF98_8 ),(PF98_9 ),(PF98_10 ),(PF98_11 )]:List Pred) .full) (v0:=.slice [.fn (PF98_8 ).g (PF98_8 ).a (PF98_8 ).b,.fn (PF98_9 ).g (PF98_9 ).a (PF98_9 ).b,.fn (PF98_10 ).g (PF98_10 ).a (PF98_10 ).b,.fn (PF98_11 ).g (PF98_11 ).a (PF98_11 ).b] .full) (by kernel_rfl) (rfl)) fun _ H=>?_
  refine qb hr (fun x h s=>F158_R n _ _ x h (p0:=.shut) (p1:=.full)) H fun x51 hr fr H=>qg 2 [(109,vB x51)] H fun _ H=>?_
  rcases csplit hr with ⟨c52,hr⟩|⟨c52,hr⟩
  rotate_left
  ·rw [c52] at H
   refine qg 5 [(4,vB false)] H fun _ H=>qe (qd (W_ret ?_))
   cases hr
   exact qr [vB false] H K
  rw [c52] at H
  refine qg 1 [(110,vL tNode a0.kids .shut)] H fun _ H=>?_
  obtain ⟨x53,hx53,hr⟩:=obind hr
  refine qv (.slice 22 (vL tNode a0.kids .shut) (some (vI 4)) none) H (run_subL_lo tNode (by kernel_rfl) hx53) fun _ H=>?_
  refine qb hr (fun x h s=>F160_R n _ x h (p0:=.shut)) H fun x54 hr fr H=>qg 2 [(4,vB x54)] H fun _ H=>qe (qd (W_ret ?_))
  obtain rfl:=Option.some.inj hr
  exact qr [vB x54] H K
 refine qF H c48 (sr (qg 2 [(114,vB (a0.kind == 31))] H fun _ H=>qe ?_))
 rcases csplit hr with ⟨c55,hr⟩|⟨c55,hr⟩
 ·refine qT H c55 (sr (qg 1 [(116,vL tNode a0.kids .shut)] H fun _ H=>?_))
  refine qc (fun s=>cl159_R (34:Int)) H fun _ H=>?_
  refine qc (fun s=>cl159_R (34:Int)) H fun _ H=>?_
  refine qv (.buildSlice 167 3 [(0,.fn (PF98_12 ).g (PF98_12 ).a (PF98_12 ).b),(1,.fn (PF98_13 ).g (PF98_13 ).a (PF98_13 ).b),(2,.fn (PF98_14 ).g (PF98_14 ).a (PF98_14 ).b)]) H (run_bslice (v:=vL tPred ([(PF98_12 ),(PF98_13 ),(PF98_14 )]:List Pred) .full) (v0:=.slice [.fn (PF98_12 ).g (PF98_12 ).a (PF98_12 ).b,.fn (PF98_13 ).g (PF98_13 ).a (PF98_13 ).b,.fn (PF98_14 ).g (PF98_14 ).a (PF98_14 ).b] .full) (by kernel_rfl) (rfl)) fun _ H=>?_
  refine qb hr (fun x h s=>F158_R n _ _ x h (p0:=.shut) (p1:=.full)) H fun x56 hr fr H=>qg 1 [(4,vB x56)] H fun _ H=>qe (W_ret ?_)
  obtain rfl:=Option.some.inj hr
  exact qr [vB x56] H K
 refine qF H c55 (sr (qg 2 [(121,vB (a0.kind == 32))] H fun _ H=>qe ?_))
 rcases csplit hr with ⟨c57,hr⟩|⟨c57,hr⟩
 ·refine qT H c57 (sr (qg 1 [(123,vL tNode a0.kids .shut)] H fun _ H=>?_))
  refine qc (fun s=>cl162_R 62 [] [] 161 [] []) H fun _ H=>?_
  refine qc (fun s=>cl159_R (34:Int)) H fun _ H=>?_
  refine qv (.buildSlice 167 3 [(0,.fn (PF98_15 ).g (PF98_15 ).a (PF98_15 ).b),(1,.fn (PF98_16 ).g (PF98_16 ).a (PF98_16 ).b),(2,.fn (PF98_17 ).g (PF98_17 ).a (PF98_17 ).b)]) H (run_bslice (v:=vL tPred ([(PF98_15 ),(PF98_16 ),(PF98_17 )]:List Pred) .full) (v0:=.slice [.fn (PF98_15 ).g (PF98_15 ).a (PF98_15 ).b,.fn (PF98_16 ).g (PF98_16 ).a (PF98_16 ).b,.fn (PF98_17 ).g (PF98_17 ).a (PF98_17 ).b] .full) (by kernel_rfl) (rfl)) fun _ H=>?_
  refine qb hr (fun x h s=>F158_R n _ _ x h (p0:=.shut) (p1:=.full)) H fun x58 hr fr H=>qg 1 [(4,vB x58)] H fun _ H=>qe (W_ret ?_)
  obtain rfl:=Option.some.inj hr
  exact qr [vB x58] H K
 refine qF H c57 (sr (qg 2 [(128,vB (a0.kind == 33))] H fun _ H=>qe ?_))
 rcases csplit hr with ⟨c59,hr⟩|⟨c59,hr⟩
 ·refine qT H c59 (sr (qg 1 [(130,vL tNode a0.kids .shut)] H fun _ H=>?_))
  refine qb hr (fun x h s=>F99_1_R n _ x h (p0:=.shut)) H fun x60 hr fr H=>qg 1 [(4,vB x60)] H fun _ H=>qe (W_ret ?_)
  obtain rfl:=Option.some.inj hr
  exact qr [vB x60] H K
 refine qF H c59 (sr (qg 2 [(132,vB (a0.kind == 34))] H fun _ H=>qe ?_))
 rcases csplit hr with ⟨c61,hr⟩|⟨c61,hr⟩
 ·refine qT H c61 (sr (qg 1 [(134,vL tNode a0.kids .shut)] H fun _ H=>?_))
  refine qb hr (fun x h s=>F99_2_R n _ x h (p0:=.shut)) H fun x62 hr fr H=>qg 1 [(4,vB x62)] H fun _ H=>qe (W_ret ?_)
  obtain rfl:=Option.some.inj hr
  exact qr [vB x62] H K
 refine qF H c61 (sr (qg 2 [(136,vB (a0.kind == 51))] H fun _ H=>qe ?_))
 rcases csplit hr with ⟨c63,hr⟩|⟨c63,hr⟩
 ·refine qT H c63 (sr (qg 1 [(138,vL tNode a0.kids .shut)] H fun _ H=>?_))
  refine qc (fun s=>cl159_R (52:Int)) H fun _ H=>?_
  refine qb hr (fun x h s=>F99_3_R n _ _ x h (p0:=.shut)) H fun x64 hr fr H=>qg 1 [(4,vB x64)] H fun _ H=>qe (W_ret ?_)
  obtain rfl:=Option.some.inj hr
  exact qr [vB x64] H K
 refine qF H c63 (sr (qg 2 [(141,vB (a0.kind == 56))] H fun _ H=>qe ?_))
 rcases csplit hr with ⟨c65,hr⟩|⟨c65,hr⟩
 ·refine qT H c65 (sr (qg 1 [(143,vL tNode a0.kids .shut)] H fun _ H=>?_))
  refine qln tNode 22 a0.kids .shut H fun _ H=>qg 2 [(146,vB (decide (0 < (a0.kids.length:Int))))] H fun _ H=>?_
  rcases csplit hr with ⟨c66,hr⟩|⟨c66,hr⟩
  rotate_left
  ·rw [c66] at H
   refine qg 4 [(4,vB false)] H fun _ H=>qe (W_ret ?_)
   cases hr
   exact qr [vB false] H K
  rw [c66] at H
  refine qg 1 [(147,vL tNode a0.kids .shut)] H fun _ H=>?_
  refine qb hr (fun x h s=>F99_4_R n _ x h (p0:=.shut)) H fun x67 hr fr H=>qg 2 [(4,vB x67)] H fun _ H=>qe (W_ret ?_)
  obtain rfl:=Option.some.inj hr
  exact qr [vB x67] H K
 refine qF H c65 (sr (qg 2 [(150,vB (a0.kind == 57))] H fun _ H=>qe ?_))
 rcases csplit hr with ⟨c68,hr⟩|⟨c68,hr⟩
 ·refine qT H c68 (sr (qg 1 [(152,vL tNode a0.kids .shut)] H fun _ H=>?_))
  refine qln tNode 22 a0.kids .shut H fun _ H=>qg 2 [(6,vI (w64 ((a0.kids.length:Int) - 1)))] H fun _ H=>qe (W_seq (W_drw (qg 3 [(157,vB (decide (0≤(w64 ((a0.kids.length:Int) - 1)))))] H fun _ H=>?_)))
  rcases csplit hr with ⟨c69,hr⟩|⟨c69,hr⟩
  rotate_left
  ·rw [c69] at H
   refine qg 15 [(4,vB false)] H fun _ H=>qe (qd (W_ret ?_))
   cases hr
   exact qr [vB false] H K
  rw [c69] at H
  refine qg 2 [(158,vL tNode a0.kids .shut),(159,vI (w64 ((a0.kids.length:Int) - 1)))] H fun _ H=>?_
  refine qix tNode 22 .shut hr H fun x70 hr hx70 fr H=>qg 5 [(165,vB (x70.kind == 34))] H fun _ H=>?_
  rcases csplit hr with ⟨c71,hr⟩|⟨c71,hr⟩
  rotate_left
  ·rw [c71] at H
   refine qg 7 [(4,vB false)] H fun _ H=>qe (qd (W_ret ?_))
   cases hr
   exact qr [vB false] H K
  rw [c71] at H
  refine qg 2 [(166,vL tNode a0.kids .shut),(167,vI (w64 ((a0.kids.length:Int) - 1)))] H fun _ H=>?_
  obtain ⟨x72,hx72,hr⟩:=obind hr
  refine qv (.slice 22 (vL tNode a0.kids .shut) none (some (vI (w64 ((a0.kids.length:Int) - 1))))) H (run_subL_hi tNode (by kernel_rfl) hx72) fun _ H=>?_
  refine qc (fun s=>cl159_R (58:Int)) H fun _ H=>?_
  refine qb hr (fun x h s=>F99_3_R n _ _ x h (p0:=.shut)) H fun x73 hr fr H=>qg 2 [(4,vB x73)] H fun _ H=>qe (qd (W_ret ?_))
  obtain rfl:=Option.some.inj hr
  exact qr [vB x73] H K
 refine qF H c68 (sr (qg 2 [(172,vB (a0.kind == 60))] H fun _ H=>qe ?_))
 rcases csplit hr with ⟨c74,hr⟩|⟨c74,hr⟩
 ·refine qT H c74 (sr (qg 1 [(174,vL tNode a0.kids .shut)] H fun _ H=>?_))
  refine qb hr (fun x h s=>F99_5_R n _ x h (p0:=.shut)) H fun x75 hr fr H=>qg 1 [(4,vB x75)] H fun _ H=>qe (W_ret ?_)
  obtain rfl:=Option.some.inj hr
  exact qr [vB x75] H K
 refine qF H c74 (sr (qg 2 [(176,vB (a0.kind == 61))] H fun _ H=>qe ?_))
 rcases csplit hr with ⟨c76,hr⟩|⟨c76,hr⟩
 ·refine qT H c76 (sr (qg 1 [(178,vL tNode a0.kids .shut)] H fun _ H=>?_))
  refine qc (fun s=>cl159_R (1:Int)) H fun _ H=>?_
  refine qb hr (fun x h s=>F99_3_R n _ _ x h (p0:=.shut)) H fun x77 hr fr H=>qg 1 [(4,vB x77)] H fun _ H=>qe (W_ret ?_)
  obtain rfl:=Option.some.inj hr
  exact qr [vB x77] H K
 refine qF H c76 (sr (qg 2 [(181,vB (a0.kind == 62))] H fun _ H=>qe ?_))
 rcases csplit hr with ⟨c78,hr⟩|⟨c78,hr⟩
 rotate_left
 ·refine qF H c78 (W_skip (sr (qg 1 [(4,vB false)] H fun _ H=>qe (W_ret ?_))))
  cases hr
  exact qr [vB false] H K
 refine qT H c78 (sr (qg 1 [(183,vL tNode a0.kids .shut)] H fun _ H=>?_))
 refine qb hr (fun x h s=>F99_6_R n _ x h (p0:=.shut)) H fun x79 hr fr H=>qg 1 [(4,vB x79)] H fun _ H=>qe (W_ret ?_)
 obtain rfl:=Option.some.inj hr
 exact qr [vB x79] H K
def F99_step (_:(List Node)→Option Bool) (F64:Node→Option Bool) (n:Nat) (a0:List Node):Option Bool :=
 (iter (σ:=Int) (ρ:=Unit ⊕ Unit) (fun s1=>bif decide (s1 < (a0.length:Int)) then
   ((idxL a0 s1).bind fun x3 =>
   (F64 x3).bind fun x5 =>
   bif !x5 then
    (some (.inr (.inl ())))
   else
    (some (.inl (w64 (s1 + 1)))))
  else
   (some (.inr (.inr ())))) n (0:Int)).bind fun r7=>match r7 with
 | .inl _=>some false
 | .inr _=>some true
def F64_step (F99:(List Node)→Option Bool) (_:Node→Option Bool) (n:Nat) (a0:Node):Option Bool :=
 (F97 n a0).bind fun x1 =>
 bif !x1 then
  (some false)
 else
  ((F98 n a0).bind fun x3 =>
  bif !x3 then
   (some false)
  else
   ((F99 a0.kids).bind fun x5 =>
   some x5))
mutual
def F99:Nat→(List Node)→Option Bool
 | 0,_=>none
 | n + 1,a0=>F99_step (F99 n) (F64 n) n a0
def F64:Nat→Node→Option Bool
 | 0,_=>none
 | n + 1,a0=>F64_step (F99 n) (F64 n) n a0
end
theorem F99_RR (n:Nat):(∀ (a0:List Node) (r:Bool),F99 n a0 = some r→∀ {st:St} {p0:Spare},R Tryz.prog AN 99 [vL tNode a0 p0,.fn 64 [.agg [keysV]] []] st (.ret (vB r)) st)∧(∀ (a0:Node) (r:Bool),F64 n a0 = some r→∀ {st:St} {p0:Spare},R Tryz.prog AN 64 [.agg [keysV],.agg (cNode p0 a0)] st (.ret (vB r)) st):=by
 induction n with
 | zero=>exact ⟨by intros; contradiction,by intros; contradiction⟩
 | succ n ih =>
  obtain ⟨ih_F99,ih_F64⟩:=ih
  refine ⟨?_,?_⟩
  ·intro a0 r hr st p0
   change F99_step (F99 n) (F64 n) n a0 = some r at hr
   unfold F99_step at hr
   refine R_pureX [vL tNode a0 .shut,.fn 64 [.agg [keysV]] []] [(0,vL tNode a0 .shut),(1,.fn 64 [.agg [keysV]] [])] Tryz.func99 rfl (by simp only [strip,stripL,strip_keysV,stripL_ET,Option.bind_some,Option.map_some]) rfl fun fr st H K=>sr (qg 1 [] H fun _ H=>qe (W_seq (W_seq (W_reg (qg 1 [(7,vL tNode a0 .shut)] H fun _ H=>?_)))))
   refine qln tNode 22 a0 .shut H fun _ H=>qg 1 [(9,vI 0)] H fun _ H=>qe (W_block ?_)
   obtain ⟨r7,hr7,hr⟩:=obind hr
   refine W_iter hr7 (fun (s1:Int) fr st=>Rd fr [(1,.fn 64 [.agg [keysV]] []),(7,vL tNode a0 .shut),(8,vI (a0.length:Int)),(9,vI s1)]∧HL st []) (fun (r7:Unit ⊕ Unit) e fr st=>match r7 with | .inl r7a=>(e = .ret∧Rd fr [(4,vB false)]∧HL st []) | .inr r7b=>(e = .exit 0∧Rd fr []∧HL st [])) ⟨H.tq,K.keep []⟩ ?_ ?_
   ·intro s1 fr st r hi hr
    obtain ⟨H,K⟩:=hi
    refine sr (qg 1 [(10,vB (decide (s1 < (a0.length:Int))))] H fun _ H=>qe (W_seq ?_))
    rcases csplit hr with ⟨c2,hr⟩|⟨c2,hr⟩
    rotate_left
    ·refine qF H c2 ?_
     refine W_exit ?_
     cases hr
     exact ⟨by simp,⟨rfl,H.tq,K.keep []⟩⟩
    refine qT H c2 (W_skip (W_seq (W_block (sr ?_))))
    refine qix tNode 22 .shut hr H fun x3 hr hx3 fr H=>qg 1 [(12,aN x3)] H fun _ H=>?_
    refine qal 24 zL H K fun id4 st K fr H=>?_
    refine qst 24 0 (aN x3) [vI x3.kind,vS x3.name,vS x3.other,vI x3.n,vI x3.len,vI x3.init,vB x3.ghost,vL tNode x3.kids .shut,vI x3.pos] 0 H K rfl fun st K fr H=>qe (sr (qg 1 [(13,.fn 64 [.agg [keysV]] [])] H fun _ H=>?_))
    refine qld 24 0 (aN x3) 0 H K rfl fun _ H=>?_
    refine qb hr (fun x h s=>ih_F64 _ x h (p0:=.shut)) H fun x5 hr fr H=>qg 1 [(16,vB !x5)] H fun _ H=>qe ?_
    rcases csplit hr with ⟨c6,hr⟩|⟨c6,hr⟩
    ·refine qT H c6 (sr (qg 1 [(4,vB false)] H fun _ H=>qe (W_ret ?_)))
     cases hr
     exact ⟨by simp,⟨rfl,H.tq,K.keep [false]⟩⟩
    refine qF H c6 (W_skip (W_reg (qg 2 [(9,vI (w64 (s1 + 1)))] H fun _ H=>qe ?_)))
    cases hr
    exact ⟨rfl,⟨H.tq,K.keep [false]⟩⟩
   rcases r7 with r7a | r7b
   ·rintro e fr st ⟨rfl,H,K⟩
    cases hr
    exact qr [vB false] H K
   rintro e fr st ⟨rfl,H,K⟩
   refine sr (qg 1 [(4,vB true)] H fun _ H=>qe (W_ret ?_))
   cases hr
   exact qr [vB true] H K
  ·intro a0 r hr st p0
   change F64_step (F99 n) (F64 n) n a0 = some r at hr
   unfold F64_step at hr
   refine R_pureX [.agg [keysV],aN a0] [(0,.agg [keysV]),(1,aN a0)] Tryz.func64 rfl (by simp only [strip,stripL,strip_keysV,stripL_cNode,Option.bind_some,Option.map_some]) rfl fun fr st H K=>sr (qg 3 [(2,.cptr ([keysV]) 0),(3,cN a0 0)] H fun _ H=>qe (W_seq (W_seq (W_reg (qg 2 [(5,.agg [keysV]),(6,aN a0)] H fun _ H=>?_)))))
   refine qb hr (fun x h s=>F97_R n _ x h (p0:=.shut)) H fun x1 hr fr H=>qg 2 [(9,vB !x1)] H fun _ H=>?_
   rcases csplit hr with ⟨c2,hr⟩|⟨c2,hr⟩
   ·rw [c2] at H
    refine qg 5 [(14,vB true)] H fun _ H=>qe (qT H rfl (sr (qg 1 [(4,vB false)] H fun _ H=>qe (W_ret ?_))))
    cases hr
    exact qr [vB false] H K
   rw [c2] at H
   refine qg 2 [(10,.agg [keysV]),(11,aN a0)] H fun _ H=>?_
   refine qb hr (fun x h s=>F98_R n _ x h (p0:=.shut)) H fun x3 hr fr H=>qg 2 [(14,vB !x3)] H fun _ H=>qe ?_
   rcases csplit hr with ⟨c4,hr⟩|⟨c4,hr⟩
   ·refine qT H c4 (sr (qg 1 [(4,vB false)] H fun _ H=>qe (W_ret ?_)))
    cases hr
    exact qr [vB false] H K
   refine qF H c4 (W_skip (sr (qg 4 [(16,vL tNode a0.kids .shut),(18,.fn 64 [.agg [keysV]] [])] H fun _ H=>?_)))
   refine qb hr (fun x h s=>ih_F99 _ x h (p0:=.shut)) H fun x5 hr fr H=>qg 1 [(4,vB x5)] H fun _ H=>qe (W_ret ?_)
   obtain rfl:=Option.some.inj hr
   exact qr [vB x5] H K
theorem F64_R (n:Nat) (a0:Node) (r:Bool) (hr:F64 n a0 = some r) {st:St} {p0:Spare}:R Tryz.prog AN 64 [.agg [keysV],.agg (cNode p0 a0)] st (.ret (vB r)) st:=(F99_RR n).2 a0 r hr
def F28 (n:Nat) (a0:Node):Option Bool :=
 (bif a0.kind != 62 then
   ((F62 a0).bind fun x2 =>
   bif !x2 then
    (some (.inl ()))
   else
    ((F59 n a0).bind fun x4 =>
    bif !x4 then
     (some (.inl ()))
    else
     (some (.inr ()))))
  else
   ((F59 n a0).bind fun x5 =>
   bif !x5 then
    (some (.inl ()))
   else
    (some (.inr ()))):Option (Unit ⊕ Unit)).bind fun j8=>match j8 with
 | .inl _=>some false
 | .inr _=>(F64 n a0).bind fun x10 =>
  some x10
theorem F28_R (n:Nat) (a0:Node) (r:Bool) (hr:F28 n a0 = some r) {st:St} {p0:Spare}:R Tryz.prog AN 28 [.agg (cNode p0 a0)] st (.ret (vB r)) st:=by
 unfold F28 at hr
 refine R_pureX [aN a0] [(0,aN a0)] Tryz.func28 rfl (by simp only [strip,stripL,stripL_cNode,Option.bind_some,Option.map_some]) rfl fun fr st H K=>sr (qg 2 [(1,cN a0 0)] H fun _ H=>qe (W_seq ?_))
 obtain ⟨j8,hj8,hr⟩:=obind hr
 refine W_via (fun e fr st=>match j8 with | .inl j8a=>(e = .ret∧Rd fr [(2,vB false)]∧HL st []) | .inr j8b=>(e = .normal∧Rd fr [(1,cN a0 0)]∧HL st [])) ?_ ?_
 ·replace hr:=hj8
  refine sr (qg 4 [(7,vB (a0.kind != 62))] H fun _ H=>?_)
  rcases csplit hr with ⟨c1,hr⟩|⟨c1,hr⟩
  rotate_left
  ·rw [c1] at H
   refine qg 6 [(12,vB false),(13,aN a0)] H fun _ H=>?_
   refine qb hr (fun x h s=>F59_R n _ x h (p0:=.shut)) H fun x5 hr fr H=>qg 2 [(16,vB !x5)] H fun _ H=>qe ?_
   rcases csplit hr with ⟨c7,hr⟩|⟨c7,hr⟩
   rotate_left
   ·refine qF H c7 (W_skip ?_)
    obtain rfl:=Option.some.inj hr
    exact ⟨rfl,H.tq,K.keep []⟩
   refine qT H c7 (sr (qg 1 [(2,vB false)] H fun _ H=>qe (W_ret ?_)))
   obtain rfl:=Option.some.inj hr
   exact ⟨rfl,H.tq,K.keep []⟩
  rw [c1] at H
  refine qg 1 [(8,aN a0)] H fun _ H=>?_
  refine qb hr (fun x h s=>F62_R  _ x h (p0:=.shut)) H fun x2 hr fr H=>qg 3 [(12,vB !x2)] H fun _ H=>?_
  rcases csplit hr with ⟨c3,hr⟩|⟨c3,hr⟩
  ·rw [c3] at H
   refine qg 4 [(16,vB true)] H fun _ H=>qe (qT H rfl (sr (qg 1 [(2,vB false)] H fun _ H=>qe (W_ret ?_))))
   obtain rfl:=Option.some.inj hr
   exact ⟨rfl,H.tq,K.keep []⟩
  rw [c3] at H
  refine qg 1 [(13,aN a0)] H fun _ H=>?_
  refine qb hr (fun x h s=>F59_R n _ x h (p0:=.shut)) H fun x4 hr fr H=>qg 2 [(16,vB !x4)] H fun _ H=>qe ?_
  rcases csplit hr with ⟨c6,hr⟩|⟨c6,hr⟩
  rotate_left
  ·refine qF H c6 (W_skip ?_)
   obtain rfl:=Option.some.inj hr
   exact ⟨rfl,H.tq,K.keep []⟩
  refine qT H c6 (sr (qg 1 [(2,vB false)] H fun _ H=>qe (W_ret ?_)))
  obtain rfl:=Option.some.inj hr
  exact ⟨rfl,H.tq,K.keep []⟩
 rcases j8 with j8a | j8b
 ·rintro e fr st ⟨rfl,H,K⟩
  obtain rfl:=Option.some.inj hr
  exact qr [vB false] H K
 rintro e fr st ⟨rfl,H,K⟩
 refine sr ?_
 refine qc (fun s=>keyWords_R) H fun _ H=>qg 1 [(18,.agg [keysV])] H fun _ H=>?_
 refine qal 93 [.sc (.map none)] H K fun id9 st K fr H=>?_
 refine qst 93 0 (.agg [keysV]) [keysV] 0 H K rfl fun st K fr H=>qe (sr ?_)
 refine qld 93 0 (.agg [keysV]) 0 H K rfl fun _ H=>qg 1 [(20,aN a0)] H fun _ H=>?_
 refine qb hr (fun x h s=>F64_R n _ x h (p0:=.shut)) H fun x10 hr fr H=>qg 1 [(2,vB x10)] H fun _ H=>qe (W_ret ?_)
 obtain rfl:=Option.some.inj hr
 exact qr [vB x10] H K
end Go.Proofs.YtbecjgckobhmpaaGreatDoor
end
section
namespace Go.Proofs.YtbecjgckobhmpaaGreatDoor
open Go Go.AM Go.Proofs
set_option maxRecDepth 100000
set_option maxHeartbeats 4000000
def F73 :Option ((List (List ByteArray))) :=
 some ([([(bs [124,124])]:List ByteArray),([(bs [38,38])]:List ByteArray),([(bs [61,61]),(bs [33,61]),(bs [60]),(bs [60,61])]:List ByteArray),([(bs [124])]:List ByteArray),([(bs [94])]:List ByteArray),([(bs [38])]:List ByteArray),([(bs [43]),(bs [45])]:List ByteArray),([(bs [42])]:List ByteArray)]:List (List ByteArray))
theorem F73_R  (r:(List (List ByteArray))) (hr:F73  = some r) {st:St}:R Tryz.prog AN 73 [] st (.ret (vL (tL tS) r .shut)) st:=by
 unfold F73 at hr
 refine R_pureX [] [] Tryz.func73 rfl (by kernel_rfl) rfl fun fr st H K=>sr (qg 1 [] H fun _ H=>qe (sr ?_))
 refine qbs tS 30 ([(bs [124,124])]:List ByteArray) H fun _ H=>?_
 refine qbs tS 30 ([(bs [38,38])]:List ByteArray) H fun _ H=>?_
 refine qbs tS 30 ([(bs [61,61]),(bs [33,61]),(bs [60]),(bs [60,61])]:List ByteArray) H fun _ H=>?_
 refine qbs tS 30 ([(bs [124])]:List ByteArray) H fun _ H=>?_
 refine qbs tS 30 ([(bs [94])]:List ByteArray) H fun _ H=>?_
 refine qbs tS 30 ([(bs [38])]:List ByteArray) H fun _ H=>?_
 refine qbs tS 30 ([(bs [43]),(bs [45])]:List ByteArray) H fun _ H=>?_
 refine qbs tS 30 ([(bs [42])]:List ByteArray) H fun _ H=>?_
 refine qbs (tL tS) 98 ([([(bs [124,124])]:List ByteArray),([(bs [38,38])]:List ByteArray),([(bs [61,61]),(bs [33,61]),(bs [60]),(bs [60,61])]:List ByteArray),([(bs [124])]:List ByteArray),([(bs [94])]:List ByteArray),([(bs [38])]:List ByteArray),([(bs [43]),(bs [45])]:List ByteArray),([(bs [42])]:List ByteArray)]:List (List ByteArray)) H fun _ H=>qg 1 [(0,vL (tL tS) ([([(bs [124,124])]:List ByteArray),([(bs [38,38])]:List ByteArray),([(bs [61,61]),(bs [33,61]),(bs [60]),(bs [60,61])]:List ByteArray),([(bs [124])]:List ByteArray),([(bs [94])]:List ByteArray),([(bs [38])]:List ByteArray),([(bs [43]),(bs [45])]:List ByteArray),([(bs [42])]:List ByteArray)]:List (List ByteArray)) .full)] H fun _ H=>qe (W_ret ?_)
 obtain rfl:=Option.some.inj hr
 exact qr [vL (tL tS) ([([(bs [124,124])]:List ByteArray),([(bs [38,38])]:List ByteArray),([(bs [61,61]),(bs [33,61]),(bs [60]),(bs [60,61])]:List ByteArray),([(bs [124])]:List ByteArray),([(bs [94])]:List ByteArray),([(bs [38])]:List ByteArray),([(bs [43]),(bs [45])]:List ByteArray),([(bs [42])]:List ByteArray)]:List (List ByteArray)) .full] H K (hs:=fun _=>by simp only [strip,stripL_ET,Option.map_some,oneOf] <;> rfl)
def F60_step (F60:Node→Int→Option Int) (n:Nat) (a0:Node) (a1:Int):Option Int :=
 (iter (σ:=Int × Int) (ρ:=Int) (fun s1=>bif (decide (s1.2 < (a0.kids.length:Int))) && (decide (s1.1≤a1)) then
   ((idxL a0.kids s1.2).bind fun x3 =>
   (F60 x3 (w64 (a1 - s1.1))).bind fun x4 =>
   some (.inl (w64 (s1.1 + x4),w64 (s1.2 + 1))))
  else
   (some (.inr s1.1))) n ((1:Int),(0:Int))).bind fun r5 =>
 some r5
def F60:Nat→Node→Int→Option Int
 | 0,_,_=>none
 | n + 1,a0,a1=>F60_step (F60 n) n a0 a1
def F34_step (F34:Node→Option Node) (n:Nat) (a0:Node):Option Node :=
 (iter (σ:=Int × Node) (ρ:=Node) (fun s3=>bif decide (s3.1 < (a0.kids.length:Int)) then
   ((idxL a0.kids s3.1).bind fun x5 =>
   (F34 x5).bind fun x6 =>
   (appL 104 s3.2.kids ([x6]:List Node)).bind fun x7 =>
   some (.inl (w64 (s3.1 + 1),(Node.mk s3.2.kind s3.2.name s3.2.other s3.2.n s3.2.len s3.2.init s3.2.ghost x7 s3.2.pos))))
  else
   (some (.inr s3.2))) n ((0:Int),(Node.mk a0.kind a0.name a0.other a0.n a0.len a0.init a0.ghost ([]:List Node) 0))).bind fun r9 =>
 some r9
def F34:Nat→Node→Option Node
 | 0,_=>none
 | n + 1,a0=>F34_step (F34 n) n a0
theorem F34_RR (n:Nat):(∀ (a0:Node) (r:Node),F34 n a0 = some r→∀ {st:St} {p0:Spare},R Tryz.prog AN 34 [.agg (cNode p0 a0)] st (.ret (aN r)) st):=by
 induction n with
 | zero=>(intros; contradiction)
 | succ n ih =>
  have ih_F34:=@ih; clear ih
  intro a0 r hr st p0
  change F34_step (F34 n) n a0 = some r at hr
  unfold F34_step at hr
  refine R_pureX [aN a0] [(0,aN a0)] Tryz.func34 rfl (by simp only [strip,stripL,stripL_cNode,Option.bind_some,Option.map_some]) rfl fun fr st H K=>sr (qg 1 [(1,cN a0 0)] H fun _ H=>?_)
  refine qal 24 zL H K fun id1 st K fr H=>qe (sr (qg 1 [(5,aN a0)] H fun _ H=>?_))
  refine qal 24 zL H K fun id2 st K fr H=>?_
  refine qst 24 0 (aN a0) [vI a0.kind,vS a0.name,vS a0.other,vI a0.n,vI a0.len,vI a0.init,vB a0.ghost,vL tNode a0.kids .shut,vI a0.pos] 0 H K rfl fun st K fr H=>qe (sr (qg 1 [(6,.ptr id2 8)] H fun _ H=>?_))
  refine qst 3 8 (vI 0) [vI a0.kind,vS a0.name,vS a0.other,vI a0.n,vI a0.len,vI a0.init,vB a0.ghost,vL tNode a0.kids .shut,vI 0] 0 H K rfl fun st K fr H=>qe (sr (qg 1 [(7,.ptr id2 7)] H fun _ H=>?_))
  refine qst 22 7 (vL tNode ([]:List Node) .nil) [vI a0.kind,vS a0.name,vS a0.other,vI a0.n,vI a0.len,vI a0.init,vB a0.ghost,vL tNode ([]:List Node) .nil,vI 0] 0 H K rfl fun st K fr H=>qe (W_seq (W_seq (W_reg (qg 1 [(4,vI 0)] H fun _ H=>qe (W_block ?_)))))
  obtain ⟨r9,hr9,hr⟩:=obind hr
  refine W_iter hr9 (fun (s3:Int × Node) fr st=>∃ (s3sp0:Spare),Rd fr [(1,cN a0 0),(2,.ptr id1 0),(3,.ptr id2 0),(4,vI s3.1)]∧HL st [.own s3sp0,.obj id2 (.cells 24 [vI s3.2.kind,vS s3.2.name,vS s3.2.other,vI s3.2.n,vI s3.2.len,vI s3.2.init,vB s3.2.ghost,vL tNode s3.2.kids s3sp0,vI s3.2.pos]),.obj id1 (.cells 24 zL)]) (fun (r9:Node) e fr st=>e = .exit 0∧∃ (r9sp0:Spare),Rd fr [(2,.ptr id1 0),(3,.ptr id2 0)]∧HL st [.own r9sp0,.obj id2 (.cells 24 [vI r9.kind,vS r9.name,vS r9.other,vI r9.n,vI r9.len,vI r9.init,vB r9.ghost,vL tNode r9.kids r9sp0,vI r9.pos]),.obj id1 (.cells 24 zL)]) ⟨.nil,H.tq,((K.keep [true,true]).nilo)⟩ ?_ ?_
  ·intro s3 fr st r hi hr
   obtain ⟨s3sp0,H,K⟩:=hi
   refine W_seq (W_seq (W_reg (qg 3 [(8,vI s3.1),(10,vL tNode a0.kids .shut)] H fun _ H=>?_)))
   refine qln tNode 22 a0.kids .shut H fun _ H=>qg 1 [(12,vB (decide (s3.1 < (a0.kids.length:Int))))] H fun _ H=>qe ?_
   rcases csplit hr with ⟨c4,hr⟩|⟨c4,hr⟩
   rotate_left
   ·refine qF H c4 ?_
    refine W_exit ?_
    obtain rfl:=Option.some.inj hr
    exact ⟨by simp,⟨rfl,s3sp0,H.tq,K.keep [true,true,true]⟩⟩
   refine qT H c4 (W_skip (W_seq (W_block ?_)))
   refine W_drw (qg 1 [(15,.ptr id2 7)] H fun _ H=>?_)
   refine qld 22 7 (vL tNode s3.2.kids s3sp0) 1 H K rfl fun _ H=>qg 3 [(18,vL tNode a0.kids .shut),(19,vI s3.1)] H fun _ H=>?_
   refine qix tNode 22 .shut hr H fun x5 hr hx5 fr H=>qg 1 [(21,aN x5)] H fun _ H=>?_
   refine qb hr (fun x h s=>ih_F34 _ x h (p0:=.shut)) H fun x6 hr fr H=>?_
   refine qv (.buildSlice 22 1 [(0,aN x6)]) H (run_bslice (v:=vL tNode ([x6]:List Node) .full) (v0:=.slice [aN x6] .full) (by kernel_rfl) (by simp only [List.map,vL,tNode_e,eNode_eq,cNode] <;> rfl)) fun _ H=>?_
   refine qapp tNode 104 22 22 .full hr 0 H K rfl fun x7 hr sp8 st K fr H=>qg 1 [(25,.ptr id2 7)] H fun _ H=>?_
   refine qst 22 7 (vL tNode x7 sp8) [vI s3.2.kind,vS s3.2.name,vS s3.2.other,vI s3.2.n,vI s3.2.len,vI s3.2.init,vB s3.2.ghost,vL tNode x7 sp8,vI s3.2.pos] 1 H K rfl fun st K fr H=>qe (qdI K [0,.look (some 0),0,0,0,0,0,0,0,.keep [],0,.put 0] (W_reg (qg 3 [(4,vI (w64 (s3.1 + 1)))] H fun _ H=>qe ?_)))
   obtain rfl:=Option.some.inj hr
   exact ⟨rfl,⟨sp8,H.tq,K.keep [true,true,true]⟩⟩
  rintro e fr st ⟨rfl,r9sp0,H,K⟩
  refine sr ?_
  refine qld 24 0 (aN r9) 1 H K rfl fun _ H=>?_
  refine qst 24 0 (aN r9) [vI r9.kind,vS r9.name,vS r9.other,vI r9.n,vI r9.len,vI r9.init,vB r9.ghost,vL tNode r9.kids .shut,vI r9.pos] 2 H K rfl fun st K fr H=>qe (W_ret ?_)
  obtain rfl:=Option.some.inj hr
  exact e_ret [aN r9] H K (fun _=>resC id1 0 24 [vI r9.kind,vS r9.name,vS r9.other,vI r9.n,vI r9.len,vI r9.init,vB r9.ghost,vL tNode r9.kids .shut,vI r9.pos] 2 (by kernel_rfl) rfl (by kernel_rfl) resN) (fun _=>by simp only [strip,stripL_cNode,Option.map_some,oneOf] <;> rfl)
theorem F34_R (n:Nat) (a0:Node) (r:Node) (hr:F34 n a0 = some r) {st:St} {p0:Spare}:R Tryz.prog AN 34 [.agg (cNode p0 a0)] st (.ret (aN r)) st:=(F34_RR n) a0 r hr
end Go.Proofs.YtbecjgckobhmpaaGreatDoor
end
section
namespace Go.Proofs.YtbecjgckobhmpaaGreatDoor
open Go Go.AM Go.Proofs
set_option maxRecDepth 100000
set_option maxHeartbeats 4000000
end Go.Proofs.YtbecjgckobhmpaaGreatDoor
end
section
namespace Go.Proofs.YtbecjgckobhmpaaGreatDoor
open Go Go.AM Go.Proofs
set_option maxRecDepth 100000
set_option maxHeartbeats 4000000
def F113 (a0:ByteArray) (a1:Int) (a2:ByteArray):Option Bool :=
 bif decide ((w64 (a1 + (a2.size:Int)))≤(a0.size:Int)) then
  ((subS a0 a1 (w64 (a1 + (a2.size:Int)))).bind fun x2 =>
  some (strEq x2 a2))
 else
  (some false)
theorem F113_R (a0:ByteArray) (a1:Int) (a2:ByteArray) (r:Bool) (hr:F113 a0 a1 a2 = some r) {st:St}:R Tryz.prog AN 113 [vS a0,vI a1,vS a2] st (.ret (vB r)) st:=by
 unfold F113 at hr
 refine R_pureX [vS a0,vI a1,vS a2] [(0,vS a0),(1,vI a1),(2,vS a2)] Tryz.func113 rfl (by kernel_rfl) rfl fun fr st H K=>sr (qg 1 [] H fun _ H=>qe (sr (qg 8 [(14,vB (decide ((w64 (a1 + (a2.size:Int)))≤(a0.size:Int))))] H fun _ H=>?_)))
 rcases csplit hr with ⟨c1,hr⟩|⟨c1,hr⟩
 rotate_left
 ·rw [c1] at H
  refine qg 11 [(6,vB false)] H fun _ H=>qe (W_ret ?_)
  cases hr
  exact qr [vB false] H K
 rw [c1] at H
 refine qg 6 [(15,vS a0),(16,vI a1),(20,vI (w64 (a1 + (a2.size:Int))))] H fun _ H=>?_
 obtain ⟨x2,hx2,hr⟩:=obind hr
 refine qv (.slice 9 (vS a0) (some (vI a1)) (some (vI (w64 (a1 + (a2.size:Int)))))) H (run_subS (by kernel_rfl) hx2) fun _ H=>qg 4 [(6,vB (strEq x2 a2))] H fun _ H=>qe (W_ret ?_)
 cases hr
 exact qr [vB (strEq x2 a2)] H K
def F114 (a0:Int):Option Bool :=
 some ((((a0 == 32) || (a0 == 9)) || (a0 == 10)) || (a0 == 13))
theorem F114_R (a0:Int) (r:Bool) (hr:F114 a0 = some r) {st:St}:R Tryz.prog AN 114 [vU a0] st (.ret (vB r)) st:=by
 unfold F114 at hr
 refine R_pureX [vU a0] [(0,vU a0)] Tryz.func114 rfl (by kernel_rfl) rfl fun fr st H K=>sr (qg 1 [] H fun _ H=>qe (sr (qg 3 [(5,vB (a0 == 32))] H fun _ H=>qg 3 [(8,vB ((a0 == 32) || (a0 == 9)))] H (hs:=by intro _ _; generalize (a0 == 32) = b0; cases b0 <;> kernel_rfl) fun _ H=>qg 1 [(9,vB ((a0 == 32) || (a0 == 9)))] H fun _ H=>qg 3 [(12,vB (((a0 == 32) || (a0 == 9)) || (a0 == 10)))] H (hs:=by intro _ _; generalize ((a0 == 32) || (a0 == 9)) = b0; cases b0 <;> kernel_rfl) fun _ H=>qg 1 [(13,vB (((a0 == 32) || (a0 == 9)) || (a0 == 10)))] H fun _ H=>qg 3 [(16,vB ((((a0 == 32) || (a0 == 9)) || (a0 == 10)) || (a0 == 13)))] H (hs:=by intro _ _; generalize (((a0 == 32) || (a0 == 9)) || (a0 == 10)) = b0; cases b0 <;> kernel_rfl) fun _ H=>qg 1 [(2,vB ((((a0 == 32) || (a0 == 9)) || (a0 == 10)) || (a0 == 13)))] H fun _ H=>qe (W_ret ?_))))
 cases hr
 exact qr [vB ((((a0 == 32) || (a0 == 9)) || (a0 == 10)) || (a0 == 13))] H K
def F74 (n:Nat) (a0:ByteArray) (a1:Int):Option Int :=
 (iter (σ:=Int) (ρ:=Int ⊕ Int) (fun s1=>bif decide (s1 < (a0.size:Int)) then
   ((F113 a0 s1 (bs [47,47])).bind fun x3 =>
   bif x3 then
    ((iter (σ:=Int) (ρ:=Int) (fun s5=>bif decide (s5 < (a0.size:Int)) then
      ((idxS a0 s5).bind fun x7 =>
      bif x7 != 10 then
       (some (.inl (w64 (s5 + 1))))
      else
       (some (.inr s5)))
     else
      (some (.inr s5))) n s1).bind fun r9 =>
    some (.inl r9))
   else
    ((idxS a0 s1).bind fun x10 =>
    (F114 x10).bind fun x11 =>
    bif x11 then
     (some (.inl (w64 (s1 + 1))))
    else
     (some (.inr (.inl s1)))))
  else
   (some (.inr (.inr s1)))) n a1).bind fun r13=>match r13 with
 | .inl r13a=>some r13a
 | .inr r13b=>some r13b
theorem F74_R (n:Nat) (a0:ByteArray) (a1:Int) (r:Int) (hr:F74 n a0 a1 = some r) {st:St}:R Tryz.prog AN 74 [vS a0,vI a1] st (.ret (vI r)) st:=by
 unfold F74 at hr
 refine R_pureX [vS a0,vI a1] [(0,vS a0),(1,vI a1)] Tryz.func74 rfl (by kernel_rfl) rfl fun fr st H K=>sr (qg 1 [] H fun _ H=>qe (W_seq (W_block ?_)))
 obtain ⟨r13,hr13,hr⟩:=obind hr
 refine W_iter hr13 (fun (s1:Int) fr st=>Rd fr [(0,vS a0),(1,vI s1)]∧HL st []) (fun (r13:Int ⊕ Int) e fr st=>match r13 with | .inl r13a=>(e = .ret∧Rd fr [(4,vI r13a)]∧HL st []) | .inr r13b=>(e = .exit 0∧Rd fr [(1,vI r13b)]∧HL st [])) ⟨H.tq,K.keep []⟩ ?_ ?_
 ·intro s1 fr st r hi hr
  obtain ⟨H,K⟩:=hi
  refine W_seq (W_seq (W_reg (qg 4 [(8,vB (decide (s1 < (a0.size:Int))))] H fun _ H=>qe ?_)))
  rcases csplit hr with ⟨c2,hr⟩|⟨c2,hr⟩
  rotate_left
  ·refine qF H c2 ?_
   refine W_exit ?_
   cases hr
   exact ⟨by simp,⟨rfl,H.tq,K.keep []⟩⟩
  refine qT H c2 (W_skip (W_block (sr (qg 2 [(9,vS a0),(10,vI s1)] H fun _ H=>?_))))
  refine qb hr (fun x h s=>F113_R  _ _ _ x h) H fun x3 hr fr H=>qe ?_
  rcases csplit hr with ⟨c4,hr⟩|⟨c4,hr⟩
  rotate_left
  ·refine qF H c4 (sr (qg 2 [(24,vS a0),(25,vI s1)] H fun _ H=>?_))
   obtain ⟨x10,hx10,hr⟩:=obind hr
   refine qv (.index 9 (vS a0) (vI s1)) H (run_idxS (by kernel_rfl) hx10) fun _ H=>?_
   refine qb hr (fun x h s=>F114_R  _ x h) H fun x11 hr fr H=>qe ?_
   rcases csplit hr with ⟨c12,hr⟩|⟨c12,hr⟩
   ·refine qT H c12 (W_reg (qg 3 [(1,vI (w64 (s1 + 1)))] H fun _ H=>qe ?_))
    cases hr
    exact ⟨rfl,⟨H.tq,K.keep []⟩⟩
   refine qF H c12 (sr (qg 2 [(4,vI s1)] H fun _ H=>qe (W_ret ?_)))
   cases hr
   exact ⟨by simp,⟨rfl,H.tq,K.keep []⟩⟩
  refine qT H c4 (W_block ?_)
  obtain ⟨r9,hr9,hr⟩:=obind hr
  refine W_iter hr9 (fun (s5:Int) fr st=>Rd fr [(0,vS a0),(1,vI s5)]∧HL st []) (fun (r9:Int) e fr st=>e = .exit 2∧Rd fr [(0,vS a0),(1,vI r9)]∧HL st []) ⟨H.tq,K.keep []⟩ ?_ ?_
  ·intro s5 fr st r hi hr
   obtain ⟨H,K⟩:=hi
   refine W_seq (W_seq (W_reg (qg 5 [(16,vB (decide (s5 < (a0.size:Int))))] H fun _ H=>?_)))
   rcases csplit hr with ⟨c6,hr⟩|⟨c6,hr⟩
   rotate_left
   ·rw [c6] at H
    refine qg 5 [(21,vB false)] H fun _ H=>qe (qF H rfl ?_)
    refine W_exit ?_
    cases hr
    exact ⟨by simp,⟨rfl,H.tq,K.keep []⟩⟩
   rw [c6] at H
   refine qg 2 [(17,vS a0),(18,vI s5)] H fun _ H=>?_
   obtain ⟨x7,hx7,hr⟩:=obind hr
   refine qv (.index 9 (vS a0) (vI s5)) H (run_idxS (by kernel_rfl) hx7) fun _ H=>qg 2 [(21,vB (x7 != 10))] H fun _ H=>qe ?_
   rcases csplit hr with ⟨c8,hr⟩|⟨c8,hr⟩
   rotate_left
   ·refine qF H c8 ?_
    refine W_exit ?_
    cases hr
    exact ⟨by simp,⟨rfl,H.tq,K.keep []⟩⟩
   refine qT H c8 (W_skip (W_block (W_reg (qg 3 [(1,vI (w64 (s5 + 1)))] H fun _ H=>qe ?_))))
   cases hr
   exact ⟨rfl,⟨H.tq,K.keep []⟩⟩
  rintro e fr st ⟨rfl,H,K⟩
  cases hr
  exact ⟨rfl,⟨H.tq,K.keep []⟩⟩
 rcases r13 with r13a | r13b
 ·rintro e fr st ⟨rfl,H,K⟩
  obtain rfl:=Option.some.inj hr
  exact qr [vI r13a] H K
 rintro e fr st ⟨rfl,H,K⟩
 refine sr (qg 2 [(4,vI r13b)] H fun _ H=>qe (W_ret ?_))
 obtain rfl:=Option.some.inj hr
 exact qr [vI r13b] H K
def F115 (a0:Int):Option Bool :=
 some (((decide (97≤a0)) && (decide (a0≤122))) || ((decide (65≤a0)) && (decide (a0≤90))))
theorem F115_R (a0:Int) (r:Bool) (hr:F115 a0 = some r) {st:St}:R Tryz.prog AN 115 [vU a0] st (.ret (vB r)) st:=by
 unfold F115 at hr
 refine R_pureX [vU a0] [(0,vU a0)] Tryz.func115 rfl (by kernel_rfl) rfl fun fr st H K=>sr (qg 1 [] H fun _ H=>qe (sr (qg 3 [(5,vB (decide (97≤a0)))] H fun _ H=>qg 3 [(8,vB ((decide (97≤a0)) && (decide (a0≤122))))] H (hs:=by intro _ _; generalize (decide (97≤a0)) = b0; cases b0 <;> kernel_rfl) fun _ H=>qg 1 [(9,vB ((decide (97≤a0)) && (decide (a0≤122))))] H fun _ H=>?_)))
 refine qseg 7 [(16,vB (((decide (97≤a0)) && (decide (a0≤122))) || ((decide (65≤a0)) && (decide (a0≤90)))))] H ?_ ?_
 ·cases hg1:((decide (97≤a0)) && (decide (a0≤122)))
  ·rw [hg1] at H
   refine seg_go 4 3 [(12,vB (decide (65≤a0)))] H fun _ H=>?_
   cases hg2:(decide (65≤a0))
   ·rw [hg2] at H
    refine seg_go 0 4 [(16,vB false)] H fun _ H=>?_
    exact seg_end (by (try simp only [hg1,hg2]); exact H.tq)
   ·rw [hg2] at H
    refine seg_go 0 4 [(16,vB (decide (a0≤90)))] H fun _ H=>?_
    exact seg_end (by (try simp only [hg1,hg2]); exact H.tq)
  ·rw [hg1] at H
   refine seg_go 0 7 [(16,vB true)] H fun _ H=>?_
   exact seg_end (by (try simp only [hg1]); exact H.tq)
 intro fr H
 refine qg 1 [(2,vB (((decide (97≤a0)) && (decide (a0≤122))) || ((decide (65≤a0)) && (decide (a0≤90)))))] H fun _ H=>qe (W_ret ?_)
 cases hr
 exact qr [vB (((decide (97≤a0)) && (decide (a0≤122))) || ((decide (65≤a0)) && (decide (a0≤90))))] H K
def F117 (a0:Int):Option Bool :=
 some ((decide (48≤a0)) && (decide (a0≤57)))
theorem F117_R (a0:Int) (r:Bool) (hr:F117 a0 = some r) {st:St}:R Tryz.prog AN 117 [vU a0] st (.ret (vB r)) st:=by
 unfold F117 at hr
 refine R_pureX [vU a0] [(0,vU a0)] Tryz.func117 rfl (by kernel_rfl) rfl fun fr st H K=>sr (qg 1 [] H fun _ H=>qe (sr (qg 3 [(5,vB (decide (48≤a0)))] H fun _ H=>qg 3 [(8,vB ((decide (48≤a0)) && (decide (a0≤57))))] H (hs:=by intro _ _; generalize (decide (48≤a0)) = b0; cases b0 <;> kernel_rfl) fun _ H=>qg 1 [(2,vB ((decide (48≤a0)) && (decide (a0≤57))))] H fun _ H=>qe (W_ret ?_))))
 cases hr
 exact qr [vB ((decide (48≤a0)) && (decide (a0≤57)))] H K
def F116 (n:Nat) (a0:ByteArray) (a1:Int):Option (Token × Bool) :=
 (iter (σ:=Int) (ρ:=Int) (fun s2=>bif decide (s2 < (a0.size:Int)) then
   ((idxS a0 s2).bind fun x4 =>
   (F115 x4).bind fun x5 =>
   bif x5 then
    (some (.inl (w64 (s2 + 1))))
   else
    ((idxS a0 s2).bind fun x7 =>
    (F117 x7).bind fun x8 =>
    bif x8 then
     (some (.inl (w64 (s2 + 1))))
    else
     ((idxS a0 s2).bind fun x10 =>
     bif x10 == 95 then
      (some (.inl (w64 (s2 + 1))))
     else
      (some (.inr s2)))))
  else
   (some (.inr s2))) n a1).bind fun r12 =>
 (subS a0 a1 r12).bind fun x13 =>
 some ((Token.mk 1 x13 a1),(decide ((w64 (r12 - a1))≤16)))
theorem F116_R (n:Nat) (a0:ByteArray) (a1:Int) (r:Token × Bool) (hr:F116 n a0 a1 = some r) {st:St}:R Tryz.prog AN 116 [vS a0,vI a1] st (.ret (.tuple [.agg (cToken r.1),vB r.2])) st:=by
 unfold F116 at hr
 refine R_pureX [vS a0,vI a1] [(0,vS a0),(1,vI a1)] Tryz.func116 rfl (by kernel_rfl) rfl fun fr st H K=>sr ?_
 refine qal 61 [vI 0,vS (bs []),vI 0] H K fun id1 st K fr H=>qg 1 [] H fun _ H=>qe (sr (qg 2 [(6,vI a1)] H fun _ H=>qe (W_seq (W_block ?_))))
 obtain ⟨r12,hr12,hr⟩:=obind hr
 refine W_iter hr12 (fun (s2:Int) fr st=>Rd fr [(0,vS a0),(1,vI a1),(4,.ptr id1 0),(6,vI s2)]∧HL st [.obj id1 (.cells 61 [vI 0,vS (bs []),vI 0])]) (fun (r12:Int) e fr st=>e = .exit 0∧Rd fr [(0,vS a0),(1,vI a1),(4,.ptr id1 0),(6,vI r12)]∧HL st [.obj id1 (.cells 61 [vI 0,vS (bs []),vI 0])]) ⟨H.tq,K.keep [true]⟩ ?_ ?_
 ·intro s2 fr st r hi hr
  obtain ⟨H,K⟩:=hi
  refine W_seq (W_seq (W_reg (qg 5 [(12,vB (decide (s2 < (a0.size:Int))))] H fun _ H=>?_)))
  rcases csplit hr with ⟨c3,hr⟩|⟨c3,hr⟩
  rotate_left
  ·rw [c3] at H
   refine qg 17 [(29,vB false)] H fun _ H=>qe (qF H rfl ?_)
   refine W_exit ?_
   cases hr
   exact ⟨by simp,⟨rfl,H.tq,K.keep [true]⟩⟩
  rw [c3] at H
  refine qg 2 [(13,vS a0),(14,vI s2)] H fun _ H=>?_
  obtain ⟨x4,hx4,hr⟩:=obind hr
  refine qv (.index 9 (vS a0) (vI s2)) H (run_idxS (by kernel_rfl) hx4) fun _ H=>?_
  refine qb hr (fun x h s=>F115_R  _ x h) H fun x5 hr fr H=>qg 1 [(17,vB x5)] H fun _ H=>?_
  rcases csplit hr with ⟨c6,hr⟩|⟨c6,hr⟩
  ·rw [c6] at H
   refine qg 12 [(29,vB true)] H fun _ H=>qe (qT H rfl (W_skip (W_block (W_reg (qg 3 [(6,vI (w64 (s2 + 1)))] H fun _ H=>qe ?_)))))
   cases hr
   exact ⟨rfl,⟨H.tq,K.keep [true]⟩⟩
  rw [c6] at H
  refine qg 2 [(18,vS a0),(19,vI s2)] H fun _ H=>?_
  obtain ⟨x7,hx7,hr⟩:=obind hr
  refine qv (.index 9 (vS a0) (vI s2)) H (run_idxS (by kernel_rfl) hx7) fun _ H=>?_
  refine qb hr (fun x h s=>F117_R  _ x h) H fun x8 hr fr H=>qg 2 [(23,vB x8)] H fun _ H=>?_
  rcases csplit hr with ⟨c9,hr⟩|⟨c9,hr⟩
  ·rw [c9] at H
   refine qg 6 [(29,vB true)] H fun _ H=>qe (qT H rfl (W_skip (W_block (W_reg (qg 3 [(6,vI (w64 (s2 + 1)))] H fun _ H=>qe ?_)))))
   cases hr
   exact ⟨rfl,⟨H.tq,K.keep [true]⟩⟩
  rw [c9] at H
  refine qg 2 [(24,vS a0),(25,vI s2)] H fun _ H=>?_
  obtain ⟨x10,hx10,hr⟩:=obind hr
  refine qv (.index 9 (vS a0) (vI s2)) H (run_idxS (by kernel_rfl) hx10) fun _ H=>qg 3 [(29,vB (x10 == 95))] H fun _ H=>qe ?_
  rcases csplit hr with ⟨c11,hr⟩|⟨c11,hr⟩
  rotate_left
  ·refine qF H c11 ?_
   refine W_exit ?_
   cases hr
   exact ⟨by simp,⟨rfl,H.tq,K.keep [true]⟩⟩
  refine qT H c11 (W_skip (W_block (W_reg (qg 3 [(6,vI (w64 (s2 + 1)))] H fun _ H=>qe ?_))))
  cases hr
  exact ⟨rfl,⟨H.tq,K.keep [true]⟩⟩
 rintro e fr st ⟨rfl,H,K⟩
 refine sr (qg 3 [(32,vS a0),(33,vI a1),(34,vI r12)] H fun _ H=>?_)
 obtain ⟨x13,hx13,hr⟩:=obind hr
 refine qv (.slice 9 (vS a0) (some (vI a1)) (some (vI r12))) H (run_subS (by kernel_rfl) hx13) fun _ H=>qg 6 [(37,.agg [vI 1,vS x13,vI a1]),(41,vB (decide ((w64 (r12 - a1))≤16)))] H fun _ H=>?_
 refine qst 61 0 (.agg [vI 1,vS x13,vI a1]) [vI 1,vS x13,vI a1] 0 H K rfl fun st K fr H=>qg 1 [(5,vB (decide ((w64 (r12 - a1))≤16)))] H fun _ H=>qe (W_ret ?_)
 cases hr
 exact e_ret [.agg [vI 1,vS x13,vI a1],vB (decide ((w64 (r12 - a1))≤16))] H K (fun _=>resC id1 0 61 [vI 1,vS x13,vI a1] 0 (by kernel_rfl) rfl (by kernel_rfl) (resT (by kernel_rfl) resN)) (fun _=>by kernel_rfl)
def F118 (n:Nat) (a0:ByteArray) (a1:Int):Option (Token × Bool) :=
 (iter (σ:=Int) (ρ:=Int) (fun s2=>bif decide (s2 < (a0.size:Int)) then
   ((idxS a0 s2).bind fun x4 =>
   (F117 x4).bind fun x5 =>
   bif x5 then
    (some (.inl (w64 (s2 + 1))))
   else
    (some (.inr s2)))
  else
   (some (.inr s2))) n a1).bind fun r7 =>
 (bif decide ((w64 (r7 - a1))≤9) then
   ((idxS a0 a1).bind fun x9 =>
   some ((x9 != 48) || (r7 == (w64 (a1 + 1)))))
  else
   (some false):Option (Bool)).bind fun j10 =>
 (bif decide (r7 < (a0.size:Int)) then
   ((idxS a0 r7).bind fun x12 =>
   (F115 x12).bind fun x13 =>
   bif x13 then
    (some false)
   else
    ((idxS a0 r7).bind fun x15 =>
    bif x15 == 95 then
     (some false)
    else
     (some j10)))
  else
   (some j10):Option (Bool)).bind fun j17 =>
 (subS a0 a1 r7).bind fun x18 =>
 some ((Token.mk 2 x18 a1),j17)
theorem F118_R (n:Nat) (a0:ByteArray) (a1:Int) (r:Token × Bool) (hr:F118 n a0 a1 = some r) {st:St}:R Tryz.prog AN 118 [vS a0,vI a1] st (.ret (.tuple [.agg (cToken r.1),vB r.2])) st:=by
 unfold F118 at hr
 refine R_pureX [vS a0,vI a1] [(0,vS a0),(1,vI a1)] Tryz.func118 rfl (by kernel_rfl) rfl fun fr st H K=>sr ?_
 refine qal 61 [vI 0,vS (bs []),vI 0] H K fun id1 st K fr H=>qg 1 [] H fun _ H=>qe (sr (qg 2 [(6,vI a1)] H fun _ H=>qe (W_seq (W_block ?_))))
 obtain ⟨r7,hr7,hr⟩:=obind hr
 refine W_iter hr7 (fun (s2:Int) fr st=>Rd fr [(0,vS a0),(1,vI a1),(4,.ptr id1 0),(6,vI s2)]∧HL st [.obj id1 (.cells 61 [vI 0,vS (bs []),vI 0])]) (fun (r7:Int) e fr st=>e = .exit 0∧Rd fr [(0,vS a0),(1,vI a1),(4,.ptr id1 0),(6,vI r7)]∧HL st [.obj id1 (.cells 61 [vI 0,vS (bs []),vI 0])]) ⟨H.tq,K.keep [true]⟩ ?_ ?_
 ·intro s2 fr st r hi hr
  obtain ⟨H,K⟩:=hi
  refine W_seq (W_seq (W_reg (qg 5 [(13,vB (decide (s2 < (a0.size:Int))))] H fun _ H=>?_)))
  rcases csplit hr with ⟨c3,hr⟩|⟨c3,hr⟩
  rotate_left
  ·rw [c3] at H
   refine qg 5 [(18,vB false)] H fun _ H=>qe (qF H rfl ?_)
   refine W_exit ?_
   cases hr
   exact ⟨by simp,⟨rfl,H.tq,K.keep [true]⟩⟩
  rw [c3] at H
  refine qg 2 [(14,vS a0),(15,vI s2)] H fun _ H=>?_
  obtain ⟨x4,hx4,hr⟩:=obind hr
  refine qv (.index 9 (vS a0) (vI s2)) H (run_idxS (by kernel_rfl) hx4) fun _ H=>?_
  refine qb hr (fun x h s=>F117_R  _ x h) H fun x5 hr fr H=>qg 1 [(18,vB x5)] H fun _ H=>qe ?_
  rcases csplit hr with ⟨c6,hr⟩|⟨c6,hr⟩
  rotate_left
  ·refine qF H c6 ?_
   refine W_exit ?_
   cases hr
   exact ⟨by simp,⟨rfl,H.tq,K.keep [true]⟩⟩
  refine qT H c6 (W_skip (W_block (W_reg (qg 3 [(6,vI (w64 (s2 + 1)))] H fun _ H=>qe ?_))))
  cases hr
  exact ⟨rfl,⟨H.tq,K.keep [true]⟩⟩
 rintro e fr st ⟨rfl,H,K⟩
 refine W_seq ?_
 obtain ⟨j10,hj10,hr⟩:=obind hr
 refine W_via (fun e fr st=>e = .normal∧Rd fr [(0,vS a0),(1,vI a1),(4,.ptr id1 0),(6,vI r7),(7,vB j10)]∧HL st [.obj id1 (.cells 61 [vI 0,vS (bs []),vI 0])]) ?_ ?_
 ·replace hr:=hj10
  refine W_reg (qg 5 [(25,vB (decide ((w64 (r7 - a1))≤9)))] H fun _ H=>?_)
  rcases csplit hr with ⟨c8,hr⟩|⟨c8,hr⟩
  rotate_left
  ·rw [c8] at H
   refine qg 12 [(7,vB false)] H fun _ H=>qe ?_
   cases hr
   exact ⟨rfl,H.tq,K.keep [true]⟩
  rw [c8] at H
  refine qg 2 [(26,vS a0),(27,vI a1)] H fun _ H=>?_
  obtain ⟨x9,hx9,hr⟩:=obind hr
  refine qv (.index 9 (vS a0) (vI a1)) H (run_idxS (by kernel_rfl) hx9) fun _ H=>qg 2 [(30,vB (x9 != 48))] H fun _ H=>qg 6 [(36,vB ((x9 != 48) || (r7 == (w64 (a1 + 1)))))] H (hs:=by intro _ _; generalize (x9 != 48) = b0; cases b0 <;> kernel_rfl) fun _ H=>qg 1 [(7,vB ((x9 != 48) || (r7 == (w64 (a1 + 1)))))] H fun _ H=>qe ?_
  cases hr
  exact ⟨rfl,H.tq,K.keep [true]⟩
 rintro e fr st ⟨rfl,H,K⟩
 refine W_seq ?_
 obtain ⟨j17,hj17,hr⟩:=obind hr
 refine W_via (fun e fr st=>e = .normal∧Rd fr [(0,vS a0),(1,vI a1),(4,.ptr id1 0),(6,vI r7),(7,vB j17)]∧HL st [.obj id1 (.cells 61 [vI 0,vS (bs []),vI 0])]) ?_ ?_
 ·replace hr:=hj17
  refine sr (qg 5 [(41,vB (decide (r7 < (a0.size:Int))))] H fun _ H=>?_)
  rcases csplit hr with ⟨c11,hr⟩|⟨c11,hr⟩
  rotate_left
  ·rw [c11] at H
   refine qg 11 [(52,vB false)] H fun _ H=>qe (qF H rfl (W_skip ?_))
   cases hr
   exact ⟨rfl,H.tq,K.keep [true]⟩
  rw [c11] at H
  refine qg 2 [(42,vS a0),(43,vI r7)] H fun _ H=>?_
  obtain ⟨x12,hx12,hr⟩:=obind hr
  refine qv (.index 9 (vS a0) (vI r7)) H (run_idxS (by kernel_rfl) hx12) fun _ H=>?_
  refine qb hr (fun x h s=>F115_R  _ x h) H fun x13 hr fr H=>qg 1 [(46,vB x13)] H fun _ H=>?_
  rcases csplit hr with ⟨c14,hr⟩|⟨c14,hr⟩
  ·rw [c14] at H
   refine qg 6 [(52,vB true)] H fun _ H=>qe (qT H rfl (W_reg (qg 1 [(7,vB false)] H fun _ H=>qe ?_)))
   cases hr
   exact ⟨rfl,H.tq,K.keep [true]⟩
  rw [c14] at H
  refine qg 2 [(47,vS a0),(48,vI r7)] H fun _ H=>?_
  obtain ⟨x15,hx15,hr⟩:=obind hr
  refine qv (.index 9 (vS a0) (vI r7)) H (run_idxS (by kernel_rfl) hx15) fun _ H=>qg 3 [(52,vB (x15 == 95))] H fun _ H=>qe ?_
  rcases csplit hr with ⟨c16,hr⟩|⟨c16,hr⟩
  rotate_left
  ·refine qF H c16 (W_skip ?_)
   cases hr
   exact ⟨rfl,H.tq,K.keep [true]⟩
  refine qT H c16 (W_reg (qg 1 [(7,vB false)] H fun _ H=>qe ?_))
  cases hr
  exact ⟨rfl,H.tq,K.keep [true]⟩
 rintro e fr st ⟨rfl,H,K⟩
 refine sr (qg 3 [(53,vS a0),(54,vI a1),(55,vI r7)] H fun _ H=>?_)
 obtain ⟨x18,hx18,hr⟩:=obind hr
 refine qv (.slice 9 (vS a0) (some (vI a1)) (some (vI r7))) H (run_subS (by kernel_rfl) hx18) fun _ H=>qg 3 [(58,.agg [vI 2,vS x18,vI a1]),(59,vB j17)] H fun _ H=>?_
 refine qst 61 0 (.agg [vI 2,vS x18,vI a1]) [vI 2,vS x18,vI a1] 0 H K rfl fun st K fr H=>qg 1 [(5,vB j17)] H fun _ H=>qe (W_ret ?_)
 cases hr
 exact e_ret [.agg [vI 2,vS x18,vI a1],vB j17] H K (fun _=>resC id1 0 61 [vI 2,vS x18,vI a1] 0 (by kernel_rfl) rfl (by kernel_rfl) (resT (by kernel_rfl) resN)) (fun _=>by kernel_rfl)
def F119 :Option ((List ByteArray)) :=
 some ([(bs [61,61,62]),(bs [58,61]),(bs [61,61]),(bs [33,61]),(bs [60,61]),(bs [38,38]),(bs [124,124]),(bs [123]),(bs [125]),(bs [40]),(bs [41]),(bs [91]),(bs [93]),(bs [59]),(bs [58]),(bs [44]),(bs [46]),(bs [63]),(bs [61]),(bs [33]),(bs [60]),(bs [38]),(bs [124]),(bs [94]),(bs [43]),(bs [45]),(bs [42])]:List ByteArray)
theorem F119_R  (r:(List ByteArray)) (hr:F119  = some r) {st:St}:R Tryz.prog AN 119 [] st (.ret (vL tS r .shut)) st:=by
 unfold F119 at hr
 refine R_pureX [] [] Tryz.func119 rfl (by kernel_rfl) rfl fun fr st H K=>sr (qg 1 [] H fun _ H=>qe (sr ?_))
 refine qbs tS 30 ([(bs [61,61,62]),(bs [58,61]),(bs [61,61]),(bs [33,61]),(bs [60,61]),(bs [38,38]),(bs [124,124]),(bs [123]),(bs [125]),(bs [40]),(bs [41]),(bs [91]),(bs [93]),(bs [59]),(bs [58]),(bs [44]),(bs [46]),(bs [63]),(bs [61]),(bs [33]),(bs [60]),(bs [38]),(bs [124]),(bs [94]),(bs [43]),(bs [45]),(bs [42])]:List ByteArray) H fun _ H=>qg 1 [(0,vL tS ([(bs [61,61,62]),(bs [58,61]),(bs [61,61]),(bs [33,61]),(bs [60,61]),(bs [38,38]),(bs [124,124]),(bs [123]),(bs [125]),(bs [40]),(bs [41]),(bs [91]),(bs [93]),(bs [59]),(bs [58]),(bs [44]),(bs [46]),(bs [63]),(bs [61]),(bs [33]),(bs [60]),(bs [38]),(bs [124]),(bs [94]),(bs [43]),(bs [45]),(bs [42])]:List ByteArray) .full)] H fun _ H=>qe (W_ret ?_)
 cases hr
 exact qr [vL tS ([(bs [61,61,62]),(bs [58,61]),(bs [61,61]),(bs [33,61]),(bs [60,61]),(bs [38,38]),(bs [124,124]),(bs [123]),(bs [125]),(bs [40]),(bs [41]),(bs [91]),(bs [93]),(bs [59]),(bs [58]),(bs [44]),(bs [46]),(bs [63]),(bs [61]),(bs [33]),(bs [60]),(bs [38]),(bs [124]),(bs [94]),(bs [43]),(bs [45]),(bs [42])]:List ByteArray) .full] H K (hs:=fun _=>by simp only [strip,stripL_ET,Option.map_some,oneOf] <;> rfl)
def F75 (n:Nat) (a0:ByteArray) (a1:Int):Option (Token × Bool) :=
 (idxS a0 a1).bind fun x2 =>
 (F115 x2).bind fun x3 =>
 bif x3 then
  ((F116 n a0 a1).bind fun x5 =>
  some (x5.1,x5.2))
 else
  ((idxS a0 a1).bind fun x6 =>
  (F117 x6).bind fun x7 =>
  bif x7 then
   ((F118 n a0 a1).bind fun x9 =>
   some (x9.1,x9.2))
  else
   ((F119 ).bind fun x10 =>
   (iter (σ:=Int) (ρ:=Token ⊕ Unit) (fun s11=>bif decide (s11 < (x10.length:Int)) then
     ((idxL x10 s11).bind fun x13 =>
     (F113 a0 a1 x13).bind fun x14 =>
     bif x14 then
      ((idxL x10 s11).bind fun x16 =>
      some (.inr (.inl (Token.mk 3 x16 a1))))
     else
      (some (.inl (w64 (s11 + 1)))))
    else
     (some (.inr (.inr ())))) n (0:Int)).bind fun r17=>match r17 with
   | .inl r17a=>some (r17a,true)
   | .inr _=>some ((Token.mk 0 (bs []) 0),false)))
theorem F75_R (n:Nat) (a0:ByteArray) (a1:Int) (r:Token × Bool) (hr:F75 n a0 a1 = some r) {st:St}:R Tryz.prog AN 75 [vS a0,vI a1] st (.ret (.tuple [.agg (cToken r.1),vB r.2])) st:=by
 unfold F75 at hr
 refine R_pureX [vS a0,vI a1] [(0,vS a0),(1,vI a1)] Tryz.func75 rfl (by kernel_rfl) rfl fun fr st H K=>sr ?_
 refine qal 61 [vI 0,vS (bs []),vI 0] H K fun id1 st K fr H=>qg 1 [] H fun _ H=>qe (W_seq (W_seq (W_reg (qg 2 [(8,vS a0),(9,vI a1)] H fun _ H=>?_))))
 obtain ⟨x2,hx2,hr⟩:=obind hr
 refine qv (.index 9 (vS a0) (vI a1)) H (run_idxS (by kernel_rfl) hx2) fun _ H=>?_
 refine qb hr (fun x h s=>F115_R  _ x h) H fun x3 hr fr H=>qe ?_
 rcases csplit hr with ⟨c4,hr⟩|⟨c4,hr⟩
 ·refine qT H c4 (sr (qg 2 [(12,vS a0),(13,vI a1)] H fun _ H=>?_))
  refine qb hr (fun x h s=>F116_R n _ _ x h) H fun x5 hr fr H=>qg 2 [(15,.agg (cToken x5.1)),(16,vB x5.2)] H fun _ H=>?_
  refine qst 61 0 (.agg (cToken x5.1)) [vI x5.1.kind,vS x5.1.text,vI x5.1.pos] 0 H K rfl fun st K fr H=>qg 1 [(5,vB x5.2)] H fun _ H=>qe (W_ret ?_)
  cases hr
  exact e_ret [.agg (cToken x5.1),vB x5.2] H K (fun _=>resC id1 0 61 [vI x5.1.kind,vS x5.1.text,vI x5.1.pos] 0 (by kernel_rfl) rfl (by kernel_rfl) (resT (by kernel_rfl) resN)) (fun _=>by kernel_rfl)
 refine qF H c4 (W_skip (W_seq (W_seq (W_reg (qg 2 [(17,vS a0),(18,vI a1)] H fun _ H=>?_)))))
 obtain ⟨x6,hx6,hr⟩:=obind hr
 refine qv (.index 9 (vS a0) (vI a1)) H (run_idxS (by kernel_rfl) hx6) fun _ H=>?_
 refine qb hr (fun x h s=>F117_R  _ x h) H fun x7 hr fr H=>qe ?_
 rcases csplit hr with ⟨c8,hr⟩|⟨c8,hr⟩
 ·refine qT H c8 (sr (qg 2 [(21,vS a0),(22,vI a1)] H fun _ H=>?_))
  refine qb hr (fun x h s=>F118_R n _ _ x h) H fun x9 hr fr H=>qg 2 [(24,.agg (cToken x9.1)),(25,vB x9.2)] H fun _ H=>?_
  refine qst 61 0 (.agg (cToken x9.1)) [vI x9.1.kind,vS x9.1.text,vI x9.1.pos] 0 H K rfl fun st K fr H=>qg 1 [(5,vB x9.2)] H fun _ H=>qe (W_ret ?_)
  cases hr
  exact e_ret [.agg (cToken x9.1),vB x9.2] H K (fun _=>resC id1 0 61 [vI x9.1.kind,vS x9.1.text,vI x9.1.pos] 0 (by kernel_rfl) rfl (by kernel_rfl) (resT (by kernel_rfl) resN)) (fun _=>by kernel_rfl)
 refine qF H c8 (W_skip (sr ?_))
 refine qb hr (fun x h s=>F119_R  x h) H fun x10 hr fr H=>qg 1 [(6,vL tS x10 .shut)] H fun _ H=>qe (W_seq (W_seq (W_reg (qg 1 [(7,vI 0)] H fun _ H=>qe (W_block ?_)))))
 obtain ⟨r17,hr17,hr⟩:=obind hr
 refine W_iter hr17 (fun (s11:Int) fr st=>Rd fr [(0,vS a0),(1,vI a1),(4,.ptr id1 0),(6,vL tS x10 .shut),(7,vI s11)]∧HL st [.obj id1 (.cells 61 [vI 0,vS (bs []),vI 0])]) (fun (r17:Token ⊕ Unit) e fr st=>match r17 with | .inl r17a=>(e = .ret∧Rd fr [(4,.ptr id1 0),(5,vB true)]∧HL st [.obj id1 (.cells 61 [vI r17a.kind,vS r17a.text,vI r17a.pos])]) | .inr r17b=>(e = .exit 0∧Rd fr [(4,.ptr id1 0)]∧HL st [.obj id1 (.cells 61 [vI 0,vS (bs []),vI 0])])) ⟨H.tq,K.keep [true]⟩ ?_ ?_
 ·intro s11 fr st r hi hr
  obtain ⟨H,K⟩:=hi
  refine W_seq (W_seq (W_reg (qg 2 [(27,vI s11),(28,vL tS x10 .shut)] H fun _ H=>?_)))
  refine qln tS 30 x10 .shut H fun _ H=>qg 1 [(30,vB (decide (s11 < (x10.length:Int))))] H fun _ H=>qe ?_
  rcases csplit hr with ⟨c12,hr⟩|⟨c12,hr⟩
  rotate_left
  ·refine qF H c12 ?_
   refine W_exit ?_
   cases hr
   exact ⟨by simp,⟨rfl,H.tq,K.keep [true]⟩⟩
  refine qT H c12 (W_skip (W_seq (W_block (sr (qg 4 [(33,vS a0),(34,vI a1),(35,vL tS x10 .shut),(36,vI s11)] H fun _ H=>?_)))))
  refine qix tS 30 .shut hr H fun x13 hr hx13 fr H=>qg 1 [(38,vS x13)] H fun _ H=>?_
  refine qb hr (fun x h s=>F113_R  _ _ _ x h) H fun x14 hr fr H=>qe ?_
  rcases csplit hr with ⟨c15,hr⟩|⟨c15,hr⟩
  rotate_left
  ·refine qF H c15 (W_skip (W_reg (qg 3 [(7,vI (w64 (s11 + 1)))] H fun _ H=>qe ?_)))
   cases hr
   exact ⟨rfl,⟨H.tq,K.keep [true]⟩⟩
  refine qT H c15 (sr (qg 2 [(40,vL tS x10 .shut),(41,vI s11)] H fun _ H=>?_))
  refine qix tS 30 .shut hr H fun x16 hr hx16 fr H=>qg 3 [(45,.agg [vI 3,vS x16,vI a1])] H fun _ H=>?_
  refine qst 61 0 (.agg [vI 3,vS x16,vI a1]) [vI 3,vS x16,vI a1] 0 H K rfl fun st K fr H=>qg 1 [(5,vB true)] H fun _ H=>qe (W_ret ?_)
  cases hr
  exact ⟨by simp,⟨rfl,H.tq,K.keep [true]⟩⟩
 rcases r17 with r17a | r17b
 ·rintro e fr st ⟨rfl,H,K⟩
  cases hr
  exact e_ret [.agg (cToken r17a),vB true] H K (fun _=>resC id1 0 61 [vI r17a.kind,vS r17a.text,vI r17a.pos] 0 (by kernel_rfl) rfl (by kernel_rfl) (resT (by kernel_rfl) resN)) (fun _=>by kernel_rfl)
 rintro e fr st ⟨rfl,H,K⟩
 refine sr (qg 1 [(46,.agg [vI 0,vS (bs []),vI 0])] H fun _ H=>?_)
 refine qst 61 0 (.agg [vI 0,vS (bs []),vI 0]) [vI 0,vS (bs []),vI 0] 0 H K rfl fun st K fr H=>qg 1 [(5,vB false)] H fun _ H=>qe (W_ret ?_)
 cases hr
 exact e_ret [.agg [vI 0,vS (bs []),vI 0],vB false] H K (fun _=>resC id1 0 61 [vI 0,vS (bs []),vI 0] 0 (by kernel_rfl) rfl (by kernel_rfl) (resT (by kernel_rfl) resN)) (fun _=>by kernel_rfl)
def F39 (n:Nat) (a0:ByteArray):Option ((List Token) × Int × Int) :=
 bif decide (4000 < (a0.size:Int)) then
  (some (([]:List Token),(2:Int),(0:Int)))
 else
  ((F74 n a0 (0:Int)).bind fun x2 =>
  (iter (σ:=(List Token) × Int) (ρ:=(Int × Int) ⊕ ((List Token))) (fun s3=>bif decide (s3.2 < (a0.size:Int)) then
    (bif decide (1500≤(s3.1.length:Int)) then
     (some (.inr (.inl ((2:Int),s3.2))))
    else
     ((F75 n a0 s3.2).bind fun x6 =>
     bif !x6.2 then
      (some (.inr (.inl ((10:Int),s3.2))))
     else
      ((appL 32 s3.1 ([x6.1]:List Token)).bind fun x9 =>
      (F74 n a0 (w64 (s3.2 + (x6.1.text.size:Int)))).bind fun x11 =>
      some (.inl (x9,x11)))))
   else
    (some (.inr (.inr s3.1)))) n (([]:List Token),x2)).bind fun r12=>match r12 with
  | .inl r12a=>some (([]:List Token),r12a.1,r12a.2)
  | .inr r12b=>some (r12b,(0:Int),(0:Int)))
theorem F39_R (n:Nat) (a0:ByteArray) (r:(List Token) × Int × Int) (hr:F39 n a0 = some r) {st:St}:R Tryz.prog AN 39 [vS a0] st (.ret (.tuple [vL tToken r.1 .shut,vI r.2.1,vI r.2.2])) st:=by
 unfold F39 at hr
 refine R_pureX [vS a0] [(0,vS a0)] Tryz.func39 rfl (by kernel_rfl) rfl fun fr st H K=>sr (qg 3 [] H fun _ H=>qe (W_seq (W_seq (W_reg (qg 3 [(11,vB (decide (4000 < (a0.size:Int))))] H fun _ H=>qe ?_)))))
 rcases csplit hr with ⟨c1,hr⟩|⟨c1,hr⟩
 ·refine qT H c1 (sr (qg 3 [(2,vL tToken ([]:List Token) .nil),(3,vI 2),(4,vI 0)] H fun _ H=>qe (W_ret ?_)))
  cases hr
  exact e_ret [vL tToken ([]:List Token) .nil,vI 2,vI 0] H K (fun _=>resT (by kernel_rfl) (resT (by kernel_rfl) (resT (by kernel_rfl) resN))) (fun _=>by simp only [strip,stripL,stripL_ET,Option.bind_some,Option.map_some,oneOf] <;> rfl)
 refine qF H c1 (W_skip (sr (qg 1 [(5,vL tToken ([]:List Token) .nil)] H fun _ H=>qe (sr (qg 1 [(12,vS a0)] H fun _ H=>?_)))))
 refine qb hr (fun x h s=>F74_R n _ _ x h) H fun x2 hr fr H=>qg 1 [(6,vI x2)] H fun _ H=>qe (W_seq (W_block ?_))
 obtain ⟨r12,hr12,hr⟩:=obind hr
 refine W_iter hr12 (fun (s3:(List Token) × Int) fr st=>∃ (s3sp0:Spare),Rd fr [(0,vS a0),(5,vL tToken s3.1 s3sp0),(6,vI s3.2)]∧HL st [.own s3sp0]) (fun (r12:(Int × Int) ⊕ ((List Token))) e fr st=>match r12 with | .inl r12a=>(e = .ret∧Rd fr [(2,vL tToken ([]:List Token) .nil),(3,vI r12a.1),(4,vI r12a.2)]∧HL st []) | .inr r12b=>(e = .exit 0∧∃ (r12bsp0:Spare),Rd fr [(5,vL tToken r12b r12bsp0)]∧HL st [.own r12bsp0])) ⟨.nil,H.tq,((K.keep []).nilo)⟩ ?_ ?_
 ·intro s3 fr st r hi hr
  obtain ⟨s3sp0,H,K⟩:=hi
  refine W_seq (W_seq (W_reg (qg 4 [(17,vB (decide (s3.2 < (a0.size:Int))))] H fun _ H=>qe ?_)))
  rcases csplit hr with ⟨c4,hr⟩|⟨c4,hr⟩
  rotate_left
  ·refine qF H c4 ?_
   refine W_exit ?_
   cases hr
   exact ⟨by simp,⟨rfl,s3sp0,H.tq,K.keep [true]⟩⟩
  refine qT H c4 (W_skip (W_block (W_seq (W_seq (W_reg (qg 1 [(18,vL tToken s3.1 s3sp0)] H fun _ H=>?_))))))
  refine qln tToken 56 s3.1 s3sp0 H fun _ H=>qg 1 [(20,vB (decide (1500≤(s3.1.length:Int))))] H fun _ H=>qe ?_
  rcases csplit hr with ⟨c5,hr⟩|⟨c5,hr⟩
  ·refine qT H c5 (sr (qg 4 [(2,vL tToken ([]:List Token) .nil),(3,vI 2),(4,vI s3.2)] H fun _ H=>qe (W_ret ?_)))
   cases hr
   exact ⟨by simp,⟨rfl,H.tq,K.keep [false]⟩⟩
  refine qF H c5 (W_skip (sr (qg 2 [(23,vS a0),(24,vI s3.2)] H fun _ H=>?_)))
  refine qb hr (fun x h s=>F75_R n _ _ x h) H fun x6 hr fr H=>qg 3 [(26,.agg (cToken x6.1)),(27,vB x6.2)] H fun _ H=>?_
  refine qal 61 [vI 0,vS (bs []),vI 0] H K fun id7 st K fr H=>?_
  refine qst 61 0 (.agg (cToken x6.1)) [vI x6.1.kind,vS x6.1.text,vI x6.1.pos] 0 H K rfl fun st K fr H=>qg 1 [(8,vB x6.2)] H fun _ H=>qe (W_seq (W_seq (W_reg (qg 2 [(29,vB !x6.2)] H fun _ H=>qe ?_))))
  rcases csplit hr with ⟨c8,hr⟩|⟨c8,hr⟩
  ·refine qT H c8 (sr (qg 4 [(2,vL tToken ([]:List Token) .nil),(3,vI 10),(4,vI s3.2)] H fun _ H=>qe (W_ret ?_)))
   cases hr
   exact ⟨by simp,⟨rfl,H.tq,K.keep [false,false]⟩⟩
  refine qF H c8 (W_skip (sr (qg 1 [(31,vL tToken s3.1 s3sp0)] H fun _ H=>?_)))
  refine qld 61 0 (.agg (cToken x6.1)) 0 H K rfl fun _ H=>?_
  refine qbs tToken 56 ([x6.1]:List Token) H fun _ H=>?_
  refine qapp tToken 32 56 56 .full hr 1 H K rfl fun x9 hr sp10 st K fr H=>qg 1 [(5,vL tToken x9 sp10)] H fun _ H=>qe (W_reg (qg 3 [(35,vS a0),(36,vI s3.2),(37,.ptr id7 1)] H fun _ H=>?_))
  refine qld 9 1 (vS x6.1.text) 0 H K rfl fun _ H=>qg 2 [(40,vI (w64 (s3.2 + (x6.1.text.size:Int))))] H fun _ H=>?_
  refine qb hr (fun x h s=>F74_R n _ _ x h) H fun x11 hr fr H=>qg 1 [(6,vI x11)] H fun _ H=>qe ?_
  cases hr
  exact ⟨rfl,⟨sp10,H.tq,K.keep [false,true]⟩⟩
 rcases r12 with r12a | r12b
 ·rintro e fr st ⟨rfl,H,K⟩
  cases hr
  exact e_ret [vL tToken ([]:List Token) .nil,vI r12a.1,vI r12a.2] H K (fun _=>resT (by kernel_rfl) (resT (by kernel_rfl) (resT (by kernel_rfl) resN))) (fun _=>by simp only [strip,stripL,stripL_ET,Option.bind_some,Option.map_some,oneOf] <;> rfl)
 rintro e fr st ⟨rfl,r12bsp0,H,K⟩
 refine sr (qg 4 [(2,vL tToken r12b r12bsp0),(3,vI 0),(4,vI 0)] H fun _ H=>qe (W_ret ?_))
 cases hr
 exact e_ret [vL tToken r12b r12bsp0,vI 0,vI 0] H K (fun _=>resT (by kernel_rfl) (resT (by kernel_rfl) (resT (by kernel_rfl) resN))) (fun _=>by simp only [strip,stripL,stripL_ET,Option.bind_some,Option.map_some,oneOf] <;> rfl)
end Go.Proofs.YtbecjgckobhmpaaGreatDoor
end
section
namespace Go.Proofs.YtbecjgckobhmpaaGreatDoor
open Go Go.AM Go.Proofs
set_option maxRecDepth 100000
set_option maxHeartbeats 4000000
def F61_step (F61:Node→Int→Int→Option (Int × Bool)) (n:Nat) (a0:Node) (a1:Int) (a2:Int):Option (Int × Bool) :=
 bif decide (a2 < 1) then
  (some ((1:Int),false))
 else
  ((iter (σ:=Int × Int) (ρ:=Int ⊕ Int) (fun s2=>bif (decide (s2.2 < (a0.kids.length:Int))) && (decide (s2.1≤a1)) then
    ((idxL a0.kids s2.2).bind fun x4 =>
    (F61 x4 (w64 (a1 - s2.1)) (w64 (a2 - 1))).bind fun x5 =>
    bif !x5.2 then
     (some (.inr (.inl s2.1)))
    else
     (some (.inl (w64 (s2.1 + x5.1),w64 (s2.2 + 1)))))
   else
    (some (.inr (.inr s2.1)))) n ((1:Int),(0:Int))).bind fun r7=>match r7 with
  | .inl r7a=>some (r7a,false)
  | .inr r7b=>some (r7b,true))
def F61:Nat→Node→Int→Int→Option (Int × Bool)
 | 0,_,_,_=>none
 | n + 1,a0,a1,a2=>F61_step (F61 n) n a0 a1 a2
theorem F61_RR (n:Nat):(∀ (a0:Node) (a1:Int) (a2:Int) (r:Int × Bool),F61 n a0 a1 a2 = some r→∀ {st:St} {p0:Spare},R Tryz.prog AN 61 [.agg (cNode p0 a0),vI a1,vI a2] st (.ret (.tuple [vI r.1,vB r.2])) st):=by
 induction n with
 | zero=>(intros; contradiction)
 | succ n ih =>
  have ih_F61:=@ih; clear ih
  intro a0 a1 a2 r hr st p0
  change F61_step (F61 n) n a0 a1 a2 = some r at hr
  unfold F61_step at hr
  refine R_pureX [aN a0,vI a1,vI a2] [(0,aN a0),(1,vI a1),(2,vI a2)] Tryz.func61 rfl (by simp only [strip,stripL,stripL_cNode,Option.bind_some,Option.map_some]) rfl fun fr st H K=>sr (qg 3 [(3,cN a0 0)] H fun _ H=>qe (W_seq (W_seq (W_reg (qg 2 [(13,vB (decide (a2 < 1)))] H fun _ H=>qe ?_)))))
  rcases csplit hr with ⟨c1,hr⟩|⟨c1,hr⟩
  ·refine qT H c1 (sr (qg 2 [(6,vI 1),(7,vB false)] H fun _ H=>qe (W_ret ?_)))
   cases hr
   exact e_ret [vI 1,vB false] H K (fun _=>resT (by kernel_rfl) (resT (by kernel_rfl) resN)) (fun _=>by kernel_rfl)
  refine qF H c1 (W_skip (sr (qg 1 [(8,vI 1)] H fun _ H=>qe (W_seq (W_seq (W_reg (qg 1 [(9,vI 0)] H fun _ H=>qe (W_block ?_))))))))
  obtain ⟨r7,hr7,hr⟩:=obind hr
  refine W_iter hr7 (fun (s2:Int × Int) fr st=>Rd fr [(1,vI a1),(2,vI a2),(3,cN a0 0),(8,vI s2.1),(9,vI s2.2)]∧HL st []) (fun (r7:Int ⊕ Int) e fr st=>match r7 with | .inl r7a=>(e = .ret∧Rd fr [(6,vI r7a),(7,vB false)]∧HL st []) | .inr r7b=>(e = .exit 0∧Rd fr [(8,vI r7b)]∧HL st [])) ⟨H.tq,K.keep []⟩ ?_ ?_
  ·intro s2 fr st r hi hr
   obtain ⟨H,K⟩:=hi
   refine W_seq (W_seq (W_reg (qg 3 [(14,vI s2.2),(16,vL tNode a0.kids .shut)] H fun _ H=>?_)))
   refine qln tNode 22 a0.kids .shut H fun _ H=>qg 2 [(19,vB (decide (s2.2 < (a0.kids.length:Int))))] H fun _ H=>qg 4 [(23,vB ((decide (s2.2 < (a0.kids.length:Int))) && (decide (s2.1≤a1))))] H (hs:=by intro _ _; generalize (decide (s2.2 < (a0.kids.length:Int))) = b0; cases b0 <;> kernel_rfl) fun _ H=>qe ?_
   rcases csplit hr with ⟨c3,hr⟩|⟨c3,hr⟩
   rotate_left
   ·refine qF H c3 ?_
    refine W_exit ?_
    cases hr
    exact ⟨by simp,⟨rfl,H.tq,K.keep []⟩⟩
   refine qT H c3 (W_skip (W_seq (W_block (sr (qg 3 [(28,vL tNode a0.kids .shut),(29,vI s2.2)] H fun _ H=>?_)))))
   refine qix tNode 22 .shut hr H fun x4 hr hx4 fr H=>qg 6 [(31,aN x4),(34,vI (w64 (a1 - s2.1))),(36,vI (w64 (a2 - 1)))] H fun _ H=>?_
   refine qb hr (fun x h s=>ih_F61 _ _ _ x h (p0:=.shut)) H fun x5 hr fr H=>qg 5 [(10,vI x5.1),(11,vB x5.2)] H fun _ H=>qe (W_seq (W_seq (W_reg (qg 2 [(41,vB !x5.2)] H fun _ H=>qe ?_))))
   rcases csplit hr with ⟨c6,hr⟩|⟨c6,hr⟩
   ·refine qT H c6 (sr (qg 3 [(6,vI s2.1),(7,vB false)] H fun _ H=>qe (W_ret ?_)))
    cases hr
    exact ⟨by simp,⟨rfl,H.tq,K.keep []⟩⟩
   refine qF H c6 (W_skip (W_reg (qg 4 [(8,vI (w64 (s2.1 + x5.1)))] H fun _ H=>qe (W_reg (qg 3 [(9,vI (w64 (s2.2 + 1)))] H fun _ H=>qe ?_)))))
   cases hr
   exact ⟨rfl,⟨H.tq,K.keep []⟩⟩
  rcases r7 with r7a | r7b
  ·rintro e fr st ⟨rfl,H,K⟩
   cases hr
   exact e_ret [vI r7a,vB false] H K (fun _=>resT (by kernel_rfl) (resT (by kernel_rfl) resN)) (fun _=>by kernel_rfl)
  rintro e fr st ⟨rfl,H,K⟩
  refine sr (qg 3 [(6,vI r7b),(7,vB true)] H fun _ H=>qe (W_ret ?_))
  cases hr
  exact e_ret [vI r7b,vB true] H K (fun _=>resT (by kernel_rfl) (resT (by kernel_rfl) resN)) (fun _=>by kernel_rfl)
theorem F61_R (n:Nat) (a0:Node) (a1:Int) (a2:Int) (r:Int × Bool) (hr:F61 n a0 a1 a2 = some r) {st:St} {p0:Spare}:R Tryz.prog AN 61 [.agg (cNode p0 a0),vI a1,vI a2] st (.ret (.tuple [vI r.1,vB r.2])) st:=(F61_RR n) a0 a1 a2 r hr
def F27 (n:Nat) (a0:Node):Option Bool :=
 (F61 n a0 (1500:Int) (40:Int)).bind fun x1 =>
 some (x1.2 && (decide (x1.1≤1500)))
theorem F27_R (n:Nat) (a0:Node) (r:Bool) (hr:F27 n a0 = some r) {st:St} {p0:Spare}:R Tryz.prog AN 27 [.agg (cNode p0 a0)] st (.ret (vB r)) st:=by
 unfold F27 at hr
 refine R_pureX [aN a0] [(0,aN a0)] Tryz.func27 rfl (by simp only [strip,stripL,stripL_cNode,Option.bind_some,Option.map_some]) rfl fun fr st H K=>sr (qg 2 [(1,cN a0 0)] H fun _ H=>qe (sr (qg 1 [(6,aN a0)] H fun _ H=>?_)))
 refine qb hr (fun x h s=>F61_R n _ _ _ x h (p0:=.shut)) H fun x1 hr fr H=>qg 5 [(3,vI x1.1),(4,vB x1.2)] H fun _ H=>qe (sr (qg 2 [(11,vB x1.2)] H fun _ H=>qg 3 [(14,vB (x1.2 && (decide (x1.1≤1500))))] H (hs:=by intro _ _; generalize (x1.2) = b0; cases b0 <;> kernel_rfl) fun _ H=>qg 1 [(2,vB (x1.2 && (decide (x1.1≤1500))))] H fun _ H=>qe (W_ret ?_)))
 cases hr
 exact qr [vB (x1.2 && (decide (x1.1≤1500)))] H K
end Go.Proofs.YtbecjgckobhmpaaGreatDoor
end
section
namespace Go.Proofs.YtbecjgckobhmpaaGreatDoor
open Go Go.AM Go.Proofs
set_option maxRecDepth 100000
set_option maxHeartbeats 4000000
def F41_step (F41:Node→Int→Bool→Option Node) (n:Nat) (a0:Node) (a1:Int) (a2:Bool):Option Node :=
 (bif !a2 then
   (some (Node.mk a0.kind a0.name a0.other a0.n a0.len a0.init a0.ghost a0.kids (w64 (a0.pos + a1))))
  else
   (some a0):Option (Node)).bind fun j4 =>
 (iter (σ:=Int × Node) (ρ:=Node) (fun s5=>bif decide (s5.1 < (a0.kids.length:Int)) then
   ((idxL a0.kids s5.1).bind fun x7 =>
   (F41 x7 a1 false).bind fun x8 =>
   (appL 104 s5.2.kids ([x8]:List Node)).bind fun x9 =>
   some (.inl (w64 (s5.1 + 1),(Node.mk s5.2.kind s5.2.name s5.2.other s5.2.n s5.2.len s5.2.init s5.2.ghost x9 s5.2.pos))))
  else
   (some (.inr s5.2))) n ((0:Int),(Node.mk j4.kind j4.name j4.other j4.n j4.len j4.init j4.ghost ([]:List Node) j4.pos))).bind fun r11 =>
 some r11
def F41:Nat→Node→Int→Bool→Option Node
 | 0,_,_,_=>none
 | n + 1,a0,a1,a2=>F41_step (F41 n) n a0 a1 a2
end Go.Proofs.YtbecjgckobhmpaaGreatDoor
end
section
namespace Go.Proofs.YtbecjgckobhmpaaGreatDoor
open Go Go.Proofs Go.RowKit
set_option maxHeartbeats 1000000 in
set_option maxRecDepth 100000 in
theorem cc_fresh (b:Nat) (w:World) (h0:w.cell? ⟨b,0,none⟩ = some (.pointer none)) (hsh:w.shape? b = some (77,3)) (hfz:w.frozen? ⟨b,0,none⟩ = false) :
  Calls Tryz.prog 207 #[.pointer (some ⟨b,0,none⟩)] w fun e w'=>e = .returned (.tuple #[])∧w' = w.setCell ⟨b,0,none⟩ (.pointer (some ⟨b,0,none⟩)):=by
 obtain ⟨j,hj,hjs⟩:=Option.map_eq_some_iff.1 (show (Tryz.prog.info? 75).map (·.size) = some 2 by kernel_rfl)
 go_enter Tryz.func207,Tryz.ntmps207
 go_wp2
 rw [Lib.run_to_unsafe w ⟨b,0,none⟩ Tryz.underlying73 Tryz.underlying185 hj (by rw [hjs]; decide) hsh (by show 0 < 3; omega)]
 simp only [Result.andThen]
 rw [Oper.upon_value]
 go_wp2
 rw [run_callFunc_extern Tryz.func233 (by kernel_rfl) (by kernel_rfl) (by kernel_rfl) (e:=Extern.AbiNoEscape.same) (by kernel_rfl)]
 rw [Lib.run_noEscape]
 simp only [Result.andThen]
 rw [Oper.upon_value]
 go_wp2
 rw [Lib.run_from_unsafe w ⟨b,0,none⟩ Tryz.underlying185 Tryz.underlying73 hj hsh (by kernel_rfl)]
 simp only [Result.andThen]
 rw [Oper.upon_value]
 go_wp2
 go_end0
 exact ⟨rfl,rfl⟩
set_option maxHeartbeats 1000000 in
set_option maxRecDepth 100000 in
theorem cc_used (b:Nat) (w:World) (h0:w.cell? ⟨b,0,none⟩ = some (.pointer (some ⟨b,0,none⟩))) :
  Calls Tryz.prog 207 #[.pointer (some ⟨b,0,none⟩)] w fun e w'=>e = .returned (.tuple #[])∧w' = w:=by
 obtain ⟨j,hj,hjs⟩:=Option.map_eq_some_iff.1 (show (Tryz.prog.info? 75).map (·.size) = some 2 by kernel_rfl)
 go_enter Tryz.func207,Tryz.ntmps207
 go_wp2
 rw [Lib.run_neq_ptr_same w _ Tryz.underlying73 hj]
 go_wp2
 go_end0
 exact ⟨rfl,rfl⟩
set_option maxHeartbeats 2000000 in
set_option maxRecDepth 100000 in
theorem bstr_some (b g cap:Nat) (l:List UInt8) (w:World) (size:Nat) (h1:w.cell? ⟨b,1,none⟩ = some (.slice (some ⟨g,0,none⟩) l.length cap)) (hsh:w.shape? g = some (5,size)) (h0:l≠[]) (hn:l.length≤size) (hcap:cap≠0) (h63:l.length≤9223372036854775807)
  (hcell:∀ j x,l[j]? = some x→w.cell? ⟨g,j,none⟩ = some (.int .u8 x.toNat)) :
  Calls Tryz.prog 52 #[.pointer (some ⟨b,0,none⟩)] w fun e w'=>e = .returned (.string ⟨l.toArray⟩)∧w' = w.drew.freeze ⟨g,0,none⟩ l.length:=by
 have c1:w.drew.cell? ⟨b,1,none⟩ = some (.slice (some ⟨g,0,none⟩) l.length cap):=h1
 have hSD:(Builtin.unsafeSliceData_ #[55] 109 #[.slice (some ⟨g,0,none⟩) l.length cap]).run Tryz.prog w.drew = .ok (.pointer (some ⟨g,0,none⟩)) w.drew :=
  Lib.run_unsafeSliceData_row _ _ _ _ _ _ hcap
 have hUS:(Builtin.unsafeString_ #[109,3] 9 #[.pointer (some ⟨g,0,none⟩),.int .i64 l.length]).run Tryz.prog w.drew = .ok (.string ⟨l.toArray⟩) (w.drew.freeze ⟨g,0,none⟩ l.length):=by
  refine Lib.run_unsafeString_row w.drew 109 3 9 5 Tryz.underlying109 (by kernel_rfl) g size hsh l h0 hn h63 ?_
  intro j x hx
  have:=hcell j x hx
  unfold Addr.add
  split
  ·rename_i hj; subst hj; exact this
  ·show w.cell? ⟨g,0 + j,none⟩ = _
   rw [Nat.zero_add]; exact this
 have mixed:Tryz.prog.follows .mixedOrders = true:=AN_mixed
 go_enter Tryz.func52,Tryz.ntmps52
 go_wp2
 go_region_o
 all_goals (go_wp2; go_ret; exact ⟨rfl,rfl⟩)
set_option maxHeartbeats 2000000 in
set_option maxRecDepth 100000 in
theorem bstr_none (b:Nat) (w:World) (h1:w.cell? ⟨b,1,none⟩ = some (.slice none 0 0)) :
  Calls Tryz.prog 52 #[.pointer (some ⟨b,0,none⟩)] w fun e w'=>e = .returned (.string .empty)∧w' = w.drew:=by
 have c1:w.drew.cell? ⟨b,1,none⟩ = some (.slice none 0 0):=h1
 have hSD:(Builtin.unsafeSliceData_ #[55] 109 #[.slice none 0 0]).run Tryz.prog w.drew = .ok (.pointer none) w.drew:=Lib.run_unsafeSliceData_nil _ _ _ _ _
 have hUS:(Builtin.unsafeString_ #[109,3] 9 #[.pointer none,.int .i64 0]).run Tryz.prog w.drew = .ok (.string .empty) w.drew:=Lib.run_unsafeString_none w.drew _ _ _ none
 have mixed:Tryz.prog.follows .mixedOrders = true:=AN_mixed
 go_enter Tryz.func52,Tryz.ntmps52
 go_wp2
 go_region_o
 all_goals (go_wp2; go_ret; exact ⟨rfl,rfl⟩)
end Go.Proofs.YtbecjgckobhmpaaGreatDoor
end
section
namespace Go.Proofs.YtbecjgckobhmpaaGreatDoor
open Go Go.AM Go.Proofs Go.RowKit
set_option maxRecDepth 100000
theorem write_okG {G:Gh} {w:World} {st:St} (hs:Sok G w st) {id:Nat} {old new:AO} {e:Nat × Nat × Nat} (h1:st[id]? = some old) (ha:old.alive) (h2:G.ids id = some e) {w1:World}
  (hg:Grows G w G w1) (hoth:∀ b,b≠e.1→w1.heap[b]? = w.heap[b]?) (hsz:w1.heap.size = w.heap.size) (hos:w1.os = w.os) (htp:w1.tape = w.tape) (hout:w1.output = w.output)
  (hnew:ObjOk G w1 e new) (hnh:new≠.hole:=by simp):Sok G w1 (st.set id new)∧Ext G w st G w1 (st.set id new):=by
 have hlt:id < st.length:=(List.getElem?_eq_some_iff.1 h1).1
 have hset:∀ i x,(st.set id new)[i]? = some x→(i = id∧x = new)∨(i≠id∧st[i]? = some x):=fun i x h=>by
  rw [List.getElem?_set] at h
  split at h
  ·rename_i hi
   simp at h
   exact .inl ⟨hi.symm,h.symm⟩
  ·rename_i hi
   exact .inr ⟨fun e=>hi e.symm,h⟩
 refine ⟨⟨fun i hi=>hs.len i fun y hy=>(by
   by_cases hik:id = i
   ·subst hik
    exact absurd (hi new (by rw [List.getElem?_set,if_pos rfl,if_pos hlt])) hnh
   ·exact hi y (by rw [List.getElem?_set,if_neg hik]; exact hy)),fun i x e' hx he=>?_,fun i j oi oj ei ej hij hi hj a1 a2 e1 e2=>?_,fun b hb=>by rw [hsz]; exact hs.immLt b hb,fun b hb=>by rw [hsz]; exact hs.fixLt b hb⟩,⟨hg,fun _ _ h=>h,hos,htp,hout,by omega,fun b hb ho=>?_,fun b _ h=>?_,fun _ _ _=>rfl,fun _ _ h=>h⟩⟩
 ·rcases hset i x hx with ⟨rfl,rfl⟩ | ⟨hne,hx⟩
  ·rw [h2] at he; cases he; exact hnew
  ·have ho:=hs.obj i x e' hx he
   refine ho.move hg (fun _ _ h=>h) (fun hax=>hoth _ ?_) (fun _=>rfl) (fun _ h=>h)
   exact fun heq=>hs.inj i id x old e' e hne hx h1 hax ha he h2 heq
 ·rcases hset i oi hi with ⟨q1,_⟩ | ⟨_,k1⟩ <;> rcases hset j oj hj with ⟨q2,_⟩ | ⟨_,k2⟩
  ·exact absurd (q1.trans q2.symm) hij
  ·subst q1; exact hs.inj i j old oj ei ej hij h1 k2 ha a2 e1 e2
  ·subst q2; exact hs.inj i j oi old ei ej hij k1 h1 a1 ha e1 e2
  ·exact hs.inj i j oi oj ei ej hij k1 k2 a1 a2 e1 e2
 ·exact hoth b (fun heq=>ho ⟨id,old,e,h1,ha,h2,heq.symm⟩)
 ·obtain ⟨i,y,e',hx,hax,he,rfl⟩:=h
  rcases hset i y hx with ⟨rfl,rfl⟩ | ⟨_,hx⟩
  ·exact ⟨i,old,e',h1,ha,he,rfl⟩
  ·exact ⟨i,y,e',hx,hax,he,rfl⟩
theorem hp207 {args:List AV} {st:St} {got:Got} {st':St} (h:pCopyCheck args st = some (got,st')):∀ G w cargs,VL G w args cargs→Sok G w st→Calls Tryz.prog 207 ⟨cargs⟩ w (Gotten G w st got st'):=by
 intro G w cargs hv hs
 unfold pCopyCheck at h
 split at h
 ·rename_i id
  obtain ⟨c,rfl,hc⟩:=VL1 hv
  simp only [V] at hc
  obtain ⟨b,x,hid,rfl⟩:=hc
  split at h
  ·rename_i a1 b1 c1 hst
   obtain ⟨l,hh,hvl,him,hfx⟩:=hs.obj id _ _ hst hid
   simp only [VL] at hvl
   obtain ⟨ca,l1,rfl,hva,cb,l2,rfl,hvb,cc,l3,rfl,hvc,rfl⟩:=hvl
   simp only at hh him hfx
   split at h
   ·simp only [Option.some.injEq,Prod.mk.injEq] at h
    obtain ⟨rfl,rfl⟩:=h
    simp only [V] at hva
    subst hva
    refine (cc_fresh b w (by simp [World.cell?,hh]) (by simp [World.shape?,hh]) (by simp [World.frozen?,hh])).mono ?_
    rintro e w' ⟨rfl,rfl⟩
    have hw1:(w.setCell ⟨b,0,none⟩ (.pointer (some ⟨b,0,none⟩))).heap[b]? = some (.cells #[.pointer (some ⟨b,0,none⟩),cb,cc] 77 (0,0)):=by
     simp only [World.setCell,Array.getElem?_modify,if_true,hh,Option.map_some]
     rfl
    obtain ⟨h1,h2⟩:=write_ok (new:=.cells 77 [.ptr id 0,b1,c1]) hs hst trivial hid him hfx (w1:=w.setCell ⟨b,0,none⟩ (.pointer (some ⟨b,0,none⟩))) (fun k hk=>Below.heap_setCell w _ _ k hk) (by simp [World.setCell]) rfl rfl rfl (fun hg=>by
     refine ⟨_,hw1,?_,him,hfx⟩
     simp only [VL,V]
     exact ⟨_,_,rfl,⟨b,x,hid,rfl⟩,_,_,rfl,V.mono hg (fun _ _ h=>h) _ _ hvb,_,_,rfl,V.mono hg (fun _ _ h=>h) _ _ hvc,rfl⟩)
    exact ⟨G,h2,h1,_,rfl,by simp only [V,VL]; exact ⟨[],rfl,rfl⟩⟩
   ·rename_i id' off'
    split at h
    ·rename_i hc
     obtain ⟨rfl,rfl⟩:=hc
     simp only [Option.some.injEq,Prod.mk.injEq] at h
     obtain ⟨rfl,rfl⟩:=h
     simp only [V] at hva
     obtain ⟨b',x',hid',rfl⟩:=hva
     rw [hid] at hid'
     simp only [Option.some.injEq,Prod.mk.injEq] at hid'
     obtain ⟨rfl,_⟩:=hid'
     refine (cc_used b w (by simp [World.cell?,hh])).mono ?_
     rintro e w' ⟨rfl,rfl⟩
     exact ⟨G,Ext.refl _ _ _,hs,_,rfl,by simp only [V,VL]; exact ⟨[],rfl,rfl⟩⟩
    ·cases h
   ·cases h
  ·cases h
 ·cases h
theorem avBytes_ok {G:Gh} {w:World}:(xs:List AV)→(l:List UInt8)→(cs:List Value)→avBytes xs = some l→VL G w xs cs→cs = l.map fun b=>Value.int .u8 b.toNat
 | [],l,cs,h,hv=>by simp [avBytes] at h; subst h; simpa [VL] using hv
 | .sc (.int .u8 n) :: r,l,cs,h,hv=>by
  simp only [avBytes] at h
  split at h
  ·rename_i hn
   simp only [Option.map_eq_some_iff] at h
   obtain ⟨l',h1,rfl⟩:=h
   simp only [VL,V] at hv
   obtain ⟨c,cs',rfl,rfl,h2⟩:=hv
   rw [avBytes_ok r l' cs' h1 h2]
   have:((UInt8.ofNat n.toNat).toNat:Int) = n:=by
    rw [UInt8.toNat_ofNat']
    omega
   rw [List.map_cons,this]
  ·cases h
theorem freeze_cell (w:World) (a:Addr) (n:Nat) (p:Addr):(w.freeze a n).cell? p = w.cell? p:=by
 unfold World.freeze
 split
 ·rfl
 ·unfold World.cell?
  simp only [Array.getElem?_modify]
  by_cases hb:a.block = p.block
  ·rw [if_pos hb]
   cases hh:w.heap[p.block]? with
   | none=>rfl
   | some o=>cases o <;> rfl
  ·rw [if_neg hb]
theorem hp52 {args:List AV} {st:St} {got:Got} {st':St} (h:pBString args st = some (got,st')):∀ G w cargs,VL G w args cargs→Sok G w st→Calls Tryz.prog 52 ⟨cargs⟩ w (Gotten G w st got st'):=by
 intro G w cargs hv hs
 unfold pBString at h
 split at h
 ·rename_i id
  obtain ⟨c,rfl,hc⟩:=VL1 hv
  simp only [V] at hc
  obtain ⟨b,x,hid,rfl⟩:=hc
  split at h
  ·rename_i a1 xs sp c1 hst
   obtain ⟨l,hh,hvl,him,hfx⟩:=hs.obj id _ _ hst hid
   simp only [VL] at hvl
   obtain ⟨ca,l1,rfl,hva,cb,l2,rfl,hvb,cc,l3,rfl,hvc,rfl⟩:=hvl
   simp only at hh him hfx
   split at h
   ·rename_i l hl
    split at h
    ·rename_i k
     split at h
     ·rename_i hk
      simp only [Option.some.injEq,Prod.mk.injEq] at h
      obtain ⟨rfl,rfl⟩:=h
      simp only [V] at hvb
      obtain ⟨ad,cap,rfl,k1,k2,k3,k4,k5,k6⟩:=hvb
      have hne:=k5.1 ⟨k,rfl⟩
      obtain ⟨b2,o,n,cs,rfl,e2,e3,e4,e5,e6⟩:=k6 hne
      have hcs:=avBytes_ok xs l cs hl e2
      have hlen:xs.length = l.length:=by rw [← e2.length,hcs]; simp
      have hl0:l≠[]:=by
       rintro rfl
       simp at hlen
       exact hne hlen
      have hn1:n = 1:=by
       cases l with
       | nil=>exact absurd rfl hl0
       | cons y r =>
        have:=e3 (.int .u8 y.toNat) (by rw [hcs]; simp)
        simpa [Value.cells] using this.symm
      subst hn1
      have hflat:flatC cs = cs:=by
       rw [hcs]
       clear hcs hlen hl hl0
       induction l with
       | nil=>rfl
       | cons y r ih=>simpa [flatC,Value.cells] using ih
      rw [hflat] at e5
      obtain ⟨ho0,hid2⟩:=e6 k rfl
      subst ho0
      simp only [Nat.zero_add] at hid2
      obtain ⟨arr,T,hh2,hT,hsz,hle,him2,hfx2⟩:=hs.obj k _ _ hk hid2
      obtain rfl:=hT 5 rfl
      simp only [Nat.mul_one] at hh2 hsz hle him2 hfx2
      rw [hlen] at k1 hle him2
      have hshape:w.shape? b2 = some (5,arr.size):=by simp [World.shape?,hh2]
      have hcell:∀ j y,l[j]? = some y→w.cell? ⟨b2,j,none⟩ = some (.int .u8 y.toNat):=fun j y hj=>by
       have:=e5.2 j (.int .u8 y.toNat) (by rw [hcs]; simp [hj])
       rwa [Nat.zero_add] at this
      have hl63:l.length≤9223372036854775807:=by simp only [maxLen] at k2; omega
      have hcap0:cap≠0:=by
       have:l.length≠0:=by simpa using hl0
       omega
      rw [hlen] at hh
      refine (bstr_some b b2 cap l w arr.size (by simp [World.cell?,hh]) hshape hl0 (by omega) hcap0 hl63 hcell).mono ?_
      rintro e w' ⟨rfl,rfl⟩
      have hidk:id≠k:=by rintro rfl; rw [hst] at hk; cases hk
      obtain ⟨s1,x1⟩:=write_okG (new:=.dead) hs hst trivial hid (w1:=w) (Grows.refl G w) (fun _ _=>rfl) rfl rfl rfl rfl trivial
      have hk':(st.set id AO.dead)[k]? = some (.live (some 5)):=by rw [List.getElem?_set_ne hidk]; exact hk
      have hfz:∀ p,(w.drew.freeze ⟨b2,0,none⟩ l.length).cell? p = w.cell? p:=fun p=>freeze_cell w.drew _ _ p
      have hoth:∀ q,q≠b2→(w.drew.freeze ⟨b2,0,none⟩ l.length).heap[q]? = w.heap[q]?:=fun q hq=>by
       unfold World.freeze
       split
       ·rfl
       ·show (Array.modify _ _ _)[q]? = _
        rw [Array.getElem?_modify,if_neg (fun h=>hq h.symm)]
        rfl
      have hg2:Grows G w G (w.drew.freeze ⟨b2,0,none⟩ l.length):=⟨fun _=>Nat.le_refl _,fun q i _=>hfz _,fun _ h=>h,fun q hq=>hoth q (by rintro rfl; exact hfx2 hq)⟩
      have hsz2:(w.drew.freeze ⟨b2,0,none⟩ l.length).heap.size = w.heap.size:=by
       unfold World.freeze
       split
       ·rfl
       ·show (Array.modify _ _ _).size = _
        rw [Array.size_modify]
        rfl
      have hos:(w.drew.freeze ⟨b2,0,none⟩ l.length).os = w.os∧(w.drew.freeze ⟨b2,0,none⟩ l.length).tape = w.tape∧(w.drew.freeze ⟨b2,0,none⟩ l.length).output = w.output:=by
       unfold World.freeze
       split <;> exact ⟨rfl,rfl,rfl⟩
      obtain ⟨s2,x2⟩:=write_okG (new:=.dead) s1 hk' trivial hid2 (w1:=w.drew.freeze ⟨b2,0,none⟩ l.length) hg2 hoth hsz2 hos.1 hos.2.1 hos.2.2 trivial
      exact ⟨G,x1.trans x2,s2,_,rfl,by simp [V,bs]⟩
     ·cases h
    ·split at h
     ·rename_i hx
      have hx0:xs = []:=List.isEmpty_iff.1 hx
      subst hx0
      simp only [Option.some.injEq,Prod.mk.injEq] at h
      obtain ⟨rfl,rfl⟩:=h
      simp only [V] at hvb
      obtain ⟨ad,cap,rfl,k1,k2,k3,k4,k5,k6⟩:=hvb
      obtain rfl:=k4.2 (by trivial)
      obtain rfl:=k3 (by trivial)
      refine (bstr_none b w (by simp [World.cell?,hh])).mono ?_
      rintro e w' ⟨rfl,rfl⟩
      obtain ⟨s1,x1⟩:=write_okG (new:=.dead) hs hst trivial hid (w1:=w.drew) ⟨fun _=>Nat.le_refl _,fun _ _ _=>rfl,fun _ h=>h,fun _ _=>rfl⟩ (fun _ _=>rfl) rfl rfl rfl rfl trivial
      exact ⟨G,x1,s1,_,rfl,by simp only [V,bs]; rfl⟩
     ·cases h
    ·cases h
   ·cases h
  ·cases h
 ·cases h
theorem R_207 {args:List AV} {st:St} {got:Got} {st':St} (h:pCopyCheck args st = some (got,st')):R Tryz.prog AN 207 args st got st':=⟨⟨_,_,Tryz.func207,rfl,by kernel_rfl⟩,fun G w cargs hv hs _=>hp207 h G w cargs hv hs⟩
theorem R_52 {args:List AV} {st:St} {got:Got} {st':St} (h:pBString args st = some (got,st')):R Tryz.prog AN 52 args st got st':=⟨⟨_,_,Tryz.func52,rfl,by kernel_rfl⟩,fun G w cargs hv hs _=>hp52 h G w cargs hv hs⟩
theorem copyCheck_R0 {id:Nat} {b:Bool} {x y:AV} {st:St} {rs:List Res} (K:HL st (.obj id (.cells 77 [addrA id b,x,y]) :: rs)) :
  ∃ st',R Tryz.prog AN 207 [.ptr id 0] st (.ret (.tuple [])) st'∧HL st' (.obj id (.cells 77 [addrA id true,x,y]) :: rs):=by
 have hk:st[id]? = some (.cells 77 [addrA id b,x,y]):=K.2 (.obj id (.cells 77 [addrA id b,x,y])) (by simp)
 cases b with
 | false =>
  refine ⟨st.set id (.cells 77 [addrA id true,x,y]),R_207 ?_,K.put⟩
  simp only [pCopyCheck,hk,addrA,cond_false,cond_true]
 | true =>
  refine ⟨st,R_207 ?_,K⟩
  simp only [pCopyCheck,hk,addrA,cond_true,and_self,if_true]
theorem avBytes_map:(l:List UInt8)→avBytes (l.map tY.e) = some l
 | []=>rfl
 | b :: r=>by
  have ih:=avBytes_map r
  have hb:(b.toNat:Int) < 256:=by have:=b.toNat_lt; omega
  simp only [List.map_cons,tY,avBytes] at ih ⊢
  rw [if_pos ⟨by omega,hb⟩,ih]
  simp
theorem builderString_R0 (l:List UInt8) {id:Nat} {a d:AV} {sp:Spare} {st:St} {rs:List Res} (K:HL st (.ownB 5 sp l :: .obj id (.cells 77 [a,vL tY l sp,d]) :: rs)) :
  ∃ st',R Tryz.prog AN 52 [.ptr id 0] st (.ret (vS (bs l))) st'∧HL st' rs:=by
 have hk:st[id]? = some (.cells 77 [a,vL tY l sp,d]):=K.2 (.obj id (.cells 77 [a,vL tY l sp,d])) (by simp)
 have hrs:HL st (.obj id (.cells 77 [a,vL tY l sp,d]) :: rs):=K.sub (List.sublist_cons_self _ _)
 cases sp with
 | shut=>exact (K.2 (.ownB 5 .shut l) (by simp)).elim
 | full=>exact (K.2 (.ownB 5 .full l) (by simp)).elim
 | room k m=>exact (K.2 (.ownB 5 (.room k m) l) (by simp)).elim
 | nil =>
  obtain rfl:l = []:=K.2 (.ownB 5 .nil l) (by simp)
  refine ⟨st.set id .dead,R_52 ?_,(hrs.put (o':=.dead)).sub (List.sublist_cons_self _ _)⟩
  simp [pBString,hk,avBytes]
 | tok k =>
  have hkk:st[k]? = some (.live (some 5)):=K.2 (.ownB 5 (.tok k) l) (by simp)
  refine ⟨(st.set id .dead).set k .dead,R_52 ?_,?_⟩
  ·simp only [pBString,hk,avBytes_map,hkk]
  ·have h3:HL st (.obj k (.live (some 5)) :: .obj id (.cells 77 [a,vL tY l (.tok k),d]) :: rs):=⟨by simpa [Res.ids,spIds] using K.1,fun r hr=>by
    rcases List.mem_cons.1 hr with rfl | hr
    ·exact hkk
    ·exact K.2 r (by simp at hr ⊢; exact .inr hr)⟩
   have h2:=h3.perm (List.Perm.swap _ _ _)
   have h1:HL (st.set id .dead) (.obj k (.live (some 5)) :: rs):=(h2.put (o':=.dead)).sub (List.sublist_cons_self _ _)
   exact (h1.put (o':=.dead)).sub (List.sublist_cons_self _ _)
theorem copyCheck_R {id:Nat} {b:Bool} {x y:AV} {st:St} {rs:List Res} (K:HL st (.obj id (.cells 77 [addrA id b,x,y]) :: rs)) :
  RG Tryz.prog AN 207 [.ptr id 0] st (.ret (.tuple [])) fun (_:Unit)=>.obj id (.cells 77 [addrA id true,x,y]) :: rs:=by
 obtain ⟨st',h1,h2⟩:=copyCheck_R0 K
 exact ⟨(),st',h1,h2⟩
theorem builderString_R (l:List UInt8) {id:Nat} {a d:AV} {sp:Spare} {st:St} {rs:List Res} (K:HL st (.ownB 5 sp l :: .obj id (.cells 77 [a,vL tY l sp,d]) :: rs)) :
  RG Tryz.prog AN 52 [.ptr id 0] st (.ret (vS (bs l))) fun (_:Unit)=>rs:=by
 obtain ⟨st',h1,h2⟩:=builderString_R0 l K
 exact ⟨(),st',h1,h2⟩
theorem qappS {P:Program} {A:Ann} {f:FuncId} {fr:Fr} {st:St} {env:Env} {ops:Array Oper} {i:Nat} {QK:Option AV→Fr→St→List Kd→Prop} {rs:List Res} {t t2 T:TypeId} {l r:List UInt8} {s:ByteArray} {sp:Spare} (hx:wrS l s = some r) (j:Nat) (H:Rd fr env) (K:HL st rs) (hj:rs[j]? = some (.ownB T sp l))
  (hu0:P.underlying t = some (.slice T)) (hue:P.underlying T = some (.int .u8)) (ht:(slB P t 1 1 && isStrT P t2) = true)
  (hv:∀ fr,chkV A f ops i (puts fr env) = some (.append t t2 (vL tY l sp) (vS s)))
  (h:∀ sp' st',HL st' (rs.set j (.ownB T sp' r))→∀ fr',Rd fr' (addE (dstAt ops i) (vL tY r sp') env)→WKI P A f ops (i + 1) fr' st' fun e fr st ks=>QK e fr st (2 :: ks)):WKI P A f ops i fr st QK:=by
 simp only [Bool.and_eq_true] at ht
 obtain ⟨sp',st',h1,h2⟩:=appendS (K.front j hj) hu0 hue ht.1 ht.2 hx
 exact qv _ H h1 (h sp' st' (h2.back j hj)) hv
end Go.Proofs.YtbecjgckobhmpaaGreatDoor
end
section
namespace Go.Proofs.YtbecjgckobhmpaaGreatDoor
open Go Go.AM Go.Proofs
set_option maxRecDepth 100000
set_option maxHeartbeats 4000000
def F82 (a0:List ByteArray):Option ByteArray :=
 (joinF a0 (bs [])).bind fun x1 =>
 some x1
theorem F82_R (a0:List ByteArray) (r:ByteArray) (hr:F82 a0 = some r) {st:St} {p0:Spare}:R Tryz.prog AN 82 [vL tS a0 p0] st (.ret (vS r)) st:=by
 unfold F82 at hr
 refine R_pureX [vL tS a0 .shut] [(0,vL tS a0 .shut)] Tryz.func82 rfl (by simp only [strip,stripL,stripL_ET,Option.bind_some,Option.map_some]) rfl fun fr st H K=>sr (qg 1 [] H fun _ H=>qe (sr (qg 1 [(3,vL tS a0 .shut)] H fun _ H=>?_)))
 refine qb hr (fun x h s=>join_R _ _ x h (sp:=.shut)) H fun x1 hr fr H=>qg 1 [(2,vS x1)] H fun _ H=>qe (W_ret ?_)
 obtain rfl:=Option.some.inj hr
 exact qr [vS x1] H K
def F84 (n:Nat) (a0:ByteArray):Option (ByteArray × Int × Int × Int) :=
 (iter (σ:=Int) (ρ:=(ByteArray × Int × Int × Int) ⊕ Unit) (fun s2=>bif decide (s2 < 13) then
   ((idxL ruleTab s2).bind fun x4 =>
   bif strEq x4.1 a0 then
    (some (.inr (.inl (x4.1,x4.2.1,x4.2.2.1,x4.2.2.2))))
   else
    (some (.inl (w64 (s2 + 1)))))
  else
   (some (.inr (.inr ())))) n (0:Int)).bind fun r7=>match r7 with
 | .inl r7a=>some (r7a.1,r7a.2.1,r7a.2.2.1,r7a.2.2.2)
 | .inr _=>some ((bs []),(0:Int),(0:Int),(0:Int))
theorem F84_R (n:Nat) (a0:ByteArray) (r:ByteArray × Int × Int × Int) (hr:F84 n a0 = some r) {st:St}:R Tryz.prog AN 84 [vS a0] st (.ret (.agg [vS r.1,vI r.2.1,vI r.2.2.1,vI r.2.2.2])) st:=by
 unfold F84 at hr
 refine R_pureX [vS a0] [(0,vS a0)] Tryz.func84 rfl (by kernel_rfl) rfl fun fr st H K=>sr ?_
 refine qal 113 [vS (bs []),vI 0,vI 0,vI 0] H K fun id1 st K fr H=>qe (W_seq (W_seq (W_reg (qg 2 [(5,.agg ruleCells),(6,vI 0)] H fun _ H=>qe (W_block ?_)))))
 obtain ⟨r7,hr7,hr⟩:=obind hr
 refine W_iter hr7 (fun (s2:Int) fr st=>Rd fr [(0,vS a0),(2,.ptr id1 0),(5,.agg ruleCells),(6,vI s2)]∧HL st [.obj id1 (.cells 113 [vS (bs []),vI 0,vI 0,vI 0])]) (fun (r7:(ByteArray × Int × Int × Int) ⊕ Unit) e fr st=>match r7 with | .inl r7a=>(e = .ret∧Rd fr [(2,.ptr id1 0)]∧HL st [.obj id1 (.cells 113 [vS r7a.1,vI r7a.2.1,vI r7a.2.2.1,vI r7a.2.2.2])]) | .inr r7b=>(e = .exit 0∧Rd fr [(2,.ptr id1 0)]∧HL st [.obj id1 (.cells 113 [vS (bs []),vI 0,vI 0,vI 0])])) ⟨H.tq,K.keep [true]⟩ ?_ ?_
 ·intro s2 fr st r hi hr
  obtain ⟨H,K⟩:=hi
  refine sr (qg 1 [(7,vB (decide (s2 < 13)))] H fun _ H=>qe (W_seq ?_))
  rcases csplit hr with ⟨c3,hr⟩|⟨c3,hr⟩
  rotate_left
  ·refine qF H c3 ?_
   refine W_exit ?_
   cases hr
   exact ⟨by simp,⟨rfl,H.tq,K.keep [true]⟩⟩
  refine qT H c3 (W_skip (W_seq (W_block (sr ?_))))
  obtain ⟨x4,hx4,hr⟩:=obind hr
  refine qv (.index 140 (.agg ruleCells) (vI s2)) H (run_rule hx4) fun _ H=>?_
  refine qal 113 [vS (bs []),vI 0,vI 0,vI 0] H K fun id5 st K fr H=>?_
  refine qst 113 0 (.agg [vS x4.1,vI x4.2.1,vI x4.2.2.1,vI x4.2.2.2]) [vS x4.1,vI x4.2.1,vI x4.2.2.1,vI x4.2.2.2] 0 H K rfl fun st K fr H=>qe (sr (qg 1 [(9,.ptr id5 0)] H fun _ H=>?_))
  refine qld 9 0 (vS x4.1) 0 H K rfl fun _ H=>qg 2 [(12,vB (strEq x4.1 a0))] H fun _ H=>qe ?_
  rcases csplit hr with ⟨c6,hr⟩|⟨c6,hr⟩
  rotate_left
  ·refine qF H c6 (W_skip (W_reg (qg 2 [(6,vI (w64 (s2 + 1)))] H fun _ H=>qe ?_)))
   cases hr
   exact ⟨rfl,⟨H.tq,K.keep [false,true]⟩⟩
  refine qT H c6 (sr ?_)
  refine qld 113 0 (.agg [vS x4.1,vI x4.2.1,vI x4.2.2.1,vI x4.2.2.2]) 0 H K rfl fun _ H=>?_
  refine qst 113 0 (.agg [vS x4.1,vI x4.2.1,vI x4.2.2.1,vI x4.2.2.2]) [vS x4.1,vI x4.2.1,vI x4.2.2.1,vI x4.2.2.2] 1 H K rfl fun st K fr H=>qe (W_ret ?_)
  cases hr
  exact ⟨by simp,⟨rfl,H.tq,K.keep [false,true]⟩⟩
 rcases r7 with r7a | r7b
 ·rintro e fr st ⟨rfl,H,K⟩
  cases hr
  exact e_ret [.agg [vS r7a.1,vI r7a.2.1,vI r7a.2.2.1,vI r7a.2.2.2]] H K (fun _=>resC id1 0 113 [vS r7a.1,vI r7a.2.1,vI r7a.2.2.1,vI r7a.2.2.2] 0 (by kernel_rfl) rfl (by kernel_rfl) resN) (fun _=>by kernel_rfl)
 rintro e fr st ⟨rfl,H,K⟩
 refine sr (qg 1 [(15,.agg [vS (bs []),vI 0,vI 0,vI 0])] H fun _ H=>?_)
 refine qst 113 0 (.agg [vS (bs []),vI 0,vI 0,vI 0]) [vS (bs []),vI 0,vI 0,vI 0] 0 H K rfl fun st K fr H=>qe (W_ret ?_)
 cases hr
 exact e_ret [.agg [vS (bs []),vI 0,vI 0,vI 0]] H K (fun _=>resC id1 0 113 [vS (bs []),vI 0,vI 0,vI 0] 0 (by kernel_rfl) rfl (by kernel_rfl) resN) (fun _=>by kernel_rfl)
def F134 (n:Nat) (a0:Node):Option Int :=
 (bif a0.kind == 7 then
   (some (a0.kind == 7))
  else
   (some (a0.kind == 8)):Option (Bool)).bind fun j2 =>
 bif j2 then
  (some (0:Int))
 else
  (bif a0.kind == 6 then
   (some (1:Int))
  else
   (bif a0.kind == 5 then
    ((F84 n a0.name).bind fun x6 =>
    some x6.2.1)
   else
    (bif a0.kind == 4 then
     (some (11:Int))
    else
     (some (12:Int)))))
theorem F134_R (n:Nat) (a0:Node) (r:Int) (hr:F134 n a0 = some r) {st:St} {p0:Spare}:R Tryz.prog AN 134 [.agg (cNode p0 a0)] st (.ret (vI r)) st:=by
 unfold F134 at hr
 refine R_pureX [aN a0] [(0,aN a0)] Tryz.func134 rfl (by simp only [strip,stripL,stripL_cNode,Option.bind_some,Option.map_some]) rfl fun fr st H K=>sr (qg 2 [(1,cN a0 0)] H fun _ H=>qe (W_seq (W_seq (W_reg (qg 2 [(4,vI a0.kind)] H fun _ H=>qe (W_block (W_seq ?_)))))))
 obtain ⟨j2,hj2,hr⟩:=obind hr
 refine W_via (fun e fr st=>e = .normal∧Rd fr [(1,cN a0 0),(4,vI a0.kind),(5,vB j2)]∧HL st []) ?_ ?_
 ·replace hr:=hj2
  refine sr (qg 2 [(5,vB (a0.kind == 7))] H fun _ H=>qe ?_)
  rcases csplit hr with ⟨c1,hr⟩|⟨c1,hr⟩
  ·refine qT H c1 (W_skip ?_)
   cases hr
   exact ⟨rfl,H.tq,K.keep []⟩
  refine qF H c1 (W_reg (qg 2 [(5,vB (a0.kind == 8))] H fun _ H=>qe ?_))
  cases hr
  exact ⟨rfl,H.tq,K.keep []⟩
 rintro e fr st ⟨rfl,H,K⟩
 rcases csplit hr with ⟨c3,hr⟩|⟨c3,hr⟩
 ·refine qT H c3 (sr (qg 1 [(2,vI 0)] H fun _ H=>qe (W_ret ?_)))
  cases hr
  exact qr [vI 0] H K
 refine qF H c3 (sr (qg 2 [(8,vB (a0.kind == 6))] H fun _ H=>qe ?_))
 rcases csplit hr with ⟨c4,hr⟩|⟨c4,hr⟩
 ·refine qT H c4 (sr (qg 1 [(2,vI 1)] H fun _ H=>qe (W_ret ?_)))
  cases hr
  exact qr [vI 1] H K
 refine qF H c4 (sr (qg 2 [(10,vB (a0.kind == 5))] H fun _ H=>qe ?_))
 rcases csplit hr with ⟨c5,hr⟩|⟨c5,hr⟩
 ·refine qT H c5 (sr (qg 2 [(13,vS a0.name)] H fun _ H=>?_))
  refine qb hr (fun x h s=>F84_R n _ x h) H fun x6 hr fr H=>qg 2 [(2,vI x6.2.1)] H fun _ H=>qe (W_ret ?_)
  cases hr
  exact qr [vI x6.2.1] H K
 refine qF H c5 (sr (qg 2 [(16,vB (a0.kind == 4))] H fun _ H=>qe ?_))
 rcases csplit hr with ⟨c7,hr⟩|⟨c7,hr⟩
 ·refine qT H c7 (sr (qg 1 [(2,vI 11)] H fun _ H=>qe (W_ret ?_)))
  cases hr
  exact qr [vI 11] H K
 refine qF H c7 (W_skip (sr (qg 1 [(2,vI 12)] H fun _ H=>qe (W_ret ?_))))
 cases hr
 exact qr [vI 12] H K
def F85 (n:Nat) (a0:List ByteArray):Option ByteArray :=
 (iter (σ:=(List ByteArray) × Int) (ρ:=((List ByteArray))) (fun s1=>bif decide (s1.2 < (a0.length:Int)) then
   ((idxL a0 s1.2).bind fun x3 =>
   bif !(strEq x3 (bs [])) then
    ((appL 16 s1.1 ([x3]:List ByteArray)).bind fun x5 =>
    some (.inl (x5,w64 (s1.2 + 1))))
   else
    (some (.inl (s1.1,w64 (s1.2 + 1)))))
  else
   (some (.inr s1.1))) n (([]:List ByteArray),(0:Int))).bind fun r7 =>
 (joinF r7 (bs [32])).bind fun x8 =>
 some x8
theorem F85_R (n:Nat) (a0:List ByteArray) (r:ByteArray) (hr:F85 n a0 = some r) {st:St} {p0:Spare}:R Tryz.prog AN 85 [vL tS a0 p0] st (.ret (vS r)) st:=by
 unfold F85 at hr
 refine R_pureX [vL tS a0 .shut] [(0,vL tS a0 .shut)] Tryz.func85 rfl (by simp only [strip,stripL,stripL_ET,Option.bind_some,Option.map_some]) rfl fun fr st H K=>sr (qg 1 [] H fun _ H=>qe (sr (qg 1 [(3,vL tS ([]:List ByteArray) .nil)] H fun _ H=>qe (W_seq (W_seq (W_reg (qg 1 [(6,vL tS a0 .shut)] H fun _ H=>?_)))))))
 refine qln tS 30 a0 .shut H fun _ H=>qg 1 [(8,vI 0)] H fun _ H=>qe (W_block ?_)
 obtain ⟨r7,hr7,hr⟩:=obind hr
 refine W_iter hr7 (fun (s1:(List ByteArray) × Int) fr st=>∃ (s1sp0:Spare),Rd fr [(3,vL tS s1.1 s1sp0),(6,vL tS a0 .shut),(7,vI (a0.length:Int)),(8,vI s1.2)]∧HL st [.own s1sp0]) (fun (r7:((List ByteArray))) e fr st=>e = .exit 0∧∃ (r7sp0:Spare),Rd fr [(3,vL tS r7 r7sp0)]∧HL st [.own r7sp0]) ⟨.nil,H.tq,((K.keep []).nilo)⟩ ?_ ?_
 ·intro s1 fr st r hi hr
  obtain ⟨s1sp0,H,K⟩:=hi
  refine sr (qg 1 [(9,vB (decide (s1.2 < (a0.length:Int))))] H fun _ H=>qe (W_seq ?_))
  rcases csplit hr with ⟨c2,hr⟩|⟨c2,hr⟩
  rotate_left
  ·refine qF H c2 ?_
   refine W_exit ?_
   cases hr
   exact ⟨by simp,⟨rfl,s1sp0,H.tq,K.keep [true]⟩⟩
  refine qT H c2 (W_skip (W_seq (W_block (sr ?_))))
  refine qix tS 30 .shut hr H fun x3 hr hx3 fr H=>qg 2 [(5,vS x3)] H fun _ H=>qe (sr (qg 2 [(13,vB (!(strEq x3 (bs []))))] H fun _ H=>qe ?_))
  rcases csplit hr with ⟨c4,hr⟩|⟨c4,hr⟩
  rotate_left
  ·refine qF H c4 (W_skip (W_reg (qg 2 [(8,vI (w64 (s1.2 + 1)))] H fun _ H=>qe ?_)))
   cases hr
   exact ⟨rfl,⟨s1sp0,H.tq,K.keep [true]⟩⟩
  refine qT H c4 (W_reg (qg 2 [(14,vL tS s1.1 s1sp0),(15,vS x3)] H fun _ H=>?_))
  refine qbs tS 30 ([x3]:List ByteArray) H fun _ H=>?_
  refine qapp tS 16 30 30 .full hr 0 H K rfl fun x5 hr sp6 st K fr H=>qg 1 [(3,vL tS x5 sp6)] H fun _ H=>qe (W_reg (qg 2 [(8,vI (w64 (s1.2 + 1)))] H fun _ H=>qe ?_))
  cases hr
  exact ⟨rfl,⟨sp6,H.tq,K.keep [true]⟩⟩
 rintro e fr st ⟨rfl,r7sp0,H,K⟩
 refine sr (qg 1 [(19,vL tS r7 r7sp0)] H fun _ H=>?_)
 refine qb hr (fun x h s=>join_R _ _ x h (sp:=r7sp0)) H fun x8 hr fr H=>qg 1 [(2,vS x8)] H fun _ H=>qe (W_ret ?_)
 obtain rfl:=Option.some.inj hr
 exact qr [vS x8] H K
def F83_step (_:Node→Int→Option ByteArray) (F54:Node→Option ByteArray) (n:Nat) (a0:Node) (a1:Int):Option ByteArray :=
 (F134 n a0).bind fun x1 =>
 bif decide (x1 < a1) then
  ((F54 a0).bind fun x3 =>
  (F82 ([(bs [40]),x3,(bs [41])]:List ByteArray)).bind fun x4 =>
  some x4)
 else
  ((F54 a0).bind fun x5 =>
  some x5)
def F54_step (F83:Node→Int→Option ByteArray) (_:Node→Option ByteArray) (n:Nat) (a0:Node):Option ByteArray :=
 (bif a0.kind == 1 then
   ((itoaF a0.n).bind fun x9 =>
   some (.inl x9))
  else
   (bif a0.kind == 2 then
    (bif (a0.kids.length:Int) == 0 then
     (some (.inl a0.name))
    else
     ((idxL a0.kids 0).bind fun x11 =>
     (F83 x11 (0:Int)).bind fun x12 =>
     (F82 ([a0.name,(bs [91]),x12,(bs [93])]:List ByteArray)).bind fun x13 =>
     some (.inl x13)))
   else
    (bif a0.kind == 3 then
     ((idxL a0.kids 0).bind fun x14 =>
     (F83 x14 (0:Int)).bind fun x15 =>
     (F82 ([(bs [111,108,100,40]),x15,(bs [41])]:List ByteArray)).bind fun x16 =>
     some (.inl x16))
    else
     (bif a0.kind == 4 then
      ((idxL a0.kids 0).bind fun x17 =>
      (F83 x17 (11:Int)).bind fun x18 =>
      (F82 ([(bs [33]),x18]:List ByteArray)).bind fun x19 =>
      some (.inl x19))
     else
      (bif a0.kind == 5 then
       ((F84 n a0.name).bind fun x20 =>
       (idxL a0.kids 0).bind fun x22 =>
       (F83 x22 x20.2.2.1).bind fun x23 =>
       (idxL a0.kids 1).bind fun x24 =>
       (F83 x24 x20.2.2.2).bind fun x25 =>
       (F85 n ([x23,a0.name,x25]:List ByteArray)).bind fun x26 =>
       some (.inl x26))
      else
       (bif a0.kind == 6 then
        ((idxL a0.kids 0).bind fun x27 =>
        (F83 x27 (2:Int)).bind fun x28 =>
        (idxL a0.kids 1).bind fun x29 =>
        (F83 x29 (1:Int)).bind fun x30 =>
        (idxL a0.kids 2).bind fun x31 =>
        (F83 x31 (1:Int)).bind fun x32 =>
        (F85 n ([x28,(bs [63]),x30,(bs [58]),x32]:List ByteArray)).bind fun x33 =>
        some (.inl x33))
       else
        (bif a0.kind == 7 then
         (some (.inr (.inl (bs [97,108,108]))))
        else
         (bif a0.kind == 8 then
          (some (.inr (.inl (bs [115,111,109,101]))))
         else
          (some (.inr (.inr ())))))))))):Option (ByteArray ⊕ ByteArray ⊕ Unit)).bind fun j34=>match j34 with
 | .inl j34a=>some j34a
 | .inr (.inl j34b)=>(itoaF a0.n).bind fun x35 =>
  (idxL a0.kids 0).bind fun x36 =>
  (F83 x36 (0:Int)).bind fun x37 =>
  (F85 n ([j34b,a0.name,(bs [60]),x35,(bs [58]),x37]:List ByteArray)).bind fun x38 =>
  some x38
 | .inr (.inr _)=>some (bs [])
mutual
def F83:Nat→Node→Int→Option ByteArray
 | 0,_,_=>none
 | n + 1,a0,a1=>F83_step (F83 n) (F54 n) n a0 a1
def F54:Nat→Node→Option ByteArray
 | 0,_=>none
 | n + 1,a0=>F54_step (F83 n) (F54 n) n a0
end
theorem F83_RR (n:Nat):(∀ (a0:Node) (a1:Int) (r:ByteArray),F83 n a0 a1 = some r→∀ {st:St} {p0:Spare},R Tryz.prog AN 83 [.agg (cNode p0 a0),vI a1] st (.ret (vS r)) st)∧(∀ (a0:Node) (r:ByteArray),F54 n a0 = some r→∀ {st:St} {p0:Spare},R Tryz.prog AN 54 [.agg (cNode p0 a0)] st (.ret (vS r)) st):=by
 induction n with
 | zero=>exact ⟨by intros; contradiction,by intros; contradiction⟩
 | succ n ih =>
  obtain ⟨ih_F83,ih_F54⟩:=ih
  refine ⟨?_,?_⟩
  ·intro a0 a1 r hr st p0
   change F83_step (F83 n) (F54 n) n a0 a1 = some r at hr
   unfold F83_step at hr
   refine R_pureX [aN a0,vI a1] [(0,aN a0),(1,vI a1)] Tryz.func83 rfl (by simp only [strip,stripL,stripL_cNode,Option.bind_some,Option.map_some]) rfl fun fr st H K=>sr (qg 2 [(2,cN a0 0)] H fun _ H=>qe (W_seq (W_seq (W_reg (qg 1 [(5,aN a0)] H fun _ H=>?_)))))
   refine qb hr (fun x h s=>F134_R n _ x h (p0:=.shut)) H fun x1 hr fr H=>qg 2 [(8,vB (decide (x1 < a1)))] H fun _ H=>qe ?_
   rcases csplit hr with ⟨c2,hr⟩|⟨c2,hr⟩
   rotate_left
   ·refine qF H c2 (W_skip (sr (qg 1 [(13,aN a0)] H fun _ H=>?_)))
    refine qb hr (fun x h s=>ih_F54 _ x h (p0:=.shut)) H fun x5 hr fr H=>qg 1 [(4,vS x5)] H fun _ H=>qe (W_ret ?_)
    obtain rfl:=Option.some.inj hr
    exact qr [vS x5] H K
   refine qT H c2 (sr (qg 1 [(9,aN a0)] H fun _ H=>?_))
   refine qb hr (fun x h s=>ih_F54 _ x h (p0:=.shut)) H fun x3 hr fr H=>?_
   refine qbs tS 30 ([(bs [40]),x3,(bs [41])]:List ByteArray) H fun _ H=>?_
   refine qb hr (fun x h s=>F82_R  _ x h (p0:=.full)) H fun x4 hr fr H=>qg 1 [(4,vS x4)] H fun _ H=>qe (W_ret ?_)
   obtain rfl:=Option.some.inj hr
   exact qr [vS x4] H K
  ·intro a0 r hr st p0
   change F54_step (F83 n) (F54 n) n a0 = some r at hr
   unfold F54_step at hr
   refine R_pureX [aN a0] [(0,aN a0)] Tryz.func54 rfl (by simp only [strip,stripL,stripL_cNode,Option.bind_some,Option.map_some]) rfl fun fr st H K=>sr (qg 2 [(1,cN a0 0)] H fun _ H=>qe (sr (qg 1 [(3,vS (bs [115,111,109,101]))] H fun _ H=>qe (W_seq (W_seq (W_reg (qg 2 [(6,vI a0.kind)] H fun _ H=>qe (W_block (W_seq ?_)))))))))
   obtain ⟨j34,hj34,hr⟩:=obind hr
   refine W_via (fun e fr st=>match j34 with | .inl j34a=>(e = .ret∧Rd fr [(2,vS j34a)]∧HL st []) | .inr (.inl j34b)=>(e = .normal∧Rd fr [(1,cN a0 0),(3,vS j34b)]∧HL st []) | .inr (.inr j34c)=>(e = .exit 0∧Rd fr []∧HL st [])) ?_ ?_
   ·replace hr:=hj34
    refine W_block (W_seq (W_block (W_seq (W_block (W_seq (W_block (W_seq (W_block (W_seq (W_block (W_seq (W_block (W_seq (W_block (W_seq (W_seq (sr (qg 2 [(7,vB (a0.kind == 1))] H fun _ H=>qe ?_))))))))))))))))))
    rcases csplit hr with ⟨c1,hr⟩|⟨c1,hr⟩
    ·refine qT H c1 ?_
     refine W_exit (W_seq (W_seq (W_reg (qg 2 [(24,vI a0.n)] H fun _ H=>?_))))
     refine qb hr (fun x h s=>itoa_R _ x h) H fun x9 hr fr H=>qg 1 [(2,vS x9)] H fun _ H=>qe (W_ret ?_)
     cases hr
     exact ⟨rfl,H.tq,K.keep []⟩
    refine qF H c1 (W_skip (W_seq (W_seq (W_reg (qg 2 [(9,vB (a0.kind == 2))] H fun _ H=>qe ?_)))))
    rcases csplit hr with ⟨c2,hr⟩|⟨c2,hr⟩
    ·refine qT H c2 ?_
     refine W_exit (W_seq (W_seq (sr (qg 2 [(27,vL tNode a0.kids .shut)] H fun _ H=>?_))))
     refine qln tNode 22 a0.kids .shut H fun _ H=>qg 1 [(29,vB ((a0.kids.length:Int) == 0))] H fun _ H=>qe ?_
     rcases csplit hr with ⟨c10,hr⟩|⟨c10,hr⟩
     ·refine qT H c10 (sr (qg 3 [(2,vS a0.name)] H fun _ H=>qe (W_ret ?_)))
      cases hr
      exact ⟨rfl,H.tq,K.keep []⟩
     refine qF H c10 (W_skip (W_seq (W_drw (qg 4 [(33,vS a0.name),(35,vL tNode a0.kids .shut)] H fun _ H=>?_))))
     refine qix tNode 22 .shut hr H fun x11 hr hx11 fr H=>qg 1 [(37,aN x11)] H fun _ H=>?_
     refine qb hr (fun x h s=>ih_F83 _ _ x h (p0:=.shut)) H fun x12 hr fr H=>?_
     refine qbs tS 30 ([a0.name,(bs [91]),x12,(bs [93])]:List ByteArray) H fun _ H=>?_
     refine qb hr (fun x h s=>F82_R  _ x h (p0:=.full)) H fun x13 hr fr H=>qg 1 [(2,vS x13)] H fun _ H=>qe (qd (W_ret ?_))
     cases hr
     exact ⟨rfl,H.tq,K.keep []⟩
    refine qF H c2 (W_skip (W_seq (W_seq (W_reg (qg 2 [(11,vB (a0.kind == 3))] H fun _ H=>qe ?_)))))
    rcases csplit hr with ⟨c3,hr⟩|⟨c3,hr⟩
    ·refine qT H c3 ?_
     refine W_exit (W_seq (W_seq (W_reg (qg 2 [(42,vL tNode a0.kids .shut)] H fun _ H=>?_))))
     refine qix tNode 22 .shut hr H fun x14 hr hx14 fr H=>qg 1 [(44,aN x14)] H fun _ H=>?_
     refine qb hr (fun x h s=>ih_F83 _ _ x h (p0:=.shut)) H fun x15 hr fr H=>?_
     refine qbs tS 30 ([(bs [111,108,100,40]),x15,(bs [41])]:List ByteArray) H fun _ H=>?_
     refine qb hr (fun x h s=>F82_R  _ x h (p0:=.full)) H fun x16 hr fr H=>qg 1 [(2,vS x16)] H fun _ H=>qe (W_ret ?_)
     cases hr
     exact ⟨rfl,H.tq,K.keep []⟩
    refine qF H c3 (W_skip (W_seq (W_seq (W_reg (qg 2 [(13,vB (a0.kind == 4))] H fun _ H=>qe ?_)))))
    rcases csplit hr with ⟨c4,hr⟩|⟨c4,hr⟩
    ·refine qT H c4 ?_
     refine W_exit (W_seq (W_seq (W_reg (qg 2 [(49,vL tNode a0.kids .shut)] H fun _ H=>?_))))
     refine qix tNode 22 .shut hr H fun x17 hr hx17 fr H=>qg 1 [(51,aN x17)] H fun _ H=>?_
     refine qb hr (fun x h s=>ih_F83 _ _ x h (p0:=.shut)) H fun x18 hr fr H=>?_
     refine qbs tS 30 ([(bs [33]),x18]:List ByteArray) H fun _ H=>?_
     refine qb hr (fun x h s=>F82_R  _ x h (p0:=.full)) H fun x19 hr fr H=>qg 1 [(2,vS x19)] H fun _ H=>qe (W_ret ?_)
     cases hr
     exact ⟨rfl,H.tq,K.keep []⟩
    refine qF H c4 (W_skip (W_seq (W_seq (W_reg (qg 2 [(15,vB (a0.kind == 5))] H fun _ H=>qe ?_)))))
    rcases csplit hr with ⟨c5,hr⟩|⟨c5,hr⟩
    ·refine qT H c5 ?_
     refine W_exit (W_seq (W_seq (W_reg (qg 2 [(56,vS a0.name)] H fun _ H=>?_))))
     refine qb hr (fun x h s=>F84_R n _ x h) H fun x20 hr fr H=>?_
     refine qal 113 [vS (bs []),vI 0,vI 0,vI 0] H K fun id21 st K fr H=>?_
     refine qst 113 0 (.agg [vS x20.1,vI x20.2.1,vI x20.2.2.1,vI x20.2.2.2]) [vS x20.1,vI x20.2.1,vI x20.2.2.1,vI x20.2.2.2] 0 H K rfl fun st K fr H=>qe (W_seq (W_drw (qg 2 [(59,vL tNode a0.kids .shut)] H fun _ H=>?_)))
     refine qix tNode 22 .shut hr H fun x22 hr hx22 fr H=>qg 2 [(61,aN x22),(62,.ptr id21 2)] H fun _ H=>?_
     refine qld 3 2 (vI x20.2.2.1) 0 H K rfl fun _ H=>?_
     refine qb hr (fun x h s=>ih_F83 _ _ x h (p0:=.shut)) H fun x23 hr fr H=>qg 4 [(66,vS a0.name),(68,vL tNode a0.kids .shut)] H fun _ H=>?_
     refine qix tNode 22 .shut hr H fun x24 hr hx24 fr H=>qg 2 [(70,aN x24),(71,.ptr id21 3)] H fun _ H=>?_
     refine qld 3 3 (vI x20.2.2.2) 0 H K rfl fun _ H=>?_
     refine qb hr (fun x h s=>ih_F83 _ _ x h (p0:=.shut)) H fun x25 hr fr H=>?_
     refine qbs tS 30 ([x23,a0.name,x25]:List ByteArray) H fun _ H=>?_
     refine qb hr (fun x h s=>F85_R n _ x h (p0:=.full)) H fun x26 hr fr H=>qg 1 [(2,vS x26)] H fun _ H=>qe (qd (W_ret ?_))
     cases hr
     exact ⟨rfl,H.tq,K.keep [false]⟩
    refine qF H c5 (W_skip (W_seq (W_seq (W_reg (qg 2 [(17,vB (a0.kind == 6))] H fun _ H=>qe ?_)))))
    rcases csplit hr with ⟨c6,hr⟩|⟨c6,hr⟩
    ·refine qT H c6 ?_
     refine W_exit (W_seq (W_seq ?_))
     refine W_drw (qg 2 [(77,vL tNode a0.kids .shut)] H fun _ H=>?_)
     refine qix tNode 22 .shut hr H fun x27 hr hx27 fr H=>qg 1 [(79,aN x27)] H fun _ H=>?_
     refine qb hr (fun x h s=>ih_F83 _ _ x h (p0:=.shut)) H fun x28 hr fr H=>qg 2 [(82,vL tNode a0.kids .shut)] H fun _ H=>?_
     refine qix tNode 22 .shut hr H fun x29 hr hx29 fr H=>qg 1 [(84,aN x29)] H fun _ H=>?_
     refine qb hr (fun x h s=>ih_F83 _ _ x h (p0:=.shut)) H fun x30 hr fr H=>qg 2 [(87,vL tNode a0.kids .shut)] H fun _ H=>?_
     refine qix tNode 22 .shut hr H fun x31 hr hx31 fr H=>qg 1 [(89,aN x31)] H fun _ H=>?_
     refine qb hr (fun x h s=>ih_F83 _ _ x h (p0:=.shut)) H fun x32 hr fr H=>?_
     refine qbs tS 30 ([x28,(bs [63]),x30,(bs [58]),x32]:List ByteArray) H fun _ H=>?_
     refine qb hr (fun x h s=>F85_R n _ x h (p0:=.full)) H fun x33 hr fr H=>qg 1 [(2,vS x33)] H fun _ H=>qe (qd (W_ret ?_))
     cases hr
     exact ⟨rfl,H.tq,K.keep []⟩
    refine qF H c6 (W_skip (W_seq (W_seq (W_reg (qg 2 [(19,vB (a0.kind == 7))] H fun _ H=>qe ?_)))))
    rcases csplit hr with ⟨c7,hr⟩|⟨c7,hr⟩
    ·refine qT H c7 ?_
     refine W_exit (W_reg (qg 1 [(3,vS (bs [97,108,108]))] H fun _ H=>qe ?_))
     cases hr
     exact ⟨rfl,H.tq,K.keep []⟩
    refine qF H c7 (W_skip (sr (qg 2 [(21,vB (a0.kind == 8))] H fun _ H=>qe ?_)))
    rcases csplit hr with ⟨c8,hr⟩|⟨c8,hr⟩
    ·refine qT H c8 ?_
     refine W_exit ?_
     cases hr
     exact ⟨rfl,H.tq,K.keep []⟩
    refine qF H c8 (W_skip ?_)
    refine W_exit ?_
    cases hr
    exact ⟨rfl,H.tq,K.keep []⟩
   rcases j34 with j34a | (j34b | j34c)
   ·rintro e fr st ⟨rfl,H,K⟩
    obtain rfl:=Option.some.inj hr
    exact qr [vS j34a] H K
   ·rintro e fr st ⟨rfl,H,K⟩
    refine W_seq (W_seq ?_)
    refine W_drw (qg 5 [(93,vS j34b),(95,vS a0.name),(97,vI a0.n)] H fun _ H=>?_)
    refine qb hr (fun x h s=>itoa_R _ x h) H fun x35 hr fr H=>qg 2 [(100,vL tNode a0.kids .shut)] H fun _ H=>?_
    refine qix tNode 22 .shut hr H fun x36 hr hx36 fr H=>qg 1 [(102,aN x36)] H fun _ H=>?_
    refine qb hr (fun x h s=>ih_F83 _ _ x h (p0:=.shut)) H fun x37 hr fr H=>?_
    refine qbs tS 30 ([j34b,a0.name,(bs [60]),x35,(bs [58]),x37]:List ByteArray) H fun _ H=>?_
    refine qb hr (fun x h s=>F85_R n _ x h (p0:=.full)) H fun x38 hr fr H=>qg 1 [(2,vS x38)] H fun _ H=>qe (qd (W_ret ?_))
    obtain rfl:=Option.some.inj hr
    exact qr [vS x38] H K
   rintro e fr st ⟨rfl,H,K⟩
   refine sr (qg 1 [(2,vS (bs []))] H fun _ H=>qe (W_ret ?_))
   cases hr
   exact qr [vS (bs [])] H K
theorem F54_R (n:Nat) (a0:Node) (r:ByteArray) (hr:F54 n a0 = some r) {st:St} {p0:Spare}:R Tryz.prog AN 54 [.agg (cNode p0 a0)] st (.ret (vS r)) st:=(F83_RR n).2 a0 r hr
def F51 (n:Nat) (a0:ByteArray):Option (ByteArray × Int) :=
 (F55 n a0).bind fun x1 =>
 bif x1.2.1 != 0 then
  (some ((bs []),(2:Int)))
 else
  (some (a0,(0:Int)))
theorem F51_R (n:Nat) (a0:ByteArray) (r:ByteArray × Int) (hr:F51 n a0 = some r) {st:St}:R Tryz.prog AN 51 [vS a0] st (.ret (.tuple [vS r.1,vI r.2])) st:=by
 unfold F51 at hr
 refine R_pureX [vS a0] [(0,vS a0)] Tryz.func51 rfl (by kernel_rfl) rfl fun fr st H K=>sr (qg 2 [] H fun _ H=>qe (W_seq (W_seq (W_reg (qg 1 [(8,vS a0)] H fun _ H=>?_)))))
 refine qb hr (fun x h s=>F55_R n _ x h) H fun x1 hr fr H=>qg 7 [(5,vI x1.2.1)] H fun _ H=>qe (sr (qg 2 [(14,vB (x1.2.1 != 0))] H fun _ H=>qe ?_))
 rcases csplit hr with ⟨c2,hr⟩|⟨c2,hr⟩
 ·refine qT H c2 (sr (qg 2 [(2,vS (bs [])),(3,vI 2)] H fun _ H=>qe (W_ret ?_)))
  cases hr
  exact e_ret [vS (bs []),vI 2] H K (fun _=>resT (by kernel_rfl) (resT (by kernel_rfl) resN)) (fun _=>by kernel_rfl)
 refine qF H c2 (W_skip (sr (qg 3 [(2,vS a0),(3,vI 0)] H fun _ H=>qe (W_ret ?_))))
 cases hr
 exact e_ret [vS a0,vI 0] H K (fun _=>resT (by kernel_rfl) (resT (by kernel_rfl) resN)) (fun _=>by kernel_rfl)
def F23 (n:Nat) (a0:Node):Option (ByteArray × Int) :=
 bif a0.kind == 62 then
  (some ((bs []),(1:Int)))
 else
  ((F28 n a0).bind fun x2 =>
  bif !x2 then
   (some ((bs []),(1:Int)))
  else
   ((F54 n a0).bind fun x4 =>
   (F51 n x4).bind fun x5 =>
   some (x5.1,x5.2)))
theorem F23_R (n:Nat) (a0:Node) (r:ByteArray × Int) (hr:F23 n a0 = some r) {st:St} {p0:Spare}:R Tryz.prog AN 23 [.agg (cNode p0 a0)] st (.ret (.tuple [vS r.1,vI r.2])) st:=by
 unfold F23 at hr
 refine R_pureX [aN a0] [(0,aN a0)] Tryz.func23 rfl (by simp only [strip,stripL,stripL_cNode,Option.bind_some,Option.map_some]) rfl fun fr st H K=>sr (qg 3 [(1,cN a0 0)] H fun _ H=>qe (W_seq (W_seq (W_reg (qg 4 [(7,vB (a0.kind == 62))] H fun _ H=>?_)))))
 rcases csplit hr with ⟨c1,hr⟩|⟨c1,hr⟩
 ·rw [c1] at H
  refine qg 4 [(11,vB true)] H fun _ H=>qe (qT H rfl (sr (qg 2 [(2,vS (bs [])),(3,vI 1)] H fun _ H=>qe (W_ret ?_))))
  cases hr
  exact e_ret [vS (bs []),vI 1] H K (fun _=>resT (by kernel_rfl) (resT (by kernel_rfl) resN)) (fun _=>by kernel_rfl)
 rw [c1] at H
 refine qg 1 [(8,aN a0)] H fun _ H=>?_
 refine qb hr (fun x h s=>F28_R n _ x h (p0:=.shut)) H fun x2 hr fr H=>qg 2 [(11,vB !x2)] H fun _ H=>qe ?_
 rcases csplit hr with ⟨c3,hr⟩|⟨c3,hr⟩
 ·refine qT H c3 (sr (qg 2 [(2,vS (bs [])),(3,vI 1)] H fun _ H=>qe (W_ret ?_)))
  cases hr
  exact e_ret [vS (bs []),vI 1] H K (fun _=>resT (by kernel_rfl) (resT (by kernel_rfl) resN)) (fun _=>by kernel_rfl)
 refine qF H c3 (W_skip (sr (qg 1 [(12,aN a0)] H fun _ H=>?_)))
 refine qb hr (fun x h s=>F54_R n _ x h (p0:=.shut)) H fun x4 hr fr H=>?_
 refine qb hr (fun x h s=>F51_R n _ x h) H fun x5 hr fr H=>qg 4 [(2,vS x5.1),(3,vI x5.2)] H fun _ H=>qe (W_ret ?_)
 cases hr
 exact e_ret [vS x5.1,vI x5.2] H K (fun _=>resT (by kernel_rfl) (resT (by kernel_rfl) resN)) (fun _=>by kernel_rfl)
def F48 (a0:ByteArray):Option Node :=
 some (Node.mk 2 a0 (bs []) 0 0 0 false ([]:List Node) 0)
theorem F48_R (a0:ByteArray) (r:Node) (hr:F48 a0 = some r) {st:St}:R Tryz.prog AN 48 [vS a0] st (.ret (aN r)) st:=by
 unfold F48 at hr
 refine R_pureX [vS a0] [(0,vS a0)] Tryz.func48 rfl (by kernel_rfl) rfl fun fr st H K=>sr ?_
 refine qal 24 zL H K fun id1 st K fr H=>qe (sr (qg 2 [(4,.agg [vI 2,vS a0,vS (bs []),vI 0,vI 0,vI 0,vB false,vL tNode ([]:List Node) .nil,vI 0])] H fun _ H=>?_))
 refine qst 24 0 (.agg [vI 2,vS a0,vS (bs []),vI 0,vI 0,vI 0,vB false,vL tNode ([]:List Node) .nil,vI 0]) [vI 2,vS a0,vS (bs []),vI 0,vI 0,vI 0,vB false,vL tNode ([]:List Node) .nil,vI 0] 0 H K rfl fun st K fr H=>qe (W_ret ?_)
 cases hr
 exact e_ret [.agg [vI 2,vS a0,vS (bs []),vI 0,vI 0,vI 0,vB false,vL tNode ([]:List Node) .shut,vI 0]] H K (fun _=>resC id1 0 24 [vI 2,vS a0,vS (bs []),vI 0,vI 0,vI 0,vB false,vL tNode ([]:List Node) .nil,vI 0] 0 (by kernel_rfl) rfl (by kernel_rfl) resN) (fun _=>by simp only [strip,stripL,stripL_ET,Option.bind_some,Option.map_some,oneOf] <;> rfl)
def F47 (a0:ByteArray) (a1:Node) (a2:Node):Option Node :=
 some (Node.mk 5 a0 (bs []) 0 0 0 false ([a1,a2]:List Node) 0)
theorem F47_R (a0:ByteArray) (a1:Node) (a2:Node) (r:Node) (hr:F47 a0 a1 a2 = some r) {st:St} {p0 p1:Spare}:R Tryz.prog AN 47 [vS a0,.agg (cNode p0 a1),.agg (cNode p1 a2)] st (.ret (aN r)) st:=by
 unfold F47 at hr
 refine R_pureX [vS a0,aN a1,aN a2] [(0,vS a0),(1,aN a1),(2,aN a2)] Tryz.func47 rfl (by simp only [strip,stripL,stripL_cNode,Option.bind_some,Option.map_some]) rfl fun fr st H K=>sr (qg 2 [(4,cN a1 0),(5,cN a2 0)] H fun _ H=>?_)
 refine qal 24 zL H K fun id1 st K fr H=>qe (sr (qg 3 [(7,vS a0),(8,aN a1),(9,aN a2)] H fun _ H=>?_))
 refine qv (.buildSlice 22 2 [(0,aN a1),(1,aN a2)]) H (run_bslice (v:=vL tNode ([a1,a2]:List Node) .full) (v0:=.slice [aN a1,aN a2] .full) (by kernel_rfl) (by simp only [List.map,vL,tNode_e,eNode_eq,cNode] <;> rfl)) fun _ H=>qg 1 [(11,.agg [vI 5,vS a0,vS (bs []),vI 0,vI 0,vI 0,vB false,vL tNode ([a1,a2]:List Node) .shut,vI 0])] H fun _ H=>?_
 refine qst 24 0 (.agg [vI 5,vS a0,vS (bs []),vI 0,vI 0,vI 0,vB false,vL tNode ([a1,a2]:List Node) .shut,vI 0]) [vI 5,vS a0,vS (bs []),vI 0,vI 0,vI 0,vB false,vL tNode ([a1,a2]:List Node) .shut,vI 0] 0 H K rfl fun st K fr H=>qe (W_ret ?_)
 cases hr
 exact e_ret [.agg [vI 5,vS a0,vS (bs []),vI 0,vI 0,vI 0,vB false,vL tNode ([a1,a2]:List Node) .shut,vI 0]] H K (fun _=>resC id1 0 24 [vI 5,vS a0,vS (bs []),vI 0,vI 0,vI 0,vB false,vL tNode ([a1,a2]:List Node) .shut,vI 0] 0 (by kernel_rfl) rfl (by kernel_rfl) resN) (fun _=>by simp only [strip,stripL,stripL_ET,Option.bind_some,Option.map_some,oneOf] <;> rfl)
def F184 (a0:ByteArray) (_:Bool) (a2:List UInt8) (a3:Int):Option (Int × Bool × (List UInt8) × Int) :=
 (wrS a2 a0).bind fun x1 =>
 some ((a0.size:Int),true,x1,a3)
theorem F184_R (a0:ByteArray) (a1:Bool) (a2:List UInt8) (a3:Int) (r:Int × Bool × (List UInt8) × Int) (hr:F184 a0 a1 a2 a3 = some r) {st:St} {rs:List Res} {i0:Nat} {p0:Spare} (K:HL st (.ownB 5 p0 a2 :: .obj i0 (.cells 77 [addrA i0 a1,vL tY a2 p0,vI a3]) :: rs)):RG Tryz.prog AN 184 [.ptr i0 0,vS a0] st (.ret (.tuple [vI r.1,.sc .nilIface])) fun (q:Spare)=>(.ownB 5 q r.2.2.1 :: .obj i0 (.cells 77 [addrA i0 r.2.1,vL tY r.2.2.1 q,vI r.2.2.2]) :: rs):=by
 unfold F184 at hr
 refine R_heapX [(0,.ptr i0 0),(1,vS a0)] Tryz.func184 rfl rfl fun _ H=>sr (qg 2 [] H fun _ H=>qe (sr (qg 1 [(6,.ptr i0 0)] H fun _ H=>?_)))
 refine qi [] [] (copyCheck_R (K.front 1 rfl)) K H fun _ st K fr H=>qe (sr (qg 4 [(8,.ptr i0 0),(11,.ptr i0 1)] H fun _ H=>?_))
 refine qld 55 1 (vL tY a2 p0) 0 H K rfl fun _ H=>qg 1 [(13,vS a0)] H fun _ H=>?_
 obtain ⟨x1,hx1,hr⟩:=obind hr
 refine qappS hx1 (t:=55) (t2:=9) 1 H K rfl (by kernel_rfl) (by kernel_rfl) (by kernel_rfl) (fun _=>by kernel_rfl) fun sp2 st K fr H=>qg 2 [(16,.ptr i0 1)] H fun _ H=>?_
 refine qst 55 1 (vL tY x1 sp2) [addrA i0 true,vL tY x1 sp2,vI a3] 0 H K rfl fun st K fr H=>qe (sr (qg 4 [(4,vI (a0.size:Int)),(5,.sc .nilIface)] H fun _ H=>qe (W_ret ?_)))
 cases hr
 exact e_retH [vI (a0.size:Int),.sc .nilIface] H K (fun _=>resT (by kernel_rfl) (resT (by kernel_rfl) resN)) rfl sp2 (((K.keep [true,true]).front 0 rfl).front 1 rfl)
def F127 (n:Nat) (a0:List ByteArray) (a1:Bool) (a2:List UInt8) (a3:Int):Option (Bool × (List UInt8) × Int) :=
 (repeatF (bs [32,32]) a3).bind fun x1 =>
 (F184 x1 a1 a2 a3).bind fun x2 =>
 (F85 n a0).bind fun x4 =>
 (F184 x4 x2.2.1 x2.2.2.1 x2.2.2.2).bind fun x5 =>
 (F184 (bs [10]) x5.2.1 x5.2.2.1 x5.2.2.2).bind fun x7 =>
 some (x7.2.1,x7.2.2.1,x7.2.2.2)
theorem F127_R (n:Nat) (a0:List ByteArray) (a1:Bool) (a2:List UInt8) (a3:Int) (r:Bool × (List UInt8) × Int) (hr:F127 n a0 a1 a2 a3 = some r) {st:St} {rs:List Res} {i0:Nat} {p0 p1:Spare} (K:HL st (.own p0 :: .ownB 5 p1 a2 :: .obj i0 (.cells 77 [addrA i0 a1,vL tY a2 p1,vI a3]) :: rs)):RG Tryz.prog AN 127 [.ptr i0 0,vL tS a0 p0] st (.ret (.tuple [])) fun (q:Spare)=>(.ownB 5 q r.2.1 :: .obj i0 (.cells 77 [addrA i0 r.1,vL tY r.2.1 q,vI r.2.2]) :: rs):=by
 unfold F127 at hr
 refine R_heapX [(0,.ptr i0 0),(1,vL tS a0 p0)] Tryz.func127 rfl rfl fun _ H=>W_seq (W_drw (qg 6 [(6,.ptr i0 0),(9,.ptr i0 2)] H fun _ H=>?_))
 refine qld 3 2 (vI a3) 2 H K rfl fun _ H=>?_
 refine qb hr (fun x h s=>repeat_R _ _ x h) H fun x1 hr fr H=>?_
 refine qib [] [] hr (fun x h=>F184_R  _ _ _ _ x h (i0:=i0) (p0:=p1) ((K.front 2 rfl).front 2 rfl)) K H fun x2 hr sp3 st K fr H=>qe (qd (W_seq (W_drw (qg 4 [(15,.ptr i0 0),(16,vL tS a0 p0)] H fun _ H=>?_))))
 refine qb hr (fun x h s=>F85_R n _ x h (p0:=p0)) H fun x4 hr fr H=>?_
 refine qib [] [] hr (fun x h=>F184_R  _ _ _ _ x h (i0:=i0) (p0:=sp3) ((K.front 1 rfl).front 1 rfl)) K H fun x5 hr sp6 st K fr H=>qe (qd (W_reg (qg 3 [(21,.ptr i0 0)] H fun _ H=>?_)))
 refine qib [] [] hr (fun x h=>F184_R  _ _ _ _ x h (i0:=i0) (p0:=sp6) ((K.front 1 rfl).front 1 rfl)) K H fun x7 hr sp8 st K fr H=>qe ?_
 cases hr
 exact e_normalH [] H K (fun _=>resN) rfl sp8 (K.keep [true,true,false])
def F125 (n:Nat) (a0:Node):Option ByteArray :=
 (itoaF a0.n).bind fun x1 =>
 (F85 n ([a0.name,(bs [58]),x1]:List ByteArray)).bind fun x2 =>
 some x2
theorem F125_R (n:Nat) (a0:Node) (r:ByteArray) (hr:F125 n a0 = some r) {st:St} {p0:Spare}:R Tryz.prog AN 125 [.agg (cNode p0 a0)] st (.ret (vS r)) st:=by
 unfold F125 at hr
 refine R_pureX [aN a0] [(0,aN a0)] Tryz.func125 rfl (by simp only [strip,stripL,stripL_cNode,Option.bind_some,Option.map_some]) rfl fun fr st H K=>sr (qg 2 [(1,cN a0 0)] H fun _ H=>qe (W_seq (W_drw (qg 4 [(4,vS a0.name),(6,vI a0.n)] H fun _ H=>?_))))
 refine qb hr (fun x h s=>itoa_R _ x h) H fun x1 hr fr H=>?_
 refine qbs tS 30 ([a0.name,(bs [58]),x1]:List ByteArray) H fun _ H=>?_
 refine qb hr (fun x h s=>F85_R n _ x h (p0:=.full)) H fun x2 hr fr H=>qg 1 [(2,vS x2)] H fun _ H=>qe (qd (W_ret ?_))
 obtain rfl:=Option.some.inj hr
 exact qr [vS x2] H K
def F124 (n:Nat) (a0:List Node):Option ByteArray :=
 (iter (σ:=(List ByteArray) × Int) (ρ:=((List ByteArray))) (fun s1=>bif decide (s1.2 < (a0.length:Int)) then
   ((idxL a0 s1.2).bind fun x3 =>
   (F125 n x3).bind fun x5 =>
   (appL 16 s1.1 ([x5]:List ByteArray)).bind fun x6 =>
   some (.inl (x6,w64 (s1.2 + 1))))
  else
   (some (.inr s1.1))) n (([]:List ByteArray),(0:Int))).bind fun r8 =>
 (joinF r8 (bs [44,32])).bind fun x9 =>
 some x9
theorem F124_R (n:Nat) (a0:List Node) (r:ByteArray) (hr:F124 n a0 = some r) {st:St} {p0:Spare}:R Tryz.prog AN 124 [vL tNode a0 p0,.fn 125 [] []] st (.ret (vS r)) st:=by
 unfold F124 at hr
 refine R_pureX [vL tNode a0 .shut,.fn 125 [] []] [(0,vL tNode a0 .shut),(1,.fn 125 [] [])] Tryz.func124 rfl (by simp only [strip,stripL,stripL_ET,Option.bind_some,Option.map_some]) rfl fun fr st H K=>sr (qg 1 [] H fun _ H=>qe (sr (qg 1 [(5,vL tS ([]:List ByteArray) .nil)] H fun _ H=>qe (W_seq (W_seq (W_reg (qg 1 [(8,vL tNode a0 .shut)] H fun _ H=>?_)))))))
 refine qln tNode 22 a0 .shut H fun _ H=>qg 1 [(10,vI 0)] H fun _ H=>qe (W_block ?_)
 obtain ⟨r8,hr8,hr⟩:=obind hr
 refine W_iter hr8 (fun (s1:(List ByteArray) × Int) fr st=>∃ (s1sp0:Spare),Rd fr [(1,.fn 125 [] []),(5,vL tS s1.1 s1sp0),(8,vL tNode a0 .shut),(9,vI (a0.length:Int)),(10,vI s1.2)]∧HL st [.own s1sp0]) (fun (r8:((List ByteArray))) e fr st=>e = .exit 0∧∃ (r8sp0:Spare),Rd fr [(5,vL tS r8 r8sp0)]∧HL st [.own r8sp0]) ⟨.nil,H.tq,((K.keep []).nilo)⟩ ?_ ?_
 ·intro s1 fr st r hi hr
  obtain ⟨s1sp0,H,K⟩:=hi
  refine sr (qg 1 [(11,vB (decide (s1.2 < (a0.length:Int))))] H fun _ H=>qe (W_seq ?_))
  rcases csplit hr with ⟨c2,hr⟩|⟨c2,hr⟩
  rotate_left
  ·refine qF H c2 ?_
   refine W_exit ?_
   cases hr
   exact ⟨by simp,⟨rfl,s1sp0,H.tq,K.keep [true]⟩⟩
  refine qT H c2 (W_skip (W_seq (W_block (sr ?_))))
  refine qix tNode 22 .shut hr H fun x3 hr hx3 fr H=>qg 1 [(13,aN x3)] H fun _ H=>?_
  refine qal 24 zL H K fun id4 st K fr H=>?_
  refine qst 24 0 (aN x3) [vI x3.kind,vS x3.name,vS x3.other,vI x3.n,vI x3.len,vI x3.init,vB x3.ghost,vL tNode x3.kids .shut,vI x3.pos] 0 H K rfl fun st K fr H=>qe (W_reg (qg 2 [(14,vL tS s1.1 s1sp0),(15,.fn 125 [] [])] H fun _ H=>?_))
  refine qld 24 0 (aN x3) 0 H K rfl fun _ H=>?_
  refine qb hr (fun x h s=>F125_R n _ x h (p0:=.shut)) H fun x5 hr fr H=>?_
  refine qbs tS 30 ([x5]:List ByteArray) H fun _ H=>?_
  refine qapp tS 16 30 30 .full hr 1 H K rfl fun x6 hr sp7 st K fr H=>qg 1 [(5,vL tS x6 sp7)] H fun _ H=>qe (W_reg (qg 2 [(10,vI (w64 (s1.2 + 1)))] H fun _ H=>qe ?_))
  cases hr
  exact ⟨rfl,⟨sp7,H.tq,K.keep [false,true]⟩⟩
 rintro e fr st ⟨rfl,r8sp0,H,K⟩
 refine sr (qg 1 [(21,vL tS r8 r8sp0)] H fun _ H=>?_)
 refine qb hr (fun x h s=>join_R _ _ x h (sp:=r8sp0)) H fun x9 hr fr H=>qg 1 [(4,vS x9)] H fun _ H=>qe (W_ret ?_)
 obtain rfl:=Option.some.inj hr
 exact qr [vS x9] H K
def F126 (n:Nat) (a0:Bool) (a1:List ByteArray):Option ByteArray :=
 bif !a0 then
  (some (bs []))
 else
  ((F85 n a1).bind fun x2 =>
  some x2)
theorem F126_R (n:Nat) (a0:Bool) (a1:List ByteArray) (r:ByteArray) (hr:F126 n a0 a1 = some r) {st:St} {p0:Spare}:R Tryz.prog AN 126 [vB a0,vL tS a1 p0] st (.ret (vS r)) st:=by
 unfold F126 at hr
 refine R_pureX [vB a0,vL tS a1 .shut] [(0,vB a0),(1,vL tS a1 .shut)] Tryz.func126 rfl (by simp only [strip,stripL,stripL_ET,Option.bind_some,Option.map_some]) rfl fun fr st H K=>sr (qg 1 [] H fun _ H=>qe (W_seq (W_seq (W_reg (qg 2 [(6,vB !a0)] H fun _ H=>qe ?_)))))
 rcases csplit hr with ⟨c1,hr⟩|⟨c1,hr⟩
 ·refine qT H c1 (sr (qg 1 [(4,vS (bs []))] H fun _ H=>qe (W_ret ?_)))
  cases hr
  exact qr [vS (bs [])] H K
 refine qF H c1 (W_skip (sr (qg 1 [(7,vL tS a1 .shut)] H fun _ H=>?_)))
 refine qb hr (fun x h s=>F85_R n _ x h (p0:=.shut)) H fun x2 hr fr H=>qg 1 [(4,vS x2)] H fun _ H=>qe (W_ret ?_)
 obtain rfl:=Option.some.inj hr
 exact qr [vS x2] H K
def F124_1 (n:Nat) (a0:List Node):Option ByteArray :=
 (iter (σ:=(List ByteArray) × Int) (ρ:=((List ByteArray))) (fun s1=>bif decide (s1.2 < (a0.length:Int)) then
   ((idxL a0 s1.2).bind fun x3 =>
   (F54 n x3).bind fun x5 =>
   (appL 16 s1.1 ([x5]:List ByteArray)).bind fun x6 =>
   some (.inl (x6,w64 (s1.2 + 1))))
  else
   (some (.inr s1.1))) n (([]:List ByteArray),(0:Int))).bind fun r8 =>
 (joinF r8 (bs [44,32])).bind fun x9 =>
 some x9
theorem F124_1_R (n:Nat) (a0:List Node) (r:ByteArray) (hr:F124_1 n a0 = some r) {st:St} {p0:Spare}:R Tryz.prog AN 124 [vL tNode a0 p0,.fn 54 [] []] st (.ret (vS r)) st:=by
 unfold F124_1 at hr
 refine R_pureX [vL tNode a0 .shut,.fn 54 [] []] [(0,vL tNode a0 .shut),(1,.fn 54 [] [])] Tryz.func124 rfl (by simp only [strip,stripL,stripL_ET,Option.bind_some,Option.map_some]) rfl fun fr st H K=>sr (qg 1 [] H fun _ H=>qe (sr (qg 1 [(5,vL tS ([]:List ByteArray) .nil)] H fun _ H=>qe (W_seq (W_seq (W_reg (qg 1 [(8,vL tNode a0 .shut)] H fun _ H=>?_)))))))
 refine qln tNode 22 a0 .shut H fun _ H=>qg 1 [(10,vI 0)] H fun _ H=>qe (W_block ?_)
 obtain ⟨r8,hr8,hr⟩:=obind hr
 refine W_iter hr8 (fun (s1:(List ByteArray) × Int) fr st=>∃ (s1sp0:Spare),Rd fr [(1,.fn 54 [] []),(5,vL tS s1.1 s1sp0),(8,vL tNode a0 .shut),(9,vI (a0.length:Int)),(10,vI s1.2)]∧HL st [.own s1sp0]) (fun (r8:((List ByteArray))) e fr st=>e = .exit 0∧∃ (r8sp0:Spare),Rd fr [(5,vL tS r8 r8sp0)]∧HL st [.own r8sp0]) ⟨.nil,H.tq,((K.keep []).nilo)⟩ ?_ ?_
 ·intro s1 fr st r hi hr
  obtain ⟨s1sp0,H,K⟩:=hi
  refine sr (qg 1 [(11,vB (decide (s1.2 < (a0.length:Int))))] H fun _ H=>qe (W_seq ?_))
  rcases csplit hr with ⟨c2,hr⟩|⟨c2,hr⟩
  rotate_left
  ·refine qF H c2 ?_
   refine W_exit ?_
   cases hr
   exact ⟨by simp,⟨rfl,s1sp0,H.tq,K.keep [true]⟩⟩
  refine qT H c2 (W_skip (W_seq (W_block (sr ?_))))
  refine qix tNode 22 .shut hr H fun x3 hr hx3 fr H=>qg 1 [(13,aN x3)] H fun _ H=>?_
  refine qal 24 zL H K fun id4 st K fr H=>?_
  refine qst 24 0 (aN x3) [vI x3.kind,vS x3.name,vS x3.other,vI x3.n,vI x3.len,vI x3.init,vB x3.ghost,vL tNode x3.kids .shut,vI x3.pos] 0 H K rfl fun st K fr H=>qe (W_reg (qg 2 [(14,vL tS s1.1 s1sp0),(15,.fn 54 [] [])] H fun _ H=>?_))
  refine qld 24 0 (aN x3) 0 H K rfl fun _ H=>?_
  refine qb hr (fun x h s=>F54_R n _ x h (p0:=.shut)) H fun x5 hr fr H=>?_
  refine qbs tS 30 ([x5]:List ByteArray) H fun _ H=>?_
  refine qapp tS 16 30 30 .full hr 1 H K rfl fun x6 hr sp7 st K fr H=>qg 1 [(5,vL tS x6 sp7)] H fun _ H=>qe (W_reg (qg 2 [(10,vI (w64 (s1.2 + 1)))] H fun _ H=>qe ?_))
  cases hr
  exact ⟨rfl,⟨sp7,H.tq,K.keep [false,true]⟩⟩
 rintro e fr st ⟨rfl,r8sp0,H,K⟩
 refine sr (qg 1 [(21,vL tS r8 r8sp0)] H fun _ H=>?_)
 refine qb hr (fun x h s=>join_R _ _ x h (sp:=r8sp0)) H fun x9 hr fr H=>qg 1 [(4,vS x9)] H fun _ H=>qe (W_ret ?_)
 obtain rfl:=Option.some.inj hr
 exact qr [vS x9] H K
def F186 (n:Nat) (a0:Node):Option ByteArray :=
 (bif a0.len != 0 then
   ((itoaF a0.len).bind fun x2 =>
   (F82 ([a0.name,(bs [91]),x2,(bs [93])]:List ByteArray)).bind fun x3 =>
   some x3)
  else
   (some a0.name):Option (ByteArray)).bind fun j4 =>
 (bif strEq a0.other (bs []) then
   ((itoaF a0.n).bind fun x6 =>
   some x6)
  else
   (some a0.other):Option (ByteArray)).bind fun j7 =>
 (F126 n a0.ghost ([(bs [103,104,111,115,116])]:List ByteArray)).bind fun x8 =>
 (itoaF a0.init).bind fun x9 =>
 (F126 n (a0.init != 0) ([(bs [61]),x9]:List ByteArray)).bind fun x10 =>
 (F85 n ([x8,(bs [115,104,97,114,101,100]),j4,(bs [58]),j7,x10]:List ByteArray)).bind fun x11 =>
 some x11
theorem F186_R (n:Nat) (a0:Node) (r:ByteArray) (hr:F186 n a0 = some r) {st:St} {p0:Spare}:R Tryz.prog AN 186 [.agg (cNode p0 a0)] st (.ret (vS r)) st:=by
 unfold F186 at hr
 refine R_pureX [aN a0] [(0,aN a0)] Tryz.func186 rfl (by simp only [strip,stripL,stripL_cNode,Option.bind_some,Option.map_some]) rfl fun fr st H K=>sr (qg 2 [(1,cN a0 0)] H fun _ H=>qe (sr (qg 3 [(3,vS a0.name)] H fun _ H=>qe (W_seq ?_))))
 obtain ⟨j4,hj4,hr⟩:=obind hr
 refine W_via (fun e fr st=>e = .normal∧Rd fr [(1,cN a0 0),(3,vS j4)]∧HL st []) ?_ ?_
 ·replace hr:=hj4
  refine sr (qg 3 [(9,vB (a0.len != 0))] H fun _ H=>qe ?_)
  rcases csplit hr with ⟨c1,hr⟩|⟨c1,hr⟩
  rotate_left
  ·refine qF H c1 (W_skip ?_)
   cases hr
   exact ⟨rfl,H.tq,K.keep []⟩
  refine qT H c1 (W_reg (qg 3 [(10,vS a0.name),(12,vI a0.len)] H fun _ H=>?_))
  refine qb hr (fun x h s=>itoa_R _ x h) H fun x2 hr fr H=>?_
  refine qbs tS 30 ([a0.name,(bs [91]),x2,(bs [93])]:List ByteArray) H fun _ H=>?_
  refine qb hr (fun x h s=>F82_R  _ x h (p0:=.full)) H fun x3 hr fr H=>qg 1 [(3,vS x3)] H fun _ H=>qe ?_
  cases hr
  exact ⟨rfl,H.tq,K.keep []⟩
 rintro e fr st ⟨rfl,H,K⟩
 refine sr (qg 3 [(4,vS a0.other)] H fun _ H=>qe (W_seq ?_))
 obtain ⟨j7,hj7,hr⟩:=obind hr
 refine W_via (fun e fr st=>e = .normal∧Rd fr [(1,cN a0 0),(3,vS j4),(4,vS j7)]∧HL st []) ?_ ?_
 ·replace hr:=hj7
  refine sr (qg 2 [(19,vB (strEq a0.other (bs [])))] H fun _ H=>qe ?_)
  rcases csplit hr with ⟨c5,hr⟩|⟨c5,hr⟩
  rotate_left
  ·refine qF H c5 (W_skip ?_)
   cases hr
   exact ⟨rfl,H.tq,K.keep []⟩
  refine qT H c5 (W_reg (qg 2 [(21,vI a0.n)] H fun _ H=>?_))
  refine qb hr (fun x h s=>itoa_R _ x h) H fun x6 hr fr H=>qg 1 [(4,vS x6)] H fun _ H=>qe ?_
  cases hr
  exact ⟨rfl,H.tq,K.keep []⟩
 rintro e fr st ⟨rfl,H,K⟩
 refine W_seq (W_drw (qg 2 [(24,vB a0.ghost)] H fun _ H=>?_))
 refine qbs tS 30 ([(bs [103,104,111,115,116])]:List ByteArray) H fun _ H=>?_
 refine qb hr (fun x h s=>F126_R n _ _ x h (p0:=.full)) H fun x8 hr fr H=>qg 7 [(27,vS j4),(28,vS j7),(31,vB (a0.init != 0)),(33,vI a0.init)] H fun _ H=>?_
 refine qb hr (fun x h s=>itoa_R _ x h) H fun x9 hr fr H=>?_
 refine qbs tS 30 ([(bs [61]),x9]:List ByteArray) H fun _ H=>?_
 refine qb hr (fun x h s=>F126_R n _ _ x h (p0:=.full)) H fun x10 hr fr H=>?_
 refine qbs tS 30 ([x8,(bs [115,104,97,114,101,100]),j4,(bs [58]),j7,x10]:List ByteArray) H fun _ H=>?_
 refine qb hr (fun x h s=>F85_R n _ x h (p0:=.full)) H fun x11 hr fr H=>qg 1 [(2,vS x11)] H fun _ H=>qe (qd (W_ret ?_))
 obtain rfl:=Option.some.inj hr
 exact qr [vS x11] H K
def F210 (n:Nat) (a0:List Node):Option ByteArray :=
 (iter (σ:=(List ByteArray) × Int) (ρ:=((List ByteArray))) (fun s1=>bif decide ((w64 (s1.2 + 1)) < (a0.length:Int)) then
   ((idxL a0 s1.2).bind fun x3 =>
   (F54 n x3).bind fun x4 =>
   (idxL a0 (w64 (s1.2 + 1))).bind fun x5 =>
   (F54 n x5).bind fun x6 =>
   (F85 n ([x4,(bs [58,61]),x6]:List ByteArray)).bind fun x7 =>
   (appL 16 s1.1 ([x7]:List ByteArray)).bind fun x8 =>
   some (.inl (x8,w64 (s1.2 + 2))))
  else
   (some (.inr s1.1))) n (([]:List ByteArray),(0:Int))).bind fun r10 =>
 (joinF r10 (bs [44,32])).bind fun x11 =>
 some x11
theorem F210_R (n:Nat) (a0:List Node) (r:ByteArray) (hr:F210 n a0 = some r) {st:St} {p0:Spare}:R Tryz.prog AN 210 [vL tNode a0 p0] st (.ret (vS r)) st:=by
 unfold F210 at hr
 refine R_pureX [vL tNode a0 .shut] [(0,vL tNode a0 .shut)] Tryz.func210 rfl (by simp only [strip,stripL,stripL_ET,Option.bind_some,Option.map_some]) rfl fun fr st H K=>sr (qg 1 [] H fun _ H=>qe (sr (qg 1 [(3,vL tS ([]:List ByteArray) .nil)] H fun _ H=>qe (W_seq (W_seq (W_reg (qg 1 [(4,vI 0)] H fun _ H=>qe (W_block ?_))))))))
 obtain ⟨r10,hr10,hr⟩:=obind hr
 refine W_iter hr10 (fun (s1:(List ByteArray) × Int) fr st=>∃ (s1sp0:Spare),Rd fr [(0,vL tNode a0 .shut),(3,vL tS s1.1 s1sp0),(4,vI s1.2)]∧HL st [.own s1sp0]) (fun (r10:((List ByteArray))) e fr st=>e = .exit 0∧∃ (r10sp0:Spare),Rd fr [(3,vL tS r10 r10sp0)]∧HL st [.own r10sp0]) ⟨.nil,H.tq,((K.keep []).nilo)⟩ ?_ ?_
 ·intro s1 fr st r hi hr
  obtain ⟨s1sp0,H,K⟩:=hi
  refine W_seq (W_seq (W_reg (qg 3 [(6,vI (w64 (s1.2 + 1))),(7,vL tNode a0 .shut)] H fun _ H=>?_)))
  refine qln tNode 22 a0 .shut H fun _ H=>qg 1 [(9,vB (decide ((w64 (s1.2 + 1)) < (a0.length:Int))))] H fun _ H=>qe ?_
  rcases csplit hr with ⟨c2,hr⟩|⟨c2,hr⟩
  rotate_left
  ·refine qF H c2 ?_
   refine W_exit ?_
   cases hr
   exact ⟨by simp,⟨rfl,s1sp0,H.tq,K.keep [true]⟩⟩
  refine qT H c2 (W_skip (W_seq (W_block ?_)))
  refine W_drw (qg 3 [(12,vL tS s1.1 s1sp0),(13,vL tNode a0 .shut),(14,vI s1.2)] H fun _ H=>?_)
  refine qix tNode 22 .shut hr H fun x3 hr hx3 fr H=>qg 1 [(16,aN x3)] H fun _ H=>?_
  refine qb hr (fun x h s=>F54_R n _ x h (p0:=.shut)) H fun x4 hr fr H=>qg 3 [(18,vL tNode a0 .shut),(20,vI (w64 (s1.2 + 1)))] H fun _ H=>?_
  refine qix tNode 22 .shut hr H fun x5 hr hx5 fr H=>qg 1 [(22,aN x5)] H fun _ H=>?_
  refine qb hr (fun x h s=>F54_R n _ x h (p0:=.shut)) H fun x6 hr fr H=>?_
  refine qbs tS 30 ([x4,(bs [58,61]),x6]:List ByteArray) H fun _ H=>?_
  refine qb hr (fun x h s=>F85_R n _ x h (p0:=.full)) H fun x7 hr fr H=>?_
  refine qbs tS 30 ([x7]:List ByteArray) H fun _ H=>?_
  refine qapp tS 16 30 30 .full hr 0 H K rfl fun x8 hr sp9 st K fr H=>qg 1 [(3,vL tS x8 sp9)] H fun _ H=>qe (qdI K [0,0,0,0,0,0,0,0,0,0,0,0,0,0,0,.keep [],0] (W_reg (qg 3 [(4,vI (w64 (s1.2 + 2)))] H fun _ H=>qe ?_)))
  cases hr
  exact ⟨rfl,⟨sp9,H.tq,K.keep [true]⟩⟩
 rintro e fr st ⟨rfl,r10sp0,H,K⟩
 refine sr (qg 1 [(28,vL tS r10 r10sp0)] H fun _ H=>?_)
 refine qb hr (fun x h s=>join_R _ _ x h (sp:=r10sp0)) H fun x11 hr fr H=>qg 1 [(2,vS x11)] H fun _ H=>qe (W_ret ?_)
 obtain rfl:=Option.some.inj hr
 exact qr [vS x11] H K
def F187 (n:Nat) (a0:Node):Option ByteArray :=
 bif a0.kind == 20 then
  ((idxL a0.kids 0).bind fun x2 =>
  (F54 n x2).bind fun x3 =>
  (F85 n ([(bs [97,115,115,101,114,116]),x3]:List ByteArray)).bind fun x4 =>
  some x4)
 else
  (bif a0.kind == 29 then
   ((idxL a0.kids 0).bind fun x6 =>
   (F54 n x6).bind fun x7 =>
   (F85 n ([(bs [97,119,97,105,116]),x7]:List ByteArray)).bind fun x8 =>
   some x8)
  else
   (bif a0.kind == 26 then
    (some (bs [102,101,110,99,101]))
   else
    (bif a0.kind == 30 then
     (some (bs [115,107,105,112]))
    else
     (bif a0.kind == 21 then
      ((F126 n (a0.n == 1) ([(bs [114,101,108,101,97,115,101])]:List ByteArray)).bind fun x12 =>
      (subL a0.kids 0 2).bind fun x13 =>
      (F210 n x13).bind fun x14 =>
      (subL a0.kids 2 (a0.kids.length:Int)).bind fun x15 =>
      (F210 n x15).bind fun x16 =>
      (F126 n (decide (2 < (a0.kids.length:Int))) ([(bs [119,105,116,104]),x16]:List ByteArray)).bind fun x17 =>
      (F85 n ([x12,x14,x17]:List ByteArray)).bind fun x18 =>
      some x18)
     else
      (bif a0.kind == 22 then
       ((subL a0.kids 1 (a0.kids.length:Int)).bind fun x20 =>
       (F210 n x20).bind fun x21 =>
       (idxL a0.kids 0).bind fun x22 =>
       (idxL a0.kids 0).bind fun x23 =>
       (F54 n x23).bind fun x24 =>
       (F126 n (x22.kind != 63) ([(bs [119,104,101,110]),x24]:List ByteArray)).bind fun x25 =>
       (F85 n ([(bs [97,116,111,109,105,99]),(bs [123]),x21,(bs [125]),x25]:List ByteArray)).bind fun x26 =>
       some x26)
      else
       (bif a0.kind == 23 then
        ((subL a0.kids 0 3).bind fun x28 =>
        (F124_1 n x28).bind fun x29 =>
        (idxL a0.kids 3).bind fun x30 =>
        (F54 n x30).bind fun x31 =>
        (subL a0.kids 4 (a0.kids.length:Int)).bind fun x32 =>
        (F210 n x32).bind fun x33 =>
        (F126 n (decide (4 < (a0.kids.length:Int))) ([(bs [119,105,116,104]),x33]:List ByteArray)).bind fun x34 =>
        (F85 n ([(bs [99,97,115]),x29,(bs [105,110,116,111]),x31,x34]:List ByteArray)).bind fun x35 =>
        some x35)
       else
        (bif a0.kind == 24 then
         ((F85 n ([(bs [97,99,113,117,105,114,101]),a0.name]:List ByteArray)).bind fun x37 =>
         some x37)
        else
         (bif a0.kind == 25 then
          ((F85 n ([(bs [102,114,101,101]),a0.name]:List ByteArray)).bind fun x39 =>
          some x39)
         else
          (bif a0.kind == 27 then
           ((F85 n ([(bs [115,112,97,119,110]),a0.name]:List ByteArray)).bind fun x41 =>
           some x41)
          else
           (bif a0.kind == 28 then
            ((F85 n ([(bs [106,111,105,110]),a0.name]:List ByteArray)).bind fun x43 =>
            some x43)
           else
            (bif a0.kind == 33 then
             ((F124_1 n a0.kids).bind fun x45 =>
             (F82 ([a0.name,(bs [40]),x45,(bs [41])]:List ByteArray)).bind fun x46 =>
             (F85 n ([(bs [99,97,108,108]),x46]:List ByteArray)).bind fun x47 =>
             some x47)
            else
             (some (bs [])))))))))))))
theorem F187_R (n:Nat) (a0:Node) (r:ByteArray) (hr:F187 n a0 = some r) {st:St} {p0:Spare}:R Tryz.prog AN 187 [.agg (cNode p0 a0)] st (.ret (vS r)) st:=by
 unfold F187 at hr
 refine R_pureX [aN a0] [(0,aN a0)] Tryz.func187 rfl (by simp only [strip,stripL,stripL_cNode,Option.bind_some,Option.map_some]) rfl fun fr st H K=>sr (qg 2 [(1,cN a0 0)] H fun _ H=>qe (sr (qg 3 [(3,vL tNode a0.kids .shut)] H fun _ H=>qe (W_seq (W_seq (W_reg (qg 2 [(7,vI a0.kind)] H fun _ H=>qe (W_block (sr (qg 2 [(8,vB (a0.kind == 20))] H fun _ H=>qe ?_))))))))))
 rcases csplit hr with ⟨c1,hr⟩|⟨c1,hr⟩
 ·refine qT H c1 (sr (qg 1 [(10,vL tNode a0.kids .shut)] H fun _ H=>?_))
  refine qix tNode 22 .shut hr H fun x2 hr hx2 fr H=>qg 1 [(12,aN x2)] H fun _ H=>?_
  refine qb hr (fun x h s=>F54_R n _ x h (p0:=.shut)) H fun x3 hr fr H=>?_
  refine qbs tS 30 ([(bs [97,115,115,101,114,116]),x3]:List ByteArray) H fun _ H=>?_
  refine qb hr (fun x h s=>F85_R n _ x h (p0:=.full)) H fun x4 hr fr H=>qg 1 [(2,vS x4)] H fun _ H=>qe (W_ret ?_)
  obtain rfl:=Option.some.inj hr
  exact qr [vS x4] H K
 refine qF H c1 (sr (qg 2 [(16,vB (a0.kind == 29))] H fun _ H=>qe ?_))
 rcases csplit hr with ⟨c5,hr⟩|⟨c5,hr⟩
 ·refine qT H c5 (sr (qg 1 [(18,vL tNode a0.kids .shut)] H fun _ H=>?_))
  refine qix tNode 22 .shut hr H fun x6 hr hx6 fr H=>qg 1 [(20,aN x6)] H fun _ H=>?_
  refine qb hr (fun x h s=>F54_R n _ x h (p0:=.shut)) H fun x7 hr fr H=>?_
  refine qbs tS 30 ([(bs [97,119,97,105,116]),x7]:List ByteArray) H fun _ H=>?_
  refine qb hr (fun x h s=>F85_R n _ x h (p0:=.full)) H fun x8 hr fr H=>qg 1 [(2,vS x8)] H fun _ H=>qe (W_ret ?_)
  obtain rfl:=Option.some.inj hr
  exact qr [vS x8] H K
 refine qF H c5 (sr (qg 2 [(24,vB (a0.kind == 26))] H fun _ H=>qe ?_))
 rcases csplit hr with ⟨c9,hr⟩|⟨c9,hr⟩
 ·refine qT H c9 (sr (qg 1 [(2,vS (bs [102,101,110,99,101]))] H fun _ H=>qe (W_ret ?_)))
  cases hr
  exact qr [vS (bs [102,101,110,99,101])] H K
 refine qF H c9 (sr (qg 2 [(26,vB (a0.kind == 30))] H fun _ H=>qe ?_))
 rcases csplit hr with ⟨c10,hr⟩|⟨c10,hr⟩
 ·refine qT H c10 (sr (qg 1 [(2,vS (bs [115,107,105,112]))] H fun _ H=>qe (W_ret ?_)))
  cases hr
  exact qr [vS (bs [115,107,105,112])] H K
 refine qF H c10 (sr (qg 2 [(28,vB (a0.kind == 21))] H fun _ H=>qe ?_))
 rcases csplit hr with ⟨c11,hr⟩|⟨c11,hr⟩
 ·refine qT H c11 (W_seq (W_drw (qg 3 [(32,vB (a0.n == 1))] H fun _ H=>?_)))
  refine qbs tS 30 ([(bs [114,101,108,101,97,115,101])]:List ByteArray) H fun _ H=>?_
  refine qb hr (fun x h s=>F126_R n _ _ x h (p0:=.full)) H fun x12 hr fr H=>qg 1 [(35,vL tNode a0.kids .shut)] H fun _ H=>?_
  obtain ⟨x13,hx13,hr⟩:=obind hr
  refine qv (.slice 22 (vL tNode a0.kids .shut) none (some (vI 2))) H (run_subL_hi tNode (by kernel_rfl) hx13) fun _ H=>?_
  refine qb hr (fun x h s=>F210_R n _ x h (p0:=.shut)) H fun x14 hr fr H=>qg 1 [(38,vL tNode a0.kids .shut)] H fun _ H=>?_
  refine qln tNode 22 a0.kids .shut H fun _ H=>qg 2 [(40,vB (decide (2 < (a0.kids.length:Int)))),(41,vL tNode a0.kids .shut)] H fun _ H=>?_
  obtain ⟨x15,hx15,hr⟩:=obind hr
  refine qv (.slice 22 (vL tNode a0.kids .shut) (some (vI 2)) none) H (run_subL_lo tNode (by kernel_rfl) hx15) fun _ H=>?_
  refine qb hr (fun x h s=>F210_R n _ x h (p0:=.shut)) H fun x16 hr fr H=>?_
  refine qbs tS 30 ([(bs [119,105,116,104]),x16]:List ByteArray) H fun _ H=>?_
  refine qb hr (fun x h s=>F126_R n _ _ x h (p0:=.full)) H fun x17 hr fr H=>?_
  refine qbs tS 30 ([x12,x14,x17]:List ByteArray) H fun _ H=>?_
  refine qb hr (fun x h s=>F85_R n _ x h (p0:=.full)) H fun x18 hr fr H=>qg 1 [(2,vS x18)] H fun _ H=>qe (qd (W_ret ?_))
  obtain rfl:=Option.some.inj hr
  exact qr [vS x18] H K
 refine qF H c11 (sr (qg 2 [(48,vB (a0.kind == 22))] H fun _ H=>qe ?_))
 rcases csplit hr with ⟨c19,hr⟩|⟨c19,hr⟩
 ·refine qT H c19 (W_seq (W_drw (qg 1 [(50,vL tNode a0.kids .shut)] H fun _ H=>?_)))
  obtain ⟨x20,hx20,hr⟩:=obind hr
  refine qv (.slice 22 (vL tNode a0.kids .shut) (some (vI 1)) none) H (run_subL_lo tNode (by kernel_rfl) hx20) fun _ H=>?_
  refine qb hr (fun x h s=>F210_R n _ x h (p0:=.shut)) H fun x21 hr fr H=>qg 1 [(53,vL tNode a0.kids .shut)] H fun _ H=>?_
  refine qix tNode 22 .shut hr H fun x22 hr hx22 fr H=>qg 4 [(57,vB (x22.kind != 63)),(58,vL tNode a0.kids .shut)] H fun _ H=>?_
  refine qix tNode 22 .shut hr H fun x23 hr hx23 fr H=>qg 1 [(60,aN x23)] H fun _ H=>?_
  refine qb hr (fun x h s=>F54_R n _ x h (p0:=.shut)) H fun x24 hr fr H=>?_
  refine qbs tS 30 ([(bs [119,104,101,110]),x24]:List ByteArray) H fun _ H=>?_
  refine qb hr (fun x h s=>F126_R n _ _ x h (p0:=.full)) H fun x25 hr fr H=>?_
  refine qbs tS 30 ([(bs [97,116,111,109,105,99]),(bs [123]),x21,(bs [125]),x25]:List ByteArray) H fun _ H=>?_
  refine qb hr (fun x h s=>F85_R n _ x h (p0:=.full)) H fun x26 hr fr H=>qg 1 [(2,vS x26)] H fun _ H=>qe (qd (W_ret ?_))
  obtain rfl:=Option.some.inj hr
  exact qr [vS x26] H K
 refine qF H c19 (sr (qg 2 [(66,vB (a0.kind == 23))] H fun _ H=>qe ?_))
 rcases csplit hr with ⟨c27,hr⟩|⟨c27,hr⟩
 ·refine qT H c27 (W_seq (W_drw (qg 1 [(68,vL tNode a0.kids .shut)] H fun _ H=>?_)))
  obtain ⟨x28,hx28,hr⟩:=obind hr
  refine qv (.slice 22 (vL tNode a0.kids .shut) none (some (vI 3))) H (run_subL_hi tNode (by kernel_rfl) hx28) fun _ H=>?_
  refine qb hr (fun x h s=>F124_1_R n _ x h (p0:=.shut)) H fun x29 hr fr H=>qg 1 [(71,vL tNode a0.kids .shut)] H fun _ H=>?_
  refine qix tNode 22 .shut hr H fun x30 hr hx30 fr H=>qg 1 [(73,aN x30)] H fun _ H=>?_
  refine qb hr (fun x h s=>F54_R n _ x h (p0:=.shut)) H fun x31 hr fr H=>qg 1 [(75,vL tNode a0.kids .shut)] H fun _ H=>?_
  refine qln tNode 22 a0.kids .shut H fun _ H=>qg 2 [(77,vB (decide (4 < (a0.kids.length:Int)))),(78,vL tNode a0.kids .shut)] H fun _ H=>?_
  obtain ⟨x32,hx32,hr⟩:=obind hr
  refine qv (.slice 22 (vL tNode a0.kids .shut) (some (vI 4)) none) H (run_subL_lo tNode (by kernel_rfl) hx32) fun _ H=>?_
  refine qb hr (fun x h s=>F210_R n _ x h (p0:=.shut)) H fun x33 hr fr H=>?_
  refine qbs tS 30 ([(bs [119,105,116,104]),x33]:List ByteArray) H fun _ H=>?_
  refine qb hr (fun x h s=>F126_R n _ _ x h (p0:=.full)) H fun x34 hr fr H=>?_
  refine qbs tS 30 ([(bs [99,97,115]),x29,(bs [105,110,116,111]),x31,x34]:List ByteArray) H fun _ H=>?_
  refine qb hr (fun x h s=>F85_R n _ x h (p0:=.full)) H fun x35 hr fr H=>qg 1 [(2,vS x35)] H fun _ H=>qe (qd (W_ret ?_))
  obtain rfl:=Option.some.inj hr
  exact qr [vS x35] H K
 refine qF H c27 (sr (qg 2 [(85,vB (a0.kind == 24))] H fun _ H=>qe ?_))
 rcases csplit hr with ⟨c36,hr⟩|⟨c36,hr⟩
 ·refine qT H c36 (sr (qg 2 [(88,vS a0.name)] H fun _ H=>?_))
  refine qbs tS 30 ([(bs [97,99,113,117,105,114,101]),a0.name]:List ByteArray) H fun _ H=>?_
  refine qb hr (fun x h s=>F85_R n _ x h (p0:=.full)) H fun x37 hr fr H=>qg 1 [(2,vS x37)] H fun _ H=>qe (W_ret ?_)
  obtain rfl:=Option.some.inj hr
  exact qr [vS x37] H K
 refine qF H c36 (sr (qg 2 [(91,vB (a0.kind == 25))] H fun _ H=>qe ?_))
 rcases csplit hr with ⟨c38,hr⟩|⟨c38,hr⟩
 ·refine qT H c38 (sr (qg 2 [(94,vS a0.name)] H fun _ H=>?_))
  refine qbs tS 30 ([(bs [102,114,101,101]),a0.name]:List ByteArray) H fun _ H=>?_
  refine qb hr (fun x h s=>F85_R n _ x h (p0:=.full)) H fun x39 hr fr H=>qg 1 [(2,vS x39)] H fun _ H=>qe (W_ret ?_)
  obtain rfl:=Option.some.inj hr
  exact qr [vS x39] H K
 refine qF H c38 (sr (qg 2 [(97,vB (a0.kind == 27))] H fun _ H=>qe ?_))
 rcases csplit hr with ⟨c40,hr⟩|⟨c40,hr⟩
 ·refine qT H c40 (sr (qg 2 [(100,vS a0.name)] H fun _ H=>?_))
  refine qbs tS 30 ([(bs [115,112,97,119,110]),a0.name]:List ByteArray) H fun _ H=>?_
  refine qb hr (fun x h s=>F85_R n _ x h (p0:=.full)) H fun x41 hr fr H=>qg 1 [(2,vS x41)] H fun _ H=>qe (W_ret ?_)
  obtain rfl:=Option.some.inj hr
  exact qr [vS x41] H K
 refine qF H c40 (sr (qg 2 [(103,vB (a0.kind == 28))] H fun _ H=>qe ?_))
 rcases csplit hr with ⟨c42,hr⟩|⟨c42,hr⟩
 ·refine qT H c42 (sr (qg 2 [(106,vS a0.name)] H fun _ H=>?_))
  refine qbs tS 30 ([(bs [106,111,105,110]),a0.name]:List ByteArray) H fun _ H=>?_
  refine qb hr (fun x h s=>F85_R n _ x h (p0:=.full)) H fun x43 hr fr H=>qg 1 [(2,vS x43)] H fun _ H=>qe (W_ret ?_)
  obtain rfl:=Option.some.inj hr
  exact qr [vS x43] H K
 refine qF H c42 (sr (qg 2 [(109,vB (a0.kind == 33))] H fun _ H=>qe ?_))
 rcases csplit hr with ⟨c44,hr⟩|⟨c44,hr⟩
 rotate_left
 ·refine qF H c44 (W_skip (sr (qg 1 [(2,vS (bs []))] H fun _ H=>qe (W_ret ?_))))
  cases hr
  exact qr [vS (bs [])] H K
 refine qT H c44 (W_seq (W_drw (qg 3 [(112,vS a0.name),(113,vL tNode a0.kids .shut)] H fun _ H=>?_)))
 refine qb hr (fun x h s=>F124_1_R n _ x h (p0:=.shut)) H fun x45 hr fr H=>?_
 refine qbs tS 30 ([a0.name,(bs [40]),x45,(bs [41])]:List ByteArray) H fun _ H=>?_
 refine qb hr (fun x h s=>F82_R  _ x h (p0:=.full)) H fun x46 hr fr H=>?_
 refine qbs tS 30 ([(bs [99,97,108,108]),x46]:List ByteArray) H fun _ H=>?_
 refine qb hr (fun x h s=>F85_R n _ x h (p0:=.full)) H fun x47 hr fr H=>qg 1 [(2,vS x47)] H fun _ H=>qe (qd (W_ret ?_))
 obtain rfl:=Option.some.inj hr
 exact qr [vS x47] H K
def F129 (n:Nat) (a0:Node):Option ByteArray :=
 bif a0.kind == 61 then
  ((F126 n (a0.n == 1) ([(bs [97,115,108,101,101,112])]:List ByteArray)).bind fun x2 =>
  (F124_1 n a0.kids).bind fun x3 =>
  (F82 ([a0.other,(bs [40]),x3,(bs [41])]:List ByteArray)).bind fun x4 =>
  (F85 n ([x2,(bs [116,104,114,101,97,100]),a0.name,(bs [61]),x4]:List ByteArray)).bind fun x5 =>
  some x5)
 else
  (bif a0.kind == 52 then
   ((F125 n a0).bind fun x7 =>
   some x7)
  else
   (bif a0.kind == 50 then
    ((F186 n a0).bind fun x9 =>
    some x9)
   else
    (bif a0.kind == 53 then
     ((idxL a0.kids 0).bind fun x11 =>
     (F54 n x11).bind fun x12 =>
     (F85 n ([(bs [108,111,99,107]),a0.name,(bs [105,110,118,97,114,105,97,110,116]),x12]:List ByteArray)).bind fun x13 =>
     some x13)
    else
     (bif a0.kind == 54 then
      ((idxL a0.kids 0).bind fun x15 =>
      (F54 n x15).bind fun x16 =>
      (F85 n ([(bs [114,101,108,121]),x16]:List ByteArray)).bind fun x17 =>
      some x17)
     else
      (bif a0.kind == 55 then
       ((idxL a0.kids 0).bind fun x19 =>
       (F54 n x19).bind fun x20 =>
       (F85 n ([(bs [103,117,97,114,97,110,116,101,101]),x20]:List ByteArray)).bind fun x21 =>
       some x21)
      else
       (bif a0.kind == 56 then
        ((F124_1 n a0.kids).bind fun x23 =>
        (F85 n ([(bs [102,114,97,109,101]),x23]:List ByteArray)).bind fun x24 =>
        some x24)
       else
        (bif a0.kind == 35 then
         ((F126 n a0.ghost ([(bs [103,104,111,115,116])]:List ByteArray)).bind fun x26 =>
         (F125 n a0).bind fun x27 =>
         (F85 n ([x26,(bs [108,111,99,97,108]),x27]:List ByteArray)).bind fun x28 =>
         some x28)
        else
         ((F187 n a0).bind fun x29 =>
         some x29))))))))
theorem F129_R (n:Nat) (a0:Node) (r:ByteArray) (hr:F129 n a0 = some r) {st:St} {p0:Spare}:R Tryz.prog AN 129 [.agg (cNode p0 a0)] st (.ret (vS r)) st:=by
 unfold F129 at hr
 refine R_pureX [aN a0] [(0,aN a0)] Tryz.func129 rfl (by simp only [strip,stripL,stripL_cNode,Option.bind_some,Option.map_some]) rfl fun fr st H K=>sr (qg 2 [(1,cN a0 0)] H fun _ H=>qe (W_seq (W_seq (W_reg (qg 2 [(4,vI a0.kind)] H fun _ H=>qe (W_block (sr (qg 2 [(5,vB (a0.kind == 61))] H fun _ H=>qe ?_))))))))
 rcases csplit hr with ⟨c1,hr⟩|⟨c1,hr⟩
 ·refine qT H c1 (W_seq (W_drw (qg 3 [(9,vB (a0.n == 1))] H fun _ H=>?_)))
  refine qbs tS 30 ([(bs [97,115,108,101,101,112])]:List ByteArray) H fun _ H=>?_
  refine qb hr (fun x h s=>F126_R n _ _ x h (p0:=.full)) H fun x2 hr fr H=>qg 6 [(13,vS a0.name),(15,vS a0.other),(17,vL tNode a0.kids .shut)] H fun _ H=>?_
  refine qb hr (fun x h s=>F124_1_R n _ x h (p0:=.shut)) H fun x3 hr fr H=>?_
  refine qbs tS 30 ([a0.other,(bs [40]),x3,(bs [41])]:List ByteArray) H fun _ H=>?_
  refine qb hr (fun x h s=>F82_R  _ x h (p0:=.full)) H fun x4 hr fr H=>?_
  refine qbs tS 30 ([x2,(bs [116,104,114,101,97,100]),a0.name,(bs [61]),x4]:List ByteArray) H fun _ H=>?_
  refine qb hr (fun x h s=>F85_R n _ x h (p0:=.full)) H fun x5 hr fr H=>qg 1 [(2,vS x5)] H fun _ H=>qe (qd (W_ret ?_))
  obtain rfl:=Option.some.inj hr
  exact qr [vS x5] H K
 refine qF H c1 (sr (qg 2 [(23,vB (a0.kind == 52))] H fun _ H=>qe ?_))
 rcases csplit hr with ⟨c6,hr⟩|⟨c6,hr⟩
 ·refine qT H c6 (sr (qg 1 [(25,aN a0)] H fun _ H=>?_))
  refine qb hr (fun x h s=>F125_R n _ x h (p0:=.shut)) H fun x7 hr fr H=>qg 1 [(2,vS x7)] H fun _ H=>qe (W_ret ?_)
  obtain rfl:=Option.some.inj hr
  exact qr [vS x7] H K
 refine qF H c6 (sr (qg 2 [(27,vB (a0.kind == 50))] H fun _ H=>qe ?_))
 rcases csplit hr with ⟨c8,hr⟩|⟨c8,hr⟩
 ·refine qT H c8 (sr (qg 1 [(29,aN a0)] H fun _ H=>?_))
  refine qb hr (fun x h s=>F186_R n _ x h (p0:=.shut)) H fun x9 hr fr H=>qg 1 [(2,vS x9)] H fun _ H=>qe (W_ret ?_)
  obtain rfl:=Option.some.inj hr
  exact qr [vS x9] H K
 refine qF H c8 (sr (qg 2 [(31,vB (a0.kind == 53))] H fun _ H=>qe ?_))
 rcases csplit hr with ⟨c10,hr⟩|⟨c10,hr⟩
 ·refine qT H c10 (W_seq (W_drw (qg 4 [(34,vS a0.name),(36,vL tNode a0.kids .shut)] H fun _ H=>?_)))
  refine qix tNode 22 .shut hr H fun x11 hr hx11 fr H=>qg 1 [(38,aN x11)] H fun _ H=>?_
  refine qb hr (fun x h s=>F54_R n _ x h (p0:=.shut)) H fun x12 hr fr H=>?_
  refine qbs tS 30 ([(bs [108,111,99,107]),a0.name,(bs [105,110,118,97,114,105,97,110,116]),x12]:List ByteArray) H fun _ H=>?_
  refine qb hr (fun x h s=>F85_R n _ x h (p0:=.full)) H fun x13 hr fr H=>qg 1 [(2,vS x13)] H fun _ H=>qe (qd (W_ret ?_))
  obtain rfl:=Option.some.inj hr
  exact qr [vS x13] H K
 refine qF H c10 (sr (qg 2 [(42,vB (a0.kind == 54))] H fun _ H=>qe ?_))
 rcases csplit hr with ⟨c14,hr⟩|⟨c14,hr⟩
 ·refine qT H c14 (sr (qg 2 [(45,vL tNode a0.kids .shut)] H fun _ H=>?_))
  refine qix tNode 22 .shut hr H fun x15 hr hx15 fr H=>qg 1 [(47,aN x15)] H fun _ H=>?_
  refine qb hr (fun x h s=>F54_R n _ x h (p0:=.shut)) H fun x16 hr fr H=>?_
  refine qbs tS 30 ([(bs [114,101,108,121]),x16]:List ByteArray) H fun _ H=>?_
  refine qb hr (fun x h s=>F85_R n _ x h (p0:=.full)) H fun x17 hr fr H=>qg 1 [(2,vS x17)] H fun _ H=>qe (W_ret ?_)
  obtain rfl:=Option.some.inj hr
  exact qr [vS x17] H K
 refine qF H c14 (sr (qg 2 [(51,vB (a0.kind == 55))] H fun _ H=>qe ?_))
 rcases csplit hr with ⟨c18,hr⟩|⟨c18,hr⟩
 ·refine qT H c18 (sr (qg 2 [(54,vL tNode a0.kids .shut)] H fun _ H=>?_))
  refine qix tNode 22 .shut hr H fun x19 hr hx19 fr H=>qg 1 [(56,aN x19)] H fun _ H=>?_
  refine qb hr (fun x h s=>F54_R n _ x h (p0:=.shut)) H fun x20 hr fr H=>?_
  refine qbs tS 30 ([(bs [103,117,97,114,97,110,116,101,101]),x20]:List ByteArray) H fun _ H=>?_
  refine qb hr (fun x h s=>F85_R n _ x h (p0:=.full)) H fun x21 hr fr H=>qg 1 [(2,vS x21)] H fun _ H=>qe (W_ret ?_)
  obtain rfl:=Option.some.inj hr
  exact qr [vS x21] H K
 refine qF H c18 (sr (qg 2 [(60,vB (a0.kind == 56))] H fun _ H=>qe ?_))
 rcases csplit hr with ⟨c22,hr⟩|⟨c22,hr⟩
 ·refine qT H c22 (sr (qg 2 [(63,vL tNode a0.kids .shut)] H fun _ H=>?_))
  refine qb hr (fun x h s=>F124_1_R n _ x h (p0:=.shut)) H fun x23 hr fr H=>?_
  refine qbs tS 30 ([(bs [102,114,97,109,101]),x23]:List ByteArray) H fun _ H=>?_
  refine qb hr (fun x h s=>F85_R n _ x h (p0:=.full)) H fun x24 hr fr H=>qg 1 [(2,vS x24)] H fun _ H=>qe (W_ret ?_)
  obtain rfl:=Option.some.inj hr
  exact qr [vS x24] H K
 refine qF H c22 (sr (qg 2 [(67,vB (a0.kind == 35))] H fun _ H=>qe ?_))
 rcases csplit hr with ⟨c25,hr⟩|⟨c25,hr⟩
 rotate_left
 ·refine qF H c25 (W_skip (sr (qg 1 [(77,aN a0)] H fun _ H=>?_)))
  refine qb hr (fun x h s=>F187_R n _ x h (p0:=.shut)) H fun x29 hr fr H=>qg 1 [(2,vS x29)] H fun _ H=>qe (W_ret ?_)
  obtain rfl:=Option.some.inj hr
  exact qr [vS x29] H K
 refine qT H c25 (W_seq (W_drw (qg 2 [(70,vB a0.ghost)] H fun _ H=>?_)))
 refine qbs tS 30 ([(bs [103,104,111,115,116])]:List ByteArray) H fun _ H=>?_
 refine qb hr (fun x h s=>F126_R n _ _ x h (p0:=.full)) H fun x26 hr fr H=>qg 1 [(73,aN a0)] H fun _ H=>?_
 refine qb hr (fun x h s=>F125_R n _ x h (p0:=.shut)) H fun x27 hr fr H=>?_
 refine qbs tS 30 ([x26,(bs [108,111,99,97,108]),x27]:List ByteArray) H fun _ H=>?_
 refine qb hr (fun x h s=>F85_R n _ x h (p0:=.full)) H fun x28 hr fr H=>qg 1 [(2,vS x28)] H fun _ H=>qe (qd (W_ret ?_))
 obtain rfl:=Option.some.inj hr
 exact qr [vS x28] H K
def F128_step (_:(List Node)→Bool→(List UInt8)→Int→Option (Bool × (List UInt8) × Int)) (_:(List Node)→(List ByteArray)→Bool→(List UInt8)→Int→Option (Bool × (List UInt8) × Int)) (_:Node→Bool→(List UInt8)→Int→Option (Bool × (List UInt8) × Int)) (F50:(List Node)→Bool→(List UInt8)→Int→Option (Bool × (List UInt8) × Int)) (_:Nat) (a0:List Node) (a1:Bool) (a2:List UInt8) (a3:Int):Option (Bool × (List UInt8) × Int) :=
 (F50 a0 a1 a2 (w64 (a3 + 1))).bind fun x1 =>
 some (x1.1,x1.2.1,w64 (x1.2.2 - 1))
def F123_step (F128:(List Node)→Bool→(List UInt8)→Int→Option (Bool × (List UInt8) × Int)) (_:(List Node)→(List ByteArray)→Bool→(List UInt8)→Int→Option (Bool × (List UInt8) × Int)) (_:Node→Bool→(List UInt8)→Int→Option (Bool × (List UInt8) × Int)) (_:(List Node)→Bool→(List UInt8)→Int→Option (Bool × (List UInt8) × Int)) (n:Nat) (a0:List Node) (a1:List ByteArray) (a2:Bool) (a3:List UInt8) (a4:Int):Option (Bool × (List UInt8) × Int) :=
 (F85 n a1).bind fun x1 =>
 (F127 n ([x1,(bs [123])]:List ByteArray) a2 a3 a4).bind fun x2 =>
 (F128 a0 x2.1 x2.2.1 x2.2.2).bind fun x4 =>
 (F127 n ([(bs [125])]:List ByteArray) x4.1 x4.2.1 x4.2.2).bind fun x6 =>
 some (x6.1,x6.2.1,x6.2.2)
def F79_step (F128:(List Node)→Bool→(List UInt8)→Int→Option (Bool × (List UInt8) × Int)) (F123:(List Node)→(List ByteArray)→Bool→(List UInt8)→Int→Option (Bool × (List UInt8) × Int)) (_:Node→Bool→(List UInt8)→Int→Option (Bool × (List UInt8) × Int)) (_:(List Node)→Bool→(List UInt8)→Int→Option (Bool × (List UInt8) × Int)) (n:Nat) (a0:Node) (a1:Bool) (a2:List UInt8) (a3:Int):Option (Bool × (List UInt8) × Int) :=
 bif a0.kind == 60 then
  ((F123 a0.kids ([(bs [109,111,100,117,108,101]),a0.name,(bs [111,119,110,101,114]),a0.other]:List ByteArray) a1 a2 a3).bind fun x2 =>
  some (x2.1,x2.2.1,x2.2.2))
 else
  (bif a0.kind == 51 then
   ((F123 a0.kids ([(bs [114,101,99,111,114,100]),a0.name]:List ByteArray) a1 a2 a3).bind fun x5 =>
   some (x5.1,x5.2.1,x5.2.2))
  else
   (bif a0.kind == 57 then
    ((subL a0.kids 0 (w64 ((a0.kids.length:Int) - 1))).bind fun x8 =>
    (F124 n x8).bind fun x9 =>
    (F82 ([a0.name,(bs [40]),x9,(bs [41])]:List ByteArray)).bind fun x10 =>
    (idxL a0.kids (w64 ((a0.kids.length:Int) - 1))).bind fun x11 =>
    (F126 n (!(strEq a0.other (bs []))) ([(bs [108,111,99,107,101,100]),a0.other]:List ByteArray)).bind fun x12 =>
    (F123 x11.kids ([(bs [112,114,111,99]),x10,x12]:List ByteArray) a1 a2 a3).bind fun x13 =>
    some (x13.1,x13.2.1,x13.2.2))
   else
    (bif a0.kind == 31 then
     ((idxL a0.kids 0).bind fun x16 =>
     (F54 n x16).bind fun x17 =>
     (F127 n ([(bs [105,102]),x17,(bs [123])]:List ByteArray) a1 a2 a3).bind fun x18 =>
     (idxL a0.kids 1).bind fun x20 =>
     (F128 x20.kids x18.1 x18.2.1 x18.2.2).bind fun x21 =>
     ((idxL a0.kids 2).bind fun x23 =>
      bif decide (0 < (x23.kids.length:Int)) then
       ((F127 n ([(bs [125,32,101,108,115,101,32,123])]:List ByteArray) x21.1 x21.2.1 x21.2.2).bind fun x25 =>
       (idxL a0.kids 2).bind fun x27 =>
       (F128 x27.kids x25.1 x25.2.1 x25.2.2).bind fun x28 =>
       some (x28.1,x28.2.1,x28.2.2))
      else
       (some (x21.1,x21.2.1,x21.2.2)):Option ((Bool × (List UInt8) × Int))).bind fun j30 =>
     (F127 n ([(bs [125])]:List ByteArray) j30.1 j30.2.1 j30.2.2).bind fun x31 =>
     some (x31.1,x31.2.1,x31.2.2))
    else
     (bif a0.kind == 32 then
      ((idxL a0.kids 1).bind fun x34 =>
      (idxL a0.kids 2).bind fun x36 =>
      (idxL a0.kids 0).bind fun x37 =>
      (F54 n x37).bind fun x38 =>
      (F54 n x34).bind fun x39 =>
      (F126 n (x34.kind != 63) ([(bs [118,97,114,105,97,110,116]),x39]:List ByteArray)).bind fun x40 =>
      (F123 x36.kids ([(bs [119,104,105,108,101]),x38,x40]:List ByteArray) a1 a2 a3).bind fun x41 =>
      some (x41.1,x41.2.1,x41.2.2))
     else
      ((F129 n a0).bind fun x43 =>
      (F82 ([x43,(bs [59])]:List ByteArray)).bind fun x44 =>
      (F127 n ([x44]:List ByteArray) a1 a2 a3).bind fun x45 =>
      some (x45.1,x45.2.1,x45.2.2))))))
def F50_step (_:(List Node)→Bool→(List UInt8)→Int→Option (Bool × (List UInt8) × Int)) (_:(List Node)→(List ByteArray)→Bool→(List UInt8)→Int→Option (Bool × (List UInt8) × Int)) (F79:Node→Bool→(List UInt8)→Int→Option (Bool × (List UInt8) × Int)) (_:(List Node)→Bool→(List UInt8)→Int→Option (Bool × (List UInt8) × Int)) (n:Nat) (a0:List Node) (a1:Bool) (a2:List UInt8) (a3:Int):Option (Bool × (List UInt8) × Int) :=
 (iter (σ:=Int × Bool × (List UInt8) × Int) (ρ:=(Bool × (List UInt8) × Int)) (fun s1=>bif decide (s1.1 < (a0.length:Int)) then
   ((idxL a0 s1.1).bind fun x3 =>
   (F79 x3 s1.2.1 s1.2.2.1 s1.2.2.2).bind fun x5 =>
   some (.inl (w64 (s1.1 + 1),x5.1,x5.2.1,x5.2.2)))
  else
   (some (.inr (s1.2.1,s1.2.2.1,s1.2.2.2)))) n ((0:Int),a1,a2,a3)).bind fun r7 =>
 some (r7.1,r7.2.1,r7.2.2)
mutual
def F128:Nat→(List Node)→Bool→(List UInt8)→Int→Option (Bool × (List UInt8) × Int)
 | 0,_,_,_,_=>none
 | n + 1,a0,a1,a2,a3=>F128_step (F128 n) (F123 n) (F79 n) (F50 n) n a0 a1 a2 a3
def F123:Nat→(List Node)→(List ByteArray)→Bool→(List UInt8)→Int→Option (Bool × (List UInt8) × Int)
 | 0,_,_,_,_,_=>none
 | n + 1,a0,a1,a2,a3,a4=>F123_step (F128 n) (F123 n) (F79 n) (F50 n) n a0 a1 a2 a3 a4
def F79:Nat→Node→Bool→(List UInt8)→Int→Option (Bool × (List UInt8) × Int)
 | 0,_,_,_,_=>none
 | n + 1,a0,a1,a2,a3=>F79_step (F128 n) (F123 n) (F79 n) (F50 n) n a0 a1 a2 a3
def F50:Nat→(List Node)→Bool→(List UInt8)→Int→Option (Bool × (List UInt8) × Int)
 | 0,_,_,_,_=>none
 | n + 1,a0,a1,a2,a3=>F50_step (F128 n) (F123 n) (F79 n) (F50 n) n a0 a1 a2 a3
end
theorem F128_RR (n:Nat):(∀ (a0:List Node) (a1:Bool) (a2:List UInt8) (a3:Int) (r:Bool × (List UInt8) × Int),F128 n a0 a1 a2 a3 = some r→∀ {st:St} {rs:List Res} {i0:Nat} {p0 p1:Spare} (_:HL st (.ownB 5 p1 a2 :: .obj i0 (.cells 77 [addrA i0 a1,vL tY a2 p1,vI a3]) :: rs)),RG Tryz.prog AN 128 [.ptr i0 0,vL tNode a0 p0] st (.ret (.tuple [])) fun (q:Spare)=>(.ownB 5 q r.2.1 :: .obj i0 (.cells 77 [addrA i0 r.1,vL tY r.2.1 q,vI r.2.2]) :: rs))∧(∀ (a0:List Node) (a1:List ByteArray) (a2:Bool) (a3:List UInt8) (a4:Int) (r:Bool × (List UInt8) × Int),F123 n a0 a1 a2 a3 a4 = some r→∀ {st:St} {rs:List Res} {i0:Nat} {p0 p1 p2:Spare} (_:HL st (.own p1 :: .ownB 5 p2 a3 :: .obj i0 (.cells 77 [addrA i0 a2,vL tY a3 p2,vI a4]) :: rs)),RG Tryz.prog AN 123 [.ptr i0 0,vL tNode a0 p0,vL tS a1 p1] st (.ret (.tuple [])) fun (q:Spare)=>(.ownB 5 q r.2.1 :: .obj i0 (.cells 77 [addrA i0 r.1,vL tY r.2.1 q,vI r.2.2]) :: rs))∧(∀ (a0:Node) (a1:Bool) (a2:List UInt8) (a3:Int) (r:Bool × (List UInt8) × Int),F79 n a0 a1 a2 a3 = some r→∀ {st:St} {rs:List Res} {i0:Nat} {p0 p1:Spare} (_:HL st (.ownB 5 p1 a2 :: .obj i0 (.cells 77 [addrA i0 a1,vL tY a2 p1,vI a3]) :: rs)),RG Tryz.prog AN 79 [.ptr i0 0,.agg (cNode p0 a0)] st (.ret (.tuple [])) fun (q:Spare)=>(.ownB 5 q r.2.1 :: .obj i0 (.cells 77 [addrA i0 r.1,vL tY r.2.1 q,vI r.2.2]) :: rs))∧(∀ (a0:List Node) (a1:Bool) (a2:List UInt8) (a3:Int) (r:Bool × (List UInt8) × Int),F50 n a0 a1 a2 a3 = some r→∀ {st:St} {rs:List Res} {i0:Nat} {p0 p1:Spare} (_:HL st (.ownB 5 p1 a2 :: .obj i0 (.cells 77 [addrA i0 a1,vL tY a2 p1,vI a3]) :: rs)),RG Tryz.prog AN 50 [.ptr i0 0,vL tNode a0 p0] st (.ret (.tuple [])) fun (q:Spare)=>(.ownB 5 q r.2.1 :: .obj i0 (.cells 77 [addrA i0 r.1,vL tY r.2.1 q,vI r.2.2]) :: rs)):=by
 induction n with
 | zero=>exact ⟨by intros; contradiction,by intros; contradiction,by intros; contradiction,by intros; contradiction⟩
 | succ n ih =>
  obtain ⟨ih_F128,ih_F123,ih_F79,ih_F50⟩:=ih
  refine ⟨?_,?_,?_,?_⟩
  ·intro a0 a1 a2 a3 r hr st rs i0 p0 p1 K
   change F128_step (F128 n) (F123 n) (F79 n) (F50 n) n a0 a1 a2 a3 = some r at hr
   unfold F128_step at hr
   refine R_heapX [(0,.ptr i0 0),(1,vL tNode a0 p0)] Tryz.func128 rfl rfl fun _ H=>sr (qg 3 [(4,.ptr i0 0),(6,.ptr i0 2)] H fun _ H=>?_)
   refine qld 3 2 (vI a3) 1 H K rfl fun _ H=>qg 3 [(8,vI (w64 (a3 + 1))),(10,.ptr i0 2)] H fun _ H=>?_
   refine qst 3 2 (vI (w64 (a3 + 1))) [addrA i0 a1,vL tY a2 p1,vI (w64 (a3 + 1))] 1 H K rfl fun st K fr H=>qe (sr (qg 2 [(11,.ptr i0 0),(12,vL tNode a0 p0)] H fun _ H=>?_))
   refine qib [] [] hr (fun x h=>ih_F50 _ _ _ _ x h (i0:=i0) (p0:=p0) (p1:=p1) ((K.front 1 rfl).front 1 rfl)) K H fun x1 hr sp2 st K fr H=>qe (W_reg (qg 3 [(14,.ptr i0 0),(16,.ptr i0 2)] H fun _ H=>?_))
   refine qld 3 2 (vI x1.2.2) 1 H K rfl fun _ H=>qg 3 [(18,vI (w64 (x1.2.2 - 1))),(20,.ptr i0 2)] H fun _ H=>?_
   refine qst 3 2 (vI (w64 (x1.2.2 - 1))) [addrA i0 x1.1,vL tY x1.2.1 sp2,vI (w64 (x1.2.2 - 1))] 1 H K rfl fun st K fr H=>qe ?_
   cases hr
   exact e_normalH [] H K (fun _=>resN) rfl sp2 (K.keep [true,true])
  ·intro a0 a1 a2 a3 a4 r hr st rs i0 p0 p1 p2 K
   change F123_step (F128 n) (F123 n) (F79 n) (F50 n) n a0 a1 a2 a3 a4 = some r at hr
   unfold F123_step at hr
   refine R_heapX [(0,.ptr i0 0),(1,vL tNode a0 p0),(2,vL tS a1 p1)] Tryz.func123 rfl rfl fun _ H=>sr (qg 2 [(6,.ptr i0 0),(7,vL tS a1 p1)] H fun _ H=>?_)
   refine qb hr (fun x h s=>F85_R n _ x h (p0:=p1)) H fun x1 hr fr H=>?_
   refine qbs tS 30 ([x1,(bs [123])]:List ByteArray) H fun _ H=>?_
   refine qib [] [] hr (fun x h=>F127_R n _ _ _ _ x h (i0:=i0) (p0:=.full) (p1:=p2) ((((K.full).front 3 rfl).front 3 rfl).front 2 rfl)) K H fun x2 hr sp3 st K fr H=>qe (sr (qg 2 [(11,.ptr i0 0),(12,vL tNode a0 p0)] H fun _ H=>?_))
   refine qib [] [] hr (fun x h=>ih_F128 _ _ _ _ x h (i0:=i0) (p0:=p0) (p1:=sp3) ((K.front 1 rfl).front 1 rfl)) K H fun x4 hr sp5 st K fr H=>qe (W_reg (qg 1 [(14,.ptr i0 0)] H fun _ H=>?_))
   refine qbs tS 30 ([(bs [125])]:List ByteArray) H fun _ H=>?_
   refine qib [] [] hr (fun x h=>F127_R n _ _ _ _ x h (i0:=i0) (p0:=.full) (p1:=sp5) ((((K.full).front 2 rfl).front 2 rfl).front 2 rfl)) K H fun x6 hr sp7 st K fr H=>qe ?_
   cases hr
   exact e_normalH [] H K (fun _=>resN) rfl sp7 (K.keep [true,true,false])
  ·intro a0 a1 a2 a3 r hr st rs i0 p0 p1 K
   change F79_step (F128 n) (F123 n) (F79 n) (F50 n) n a0 a1 a2 a3 = some r at hr
   unfold F79_step at hr
   refine R_heapX [(0,.ptr i0 0),(1,.agg (cNode p0 a0))] Tryz.func79 rfl rfl fun _ H=>sr (qg 1 [(3,.cptr (cNode p0 a0) 0)] H fun _ H=>qe (sr (qg 2 [(8,vI a0.kind)] H fun _ H=>qe (W_block (sr (qg 2 [(16,vB (a0.kind == 60))] H fun _ H=>qe ?_))))))
   rcases csplit hr with ⟨c1,hr⟩|⟨c1,hr⟩
   ·refine qT H c1 (W_reg (qg 7 [(18,.ptr i0 0),(20,vL tNode a0.kids p0),(22,vS a0.name),(24,vS a0.other)] H fun _ H=>?_))
    refine qbs tS 30 ([(bs [109,111,100,117,108,101]),a0.name,(bs [111,119,110,101,114]),a0.other]:List ByteArray) H fun _ H=>?_
    refine qib [] [] hr (fun x h=>ih_F123 _ _ _ _ _ x h (i0:=i0) (p0:=p0) (p1:=.full) (p2:=p1) ((((K.full).front 2 rfl).front 2 rfl).front 2 rfl)) K H fun x2 hr sp3 st K fr H=>qe ?_
    cases hr
    exact e_normalH [] H K (fun _=>resN) rfl sp3 (K.keep [true,true])
   refine qF H c1 (sr (qg 2 [(27,vB (a0.kind == 51))] H fun _ H=>qe ?_))
   rcases csplit hr with ⟨c4,hr⟩|⟨c4,hr⟩
   ·refine qT H c4 (W_reg (qg 5 [(29,.ptr i0 0),(31,vL tNode a0.kids p0),(33,vS a0.name)] H fun _ H=>?_))
    refine qbs tS 30 ([(bs [114,101,99,111,114,100]),a0.name]:List ByteArray) H fun _ H=>?_
    refine qib [] [] hr (fun x h=>ih_F123 _ _ _ _ _ x h (i0:=i0) (p0:=p0) (p1:=.full) (p2:=p1) ((((K.full).front 2 rfl).front 2 rfl).front 2 rfl)) K H fun x5 hr sp6 st K fr H=>qe ?_
    cases hr
    exact e_normalH [] H K (fun _=>resN) rfl sp6 (K.keep [true,true])
   refine qF H c4 (sr (qg 2 [(36,vB (a0.kind == 57))] H fun _ H=>qe ?_))
   rcases csplit hr with ⟨c7,hr⟩|⟨c7,hr⟩
   ·refine qT H c7 (sr (qg 2 [(39,vL tNode a0.kids p0)] H fun _ H=>?_))
    refine qln tNode 22 a0.kids p0 H fun _ H=>qg 2 [(4,vI (w64 ((a0.kids.length:Int) - 1)))] H fun _ H=>qe (W_seq (W_drw (qg 5 [(43,vS a0.name),(45,vL tNode a0.kids p0),(46,vI (w64 ((a0.kids.length:Int) - 1)))] H fun _ H=>?_)))
    obtain ⟨x8,hx8,hr⟩:=obind hr
    refine qv (.slice 22 (vL tNode a0.kids p0) none (some (vI (w64 ((a0.kids.length:Int) - 1))))) H (run_subL_hi tNode (by kernel_rfl) hx8) fun _ H=>?_
    refine qb hr (fun x h s=>F124_R n _ x h (p0:=.shut)) H fun x9 hr fr H=>?_
    refine qbs tS 30 ([a0.name,(bs [40]),x9,(bs [41])]:List ByteArray) H fun _ H=>?_
    refine qb hr (fun x h s=>F82_R  _ x h (p0:=.full)) H fun x10 hr fr H=>qg 1 [(5,vS x10)] H fun _ H=>qe (qd ?_)
    refine W_drw (qg 4 [(51,.ptr i0 0),(53,vL tNode a0.kids p0),(54,vI (w64 ((a0.kids.length:Int) - 1)))] H fun _ H=>?_)
    refine qix tNode 22 p0 hr H fun x11 hr hx11 fr H=>qg 8 [(57,vL tNode x11.kids .shut),(58,vS x10),(61,vB (!(strEq a0.other (bs [])))),(63,vS a0.other)] H fun _ H=>?_
    refine qbs tS 30 ([(bs [108,111,99,107,101,100]),a0.other]:List ByteArray) H fun _ H=>?_
    refine qb hr (fun x h s=>F126_R n _ _ x h (p0:=.full)) H fun x12 hr fr H=>?_
    refine qbs tS 30 ([(bs [112,114,111,99]),x10,x12]:List ByteArray) H fun _ H=>?_
    refine qib [] [] hr (fun x h=>ih_F123 _ _ _ _ _ x h (i0:=i0) (p0:=.shut) (p1:=.full) (p2:=p1) ((((K.full).front 2 rfl).front 2 rfl).front 2 rfl)) K H fun x13 hr sp14 st K fr H=>qe (qd ?_)
    cases hr
    exact e_normalH [] H K (fun _=>resN) rfl sp14 (K.keep [true,true])
   refine qF H c7 (sr (qg 2 [(68,vB (a0.kind == 31))] H fun _ H=>qe ?_))
   rcases csplit hr with ⟨c15,hr⟩|⟨c15,hr⟩
   rotate_left
   ·refine qF H c15 (sr (qg 2 [(105,vB (a0.kind == 32))] H fun _ H=>qe ?_))
    rcases csplit hr with ⟨c33,hr⟩|⟨c33,hr⟩
    rotate_left
    ·refine qF H c33 (W_reg (qg 2 [(9,.ptr i0 0),(10,aN a0)] H fun _ H=>?_))
     refine qb hr (fun x h s=>F129_R n _ x h (p0:=.shut)) H fun x43 hr fr H=>?_
     refine qbs tS 30 ([x43,(bs [59])]:List ByteArray) H fun _ H=>?_
     refine qb hr (fun x h s=>F82_R  _ x h (p0:=.full)) H fun x44 hr fr H=>?_
     refine qbs tS 30 ([x44]:List ByteArray) H fun _ H=>?_
     refine qib [] [] hr (fun x h=>F127_R n _ _ _ _ x h (i0:=i0) (p0:=.full) (p1:=p1) ((((K.full).front 2 rfl).front 2 rfl).front 2 rfl)) K H fun x45 hr sp46 st K fr H=>qe ?_
     cases hr
     exact e_normalH [] H K (fun _=>resN) rfl sp46 (K.keep [true,true])
    refine qT H c33 (sr (qg 2 [(108,vL tNode a0.kids p0)] H fun _ H=>?_))
    refine qix tNode 22 p0 hr H fun x34 hr hx34 fr H=>qg 1 [(110,aN x34)] H fun _ H=>?_
    refine qal 24 zL H K fun id35 st K fr H=>?_
    refine qst 24 0 (aN x34) [vI x34.kind,vS x34.name,vS x34.other,vI x34.n,vI x34.len,vI x34.init,vB x34.ghost,vL tNode x34.kids .shut,vI x34.pos] 0 H K rfl fun st K fr H=>qe ?_
    refine W_drw (qg 3 [(111,.ptr i0 0),(113,vL tNode a0.kids p0)] H fun _ H=>?_)
    refine qix tNode 22 p0 hr H fun x36 hr hx36 fr H=>qg 4 [(116,vL tNode x36.kids .shut),(118,vL tNode a0.kids p0)] H fun _ H=>?_
    refine qix tNode 22 p0 hr H fun x37 hr hx37 fr H=>qg 1 [(120,aN x37)] H fun _ H=>?_
    refine qb hr (fun x h s=>F54_R n _ x h (p0:=.shut)) H fun x38 hr fr H=>qg 1 [(122,.ptr id35 0)] H fun _ H=>?_
    refine qld 3 0 (vI x34.kind) 0 H K rfl fun _ H=>qg 1 [(124,vB (x34.kind != 63))] H fun _ H=>?_
    refine qld 24 0 (aN x34) 0 H K rfl fun _ H=>?_
    refine qb hr (fun x h s=>F54_R n _ x h (p0:=.shut)) H fun x39 hr fr H=>?_
    refine qbs tS 30 ([(bs [118,97,114,105,97,110,116]),x39]:List ByteArray) H fun _ H=>?_
    refine qb hr (fun x h s=>F126_R n _ _ x h (p0:=.full)) H fun x40 hr fr H=>?_
    refine qbs tS 30 ([(bs [119,104,105,108,101]),x38,x40]:List ByteArray) H fun _ H=>?_
    refine qib [] [] hr (fun x h=>ih_F123 _ _ _ _ _ x h (i0:=i0) (p0:=.shut) (p1:=.full) (p2:=p1) ((((K.full).front 3 rfl).front 3 rfl).front 2 rfl)) K H fun x41 hr sp42 st K fr H=>qe (qd ?_)
    cases hr
    exact e_normalH [] H K (fun _=>resN) rfl sp42 (K.keep [true,true,false])
   refine qT H c15 (sr (qg 3 [(70,.ptr i0 0),(72,vL tNode a0.kids p0)] H fun _ H=>?_))
   refine qix tNode 22 p0 hr H fun x16 hr hx16 fr H=>qg 1 [(74,aN x16)] H fun _ H=>?_
   refine qb hr (fun x h s=>F54_R n _ x h (p0:=.shut)) H fun x17 hr fr H=>?_
   refine qbs tS 30 ([(bs [105,102]),x17,(bs [123])]:List ByteArray) H fun _ H=>?_
   refine qib [] [] hr (fun x h=>F127_R n _ _ _ _ x h (i0:=i0) (p0:=.full) (p1:=p1) ((((K.full).front 2 rfl).front 2 rfl).front 2 rfl)) K H fun x18 hr sp19 st K fr H=>qe (sr (qg 3 [(78,.ptr i0 0),(80,vL tNode a0.kids p0)] H fun _ H=>?_))
   refine qix tNode 22 p0 hr H fun x20 hr hx20 fr H=>qg 2 [(83,vL tNode x20.kids .shut)] H fun _ H=>?_
   refine qib [] [] hr (fun x h=>ih_F128 _ _ _ _ x h (i0:=i0) (p0:=.shut) (p1:=sp19) ((K.front 1 rfl).front 1 rfl)) K H fun x21 hr sp22 st K fr H=>qe (W_seq ?_)
   obtain ⟨j30,hj30,hr⟩:=obind hr
   refine W_via (fun e fr st=>e = .normal∧∃ (j30sp0:Spare),Rd fr [(0,.ptr i0 0)]∧HL st (.ownB 5 j30sp0 j30.2.1 :: .obj i0 (.cells 77 [addrA i0 j30.1,vL tY j30.2.1 j30sp0,vI j30.2.2]) :: rs)) ?_ ?_
   ·replace hr:=hj30
    refine sr (qg 2 [(86,vL tNode a0.kids p0)] H fun _ H=>?_)
    refine qix tNode 22 p0 hr H fun x23 hr hx23 fr H=>qg 2 [(89,vL tNode x23.kids .shut)] H fun _ H=>?_
    refine qln tNode 22 x23.kids .shut H fun _ H=>qg 1 [(91,vB (decide (0 < (x23.kids.length:Int))))] H fun _ H=>qe ?_
    rcases csplit hr with ⟨c24,hr⟩|⟨c24,hr⟩
    rotate_left
    ·refine qF H c24 (W_skip ?_)
     cases hr
     exact ⟨rfl,sp22,H.tq,K.keep [true,true]⟩
    refine qT H c24 (sr (qg 1 [(92,.ptr i0 0)] H fun _ H=>?_))
    refine qbs tS 30 ([(bs [125,32,101,108,115,101,32,123])]:List ByteArray) H fun _ H=>?_
    refine qib [] [] hr (fun x h=>F127_R n _ _ _ _ x h (i0:=i0) (p0:=.full) (p1:=sp22) ((((K.full).front 2 rfl).front 2 rfl).front 2 rfl)) K H fun x25 hr sp26 st K fr H=>qe (W_reg (qg 3 [(95,.ptr i0 0),(97,vL tNode a0.kids p0)] H fun _ H=>?_))
    refine qix tNode 22 p0 hr H fun x27 hr hx27 fr H=>qg 2 [(100,vL tNode x27.kids .shut)] H fun _ H=>?_
    refine qib [] [] hr (fun x h=>ih_F128 _ _ _ _ x h (i0:=i0) (p0:=.shut) (p1:=sp26) ((K.front 1 rfl).front 1 rfl)) K H fun x28 hr sp29 st K fr H=>qe ?_
    cases hr
    exact ⟨rfl,sp29,H.tq,K.keep [true,true]⟩
   rintro e fr st ⟨rfl,j30sp0,H,K⟩
   refine W_reg (qg 1 [(102,.ptr i0 0)] H fun _ H=>?_)
   refine qbs tS 30 ([(bs [125])]:List ByteArray) H fun _ H=>?_
   refine qib [] [] hr (fun x h=>F127_R n _ _ _ _ x h (i0:=i0) (p0:=.full) (p1:=j30sp0) ((((K.full).front 2 rfl).front 2 rfl).front 2 rfl)) K H fun x31 hr sp32 st K fr H=>qe ?_
   cases hr
   exact e_normalH [] H K (fun _=>resN) rfl sp32 (K.keep [true,true])
  ·intro a0 a1 a2 a3 r hr st rs i0 p0 p1 K
   change F50_step (F128 n) (F123 n) (F79 n) (F50 n) n a0 a1 a2 a3 = some r at hr
   unfold F50_step at hr
   refine R_heapX [(0,.ptr i0 0),(1,vL tNode a0 p0)] Tryz.func50 rfl rfl fun _ H=>sr (qg 1 [(6,vL tNode a0 p0)] H fun _ H=>?_)
   refine qln tNode 22 a0 p0 H fun _ H=>qg 1 [(8,vI 0)] H fun _ H=>qe (W_block ?_)
   obtain ⟨r7,hr7,hr⟩:=obind hr
   refine W_iter hr7 (fun (s1:Int × Bool × (List UInt8) × Int) fr st=>∃ (s1sp0:Spare),Rd fr [(0,.ptr i0 0),(6,vL tNode a0 p0),(7,vI (a0.length:Int)),(8,vI s1.1)]∧HL st (.ownB 5 s1sp0 s1.2.2.1 :: .obj i0 (.cells 77 [addrA i0 s1.2.1,vL tY s1.2.2.1 s1sp0,vI s1.2.2.2]) :: rs)) (fun (r7:(Bool × (List UInt8) × Int)) e fr st=>e = .exit 0∧∃ (r7sp0:Spare),Rd fr []∧HL st (.ownB 5 r7sp0 r7.2.1 :: .obj i0 (.cells 77 [addrA i0 r7.1,vL tY r7.2.1 r7sp0,vI r7.2.2]) :: rs)) ⟨p1,H.tq,K.keep [true,true]⟩ ?_ ?_
   ·intro s1 fr st r hi hr
    obtain ⟨s1sp0,H,K⟩:=hi
    refine sr (qg 1 [(9,vB (decide (s1.1 < (a0.length:Int))))] H fun _ H=>qe (W_seq ?_))
    rcases csplit hr with ⟨c2,hr⟩|⟨c2,hr⟩
    rotate_left
    ·refine qF H c2 ?_
     refine W_exit ?_
     cases hr
     exact ⟨by simp,⟨rfl,s1sp0,H.tq,K.keep [true,true]⟩⟩
    refine qT H c2 (W_skip (W_seq (W_block (sr ?_))))
    refine qix tNode 22 p0 hr H fun x3 hr hx3 fr H=>qg 1 [(11,aN x3)] H fun _ H=>?_
    refine qal 24 zL H K fun id4 st K fr H=>?_
    refine qst 24 0 (aN x3) [vI x3.kind,vS x3.name,vS x3.other,vI x3.n,vI x3.len,vI x3.init,vB x3.ghost,vL tNode x3.kids .shut,vI x3.pos] 0 H K rfl fun st K fr H=>qe (W_reg (qg 1 [(12,.ptr i0 0)] H fun _ H=>?_))
    refine qld 24 0 (aN x3) 0 H K rfl fun _ H=>?_
    refine qib [] [] hr (fun x h=>ih_F79 _ _ _ _ x h (i0:=i0) (p0:=.shut) (p1:=s1sp0) ((K.front 2 rfl).front 2 rfl)) K H fun x5 hr sp6 st K fr H=>qe (W_reg (qg 2 [(8,vI (w64 (s1.1 + 1)))] H fun _ H=>qe ?_))
    cases hr
    exact ⟨rfl,⟨sp6,H.tq,K.keep [true,true,false]⟩⟩
   rintro e fr st ⟨rfl,r7sp0,H,K⟩
   cases hr
   refine in_exit ?_
   exact e_normalH [] H K (fun _=>resN) rfl r7sp0 (K.keep [true,true])
theorem F50_R (n:Nat) (a0:List Node) (a1:Bool) (a2:List UInt8) (a3:Int) (r:Bool × (List UInt8) × Int) (hr:F50 n a0 a1 a2 a3 = some r) {st:St} {rs:List Res} {i0:Nat} {p0 p1:Spare} (K:HL st (.ownB 5 p1 a2 :: .obj i0 (.cells 77 [addrA i0 a1,vL tY a2 p1,vI a3]) :: rs)):RG Tryz.prog AN 50 [.ptr i0 0,vL tNode a0 p0] st (.ret (.tuple [])) fun (q:Spare)=>(.ownB 5 q r.2.1 :: .obj i0 (.cells 77 [addrA i0 r.1,vL tY r.2.1 q,vI r.2.2]) :: rs):=(F128_RR n).2.2.2 a0 a1 a2 a3 r hr K
def F19 (n:Nat) (a0:Node):Option (ByteArray × Int) :=
 bif a0.kind != 62 then
  (some ((bs []),(1:Int)))
 else
  ((F28 n a0).bind fun x2 =>
  bif !x2 then
   (some ((bs []),(1:Int)))
  else
   ((F50 n a0.kids false ([]:List UInt8) (0:Int)).bind fun x5 =>
   (F51 n (bs x5.2.1)).bind fun x7 =>
   some (x7.1,x7.2)))
theorem F19_R (n:Nat) (a0:Node) (r:ByteArray × Int) (hr:F19 n a0 = some r) {st:St} {p0:Spare}:R Tryz.prog AN 19 [.agg (cNode p0 a0)] st (.ret (.tuple [vS r.1,vI r.2])) st:=by
 unfold F19 at hr
 refine R_pureX [aN a0] [(0,aN a0)] Tryz.func19 rfl (by simp only [strip,stripL,stripL_cNode,Option.bind_some,Option.map_some]) rfl fun fr st H K=>sr (qg 3 [(1,cN a0 0)] H fun _ H=>qe (W_seq (W_seq (W_reg (qg 4 [(8,vB (a0.kind != 62))] H fun _ H=>?_)))))
 rcases csplit hr with ⟨c1,hr⟩|⟨c1,hr⟩
 ·rw [c1] at H
  refine qg 4 [(12,vB true)] H fun _ H=>qe (qT H rfl (sr (qg 2 [(2,vS (bs [])),(3,vI 1)] H fun _ H=>qe (W_ret ?_))))
  cases hr
  exact e_ret [vS (bs []),vI 1] H K (fun _=>resT (by kernel_rfl) (resT (by kernel_rfl) resN)) (fun _=>by kernel_rfl)
 rw [c1] at H
 refine qg 1 [(9,aN a0)] H fun _ H=>?_
 refine qb hr (fun x h s=>F28_R n _ x h (p0:=.shut)) H fun x2 hr fr H=>qg 2 [(12,vB !x2)] H fun _ H=>qe ?_
 rcases csplit hr with ⟨c3,hr⟩|⟨c3,hr⟩
 ·refine qT H c3 (sr (qg 2 [(2,vS (bs [])),(3,vI 1)] H fun _ H=>qe (W_ret ?_)))
  cases hr
  exact e_ret [vS (bs []),vI 1] H K (fun _=>resT (by kernel_rfl) (resT (by kernel_rfl) resN)) (fun _=>by kernel_rfl)
 refine qF H c3 (W_skip (sr ?_))
 refine qal 77 [.sc (.pointer none),vL (tI .u8) ([]:List Int) .nil,vI 0] H K fun id4 st K fr H=>qe (sr (qg 2 [(14,vL tNode a0.kids .shut)] H fun _ H=>?_))
 refine qib [] [] hr (fun x h=>F50_R n _ _ _ _ x h (i0:=id4) (p0:=.shut) (p1:=.nil) (((K.nilB 5).front 1 rfl).front 1 rfl)) K H fun x5 hr sp6 st K fr H=>qe (sr (qg 1 [(16,.ptr id4 0)] H fun _ H=>?_))
 refine qi [] [] (builderString_R x5.2.1 ((K.front 1 rfl).front 1 rfl)) K H fun _ st K fr H=>?_
 refine qb hr (fun x h s=>F51_R n _ x h) H fun x7 hr fr H=>qg 4 [(2,vS x7.1),(3,vI x7.2)] H fun _ H=>qe (W_ret ?_)
 cases hr
 exact e_ret [vS x7.1,vI x7.2] H K (fun _=>resT (by kernel_rfl) (resT (by kernel_rfl) resN)) (fun _=>by kernel_rfl)
def F17 (n:Nat) :Option Bool :=
 (F48 (bs [97])).bind fun x1 =>
 (F47 (bs [43]) x1 (Node.mk 1 (bs []) (bs []) 1 0 0 false ([]:List Node) 0)).bind fun x2 =>
 (F48 (bs [98])).bind fun x3 =>
 (F47 (bs [42]) x2 (Node.mk 4 (bs []) (bs []) 0 0 0 false ([x3]:List Node) 0)).bind fun x4 =>
 (F23 n x4).bind fun x5 =>
 (F48 (bs [97])).bind fun x6 =>
 (F48 (bs [98])).bind fun x7 =>
 (F48 (bs [99])).bind fun x8 =>
 (F47 (bs [61,61,62]) x7 x8).bind fun x9 =>
 (F47 (bs [61,61,62]) x6 x9).bind fun x10 =>
 (F23 n x10).bind fun x11 =>
 (F48 (bs [120])).bind fun x12 =>
 (F48 (bs [121])).bind fun x13 =>
 (F47 (bs [38,38]) (Node.mk 7 (bs [105]) (bs []) 2 0 0 false ([x12]:List Node) 0) x13).bind fun x14 =>
 (F23 n x14).bind fun x15 =>
 (F19 n (Node.mk 62 (bs []) (bs []) 0 0 0 false ([(Node.mk 60 (bs [77]) (bs [65]) 0 0 0 false ([(Node.mk 50 (bs [120]) (bs []) 2 3 1 true ([]:List Node) 0)]:List Node) 0)]:List Node) 0)).bind fun x16 =>
 (F48 (bs [119,104,105,108,101])).bind fun x17 =>
 (F23 n x17).bind fun x18 =>
 (F48 (bs [97])).bind fun x19 =>
 (F19 n x19).bind fun x20 =>
 some ((((((((strEq x5.1 (bs [40,97,32,43,32,49,41,32,42,32,33,98])) && (x5.2 == 0)) && (strEq x11.1 (bs [97,32,61,61,62,32,98,32,61,61,62,32,99]))) && (strEq x15.1 (bs [40,97,108,108,32,105,32,60,32,50,32,58,32,120,41,32,38,38,32,121]))) && (strEq x16.1 (bs [109,111,100,117,108,101,32,77,32,111,119,110,101,114,32,65,32,123,10,32,32,103,104,111,115,116,32,115,104,97,114,101,100,32,120,91,51,93,32,58,32,50,32,61,32,49,59,10,125,10]))) && (x16.2 == 0)) && (x18.2 == 1)) && (x20.2 == 1))
theorem F17_R (n:Nat)  (r:Bool) (hr:F17 n  = some r) {st:St}:R Tryz.prog AN 17 [] st (.ret (vB r)) st:=by
 unfold F17 at hr
 refine R_pureX [] [] Tryz.func17 rfl (by kernel_rfl) rfl fun fr st H K=>sr (qg 1 [] H fun _ H=>qe (sr ?_))
 refine qb hr (fun x h s=>F48_R  _ x h) H fun x1 hr fr H=>qg 1 [(16,.agg [vI 1,vS (bs []),vS (bs []),vI 1,vI 0,vI 0,vB false,vL tNode ([]:List Node) .nil,vI 0])] H fun _ H=>?_
 refine qb hr (fun x h s=>F47_R  _ _ _ x h (p0:=.shut) (p1:=.nil)) H fun x2 hr fr H=>?_
 refine qb hr (fun x h s=>F48_R  _ x h) H fun x3 hr fr H=>?_
 refine qv (.buildSlice 22 1 [(0,aN x3)]) H (run_bslice (v:=vL tNode ([x3]:List Node) .full) (v0:=.slice [aN x3] .full) (by kernel_rfl) (by simp only [List.map,vL,tNode_e,eNode_eq,cNode] <;> rfl)) fun _ H=>qg 1 [(20,.agg [vI 4,vS (bs []),vS (bs []),vI 0,vI 0,vI 0,vB false,vL tNode ([x3]:List Node) .shut,vI 0])] H fun _ H=>?_
 refine qb hr (fun x h s=>F47_R  _ _ _ x h (p0:=.shut) (p1:=.shut)) H fun x4 hr fr H=>?_
 refine qb hr (fun x h s=>F23_R n _ x h (p0:=.shut)) H fun x5 hr fr H=>qg 5 [(1,vS x5.1),(2,vI x5.2)] H fun _ H=>qe (sr ?_)
 refine qb hr (fun x h s=>F48_R  _ x h) H fun x6 hr fr H=>?_
 refine qb hr (fun x h s=>F48_R  _ x h) H fun x7 hr fr H=>?_
 refine qb hr (fun x h s=>F48_R  _ x h) H fun x8 hr fr H=>?_
 refine qb hr (fun x h s=>F47_R  _ _ _ x h (p0:=.shut) (p1:=.shut)) H fun x9 hr fr H=>?_
 refine qb hr (fun x h s=>F47_R  _ _ _ x h (p0:=.shut) (p1:=.shut)) H fun x10 hr fr H=>?_
 refine qb hr (fun x h s=>F23_R n _ x h (p0:=.shut)) H fun x11 hr fr H=>qg 5 [(3,vS x11.1)] H fun _ H=>qe (sr ?_)
 refine qb hr (fun x h s=>F48_R  _ x h) H fun x12 hr fr H=>?_
 refine qv (.buildSlice 22 1 [(0,aN x12)]) H (run_bslice (v:=vL tNode ([x12]:List Node) .full) (v0:=.slice [aN x12] .full) (by kernel_rfl) (by simp only [List.map,vL,tNode_e,eNode_eq,cNode] <;> rfl)) fun _ H=>qg 1 [(37,.agg [vI 7,vS (bs [105]),vS (bs []),vI 2,vI 0,vI 0,vB false,vL tNode ([x12]:List Node) .shut,vI 0])] H fun _ H=>?_
 refine qb hr (fun x h s=>F48_R  _ x h) H fun x13 hr fr H=>?_
 refine qb hr (fun x h s=>F47_R  _ _ _ x h (p0:=.shut) (p1:=.shut)) H fun x14 hr fr H=>?_
 refine qb hr (fun x h s=>F23_R n _ x h (p0:=.shut)) H fun x15 hr fr H=>qg 5 [(5,vS x15.1)] H fun _ H=>qe (sr (qg 1 [(44,.agg [vI 50,vS (bs [120]),vS (bs []),vI 2,vI 3,vI 1,vB true,vL tNode ([]:List Node) .nil,vI 0])] H fun _ H=>?_))
 refine qv (.buildSlice 22 1 [(0,.agg [vI 50,vS (bs [120]),vS (bs []),vI 2,vI 3,vI 1,vB true,vL tNode ([]:List Node) .shut,vI 0])]) H (run_bslice (v:=vL tNode ([(Node.mk 50 (bs [120]) (bs []) 2 3 1 true ([]:List Node) 0)]:List Node) .full) (v0:=.slice [.agg [vI 50,vS (bs [120]),vS (bs []),vI 2,vI 3,vI 1,vB true,vL tNode ([]:List Node) .shut,vI 0]] .full) (by kernel_rfl) (by simp only [List.map,vL,tNode_e,eNode_eq,cNode] <;> rfl)) fun _ H=>qg 1 [(46,.agg [vI 60,vS (bs [77]),vS (bs [65]),vI 0,vI 0,vI 0,vB false,vL tNode ([(Node.mk 50 (bs [120]) (bs []) 2 3 1 true ([]:List Node) 0)]:List Node) .shut,vI 0])] H fun _ H=>?_
 refine qv (.buildSlice 22 1 [(0,.agg [vI 60,vS (bs [77]),vS (bs [65]),vI 0,vI 0,vI 0,vB false,vL tNode ([(Node.mk 50 (bs [120]) (bs []) 2 3 1 true ([]:List Node) 0)]:List Node) .shut,vI 0])]) H (run_bslice (v:=vL tNode ([(Node.mk 60 (bs [77]) (bs [65]) 0 0 0 false ([(Node.mk 50 (bs [120]) (bs []) 2 3 1 true ([]:List Node) 0)]:List Node) 0)]:List Node) .full) (v0:=.slice [.agg [vI 60,vS (bs [77]),vS (bs [65]),vI 0,vI 0,vI 0,vB false,vL tNode ([(Node.mk 50 (bs [120]) (bs []) 2 3 1 true ([]:List Node) 0)]:List Node) .shut,vI 0]] .full) (by kernel_rfl) (by simp only [List.map,vL,tNode_e,eNode_eq,cNode] <;> rfl)) fun _ H=>qg 1 [(48,.agg [vI 62,vS (bs []),vS (bs []),vI 0,vI 0,vI 0,vB false,vL tNode ([(Node.mk 60 (bs [77]) (bs [65]) 0 0 0 false ([(Node.mk 50 (bs [120]) (bs []) 2 3 1 true ([]:List Node) 0)]:List Node) 0)]:List Node) .shut,vI 0])] H fun _ H=>?_
 refine qb hr (fun x h s=>F19_R n _ x h (p0:=.shut)) H fun x16 hr fr H=>qg 5 [(7,vS x16.1),(8,vI x16.2)] H fun _ H=>qe (sr ?_)
 refine qb hr (fun x h s=>F48_R  _ x h) H fun x17 hr fr H=>?_
 refine qb hr (fun x h s=>F23_R n _ x h (p0:=.shut)) H fun x18 hr fr H=>qg 5 [(10,vI x18.2)] H fun _ H=>qe (sr ?_)
 refine qb hr (fun x h s=>F48_R  _ x h) H fun x19 hr fr H=>?_
 refine qb hr (fun x h s=>F19_R n _ x h (p0:=.shut)) H fun x20 hr fr H=>qg 5 [(12,vI x20.2)] H fun _ H=>qe (sr (qg 3 [(64,vB (strEq x5.1 (bs [40,97,32,43,32,49,41,32,42,32,33,98])))] H fun _ H=>qg 3 [(67,vB ((strEq x5.1 (bs [40,97,32,43,32,49,41,32,42,32,33,98])) && (x5.2 == 0)))] H (hs:=by intro _ _; generalize (strEq x5.1 (bs [40,97,32,43,32,49,41,32,42,32,33,98])) = b0; cases b0 <;> kernel_rfl) fun _ H=>qg 1 [(68,vB ((strEq x5.1 (bs [40,97,32,43,32,49,41,32,42,32,33,98])) && (x5.2 == 0)))] H fun _ H=>qg 3 [(71,vB (((strEq x5.1 (bs [40,97,32,43,32,49,41,32,42,32,33,98])) && (x5.2 == 0)) && (strEq x11.1 (bs [97,32,61,61,62,32,98,32,61,61,62,32,99]))))] H (hs:=by intro _ _; generalize ((strEq x5.1 (bs [40,97,32,43,32,49,41,32,42,32,33,98])) && (x5.2 == 0)) = b0; cases b0 <;> kernel_rfl) fun _ H=>qg 1 [(72,vB (((strEq x5.1 (bs [40,97,32,43,32,49,41,32,42,32,33,98])) && (x5.2 == 0)) && (strEq x11.1 (bs [97,32,61,61,62,32,98,32,61,61,62,32,99]))))] H fun _ H=>qg 3 [(75,vB ((((strEq x5.1 (bs [40,97,32,43,32,49,41,32,42,32,33,98])) && (x5.2 == 0)) && (strEq x11.1 (bs [97,32,61,61,62,32,98,32,61,61,62,32,99]))) && (strEq x15.1 (bs [40,97,108,108,32,105,32,60,32,50,32,58,32,120,41,32,38,38,32,121]))))] H (hs:=by intro _ _; generalize (((strEq x5.1 (bs [40,97,32,43,32,49,41,32,42,32,33,98])) && (x5.2 == 0)) && (strEq x11.1 (bs [97,32,61,61,62,32,98,32,61,61,62,32,99]))) = b0; cases b0 <;> kernel_rfl) fun _ H=>qg 1 [(13,vB ((((strEq x5.1 (bs [40,97,32,43,32,49,41,32,42,32,33,98])) && (x5.2 == 0)) && (strEq x11.1 (bs [97,32,61,61,62,32,98,32,61,61,62,32,99]))) && (strEq x15.1 (bs [40,97,108,108,32,105,32,60,32,50,32,58,32,120,41,32,38,38,32,121]))))] H fun _ H=>qe (sr (qg 2 [(77,vB ((((strEq x5.1 (bs [40,97,32,43,32,49,41,32,42,32,33,98])) && (x5.2 == 0)) && (strEq x11.1 (bs [97,32,61,61,62,32,98,32,61,61,62,32,99]))) && (strEq x15.1 (bs [40,97,108,108,32,105,32,60,32,50,32,58,32,120,41,32,38,38,32,121]))))] H fun _ H=>qg 3 [(80,vB (((((strEq x5.1 (bs [40,97,32,43,32,49,41,32,42,32,33,98])) && (x5.2 == 0)) && (strEq x11.1 (bs [97,32,61,61,62,32,98,32,61,61,62,32,99]))) && (strEq x15.1 (bs [40,97,108,108,32,105,32,60,32,50,32,58,32,120,41,32,38,38,32,121]))) && (strEq x16.1 (bs [109,111,100,117,108,101,32,77,32,111,119,110,101,114,32,65,32,123,10,32,32,103,104,111,115,116,32,115,104,97,114,101,100,32,120,91,51,93,32,58,32,50,32,61,32,49,59,10,125,10]))))] H (hs:=by intro _ _; generalize ((((strEq x5.1 (bs [40,97,32,43,32,49,41,32,42,32,33,98])) && (x5.2 == 0)) && (strEq x11.1 (bs [97,32,61,61,62,32,98,32,61,61,62,32,99]))) && (strEq x15.1 (bs [40,97,108,108,32,105,32,60,32,50,32,58,32,120,41,32,38,38,32,121]))) = b0; cases b0 <;> kernel_rfl) fun _ H=>qg 1 [(81,vB (((((strEq x5.1 (bs [40,97,32,43,32,49,41,32,42,32,33,98])) && (x5.2 == 0)) && (strEq x11.1 (bs [97,32,61,61,62,32,98,32,61,61,62,32,99]))) && (strEq x15.1 (bs [40,97,108,108,32,105,32,60,32,50,32,58,32,120,41,32,38,38,32,121]))) && (strEq x16.1 (bs [109,111,100,117,108,101,32,77,32,111,119,110,101,114,32,65,32,123,10,32,32,103,104,111,115,116,32,115,104,97,114,101,100,32,120,91,51,93,32,58,32,50,32,61,32,49,59,10,125,10]))))] H fun _ H=>qg 3 [(84,vB ((((((strEq x5.1 (bs [40,97,32,43,32,49,41,32,42,32,33,98])) && (x5.2 == 0)) && (strEq x11.1 (bs [97,32,61,61,62,32,98,32,61,61,62,32,99]))) && (strEq x15.1 (bs [40,97,108,108,32,105,32,60,32,50,32,58,32,120,41,32,38,38,32,121]))) && (strEq x16.1 (bs [109,111,100,117,108,101,32,77,32,111,119,110,101,114,32,65,32,123,10,32,32,103,104,111,115,116,32,115,104,97,114,101,100,32,120,91,51,93,32,58,32,50,32,61,32,49,59,10,125,10]))) && (x16.2 == 0)))] H (hs:=by intro _ _; generalize (((((strEq x5.1 (bs [40,97,32,43,32,49,41,32,42,32,33,98])) && (x5.2 == 0)) && (strEq x11.1 (bs [97,32,61,61,62,32,98,32,61,61,62,32,99]))) && (strEq x15.1 (bs [40,97,108,108,32,105,32,60,32,50,32,58,32,120,41,32,38,38,32,121]))) && (strEq x16.1 (bs [109,111,100,117,108,101,32,77,32,111,119,110,101,114,32,65,32,123,10,32,32,103,104,111,115,116,32,115,104,97,114,101,100,32,120,91,51,93,32,58,32,50,32,61,32,49,59,10,125,10]))) = b0; cases b0 <;> kernel_rfl) fun _ H=>qg 1 [(85,vB ((((((strEq x5.1 (bs [40,97,32,43,32,49,41,32,42,32,33,98])) && (x5.2 == 0)) && (strEq x11.1 (bs [97,32,61,61,62,32,98,32,61,61,62,32,99]))) && (strEq x15.1 (bs [40,97,108,108,32,105,32,60,32,50,32,58,32,120,41,32,38,38,32,121]))) && (strEq x16.1 (bs [109,111,100,117,108,101,32,77,32,111,119,110,101,114,32,65,32,123,10,32,32,103,104,111,115,116,32,115,104,97,114,101,100,32,120,91,51,93,32,58,32,50,32,61,32,49,59,10,125,10]))) && (x16.2 == 0)))] H fun _ H=>qg 3 [(88,vB (((((((strEq x5.1 (bs [40,97,32,43,32,49,41,32,42,32,33,98])) && (x5.2 == 0)) && (strEq x11.1 (bs [97,32,61,61,62,32,98,32,61,61,62,32,99]))) && (strEq x15.1 (bs [40,97,108,108,32,105,32,60,32,50,32,58,32,120,41,32,38,38,32,121]))) && (strEq x16.1 (bs [109,111,100,117,108,101,32,77,32,111,119,110,101,114,32,65,32,123,10,32,32,103,104,111,115,116,32,115,104,97,114,101,100,32,120,91,51,93,32,58,32,50,32,61,32,49,59,10,125,10]))) && (x16.2 == 0)) && (x18.2 == 1)))] H (hs:=by intro _ _; generalize ((((((strEq x5.1 (bs [40,97,32,43,32,49,41,32,42,32,33,98])) && (x5.2 == 0)) && (strEq x11.1 (bs [97,32,61,61,62,32,98,32,61,61,62,32,99]))) && (strEq x15.1 (bs [40,97,108,108,32,105,32,60,32,50,32,58,32,120,41,32,38,38,32,121]))) && (strEq x16.1 (bs [109,111,100,117,108,101,32,77,32,111,119,110,101,114,32,65,32,123,10,32,32,103,104,111,115,116,32,115,104,97,114,101,100,32,120,91,51,93,32,58,32,50,32,61,32,49,59,10,125,10]))) && (x16.2 == 0)) = b0; cases b0 <;> kernel_rfl) fun _ H=>qg 1 [(89,vB (((((((strEq x5.1 (bs [40,97,32,43,32,49,41,32,42,32,33,98])) && (x5.2 == 0)) && (strEq x11.1 (bs [97,32,61,61,62,32,98,32,61,61,62,32,99]))) && (strEq x15.1 (bs [40,97,108,108,32,105,32,60,32,50,32,58,32,120,41,32,38,38,32,121]))) && (strEq x16.1 (bs [109,111,100,117,108,101,32,77,32,111,119,110,101,114,32,65,32,123,10,32,32,103,104,111,115,116,32,115,104,97,114,101,100,32,120,91,51,93,32,58,32,50,32,61,32,49,59,10,125,10]))) && (x16.2 == 0)) && (x18.2 == 1)))] H fun _ H=>qg 3 [(92,vB ((((((((strEq x5.1 (bs [40,97,32,43,32,49,41,32,42,32,33,98])) && (x5.2 == 0)) && (strEq x11.1 (bs [97,32,61,61,62,32,98,32,61,61,62,32,99]))) && (strEq x15.1 (bs [40,97,108,108,32,105,32,60,32,50,32,58,32,120,41,32,38,38,32,121]))) && (strEq x16.1 (bs [109,111,100,117,108,101,32,77,32,111,119,110,101,114,32,65,32,123,10,32,32,103,104,111,115,116,32,115,104,97,114,101,100,32,120,91,51,93,32,58,32,50,32,61,32,49,59,10,125,10]))) && (x16.2 == 0)) && (x18.2 == 1)) && (x20.2 == 1)))] H (hs:=by intro _ _; generalize (((((((strEq x5.1 (bs [40,97,32,43,32,49,41,32,42,32,33,98])) && (x5.2 == 0)) && (strEq x11.1 (bs [97,32,61,61,62,32,98,32,61,61,62,32,99]))) && (strEq x15.1 (bs [40,97,108,108,32,105,32,60,32,50,32,58,32,120,41,32,38,38,32,121]))) && (strEq x16.1 (bs [109,111,100,117,108,101,32,77,32,111,119,110,101,114,32,65,32,123,10,32,32,103,104,111,115,116,32,115,104,97,114,101,100,32,120,91,51,93,32,58,32,50,32,61,32,49,59,10,125,10]))) && (x16.2 == 0)) && (x18.2 == 1)) = b0; cases b0 <;> kernel_rfl) fun _ H=>qg 1 [(0,vB ((((((((strEq x5.1 (bs [40,97,32,43,32,49,41,32,42,32,33,98])) && (x5.2 == 0)) && (strEq x11.1 (bs [97,32,61,61,62,32,98,32,61,61,62,32,99]))) && (strEq x15.1 (bs [40,97,108,108,32,105,32,60,32,50,32,58,32,120,41,32,38,38,32,121]))) && (strEq x16.1 (bs [109,111,100,117,108,101,32,77,32,111,119,110,101,114,32,65,32,123,10,32,32,103,104,111,115,116,32,115,104,97,114,101,100,32,120,91,51,93,32,58,32,50,32,61,32,49,59,10,125,10]))) && (x16.2 == 0)) && (x18.2 == 1)) && (x20.2 == 1)))] H fun _ H=>qe (W_ret ?_)))))
 cases hr
 exact qr [vB ((((((((strEq x5.1 (bs [40,97,32,43,32,49,41,32,42,32,33,98])) && (x5.2 == 0)) && (strEq x11.1 (bs [97,32,61,61,62,32,98,32,61,61,62,32,99]))) && (strEq x15.1 (bs [40,97,108,108,32,105,32,60,32,50,32,58,32,120,41,32,38,38,32,121]))) && (strEq x16.1 (bs [109,111,100,117,108,101,32,77,32,111,119,110,101,114,32,65,32,123,10,32,32,103,104,111,115,116,32,115,104,97,114,101,100,32,120,91,51,93,32,58,32,50,32,61,32,49,59,10,125,10]))) && (x16.2 == 0)) && (x18.2 == 1)) && (x20.2 == 1))] H K
def F76_step (F76:Node→Int→Int→Option Int) (n:Nat) (a0:Node) (a1:Int) (a2:Int):Option Int :=
 bif a2 == 0 then
  (some (w64 (a1 + 1)))
 else
  ((iter (σ:=Int × Int) (ρ:=Int) (fun s2=>bif (decide (s2.2 < (a0.kids.length:Int))) && (decide (s2.1≤a1)) then
    ((idxL a0.kids s2.2).bind fun x4 =>
    (F76 x4 (w64 (a1 - s2.1)) (w64 (a2 - 1))).bind fun x5 =>
    some (.inl (w64 (s2.1 + x5),w64 (s2.2 + 1))))
   else
    (some (.inr s2.1))) n ((1:Int),(0:Int))).bind fun r6 =>
  some r6)
def F76:Nat→Node→Int→Int→Option Int
 | 0,_,_,_=>none
 | n + 1,a0,a1,a2=>F76_step (F76 n) n a0 a1 a2
theorem F76_RR (n:Nat):(∀ (a0:Node) (a1:Int) (a2:Int) (r:Int),F76 n a0 a1 a2 = some r→∀ {st:St} {p0:Spare},R Tryz.prog AN 76 [.agg (cNode p0 a0),vI a1,vI a2] st (.ret (vI r)) st):=by
 induction n with
 | zero=>(intros; contradiction)
 | succ n ih =>
  have ih_F76:=@ih; clear ih
  intro a0 a1 a2 r hr st p0
  change F76_step (F76 n) n a0 a1 a2 = some r at hr
  unfold F76_step at hr
  refine R_pureX [aN a0,vI a1,vI a2] [(0,aN a0),(1,vI a1),(2,vI a2)] Tryz.func76 rfl (by simp only [strip,stripL,stripL_cNode,Option.bind_some,Option.map_some]) rfl fun fr st H K=>sr (qg 2 [(3,cN a0 0)] H fun _ H=>qe (W_seq (W_seq (W_reg (qg 2 [(10,vB (a2 == 0))] H fun _ H=>qe ?_)))))
  rcases csplit hr with ⟨c1,hr⟩|⟨c1,hr⟩
  ·refine qT H c1 (sr (qg 3 [(6,vI (w64 (a1 + 1)))] H fun _ H=>qe (W_ret ?_)))
   cases hr
   exact qr [vI (w64 (a1 + 1))] H K
  refine qF H c1 (W_skip (sr (qg 1 [(7,vI 1)] H fun _ H=>qe (W_seq (W_seq (W_reg (qg 1 [(8,vI 0)] H fun _ H=>qe (W_block ?_))))))))
  obtain ⟨r6,hr6,hr⟩:=obind hr
  refine W_iter hr6 (fun (s2:Int × Int) fr st=>Rd fr [(1,vI a1),(2,vI a2),(3,cN a0 0),(7,vI s2.1),(8,vI s2.2)]∧HL st []) (fun (r6:Int) e fr st=>e = .exit 0∧Rd fr [(7,vI r6)]∧HL st []) ⟨H.tq,K.keep []⟩ ?_ ?_
  ·intro s2 fr st r hi hr
   obtain ⟨H,K⟩:=hi
   refine W_seq (W_seq (W_reg (qg 3 [(13,vI s2.2),(15,vL tNode a0.kids .shut)] H fun _ H=>?_)))
   refine qln tNode 22 a0.kids .shut H fun _ H=>qg 2 [(18,vB (decide (s2.2 < (a0.kids.length:Int))))] H fun _ H=>qg 4 [(22,vB ((decide (s2.2 < (a0.kids.length:Int))) && (decide (s2.1≤a1))))] H (hs:=by intro _ _; generalize (decide (s2.2 < (a0.kids.length:Int))) = b0; cases b0 <;> kernel_rfl) fun _ H=>qe ?_
   rcases csplit hr with ⟨c3,hr⟩|⟨c3,hr⟩
   rotate_left
   ·refine qF H c3 ?_
    refine W_exit ?_
    cases hr
    exact ⟨by simp,⟨rfl,H.tq,K.keep []⟩⟩
   refine qT H c3 (W_skip (W_seq (W_block (W_reg (qg 4 [(25,vI s2.1),(27,vL tNode a0.kids .shut),(28,vI s2.2)] H fun _ H=>?_)))))
   refine qix tNode 22 .shut hr H fun x4 hr hx4 fr H=>qg 6 [(30,aN x4),(33,vI (w64 (a1 - s2.1))),(35,vI (w64 (a2 - 1)))] H fun _ H=>?_
   refine qb hr (fun x h s=>ih_F76 _ _ _ x h (p0:=.shut)) H fun x5 hr fr H=>qg 2 [(7,vI (w64 (s2.1 + x5)))] H fun _ H=>qe (W_reg (qg 3 [(8,vI (w64 (s2.2 + 1)))] H fun _ H=>qe ?_))
   cases hr
   exact ⟨rfl,⟨H.tq,K.keep []⟩⟩
  rintro e fr st ⟨rfl,H,K⟩
  refine sr (qg 2 [(6,vI r6)] H fun _ H=>qe (W_ret ?_))
  obtain rfl:=Option.some.inj hr
  exact qr [vI r6] H K
theorem F76_R (n:Nat) (a0:Node) (a1:Int) (a2:Int) (r:Int) (hr:F76 n a0 a1 a2 = some r) {st:St} {p0:Spare}:R Tryz.prog AN 76 [.agg (cNode p0 a0),vI a1,vI a2] st (.ret (vI r)) st:=(F76_RR n) a0 a1 a2 r hr
def F45 (n:Nat) (a0:Node) (a1:Int):Option Bool :=
 (F76 n a0 a1 (60:Int)).bind fun x1 =>
 some (decide (x1≤a1))
theorem F45_R (n:Nat) (a0:Node) (a1:Int) (r:Bool) (hr:F45 n a0 a1 = some r) {st:St} {p0:Spare}:R Tryz.prog AN 45 [.agg (cNode p0 a0),vI a1] st (.ret (vB r)) st:=by
 unfold F45 at hr
 refine R_pureX [aN a0,vI a1] [(0,aN a0),(1,vI a1)] Tryz.func45 rfl (by simp only [strip,stripL,stripL_cNode,Option.bind_some,Option.map_some]) rfl fun fr st H K=>sr (qg 2 [(2,cN a0 0)] H fun _ H=>qe (sr (qg 2 [(5,aN a0),(6,vI a1)] H fun _ H=>?_)))
 refine qb hr (fun x h s=>F76_R n _ _ _ x h (p0:=.shut)) H fun x1 hr fr H=>qg 3 [(4,vB (decide (x1≤a1)))] H fun _ H=>qe (W_ret ?_)
 cases hr
 exact qr [vB (decide (x1≤a1))] H K
def F170 (n:Nat) (a0:ByteArray) (a1:Int):Option Bool :=
 (iter (σ:=Int) (ρ:=Unit ⊕ Unit) (fun s1=>bif decide (s1 < (a0.size:Int)) then
   ((idxS a0 s1).bind fun x3 =>
   bif x3 == a1 then
    (some (.inr (.inl ())))
   else
    (some (.inl (w64 (s1 + 1)))))
  else
   (some (.inr (.inr ())))) n (0:Int)).bind fun r5=>match r5 with
 | .inl _=>some true
 | .inr _=>some false
theorem F170_R (n:Nat) (a0:ByteArray) (a1:Int) (r:Bool) (hr:F170 n a0 a1 = some r) {st:St}:R Tryz.prog AN 170 [vS a0,vU a1] st (.ret (vB r)) st:=by
 unfold F170 at hr
 refine R_pureX [vS a0,vU a1] [(0,vS a0),(1,vU a1)] Tryz.func170 rfl (by kernel_rfl) rfl fun fr st H K=>sr (qg 1 [] H fun _ H=>qe (W_seq (W_seq (W_reg (qg 1 [(5,vI 0)] H fun _ H=>qe (W_block ?_))))))
 obtain ⟨r5,hr5,hr⟩:=obind hr
 refine W_iter hr5 (fun (s1:Int) fr st=>Rd fr [(0,vS a0),(1,vU a1),(5,vI s1)]∧HL st []) (fun (r5:Unit ⊕ Unit) e fr st=>match r5 with | .inl r5a=>(e = .ret∧Rd fr [(4,vB true)]∧HL st []) | .inr r5b=>(e = .exit 0∧Rd fr []∧HL st [])) ⟨H.tq,K.keep []⟩ ?_ ?_
 ·intro s1 fr st r hi hr
  obtain ⟨H,K⟩:=hi
  refine W_seq (W_seq (W_reg (qg 4 [(9,vB (decide (s1 < (a0.size:Int))))] H fun _ H=>qe ?_)))
  rcases csplit hr with ⟨c2,hr⟩|⟨c2,hr⟩
  rotate_left
  ·refine qF H c2 ?_
   refine W_exit ?_
   cases hr
   exact ⟨by simp,⟨rfl,H.tq,K.keep []⟩⟩
  refine qT H c2 (W_skip (W_seq (W_block (sr (qg 2 [(12,vS a0),(13,vI s1)] H fun _ H=>?_)))))
  obtain ⟨x3,hx3,hr⟩:=obind hr
  refine qv (.index 9 (vS a0) (vI s1)) H (run_idxS (by kernel_rfl) hx3) fun _ H=>qg 2 [(16,vB (x3 == a1))] H fun _ H=>qe ?_
  rcases csplit hr with ⟨c4,hr⟩|⟨c4,hr⟩
  ·refine qT H c4 (sr (qg 1 [(4,vB true)] H fun _ H=>qe (W_ret ?_)))
   cases hr
   exact ⟨by simp,⟨rfl,H.tq,K.keep []⟩⟩
  refine qF H c4 (W_skip (W_reg (qg 3 [(5,vI (w64 (s1 + 1)))] H fun _ H=>qe ?_)))
  cases hr
  exact ⟨rfl,⟨H.tq,K.keep []⟩⟩
 rcases r5 with r5a | r5b
 ·rintro e fr st ⟨rfl,H,K⟩
  cases hr
  exact qr [vB true] H K
 rintro e fr st ⟨rfl,H,K⟩
 refine sr (qg 1 [(4,vB false)] H fun _ H=>qe (W_ret ?_))
 cases hr
 exact qr [vB false] H K
def F171 (a0:Int):Option Bool :=
 some ((decide (0≤a0)) && (decide (a0≤999999999)))
theorem F171_R (a0:Int) (r:Bool) (hr:F171 a0 = some r) {st:St}:R Tryz.prog AN 171 [vI a0] st (.ret (vB r)) st:=by
 unfold F171 at hr
 refine R_pureX [vI a0] [(0,vI a0)] Tryz.func171 rfl (by kernel_rfl) rfl fun fr st H K=>sr (qg 1 [] H fun _ H=>qe (sr (qg 3 [(5,vB (decide (0≤a0)))] H fun _ H=>qg 3 [(8,vB ((decide (0≤a0)) && (decide (a0≤999999999))))] H (hs:=by intro _ _; generalize (decide (0≤a0)) = b0; cases b0 <;> kernel_rfl) fun _ H=>qg 1 [(2,vB ((decide (0≤a0)) && (decide (a0≤999999999))))] H fun _ H=>qe (W_ret ?_))))
 cases hr
 exact qr [vB ((decide (0≤a0)) && (decide (a0≤999999999)))] H K
def F104 (n:Nat) (a0:Node) (a1:ByteArray):Option Bool :=
 (F170 n a1 (110:Int)).bind fun x1 =>
 bif !x1 && (!(strEq a0.name (bs []))) then
  (some false)
 else
  ((F170 n a1 (111:Int)).bind fun x3 =>
  bif !x3 && (!(strEq a0.other (bs []))) then
   (some false)
  else
   ((F170 n a1 (103:Int)).bind fun x5 =>
   bif !x5 && a0.ghost then
    (some false)
   else
    ((F170 n a1 (35:Int)).bind fun x7 =>
    bif !x7 && (a0.n != 0) then
     (some false)
    else
     ((F170 n a1 (108:Int)).bind fun x9 =>
     bif !x9 && (a0.len != 0) then
      (some false)
     else
      ((F170 n a1 (105:Int)).bind fun x11 =>
      bif !x11 && (a0.init != 0) then
       (some false)
      else
       ((F171 a0.n).bind fun x13 =>
       bif x13 then
        ((F171 a0.len).bind fun x15 =>
        bif x15 then
         ((F171 a0.init).bind fun x17 =>
         some x17)
        else
         (some false))
       else
        (some false)))))))
theorem F104_R (n:Nat) (a0:Node) (a1:ByteArray) (r:Bool) (hr:F104 n a0 a1 = some r) {st:St} {p0:Spare}:R Tryz.prog AN 104 [.agg (cNode p0 a0),vS a1] st (.ret (vB r)) st:=by
 unfold F104 at hr
 refine R_pureX [aN a0,vS a1] [(0,aN a0),(1,vS a1)] Tryz.func104 rfl (by simp only [strip,stripL,stripL_cNode,Option.bind_some,Option.map_some]) rfl fun fr st H K=>sr (qg 2 [(2,cN a0 0)] H fun _ H=>qe (W_seq (W_seq (W_reg (qg 1 [(5,vS a1)] H fun _ H=>?_)))))
 refine qb hr (fun x h s=>F170_R n _ _ x h) H fun x1 hr fr H=>qg 2 [(8,vB !x1)] H fun _ H=>qg 4 [(12,vB (!x1 && (!(strEq a0.name (bs [])))))] H (hs:=by intro _ _; generalize (!x1) = b0; cases b0 <;> kernel_rfl) fun _ H=>qg 1 [(13,vB (!x1 && (!(strEq a0.name (bs [])))))] H fun _ H=>?_
 rcases csplit hr with ⟨c2,hr⟩|⟨c2,hr⟩
 ·rw [c2] at H
  refine qg 18 [(31,vB true)] H fun _ H=>qe (qT H rfl (sr (qg 1 [(4,vB false)] H fun _ H=>qe (W_ret ?_))))
  cases hr
  exact qr [vB false] H K
 rw [c2] at H
 refine qg 1 [(14,vS a1)] H fun _ H=>?_
 refine qb hr (fun x h s=>F170_R n _ _ x h) H fun x3 hr fr H=>qg 2 [(17,vB !x3)] H fun _ H=>qg 5 [(22,vB (!x3 && (!(strEq a0.other (bs [])))))] H (hs:=by intro _ _; generalize (!x3) = b0; cases b0 <;> kernel_rfl) fun _ H=>qg 1 [(23,vB (!x3 && (!(strEq a0.other (bs [])))))] H fun _ H=>?_
 rcases csplit hr with ⟨c4,hr⟩|⟨c4,hr⟩
 ·rw [c4] at H
  refine qg 8 [(31,vB true)] H fun _ H=>qe (qT H rfl (sr (qg 1 [(4,vB false)] H fun _ H=>qe (W_ret ?_))))
  cases hr
  exact qr [vB false] H K
 rw [c4] at H
 refine qg 1 [(24,vS a1)] H fun _ H=>?_
 refine qb hr (fun x h s=>F170_R n _ _ x h) H fun x5 hr fr H=>qg 2 [(27,vB !x5)] H fun _ H=>qg 4 [(31,vB (!x5 && a0.ghost))] H (hs:=by intro _ _; generalize (!x5) = b0; cases b0 <;> kernel_rfl) fun _ H=>qe ?_
 rcases csplit hr with ⟨c6,hr⟩|⟨c6,hr⟩
 ·refine qT H c6 (sr (qg 1 [(4,vB false)] H fun _ H=>qe (W_ret ?_)))
  cases hr
  exact qr [vB false] H K
 refine qF H c6 (W_skip (W_seq (W_seq (W_reg (qg 1 [(32,vS a1)] H fun _ H=>?_)))))
 refine qb hr (fun x h s=>F170_R n _ _ x h) H fun x7 hr fr H=>qg 2 [(35,vB !x7)] H fun _ H=>qg 4 [(39,vB (!x7 && (a0.n != 0)))] H (hs:=by intro _ _; generalize (!x7) = b0; cases b0 <;> kernel_rfl) fun _ H=>qg 1 [(40,vB (!x7 && (a0.n != 0)))] H fun _ H=>?_
 rcases csplit hr with ⟨c8,hr⟩|⟨c8,hr⟩
 ·rw [c8] at H
  refine qg 19 [(59,vB true)] H fun _ H=>qe (qT H rfl (sr (qg 1 [(4,vB false)] H fun _ H=>qe (W_ret ?_))))
  cases hr
  exact qr [vB false] H K
 rw [c8] at H
 refine qg 1 [(41,vS a1)] H fun _ H=>?_
 refine qb hr (fun x h s=>F170_R n _ _ x h) H fun x9 hr fr H=>qg 2 [(44,vB !x9)] H fun _ H=>qg 5 [(49,vB (!x9 && (a0.len != 0)))] H (hs:=by intro _ _; generalize (!x9) = b0; cases b0 <;> kernel_rfl) fun _ H=>qg 1 [(50,vB (!x9 && (a0.len != 0)))] H fun _ H=>?_
 rcases csplit hr with ⟨c10,hr⟩|⟨c10,hr⟩
 ·rw [c10] at H
  refine qg 9 [(59,vB true)] H fun _ H=>qe (qT H rfl (sr (qg 1 [(4,vB false)] H fun _ H=>qe (W_ret ?_))))
  cases hr
  exact qr [vB false] H K
 rw [c10] at H
 refine qg 1 [(51,vS a1)] H fun _ H=>?_
 refine qb hr (fun x h s=>F170_R n _ _ x h) H fun x11 hr fr H=>qg 2 [(54,vB !x11)] H fun _ H=>qg 5 [(59,vB (!x11 && (a0.init != 0)))] H (hs:=by intro _ _; generalize (!x11) = b0; cases b0 <;> kernel_rfl) fun _ H=>qe ?_
 rcases csplit hr with ⟨c12,hr⟩|⟨c12,hr⟩
 ·refine qT H c12 (sr (qg 1 [(4,vB false)] H fun _ H=>qe (W_ret ?_)))
  cases hr
  exact qr [vB false] H K
 refine qF H c12 (W_skip (sr (qg 2 [(61,vI a0.n)] H fun _ H=>?_)))
 refine qb hr (fun x h s=>F171_R  _ x h) H fun x13 hr fr H=>qg 1 [(63,vB x13)] H fun _ H=>?_
 rcases csplit hr with ⟨c14,hr⟩|⟨c14,hr⟩
 rotate_left
 ·rw [c14] at H
  refine qg 10 [(4,vB false)] H fun _ H=>qe (W_ret ?_)
  cases hr
  exact qr [vB false] H K
 rw [c14] at H
 refine qg 2 [(65,vI a0.len)] H fun _ H=>?_
 refine qb hr (fun x h s=>F171_R  _ x h) H fun x15 hr fr H=>qg 2 [(68,vB x15)] H fun _ H=>?_
 rcases csplit hr with ⟨c16,hr⟩|⟨c16,hr⟩
 rotate_left
 ·rw [c16] at H
  refine qg 5 [(4,vB false)] H fun _ H=>qe (W_ret ?_)
  cases hr
  exact qr [vB false] H K
 rw [c16] at H
 refine qg 2 [(70,vI a0.init)] H fun _ H=>?_
 refine qb hr (fun x h s=>F171_R  _ x h) H fun x17 hr fr H=>qg 2 [(4,vB x17)] H fun _ H=>qe (W_ret ?_)
 obtain rfl:=Option.some.inj hr
 exact qr [vB x17] H K
def F232 :Option ((List ByteArray)) :=
 some ([(bs [109,111,100,117,108,101]),(bs [111,119,110,101,114]),(bs [114,101,99,111,114,100]),(bs [115,104,97,114,101,100]),(bs [103,104,111,115,116]),(bs [108,111,99,107]),(bs [105,110,118,97,114,105,97,110,116]),(bs [114,101,108,121]),(bs [103,117,97,114,97,110,116,101,101]),(bs [102,114,97,109,101]),(bs [112,114,111,99]),(bs [108,111,99,107,101,100]),(bs [108,111,99,97,108]),(bs [97,115,115,101,114,116]),(bs [114,101,108,101,97,115,101]),(bs [119,105,116,104]),(bs [97,116,111,109,105,99]),(bs [119,104,101,110]),(bs [99,97,115]),(bs [105,110,116,111]),(bs [97,99,113,117,105,114,101]),(bs [102,114,101,101]),(bs [102,101,110,99,101]),(bs [115,112,97,119,110]),(bs [106,111,105,110]),(bs [97,119,97,105,116]),(bs [115,107,105,112]),(bs [105,102]),(bs [101,108,115,101]),(bs [119,104,105,108,101]),(bs [118,97,114,105,97,110,116]),(bs [99,97,108,108]),(bs [116,104,114,101,97,100]),(bs [97,115,108,101,101,112]),(bs [111,108,100]),(bs [97,108,108]),(bs [115,111,109,101])]:List ByteArray)
theorem F232_R  (r:(List ByteArray)) (hr:F232  = some r) {st:St}:R Tryz.prog AN 232 [] st (.ret (vL tS r .shut)) st:=by
 unfold F232 at hr
 refine R_pureX [] [] Tryz.func232 rfl (by kernel_rfl) rfl fun fr st H K=>sr (qg 1 [] H fun _ H=>qe (sr ?_))
 refine qbs tS 30 ([(bs [109,111,100,117,108,101]),(bs [111,119,110,101,114]),(bs [114,101,99,111,114,100]),(bs [115,104,97,114,101,100]),(bs [103,104,111,115,116]),(bs [108,111,99,107]),(bs [105,110,118,97,114,105,97,110,116]),(bs [114,101,108,121]),(bs [103,117,97,114,97,110,116,101,101]),(bs [102,114,97,109,101]),(bs [112,114,111,99]),(bs [108,111,99,107,101,100]),(bs [108,111,99,97,108]),(bs [97,115,115,101,114,116]),(bs [114,101,108,101,97,115,101]),(bs [119,105,116,104]),(bs [97,116,111,109,105,99]),(bs [119,104,101,110]),(bs [99,97,115]),(bs [105,110,116,111]),(bs [97,99,113,117,105,114,101]),(bs [102,114,101,101]),(bs [102,101,110,99,101]),(bs [115,112,97,119,110]),(bs [106,111,105,110]),(bs [97,119,97,105,116]),(bs [115,107,105,112]),(bs [105,102]),(bs [101,108,115,101]),(bs [119,104,105,108,101]),(bs [118,97,114,105,97,110,116]),(bs [99,97,108,108]),(bs [116,104,114,101,97,100]),(bs [97,115,108,101,101,112]),(bs [111,108,100]),(bs [97,108,108]),(bs [115,111,109,101])]:List ByteArray) H fun _ H=>qg 1 [(0,vL tS ([(bs [109,111,100,117,108,101]),(bs [111,119,110,101,114]),(bs [114,101,99,111,114,100]),(bs [115,104,97,114,101,100]),(bs [103,104,111,115,116]),(bs [108,111,99,107]),(bs [105,110,118,97,114,105,97,110,116]),(bs [114,101,108,121]),(bs [103,117,97,114,97,110,116,101,101]),(bs [102,114,97,109,101]),(bs [112,114,111,99]),(bs [108,111,99,107,101,100]),(bs [108,111,99,97,108]),(bs [97,115,115,101,114,116]),(bs [114,101,108,101,97,115,101]),(bs [119,105,116,104]),(bs [97,116,111,109,105,99]),(bs [119,104,101,110]),(bs [99,97,115]),(bs [105,110,116,111]),(bs [97,99,113,117,105,114,101]),(bs [102,114,101,101]),(bs [102,101,110,99,101]),(bs [115,112,97,119,110]),(bs [106,111,105,110]),(bs [97,119,97,105,116]),(bs [115,107,105,112]),(bs [105,102]),(bs [101,108,115,101]),(bs [119,104,105,108,101]),(bs [118,97,114,105,97,110,116]),(bs [99,97,108,108]),(bs [116,104,114,101,97,100]),(bs [97,115,108,101,101,112]),(bs [111,108,100]),(bs [97,108,108]),(bs [115,111,109,101])]:List ByteArray) .full)] H fun _ H=>qe (W_ret ?_)
 cases hr
 exact qr [vL tS ([(bs [109,111,100,117,108,101]),(bs [111,119,110,101,114]),(bs [114,101,99,111,114,100]),(bs [115,104,97,114,101,100]),(bs [103,104,111,115,116]),(bs [108,111,99,107]),(bs [105,110,118,97,114,105,97,110,116]),(bs [114,101,108,121]),(bs [103,117,97,114,97,110,116,101,101]),(bs [102,114,97,109,101]),(bs [112,114,111,99]),(bs [108,111,99,107,101,100]),(bs [108,111,99,97,108]),(bs [97,115,115,101,114,116]),(bs [114,101,108,101,97,115,101]),(bs [119,105,116,104]),(bs [97,116,111,109,105,99]),(bs [119,104,101,110]),(bs [99,97,115]),(bs [105,110,116,111]),(bs [97,99,113,117,105,114,101]),(bs [102,114,101,101]),(bs [102,101,110,99,101]),(bs [115,112,97,119,110]),(bs [106,111,105,110]),(bs [97,119,97,105,116]),(bs [115,107,105,112]),(bs [105,102]),(bs [101,108,115,101]),(bs [119,104,105,108,101]),(bs [118,97,114,105,97,110,116]),(bs [99,97,108,108]),(bs [116,104,114,101,97,100]),(bs [97,115,108,101,101,112]),(bs [111,108,100]),(bs [97,108,108]),(bs [115,111,109,101])]:List ByteArray) .full] H K (hs:=fun _=>by simp only [strip,stripL_ET,Option.map_some,oneOf] <;> rfl)
def F206 (n:Nat) (a0:ByteArray):Option Bool :=
 (F232 ).bind fun x1 =>
 (iter (σ:=Int) (ρ:=Unit ⊕ Unit) (fun s2=>bif decide (s2 < (x1.length:Int)) then
   ((idxL x1 s2).bind fun x4 =>
   bif strEq x4 a0 then
    (some (.inr (.inl ())))
   else
    (some (.inl (w64 (s2 + 1)))))
  else
   (some (.inr (.inr ())))) n (0:Int)).bind fun r6=>match r6 with
 | .inl _=>some true
 | .inr _=>some false
theorem F206_R (n:Nat) (a0:ByteArray) (r:Bool) (hr:F206 n a0 = some r) {st:St}:R Tryz.prog AN 206 [vS a0] st (.ret (vB r)) st:=by
 unfold F206 at hr
 refine R_pureX [vS a0] [(0,vS a0)] Tryz.func206 rfl (by kernel_rfl) rfl fun fr st H K=>sr (qg 1 [] H fun _ H=>qe (sr ?_))
 refine qb hr (fun x h s=>F232_R  x h) H fun x1 hr fr H=>qg 1 [(3,vL tS x1 .shut)] H fun _ H=>qe (W_seq (W_seq (W_reg (qg 1 [(4,vI 0)] H fun _ H=>qe (W_block ?_)))))
 obtain ⟨r6,hr6,hr⟩:=obind hr
 refine W_iter hr6 (fun (s2:Int) fr st=>Rd fr [(0,vS a0),(3,vL tS x1 .shut),(4,vI s2)]∧HL st []) (fun (r6:Unit ⊕ Unit) e fr st=>match r6 with | .inl r6a=>(e = .ret∧Rd fr [(2,vB true)]∧HL st []) | .inr r6b=>(e = .exit 0∧Rd fr []∧HL st [])) ⟨H.tq,K.keep []⟩ ?_ ?_
 ·intro s2 fr st r hi hr
  obtain ⟨H,K⟩:=hi
  refine W_seq (W_seq (W_reg (qg 2 [(6,vI s2),(7,vL tS x1 .shut)] H fun _ H=>?_)))
  refine qln tS 30 x1 .shut H fun _ H=>qg 1 [(9,vB (decide (s2 < (x1.length:Int))))] H fun _ H=>qe ?_
  rcases csplit hr with ⟨c3,hr⟩|⟨c3,hr⟩
  rotate_left
  ·refine qF H c3 ?_
   refine W_exit ?_
   cases hr
   exact ⟨by simp,⟨rfl,H.tq,K.keep []⟩⟩
  refine qT H c3 (W_skip (W_seq (W_block (sr (qg 2 [(12,vL tS x1 .shut),(13,vI s2)] H fun _ H=>?_)))))
  refine qix tS 30 .shut hr H fun x4 hr hx4 fr H=>qg 3 [(17,vB (strEq x4 a0))] H fun _ H=>qe ?_
  rcases csplit hr with ⟨c5,hr⟩|⟨c5,hr⟩
  ·refine qT H c5 (sr (qg 1 [(2,vB true)] H fun _ H=>qe (W_ret ?_)))
   cases hr
   exact ⟨by simp,⟨rfl,H.tq,K.keep []⟩⟩
  refine qF H c5 (W_skip (W_reg (qg 3 [(4,vI (w64 (s2 + 1)))] H fun _ H=>qe ?_)))
  cases hr
  exact ⟨rfl,⟨H.tq,K.keep []⟩⟩
 rcases r6 with r6a | r6b
 ·rintro e fr st ⟨rfl,H,K⟩
  cases hr
  exact qr [vB true] H K
 rintro e fr st ⟨rfl,H,K⟩
 refine sr (qg 1 [(2,vB false)] H fun _ H=>qe (W_ret ?_))
 cases hr
 exact qr [vB false] H K
def F174 (n:Nat) (a0:ByteArray):Option Bool :=
 (iter (σ:=Int) (ρ:=Unit ⊕ Unit) (fun s1=>bif decide (s1 < (a0.size:Int)) then
   ((idxS a0 s1).bind fun x3 =>
   bif (!(((decide (65≤x3)) && (decide (x3≤90))) || ((decide (97≤x3)) && (decide (x3≤122))))) && ((s1 == 0) || (bif decide (x3 < 48) then (x3 != 95) else ((decide (57 < x3)) && (x3 != 95)))) then
    (some (.inr (.inl ())))
   else
    (some (.inl (w64 (s1 + 1)))))
  else
   (some (.inr (.inr ())))) n (0:Int)).bind fun r11=>match r11 with
 | .inl _=>some false
 | .inr _=>bif (decide (1≤(a0.size:Int))) && (decide ((a0.size:Int)≤16)) then
   ((F206 n a0).bind fun x13 =>
   some !x13)
  else
   (some false)
theorem F174_R (n:Nat) (a0:ByteArray) (r:Bool) (hr:F174 n a0 = some r) {st:St}:R Tryz.prog AN 174 [vS a0] st (.ret (vB r)) st:=by
 unfold F174 at hr
 refine R_pureX [vS a0] [(0,vS a0)] Tryz.func174 rfl (by kernel_rfl) rfl fun fr st H K=>sr (qg 1 [] H fun _ H=>qe (W_seq (W_seq (W_reg (qg 1 [(3,vI 0)] H fun _ H=>qe (W_block ?_))))))
 obtain ⟨r11,hr11,hr⟩:=obind hr
 refine W_iter hr11 (fun (s1:Int) fr st=>Rd fr [(0,vS a0),(3,vI s1)]∧HL st []) (fun (r11:Unit ⊕ Unit) e fr st=>match r11 with | .inl r11a=>(e = .ret∧Rd fr [(2,vB false)]∧HL st []) | .inr r11b=>(e = .exit 0∧Rd fr [(0,vS a0)]∧HL st [])) ⟨H.tq,K.keep []⟩ ?_ ?_
 ·intro s1 fr st r hi hr
  obtain ⟨H,K⟩:=hi
  refine W_seq (W_seq (W_reg (qg 4 [(9,vB (decide (s1 < (a0.size:Int))))] H fun _ H=>qe ?_)))
  rcases csplit hr with ⟨c2,hr⟩|⟨c2,hr⟩
  rotate_left
  ·refine qF H c2 ?_
   refine W_exit ?_
   cases hr
   exact ⟨by simp,⟨rfl,H.tq,K.keep []⟩⟩
  refine qT H c2 (W_skip (W_seq (W_block (sr (qg 2 [(12,vS a0),(13,vI s1)] H fun _ H=>?_)))))
  obtain ⟨x3,hx3,hr⟩:=obind hr
  refine qv (.index 9 (vS a0) (vI s1)) H (run_idxS (by kernel_rfl) hx3) fun _ H=>qg 1 [(4,vU x3)] H fun _ H=>qe (sr (qg 3 [(17,vB (decide (65≤x3)))] H fun _ H=>qg 3 [(20,vB ((decide (65≤x3)) && (decide (x3≤90))))] H (hs:=by intro _ _; generalize (decide (65≤x3)) = b0; cases b0 <;> kernel_rfl) fun _ H=>qg 1 [(21,vB ((decide (65≤x3)) && (decide (x3≤90))))] H fun _ H=>?_))
  refine qseg 7 [(28,vB (((decide (65≤x3)) && (decide (x3≤90))) || ((decide (97≤x3)) && (decide (x3≤122)))))] H ?_ ?_
  ·cases hg4:((decide (65≤x3)) && (decide (x3≤90)))
   ·rw [hg4] at H
    refine seg_go 4 3 [(24,vB (decide (97≤x3)))] H fun _ H=>?_
    cases hg5:(decide (97≤x3))
    ·rw [hg5] at H
     refine seg_go 0 4 [(28,vB false)] H fun _ H=>?_
     exact seg_end (by (try simp only [hg4,hg5]); exact H.tq)
    ·rw [hg5] at H
     refine seg_go 0 4 [(28,vB (decide (x3≤122)))] H fun _ H=>?_
     exact seg_end (by (try simp only [hg4,hg5]); exact H.tq)
   ·rw [hg4] at H
    refine seg_go 0 7 [(28,vB true)] H fun _ H=>?_
    exact seg_end (by (try simp only [hg4]); exact H.tq)
  intro fr H
  refine qg 1 [(5,vB (((decide (65≤x3)) && (decide (x3≤90))) || ((decide (97≤x3)) && (decide (x3≤122)))))] H fun _ H=>qe (sr (qg 3 [(31,vB (!(((decide (65≤x3)) && (decide (x3≤90))) || ((decide (97≤x3)) && (decide (x3≤122))))))] H fun _ H=>?_))
  refine qseg 15 [(46,vB ((!(((decide (65≤x3)) && (decide (x3≤90))) || ((decide (97≤x3)) && (decide (x3≤122))))) && ((s1 == 0) || (bif decide (x3 < 48) then (x3 != 95) else ((decide (57 < x3)) && (x3 != 95))))))] H ?_ ?_
  ·cases hg6:(!(((decide (65≤x3)) && (decide (x3≤90))) || ((decide (97≤x3)) && (decide (x3≤122)))))
   ·rw [hg6] at H
    refine seg_go 0 15 [(46,vB false)] H fun _ H=>?_
    exact seg_end (by (try simp only [hg6]); exact H.tq)
   ·rw [hg6] at H
    refine seg_go 12 3 [(34,vB (s1 == 0))] H fun _ H=>?_
    cases hg7:(s1 == 0)
    ·rw [hg7] at H
     refine seg_go 9 3 [(37,vB (decide (x3 < 48)))] H fun _ H=>?_
     cases hg8:(decide (x3 < 48))
     ·rw [hg8] at H
      refine seg_go 5 4 [(41,vB (decide (57 < x3)))] H fun _ H=>?_
      cases hg9:(decide (57 < x3))
      ·rw [hg9] at H
       refine seg_go 0 5 [(46,vB false)] H fun _ H=>?_
       exact seg_end (by (try simp only [hg6,hg7,hg8,hg9]); exact H.tq)
      ·rw [hg9] at H
       refine seg_go 0 5 [(46,vB (x3 != 95))] H fun _ H=>?_
       exact seg_end (by (try simp only [hg6,hg7,hg8,hg9]); exact H.tq)
     ·rw [hg8] at H
      refine seg_go 0 9 [(46,vB (x3 != 95))] H fun _ H=>?_
      exact seg_end (by (try simp only [hg6,hg7,hg8]); exact H.tq)
    ·rw [hg7] at H
     refine seg_go 0 12 [(46,vB true)] H fun _ H=>?_
     exact seg_end (by (try simp only [hg6,hg7]); exact H.tq)
  intro fr H
  refine qe ?_
  rcases csplit hr with ⟨c10,hr⟩|⟨c10,hr⟩
  ·refine qT H c10 (sr (qg 1 [(2,vB false)] H fun _ H=>qe (W_ret ?_)))
   cases hr
   exact ⟨by simp,⟨rfl,H.tq,K.keep []⟩⟩
  refine qF H c10 (W_skip (W_reg (qg 3 [(3,vI (w64 (s1 + 1)))] H fun _ H=>qe ?_)))
  cases hr
  exact ⟨rfl,⟨H.tq,K.keep []⟩⟩
 rcases r11 with r11a | r11b
 ·rintro e fr st ⟨rfl,H,K⟩
  cases hr
  exact qr [vB false] H K
 rintro e fr st ⟨rfl,H,K⟩
 refine sr (qg 4 [(50,vB (decide (1≤(a0.size:Int))))] H fun _ H=>qg 4 [(54,vB ((decide (1≤(a0.size:Int))) && (decide ((a0.size:Int)≤16))))] H (hs:=by intro _ _; generalize (decide (1≤(a0.size:Int))) = b0; cases b0 <;> kernel_rfl) fun _ H=>qg 1 [(55,vB ((decide (1≤(a0.size:Int))) && (decide ((a0.size:Int)≤16))))] H fun _ H=>?_)
 rcases csplit hr with ⟨c12,hr⟩|⟨c12,hr⟩
 rotate_left
 ·rw [c12] at H
  refine qg 5 [(2,vB false)] H fun _ H=>qe (W_ret ?_)
  cases hr
  exact qr [vB false] H K
 rw [c12] at H
 refine qg 1 [(56,vS a0)] H fun _ H=>?_
 refine qb hr (fun x h s=>F206_R n _ x h) H fun x13 hr fr H=>qg 3 [(2,vB !x13)] H fun _ H=>qe (W_ret ?_)
 cases hr
 exact qr [vB !x13] H K
def F205 (n:Nat) (a0:ByteArray):Option Bool :=
 (iter (σ:=Int × Int × Int) (ρ:=Unit ⊕ (Int × Int)) (fun s1=>bif decide (s1.2.2 < (a0.size:Int)) then
   ((idxS a0 s1.2.2).bind fun x3 =>
   bif x3 != 46 then
    (some (.inl (s1.1,s1.2.1,w64 (s1.2.2 + 1))))
   else
    ((subS a0 s1.2.1 s1.2.2).bind fun x5 =>
    (F174 n x5).bind fun x6 =>
    bif !x6 then
     (some (.inr (.inl ())))
    else
     (some (.inl (w64 (s1.1 + 1),w64 (s1.2.2 + 1),w64 (s1.2.2 + 1))))))
  else
   (some (.inr (.inr (s1.1,s1.2.1))))) n ((1:Int),(0:Int),(0:Int))).bind fun r8=>match r8 with
 | .inl _=>some false
 | .inr r8b=>bif decide (r8b.1≤3) then
   ((subS a0 r8b.2 (a0.size:Int)).bind fun x10 =>
   (F174 n x10).bind fun x11 =>
   some x11)
  else
   (some false)
theorem F205_R (n:Nat) (a0:ByteArray) (r:Bool) (hr:F205 n a0 = some r) {st:St}:R Tryz.prog AN 205 [vS a0] st (.ret (vB r)) st:=by
 unfold F205 at hr
 refine R_pureX [vS a0] [(0,vS a0)] Tryz.func205 rfl (by kernel_rfl) rfl fun fr st H K=>sr (qg 1 [] H fun _ H=>qe (sr (qg 1 [(3,vI 1)] H fun _ H=>qe (sr (qg 1 [(4,vI 0)] H fun _ H=>qe (W_seq (W_seq (W_reg (qg 1 [(5,vI 0)] H fun _ H=>qe (W_block ?_))))))))))
 obtain ⟨r8,hr8,hr⟩:=obind hr
 refine W_iter hr8 (fun (s1:Int × Int × Int) fr st=>Rd fr [(0,vS a0),(3,vI s1.1),(4,vI s1.2.1),(5,vI s1.2.2)]∧HL st []) (fun (r8:Unit ⊕ (Int × Int)) e fr st=>match r8 with | .inl r8a=>(e = .ret∧Rd fr [(2,vB false)]∧HL st []) | .inr r8b=>(e = .exit 0∧Rd fr [(0,vS a0),(3,vI r8b.1),(4,vI r8b.2)]∧HL st [])) ⟨H.tq,K.keep []⟩ ?_ ?_
 ·intro s1 fr st r hi hr
  obtain ⟨H,K⟩:=hi
  refine W_seq (W_seq (W_reg (qg 4 [(9,vB (decide (s1.2.2 < (a0.size:Int))))] H fun _ H=>qe ?_)))
  rcases csplit hr with ⟨c2,hr⟩|⟨c2,hr⟩
  rotate_left
  ·refine qF H c2 ?_
   refine W_exit ?_
   cases hr
   exact ⟨by simp,⟨rfl,H.tq,K.keep []⟩⟩
  refine qT H c2 (W_skip (W_seq (W_block (W_seq (W_seq (W_reg (qg 2 [(12,vS a0),(13,vI s1.2.2)] H fun _ H=>?_)))))))
  obtain ⟨x3,hx3,hr⟩:=obind hr
  refine qv (.index 9 (vS a0) (vI s1.2.2)) H (run_idxS (by kernel_rfl) hx3) fun _ H=>qg 1 [(15,vB (x3 != 46))] H fun _ H=>qe ?_
  rcases csplit hr with ⟨c4,hr⟩|⟨c4,hr⟩
  ·refine qT H c4 ?_
   refine W_exit (W_reg (qg 3 [(5,vI (w64 (s1.2.2 + 1)))] H fun _ H=>qe ?_))
   cases hr
   exact ⟨rfl,⟨H.tq,K.keep []⟩⟩
  refine qF H c4 (W_skip (W_seq (W_seq (W_reg (qg 3 [(16,vS a0),(17,vI s1.2.1),(18,vI s1.2.2)] H fun _ H=>?_)))))
  obtain ⟨x5,hx5,hr⟩:=obind hr
  refine qv (.slice 9 (vS a0) (some (vI s1.2.1)) (some (vI s1.2.2))) H (run_subS (by kernel_rfl) hx5) fun _ H=>?_
  refine qb hr (fun x h s=>F174_R n _ x h) H fun x6 hr fr H=>qg 1 [(21,vB !x6)] H fun _ H=>qe ?_
  rcases csplit hr with ⟨c7,hr⟩|⟨c7,hr⟩
  ·refine qT H c7 (sr (qg 1 [(2,vB false)] H fun _ H=>qe (W_ret ?_)))
   cases hr
   exact ⟨by simp,⟨rfl,H.tq,K.keep []⟩⟩
  refine qF H c7 (W_skip (sr (qg 3 [(3,vI (w64 (s1.1 + 1)))] H fun _ H=>qe (W_reg (qg 3 [(4,vI (w64 (s1.2.2 + 1)))] H fun _ H=>qe (W_reg (qg 3 [(5,vI (w64 (s1.2.2 + 1)))] H fun _ H=>qe ?_)))))))
  cases hr
  exact ⟨rfl,⟨H.tq,K.keep []⟩⟩
 rcases r8 with r8a | r8b
 ·rintro e fr st ⟨rfl,H,K⟩
  cases hr
  exact qr [vB false] H K
 rintro e fr st ⟨rfl,H,K⟩
 refine sr (qg 3 [(28,vB (decide (r8b.1≤3)))] H fun _ H=>?_)
 rcases csplit hr with ⟨c9,hr⟩|⟨c9,hr⟩
 rotate_left
 ·rw [c9] at H
  refine qg 6 [(2,vB false)] H fun _ H=>qe (W_ret ?_)
  cases hr
  exact qr [vB false] H K
 rw [c9] at H
 refine qg 2 [(29,vS a0),(30,vI r8b.2)] H fun _ H=>?_
 obtain ⟨x10,hx10,hr⟩:=obind hr
 refine qv (.slice 9 (vS a0) (some (vI r8b.2)) none) H (run_subS_lo (by kernel_rfl) hx10) fun _ H=>?_
 refine qb hr (fun x h s=>F174_R n _ x h) H fun x11 hr fr H=>qg 2 [(2,vB x11)] H fun _ H=>qe (W_ret ?_)
 obtain rfl:=Option.some.inj hr
 exact qr [vB x11] H K
def F230 (n:Nat) (a0:Node):Option Bool :=
 bif a0.kind == 63 then
  ((F104 n a0 (bs [])).bind fun x2 =>
  bif x2 then
   (some ((a0.kids.length:Int) == 0))
  else
   (some false))
 else
  (some false)
theorem F230_R (n:Nat) (a0:Node) (r:Bool) (hr:F230 n a0 = some r) {st:St} {p0:Spare}:R Tryz.prog AN 230 [.agg (cNode p0 a0)] st (.ret (vB r)) st:=by
 unfold F230 at hr
 refine R_pureX [aN a0] [(0,aN a0)] Tryz.func230 rfl (by simp only [strip,stripL,stripL_cNode,Option.bind_some,Option.map_some]) rfl fun fr st H K=>sr (qg 2 [(1,cN a0 0)] H fun _ H=>qe (sr (qg 4 [(6,vB (a0.kind == 63))] H fun _ H=>?_)))
 rcases csplit hr with ⟨c1,hr⟩|⟨c1,hr⟩
 rotate_left
 ·rw [c1] at H
  refine qg 10 [(2,vB false)] H fun _ H=>qe (W_ret ?_)
  cases hr
  exact qr [vB false] H K
 rw [c1] at H
 refine qg 1 [(7,aN a0)] H fun _ H=>?_
 refine qb hr (fun x h s=>F104_R n _ _ x h (p0:=.shut)) H fun x2 hr fr H=>qg 2 [(10,vB x2)] H fun _ H=>?_
 rcases csplit hr with ⟨c3,hr⟩|⟨c3,hr⟩
 rotate_left
 ·rw [c3] at H
  refine qg 6 [(2,vB false)] H fun _ H=>qe (W_ret ?_)
  cases hr
  exact qr [vB false] H K
 rw [c3] at H
 refine qg 2 [(12,vL tNode a0.kids .shut)] H fun _ H=>?_
 refine qln tNode 22 a0.kids .shut H fun _ H=>qg 3 [(2,vB ((a0.kids.length:Int) == 0))] H fun _ H=>qe (W_ret ?_)
 cases hr
 exact qr [vB ((a0.kids.length:Int) == 0)] H K
end Go.Proofs.YtbecjgckobhmpaaGreatDoor
end
