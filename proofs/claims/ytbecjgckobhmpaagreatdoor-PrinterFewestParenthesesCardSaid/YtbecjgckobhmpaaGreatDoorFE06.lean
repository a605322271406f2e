/-
  Proved here: a part of what the claim needs (texts YBE2 of the prover's own).
-/
import Derived.Test.YtbecjgckobhmpaaGreatDoorFE05
namespace Go.Proofs.YtbecjgckobhmpaaGreatDoor
open Go Go.AM Go.Proofs
set_option maxRecDepth 100000
set_option maxHeartbeats 4000000
def F204_step (_:Node→Option Bool) (_:Node→Option Bool) (_:Node→Int→Option Bool) (_:Node→Option Bool) (_:Node→Option Bool) (_:Node→Option Bool) (_:Node→Option Bool) (_:Int→Node→Option Bool) (F105:Node→Int→Option Bool) (n:Nat) (a0:Node):Option Bool :=
 bif a0.kind == 60 then
  ((F104 n a0 (bs [110,111])).bind fun x2 =>
  bif x2 then
   ((F174 n a0.name).bind fun x4 =>
   bif x4 then
    ((F174 n a0.other).bind fun x6 =>
    bif x6 then
     ((F105 a0 (4:Int)).bind fun x8 =>
     some x8)
    else
     (some false))
   else
    (some false))
  else
   (some false))
 else
  (bif a0.kind == 61 then
   ((F104 n a0 (bs [110,111,35])).bind fun x10 =>
   bif x10 && (decide (a0.n≤1)) then
    ((F174 n a0.name).bind fun x12 =>
    bif x12 then
     ((F205 n a0.other).bind fun x14 =>
     bif x14 then
      ((F105 a0 (6:Int)).bind fun x16 =>
      some x16)
     else
      (some false))
    else
     (some false))
   else
    (some false))
  else
   (some false))
def F203_step (_:Node→Option Bool) (_:Node→Option Bool) (_:Node→Int→Option Bool) (F231:Node→Option Bool) (_:Node→Option Bool) (_:Node→Option Bool) (_:Node→Option Bool) (_:Int→Node→Option Bool) (F105:Node→Int→Option Bool) (n:Nat) (a0:Node):Option Bool :=
 bif a0.kind == 51 then
  ((F104 n a0 (bs [110])).bind fun x2 =>
  bif x2 then
   ((F174 n a0.name).bind fun x4 =>
   bif x4 then
    ((F105 a0 (2:Int)).bind fun x6 =>
    some x6)
   else
    (some false))
  else
   (some false))
 else
  (bif a0.kind == 50 then
   ((F104 n a0 (bs [110,111,35,108,105,103])).bind fun x8 =>
   bif x8 then
    ((F174 n a0.name).bind fun x10 =>
    bif x10 then
     (bif strEq a0.other (bs []) then
      (some ((a0.kids.length:Int) == 0))
     else
      (bif a0.n == 0 then
       ((F174 n a0.other).bind fun x14 =>
       some (x14 && ((a0.kids.length:Int) == 0)))
      else
       (some false)))
    else
     (some false))
   else
    (some false))
  else
   (bif a0.kind == 53 then
    ((F104 n a0 (bs [110])).bind fun x16 =>
    bif x16 then
     ((F174 n a0.name).bind fun x18 =>
     bif x18 && ((a0.kids.length:Int) == 1) then
      ((F105 a0 (0:Int)).bind fun x20 =>
      some x20)
     else
      (some false))
    else
     (some false))
   else
    ((bif a0.kind == 54 then
      (some (a0.kind == 54))
     else
      (some (a0.kind == 55)):Option (Bool)).bind fun j22 =>
    bif j22 then
     ((F104 n a0 (bs [])).bind fun x24 =>
     bif x24 && ((a0.kids.length:Int) == 1) then
      ((F105 a0 (0:Int)).bind fun x26 =>
      some x26)
     else
      (some false))
    else
     (bif a0.kind == 56 then
      ((F104 n a0 (bs [])).bind fun x28 =>
      bif x28 && (decide (1≤(a0.kids.length:Int))) then
       ((F105 a0 (7:Int)).bind fun x30 =>
       some x30)
      else
       (some false))
     else
      (bif a0.kind == 57 then
       ((bif (a0.kids.length:Int) == 0 then
         (some (.inl ()))
        else
         ((F104 n a0 (bs [110,111])).bind fun x33 =>
         bif !x33 then
          (some (.inl ()))
         else
          ((F174 n a0.name).bind fun x35 =>
          bif !x35 then
           (some (.inl ()))
          else
           (bif !(strEq a0.other (bs [])) then
            ((F174 n a0.other).bind fun x38 =>
            bif !x38 then
             (some (.inl ()))
            else
             ((idxL a0.kids (w64 ((a0.kids.length:Int) - 1))).bind fun x40 =>
             (F231 x40).bind fun x41 =>
             bif !x41 then
              (some (.inl ()))
             else
              (some (.inr ()))))
           else
            ((idxL a0.kids (w64 ((a0.kids.length:Int) - 1))).bind fun x42 =>
            (F231 x42).bind fun x43 =>
            bif !x43 then
             (some (.inl ()))
            else
             (some (.inr ())))))):Option (Unit ⊕ Unit)).bind fun j46=>match j46 with
       | .inl _=>some false
       | .inr _=>(subL a0.kids 0 (w64 ((a0.kids.length:Int) - 1))).bind fun x47 =>
        (F105 (Node.mk 0 (bs []) (bs []) 0 0 0 false x47 0) (3:Int)).bind fun x48 =>
        some x48)
      else
       (some false))))))
def F229_step (_:Node→Option Bool) (_:Node→Option Bool) (_:Node→Int→Option Bool) (_:Node→Option Bool) (_:Node→Option Bool) (F173:Node→Option Bool) (F106:Node→Option Bool) (_:Int→Node→Option Bool) (_:Node→Int→Option Bool) (n:Nat) (a0:Node) (a1:Int):Option Bool :=
 (iter (σ:=Int) (ρ:=Unit ⊕ Unit) (fun s1=>bif decide (s1 < (a0.kids.length:Int)) then
   (bif (Int.tmod (w64 (s1 - a1)) 2) == 0 then
    ((idxL a0.kids s1).bind fun x4 =>
    (F173 x4).bind fun x5 =>
    bif !x5 then
     (some (.inr (.inl ())))
    else
     (bif (Int.tmod (w64 (s1 - a1)) 2) == 1 then
      ((idxL a0.kids s1).bind fun x8 =>
      (F106 x8).bind fun x9 =>
      bif !x9 then
       (some (.inr (.inl ())))
      else
       (some (.inl (w64 (s1 + 1)))))
     else
      (some (.inl (w64 (s1 + 1))))))
   else
    (bif (Int.tmod (w64 (s1 - a1)) 2) == 1 then
     ((idxL a0.kids s1).bind fun x11 =>
     (F106 x11).bind fun x12 =>
     bif !x12 then
      (some (.inr (.inl ())))
     else
      (some (.inl (w64 (s1 + 1)))))
    else
     (some (.inl (w64 (s1 + 1))))))
  else
   (some (.inr (.inr ())))) n a1).bind fun r15=>match r15 with
 | .inl _=>some false
 | .inr _=>some ((Int.tmod (w64 ((a0.kids.length:Int) - a1)) 2) == 0)
def F231_step (_:Node→Option Bool) (_:Node→Option Bool) (_:Node→Int→Option Bool) (_:Node→Option Bool) (_:Node→Option Bool) (_:Node→Option Bool) (_:Node→Option Bool) (_:Int→Node→Option Bool) (F105:Node→Int→Option Bool) (n:Nat) (a0:Node):Option Bool :=
 bif a0.kind == 34 then
  ((F104 n a0 (bs [])).bind fun x2 =>
  bif x2 then
   ((F105 a0 (1:Int)).bind fun x4 =>
   some x4)
  else
   (some false))
 else
  (some false)
def F202_step (_:Node→Option Bool) (_:Node→Option Bool) (F229:Node→Int→Option Bool) (F231:Node→Option Bool) (_:Node→Option Bool) (F173:Node→Option Bool) (F106:Node→Option Bool) (_:Int→Node→Option Bool) (F105:Node→Int→Option Bool) (n:Nat) (a0:Node):Option Bool :=
 (bif a0.kind == 20 then
   (some (a0.kind == 20))
  else
   (some (a0.kind == 29)):Option (Bool)).bind fun j2 =>
 bif j2 then
  ((F104 n a0 (bs [])).bind fun x4 =>
  bif x4 && ((a0.kids.length:Int) == 1) then
   ((F105 a0 (0:Int)).bind fun x6 =>
   some x6)
  else
   (some false))
 else
  ((bif a0.kind == 26 then
    (some (a0.kind == 26))
   else
    (some (a0.kind == 30)):Option (Bool)).bind fun j8 =>
  bif j8 then
   ((F104 n a0 (bs [])).bind fun x10 =>
   some (x10 && ((a0.kids.length:Int) == 0)))
  else
   (bif a0.kind == 21 then
    ((F104 n a0 (bs [35])).bind fun x12 =>
    bif (x12 && (decide (a0.n≤1))) && (decide (2≤(a0.kids.length:Int))) then
     ((F229 a0 (0:Int)).bind fun x14 =>
     some x14)
    else
     (some false))
   else
    (bif a0.kind == 22 then
     ((F104 n a0 (bs [])).bind fun x16 =>
     bif x16 && (decide (1≤(a0.kids.length:Int))) then
      ((idxL a0.kids 0).bind fun x18 =>
      (F230 n x18).bind fun x19 =>
      bif x19 then
       ((F229 a0 (1:Int)).bind fun x21 =>
       some x21)
      else
       ((idxL a0.kids 0).bind fun x22 =>
       (F106 x22).bind fun x23 =>
       bif x23 then
        ((F229 a0 (1:Int)).bind fun x25 =>
        some x25)
       else
        (some false)))
     else
      (some false))
    else
     (bif a0.kind == 23 then
      ((F104 n a0 (bs [])).bind fun x27 =>
      bif x27 && (decide (4≤(a0.kids.length:Int))) then
       ((idxL a0.kids 0).bind fun x29 =>
       (F173 x29).bind fun x30 =>
       bif x30 then
        ((idxL a0.kids 1).bind fun x32 =>
        (F106 x32).bind fun x33 =>
        bif x33 then
         ((idxL a0.kids 2).bind fun x35 =>
         (F106 x35).bind fun x36 =>
         bif x36 then
          ((idxL a0.kids 3).bind fun x38 =>
          (F173 x38).bind fun x39 =>
          bif x39 then
           ((F229 a0 (4:Int)).bind fun x41 =>
           some x41)
          else
           (some false))
         else
          (some false))
        else
         (some false))
       else
        (some false))
      else
       (some false))
     else
      ((bif a0.kind == 24 then
        (some (a0.kind == 24))
       else
        (some (a0.kind == 25)):Option (Bool)).bind fun j43 =>
      bif j43 then
       ((F104 n a0 (bs [110])).bind fun x45 =>
       bif x45 then
        ((F205 n a0.name).bind fun x47 =>
        some (x47 && ((a0.kids.length:Int) == 0)))
       else
        (some false))
      else
       ((bif a0.kind == 27 then
         (some (a0.kind == 27))
        else
         (some (a0.kind == 28)):Option (Bool)).bind fun j49 =>
       bif j49 then
        ((F104 n a0 (bs [110])).bind fun x51 =>
        bif x51 then
         ((F174 n a0.name).bind fun x53 =>
         some (x53 && ((a0.kids.length:Int) == 0)))
        else
         (some false))
       else
        (bif a0.kind == 31 then
         ((F104 n a0 (bs [])).bind fun x55 =>
         bif x55 && ((a0.kids.length:Int) == 3) then
          ((idxL a0.kids 0).bind fun x57 =>
          (F106 x57).bind fun x58 =>
          bif x58 then
           ((idxL a0.kids 1).bind fun x60 =>
           (F231 x60).bind fun x61 =>
           bif x61 then
            ((idxL a0.kids 2).bind fun x63 =>
            (F231 x63).bind fun x64 =>
            some x64)
           else
            (some false))
          else
           (some false))
         else
          (some false))
        else
         (bif a0.kind == 32 then
          ((F104 n a0 (bs [])).bind fun x66 =>
          bif x66 && ((a0.kids.length:Int) == 3) then
           ((idxL a0.kids 0).bind fun x68 =>
           (F106 x68).bind fun x69 =>
           bif x69 then
            ((idxL a0.kids 1).bind fun x71 =>
            (F230 n x71).bind fun x72 =>
            bif x72 then
             ((idxL a0.kids 2).bind fun x74 =>
             (F231 x74).bind fun x75 =>
             some x75)
            else
             ((idxL a0.kids 1).bind fun x76 =>
             (F106 x76).bind fun x77 =>
             bif x77 then
              ((idxL a0.kids 2).bind fun x79 =>
              (F231 x79).bind fun x80 =>
              some x80)
             else
              (some false)))
           else
            (some false))
          else
           (some false))
         else
          (bif a0.kind == 33 then
           ((F104 n a0 (bs [110])).bind fun x82 =>
           bif x82 then
            ((F205 n a0.name).bind fun x84 =>
            bif x84 then
             ((F105 a0 (0:Int)).bind fun x86 =>
             some x86)
            else
             (some false))
           else
            (some false))
          else
           (bif a0.kind == 35 then
            ((F104 n a0 (bs [110,35,103])).bind fun x88 =>
            bif x88 then
             ((F174 n a0.name).bind fun x90 =>
             some (x90 && ((a0.kids.length:Int) == 0)))
            else
             (some false))
           else
            (some false)))))))))))
def F173_step (_:Node→Option Bool) (_:Node→Option Bool) (_:Node→Int→Option Bool) (_:Node→Option Bool) (_:Node→Option Bool) (_:Node→Option Bool) (_:Node→Option Bool) (_:Int→Node→Option Bool) (F105:Node→Int→Option Bool) (n:Nat) (a0:Node):Option Bool :=
 bif a0.kind == 2 then
  ((F104 n a0 (bs [110])).bind fun x2 =>
  bif x2 then
   ((F205 n a0.name).bind fun x4 =>
   bif x4 then
    (bif decide ((a0.kids.length:Int)≤1) then
     ((F105 a0 (0:Int)).bind fun x7 =>
     some x7)
    else
     (some false))
   else
    (some false))
  else
   (some false))
 else
  (some false)
def F106_step (_:Node→Option Bool) (_:Node→Option Bool) (_:Node→Int→Option Bool) (_:Node→Option Bool) (_:Node→Option Bool) (F173:Node→Option Bool) (_:Node→Option Bool) (_:Int→Node→Option Bool) (F105:Node→Int→Option Bool) (n:Nat) (a0:Node):Option Bool :=
 bif a0.kind == 1 then
  ((F104 n a0 (bs [35])).bind fun x2 =>
  some (x2 && ((a0.kids.length:Int) == 0)))
 else
  (bif a0.kind == 2 then
   ((F173 a0).bind fun x4 =>
   some x4)
  else
   (bif a0.kind == 3 then
    ((F104 n a0 (bs [])).bind fun x6 =>
    bif x6 && ((a0.kids.length:Int) == 1) then
     ((idxL a0.kids 0).bind fun x8 =>
     (F173 x8).bind fun x9 =>
     some x9)
    else
     (some false))
   else
    (bif a0.kind == 4 then
     ((F104 n a0 (bs [])).bind fun x11 =>
     bif x11 && ((a0.kids.length:Int) == 1) then
      ((F105 a0 (0:Int)).bind fun x13 =>
      some x13)
     else
      (some false))
    else
     (bif a0.kind == 5 then
      ((F73 ).bind fun x15 =>
      (iter (σ:=Bool × Int) (ρ:=Bool) (fun s16=>bif decide (s16.2 < (x15.length:Int)) then
        ((iter (σ:=Bool × Int) (ρ:=Bool) (fun s18=>(idxL x15 s16.2).bind fun x19 =>
         bif decide (s18.2 < (x19.length:Int)) then
          (bif s18.1 then
           (some (.inl (true,w64 (s18.2 + 1))))
          else
           ((idxL x15 s16.2).bind fun x22 =>
           (idxL x22 s18.2).bind fun x23 =>
           some (.inl ((strEq x23 a0.name),w64 (s18.2 + 1)))))
         else
          (some (.inr s18.1))) n (s16.1,(0:Int))).bind fun r24 =>
        some (.inl (r24,w64 (s16.2 + 1))))
       else
        (some (.inr s16.1))) n ((strEq a0.name (bs [61,61,62])),(0:Int))).bind fun r25 =>
      bif r25 then
       ((F104 n a0 (bs [110])).bind fun x27 =>
       bif x27 && ((a0.kids.length:Int) == 2) then
        ((F105 a0 (0:Int)).bind fun x29 =>
        some x29)
       else
        (some false))
      else
       (some false))
     else
      (bif a0.kind == 6 then
       ((F104 n a0 (bs [])).bind fun x31 =>
       bif x31 && ((a0.kids.length:Int) == 3) then
        ((F105 a0 (0:Int)).bind fun x33 =>
        some x33)
       else
        (some false))
      else
       ((bif a0.kind == 7 then
         (some (a0.kind == 7))
        else
         (some (a0.kind == 8)):Option (Bool)).bind fun j35 =>
       bif j35 then
        ((F104 n a0 (bs [110,35])).bind fun x37 =>
        bif x37 then
         ((F174 n a0.name).bind fun x39 =>
         bif x39 && ((a0.kids.length:Int) == 1) then
          ((F105 a0 (0:Int)).bind fun x41 =>
          some x41)
         else
          (some false))
        else
         (some false))
       else
        (some false)))))))
def F172_step (F204:Node→Option Bool) (F203:Node→Option Bool) (_:Node→Int→Option Bool) (_:Node→Option Bool) (F202:Node→Option Bool) (F173:Node→Option Bool) (F106:Node→Option Bool) (_:Int→Node→Option Bool) (_:Node→Int→Option Bool) (n:Nat) (a0:Int) (a1:Node):Option Bool :=
 bif a0 == 1 then
  ((F202 a1).bind fun x2 =>
  some x2)
 else
  (bif a0 == 2 then
   (bif a1.kind == 52 then
    ((F104 n a1 (bs [110,35])).bind fun x5 =>
    bif x5 then
     ((F174 n a1.name).bind fun x7 =>
     bif x7 then
      (some ((a1.kids.length:Int) == 0))
     else
      (some false))
    else
     (some false))
   else
    (some false))
  else
   (bif a0 == 3 then
    (bif a1.kind == 58 then
     ((F104 n a1 (bs [110,35])).bind fun x11 =>
     bif x11 then
      ((F174 n a1.name).bind fun x13 =>
      bif x13 then
       (some ((a1.kids.length:Int) == 0))
      else
       (some false))
     else
      (some false))
    else
     (some false))
   else
    (bif a0 == 4 then
     ((F203 a1).bind fun x16 =>
     some x16)
    else
     (bif a0 == 5 then
      ((F204 a1).bind fun x18 =>
      some x18)
     else
      (bif a0 == 6 then
       (bif a1.kind == 1 then
        ((F106 a1).bind fun x21 =>
        some x21)
       else
        (some false))
      else
       (bif a0 == 7 then
        ((F173 a1).bind fun x23 =>
        bif x23 then
         (some ((a1.kids.length:Int) == 0))
        else
         (some false))
       else
        ((F106 a1).bind fun x25 =>
        some x25)))))))
def F105_step (_:Node→Option Bool) (_:Node→Option Bool) (_:Node→Int→Option Bool) (_:Node→Option Bool) (_:Node→Option Bool) (_:Node→Option Bool) (_:Node→Option Bool) (F172:Int→Node→Option Bool) (_:Node→Int→Option Bool) (n:Nat) (a0:Node) (a1:Int):Option Bool :=
 (iter (σ:=Int) (ρ:=Unit ⊕ Unit) (fun s1=>bif decide (s1 < (a0.kids.length:Int)) then
   ((idxL a0.kids s1).bind fun x3 =>
   (F172 a1 x3).bind fun x4 =>
   bif !x4 then
    (some (.inr (.inl ())))
   else
    (some (.inl (w64 (s1 + 1)))))
  else
   (some (.inr (.inr ())))) n (0:Int)).bind fun r6=>match r6 with
 | .inl _=>some false
 | .inr _=>some true
mutual
def F204:Nat→Node→Option Bool
 | 0,_=>none
 | n + 1,a0=>F204_step (F204 n) (F203 n) (F229 n) (F231 n) (F202 n) (F173 n) (F106 n) (F172 n) (F105 n) n a0
def F203:Nat→Node→Option Bool
 | 0,_=>none
 | n + 1,a0=>F203_step (F204 n) (F203 n) (F229 n) (F231 n) (F202 n) (F173 n) (F106 n) (F172 n) (F105 n) n a0
def F229:Nat→Node→Int→Option Bool
 | 0,_,_=>none
 | n + 1,a0,a1=>F229_step (F204 n) (F203 n) (F229 n) (F231 n) (F202 n) (F173 n) (F106 n) (F172 n) (F105 n) n a0 a1
def F231:Nat→Node→Option Bool
 | 0,_=>none
 | n + 1,a0=>F231_step (F204 n) (F203 n) (F229 n) (F231 n) (F202 n) (F173 n) (F106 n) (F172 n) (F105 n) n a0
def F202:Nat→Node→Option Bool
 | 0,_=>none
 | n + 1,a0=>F202_step (F204 n) (F203 n) (F229 n) (F231 n) (F202 n) (F173 n) (F106 n) (F172 n) (F105 n) n a0
def F173:Nat→Node→Option Bool
 | 0,_=>none
 | n + 1,a0=>F173_step (F204 n) (F203 n) (F229 n) (F231 n) (F202 n) (F173 n) (F106 n) (F172 n) (F105 n) n a0
def F106:Nat→Node→Option Bool
 | 0,_=>none
 | n + 1,a0=>F106_step (F204 n) (F203 n) (F229 n) (F231 n) (F202 n) (F173 n) (F106 n) (F172 n) (F105 n) n a0
def F172:Nat→Int→Node→Option Bool
 | 0,_,_=>none
 | n + 1,a0,a1=>F172_step (F204 n) (F203 n) (F229 n) (F231 n) (F202 n) (F173 n) (F106 n) (F172 n) (F105 n) n a0 a1
def F105:Nat→Node→Int→Option Bool
 | 0,_,_=>none
 | n + 1,a0,a1=>F105_step (F204 n) (F203 n) (F229 n) (F231 n) (F202 n) (F173 n) (F106 n) (F172 n) (F105 n) n a0 a1
end
theorem F204_RR (n:Nat):(∀ (a0:Node) (r:Bool),F204 n a0 = some r→∀ {st:St} {p0:Spare},R Tryz.prog AN 204 [.agg (cNode p0 a0)] st (.ret (vB r)) st)∧(∀ (a0:Node) (r:Bool),F203 n a0 = some r→∀ {st:St} {p0:Spare},R Tryz.prog AN 203 [.agg (cNode p0 a0)] st (.ret (vB r)) st)∧(∀ (a0:Node) (a1:Int) (r:Bool),F229 n a0 a1 = some r→∀ {st:St} {p0:Spare},R Tryz.prog AN 229 [.agg (cNode p0 a0),vI a1] st (.ret (vB r)) st)∧(∀ (a0:Node) (r:Bool),F231 n a0 = some r→∀ {st:St} {p0:Spare},R Tryz.prog AN 231 [.agg (cNode p0 a0)] st (.ret (vB r)) st)∧(∀ (a0:Node) (r:Bool),F202 n a0 = some r→∀ {st:St} {p0:Spare},R Tryz.prog AN 202 [.agg (cNode p0 a0)] st (.ret (vB r)) st)∧(∀ (a0:Node) (r:Bool),F173 n a0 = some r→∀ {st:St} {p0:Spare},R Tryz.prog AN 173 [.agg (cNode p0 a0)] st (.ret (vB r)) st)∧(∀ (a0:Node) (r:Bool),F106 n a0 = some r→∀ {st:St} {p0:Spare},R Tryz.prog AN 106 [.agg (cNode p0 a0)] st (.ret (vB r)) st)∧(∀ (a0:Int) (a1:Node) (r:Bool),F172 n a0 a1 = some r→∀ {st:St} {p0:Spare},R Tryz.prog AN 172 [vI a0,.agg (cNode p0 a1)] st (.ret (vB r)) st)∧(∀ (a0:Node) (a1:Int) (r:Bool),F105 n a0 a1 = some r→∀ {st:St} {p0:Spare},R Tryz.prog AN 105 [.agg (cNode p0 a0),vI a1] st (.ret (vB r)) st):=by
 induction n with
 | zero=>exact ⟨by intros; contradiction,by intros; contradiction,by intros; contradiction,by intros; contradiction,by intros; contradiction,by intros; contradiction,by intros; contradiction,by intros; contradiction,by intros; contradiction⟩
 | succ n ih =>
  obtain ⟨ih_F204,ih_F203,ih_F229,ih_F231,ih_F202,ih_F173,ih_F106,ih_F172,ih_F105⟩:=ih
  refine ⟨?_,?_,?_,?_,?_,?_,?_,?_,?_⟩
  ·intro a0 r hr st p0
   change F204_step (F204 n) (F203 n) (F229 n) (F231 n) (F202 n) (F173 n) (F106 n) (F172 n) (F105 n) n a0 = some r at hr
   unfold F204_step at hr
   refine R_pureX [aN a0] [(0,aN a0)] Tryz.func204 rfl (by simp only [strip,stripL,stripL_cNode,Option.bind_some,Option.map_some]) rfl fun fr st H K=>sr (qg 2 [(1,cN a0 0)] H fun _ H=>qe (W_seq (W_seq (W_reg (qg 3 [(5,vB (a0.kind == 60))] H fun _ H=>qe ?_)))))
   rcases csplit hr with ⟨c1,hr⟩|⟨c1,hr⟩
   ·refine qT H c1 (sr (qg 1 [(6,aN a0)] H fun _ H=>?_))
    refine qb hr (fun x h s=>F104_R n _ _ x h (p0:=.shut)) H fun x2 hr fr H=>qg 1 [(8,vB x2)] H fun _ H=>?_
    rcases csplit hr with ⟨c3,hr⟩|⟨c3,hr⟩
    rotate_left
    ·rw [c3] at H
     refine qg 14 [(2,vB false)] H fun _ H=>qe (W_ret ?_)
     cases hr
     exact qr [vB false] H K
    rw [c3] at H
    refine qg 2 [(10,vS a0.name)] H fun _ H=>?_
    refine qb hr (fun x h s=>F174_R n _ x h) H fun x4 hr fr H=>qg 2 [(13,vB x4)] H fun _ H=>?_
    rcases csplit hr with ⟨c5,hr⟩|⟨c5,hr⟩
    rotate_left
    ·rw [c5] at H
     refine qg 9 [(2,vB false)] H fun _ H=>qe (W_ret ?_)
     cases hr
     exact qr [vB false] H K
    rw [c5] at H
    refine qg 2 [(15,vS a0.other)] H fun _ H=>?_
    refine qb hr (fun x h s=>F174_R n _ x h) H fun x6 hr fr H=>qg 2 [(18,vB x6)] H fun _ H=>?_
    rcases csplit hr with ⟨c7,hr⟩|⟨c7,hr⟩
    rotate_left
    ·rw [c7] at H
     refine qg 4 [(2,vB false)] H fun _ H=>qe (W_ret ?_)
     cases hr
     exact qr [vB false] H K
    rw [c7] at H
    refine qg 1 [(19,aN a0)] H fun _ H=>?_
    refine qb hr (fun x h s=>ih_F105 _ _ x h (p0:=.shut)) H fun x8 hr fr H=>qg 2 [(2,vB x8)] H fun _ H=>qe (W_ret ?_)
    obtain rfl:=Option.some.inj hr
    exact qr [vB x8] H K
   refine qF H c1 (W_skip (sr (qg 4 [(25,vB (a0.kind == 61))] H fun _ H=>?_)))
   rcases csplit hr with ⟨c9,hr⟩|⟨c9,hr⟩
   rotate_left
   ·rw [c9] at H
    refine qg 23 [(2,vB false)] H fun _ H=>qe (W_ret ?_)
    cases hr
    exact qr [vB false] H K
   rw [c9] at H
   refine qg 1 [(26,aN a0)] H fun _ H=>?_
   refine qb hr (fun x h s=>F104_R n _ _ x h (p0:=.shut)) H fun x10 hr fr H=>qg 2 [(29,vB x10)] H fun _ H=>qg 4 [(33,vB (x10 && (decide (a0.n≤1))))] H (hs:=by intro _ _; generalize (x10) = b0; cases b0 <;> kernel_rfl) fun _ H=>qg 1 [(34,vB (x10 && (decide (a0.n≤1))))] H fun _ H=>?_
   rcases csplit hr with ⟨c11,hr⟩|⟨c11,hr⟩
   rotate_left
   ·rw [c11] at H
    refine qg 14 [(2,vB false)] H fun _ H=>qe (W_ret ?_)
    cases hr
    exact qr [vB false] H K
   rw [c11] at H
   refine qg 2 [(36,vS a0.name)] H fun _ H=>?_
   refine qb hr (fun x h s=>F174_R n _ x h) H fun x12 hr fr H=>qg 2 [(39,vB x12)] H fun _ H=>?_
   rcases csplit hr with ⟨c13,hr⟩|⟨c13,hr⟩
   rotate_left
   ·rw [c13] at H
    refine qg 9 [(2,vB false)] H fun _ H=>qe (W_ret ?_)
    cases hr
    exact qr [vB false] H K
   rw [c13] at H
   refine qg 2 [(41,vS a0.other)] H fun _ H=>?_
   refine qb hr (fun x h s=>F205_R n _ x h) H fun x14 hr fr H=>qg 2 [(44,vB x14)] H fun _ H=>?_
   rcases csplit hr with ⟨c15,hr⟩|⟨c15,hr⟩
   rotate_left
   ·rw [c15] at H
    refine qg 4 [(2,vB false)] H fun _ H=>qe (W_ret ?_)
    cases hr
    exact qr [vB false] H K
   rw [c15] at H
   refine qg 1 [(45,aN a0)] H fun _ H=>?_
   refine qb hr (fun x h s=>ih_F105 _ _ x h (p0:=.shut)) H fun x16 hr fr H=>qg 2 [(2,vB x16)] H fun _ H=>qe (W_ret ?_)
   obtain rfl:=Option.some.inj hr
   exact qr [vB x16] H K
  ·intro a0 r hr st p0
   change F203_step (F204 n) (F203 n) (F229 n) (F231 n) (F202 n) (F173 n) (F106 n) (F172 n) (F105 n) n a0 = some r at hr
   unfold F203_step at hr
   refine R_pureX [aN a0] [(0,aN a0)] Tryz.func203 rfl (by simp only [strip,stripL,stripL_cNode,Option.bind_some,Option.map_some]) rfl fun fr st H K=>sr (qg 2 [(1,cN a0 0)] H fun _ H=>qe (sr (qg 2 [(5,vL tNode a0.kids .shut)] H fun _ H=>?_)))
   refine qln tNode 22 a0.kids .shut H fun _ H=>qg 1 [(3,vI (a0.kids.length:Int))] H fun _ H=>qe (W_seq (W_seq (W_reg (qg 2 [(8,vI a0.kind)] H fun _ H=>qe (W_block (sr (qg 2 [(9,vB (a0.kind == 51))] H fun _ H=>qe ?_)))))))
   rcases csplit hr with ⟨c1,hr⟩|⟨c1,hr⟩
   ·refine qT H c1 (sr (qg 1 [(11,aN a0)] H fun _ H=>?_))
    refine qb hr (fun x h s=>F104_R n _ _ x h (p0:=.shut)) H fun x2 hr fr H=>qg 1 [(13,vB x2)] H fun _ H=>?_
    rcases csplit hr with ⟨c3,hr⟩|⟨c3,hr⟩
    rotate_left
    ·rw [c3] at H
     refine qg 9 [(2,vB false)] H fun _ H=>qe (W_ret ?_)
     cases hr
     exact qr [vB false] H K
    rw [c3] at H
    refine qg 2 [(15,vS a0.name)] H fun _ H=>?_
    refine qb hr (fun x h s=>F174_R n _ x h) H fun x4 hr fr H=>qg 2 [(18,vB x4)] H fun _ H=>?_
    rcases csplit hr with ⟨c5,hr⟩|⟨c5,hr⟩
    rotate_left
    ·rw [c5] at H
     refine qg 4 [(2,vB false)] H fun _ H=>qe (W_ret ?_)
     cases hr
     exact qr [vB false] H K
    rw [c5] at H
    refine qg 1 [(19,aN a0)] H fun _ H=>?_
    refine qb hr (fun x h s=>ih_F105 _ _ x h (p0:=.shut)) H fun x6 hr fr H=>qg 2 [(2,vB x6)] H fun _ H=>qe (W_ret ?_)
    obtain rfl:=Option.some.inj hr
    exact qr [vB x6] H K
   refine qF H c1 (sr (qg 2 [(22,vB (a0.kind == 50))] H fun _ H=>qe ?_))
   rcases csplit hr with ⟨c7,hr⟩|⟨c7,hr⟩
   ·refine qT H c7 (sr (qg 1 [(24,aN a0)] H fun _ H=>?_))
    refine qb hr (fun x h s=>F104_R n _ _ x h (p0:=.shut)) H fun x8 hr fr H=>qg 1 [(26,vB x8)] H fun _ H=>?_
    rcases csplit hr with ⟨c9,hr⟩|⟨c9,hr⟩
    rotate_left
    ·rw [c9] at H
     refine qg 24 [(2,vB false)] H fun _ H=>qe (W_ret ?_)
     cases hr
     exact qr [vB false] H K
    rw [c9] at H
    refine qg 2 [(28,vS a0.name)] H fun _ H=>?_
    refine qb hr (fun x h s=>F174_R n _ x h) H fun x10 hr fr H=>qg 2 [(31,vB x10)] H fun _ H=>?_
    rcases csplit hr with ⟨c11,hr⟩|⟨c11,hr⟩
    rotate_left
    ·rw [c11] at H
     refine qg 19 [(2,vB false)] H fun _ H=>qe (W_ret ?_)
     cases hr
     exact qr [vB false] H K
    rw [c11] at H
    refine qg 4 [(35,vB (strEq a0.other (bs [])))] H fun _ H=>?_
    rcases csplit hr with ⟨c12,hr⟩|⟨c12,hr⟩
    ·rw [c12] at H
     refine qg 15 [(2,vB ((a0.kids.length:Int) == 0))] H fun _ H=>qe (W_ret ?_)
     cases hr
     exact qr [vB ((a0.kids.length:Int) == 0)] H K
    rw [c12] at H
    refine qg 4 [(39,vB (a0.n == 0))] H fun _ H=>?_
    rcases csplit hr with ⟨c13,hr⟩|⟨c13,hr⟩
    rotate_left
    ·rw [c13] at H
     refine qg 11 [(2,vB false)] H fun _ H=>qe (W_ret ?_)
     cases hr
     exact qr [vB false] H K
    rw [c13] at H
    refine qg 2 [(41,vS a0.other)] H fun _ H=>?_
    refine qb hr (fun x h s=>F174_R n _ x h) H fun x14 hr fr H=>qg 4 [(46,vB x14)] H fun _ H=>qg 3 [(49,vB (x14 && ((a0.kids.length:Int) == 0)))] H (hs:=by intro _ _; generalize (x14) = b0; cases b0 <;> kernel_rfl) fun _ H=>qg 1 [(2,vB (x14 && ((a0.kids.length:Int) == 0)))] H fun _ H=>qe (W_ret ?_)
    cases hr
    exact qr [vB (x14 && ((a0.kids.length:Int) == 0))] H K
   refine qF H c7 (sr (qg 2 [(50,vB (a0.kind == 53))] H fun _ H=>qe ?_))
   rcases csplit hr with ⟨c15,hr⟩|⟨c15,hr⟩
   ·refine qT H c15 (sr (qg 1 [(52,aN a0)] H fun _ H=>?_))
    refine qb hr (fun x h s=>F104_R n _ _ x h (p0:=.shut)) H fun x16 hr fr H=>qg 1 [(54,vB x16)] H fun _ H=>?_
    rcases csplit hr with ⟨c17,hr⟩|⟨c17,hr⟩
    rotate_left
    ·rw [c17] at H
     refine qg 13 [(2,vB false)] H fun _ H=>qe (W_ret ?_)
     cases hr
     exact qr [vB false] H K
    rw [c17] at H
    refine qg 2 [(56,vS a0.name)] H fun _ H=>?_
    refine qb hr (fun x h s=>F174_R n _ x h) H fun x18 hr fr H=>qg 2 [(59,vB x18)] H fun _ H=>qg 3 [(62,vB (x18 && ((a0.kids.length:Int) == 1)))] H (hs:=by intro _ _; generalize (x18) = b0; cases b0 <;> kernel_rfl) fun _ H=>qg 1 [(63,vB (x18 && ((a0.kids.length:Int) == 1)))] H fun _ H=>?_
    rcases csplit hr with ⟨c19,hr⟩|⟨c19,hr⟩
    rotate_left
    ·rw [c19] at H
     refine qg 4 [(2,vB false)] H fun _ H=>qe (W_ret ?_)
     cases hr
     exact qr [vB false] H K
    rw [c19] at H
    refine qg 1 [(64,aN a0)] H fun _ H=>?_
    refine qb hr (fun x h s=>ih_F105 _ _ x h (p0:=.shut)) H fun x20 hr fr H=>qg 2 [(2,vB x20)] H fun _ H=>qe (W_ret ?_)
    obtain rfl:=Option.some.inj hr
    exact qr [vB x20] H K
   refine qF H c15 (W_seq ?_)
   obtain ⟨j22,hj22,hr⟩:=obind hr
   refine W_via (fun e fr st=>e = .normal∧Rd fr [(1,cN a0 0),(3,vI (a0.kids.length:Int)),(8,vI a0.kind),(67,vB j22)]∧HL st []) ?_ ?_
   ·replace hr:=hj22
    refine sr (qg 2 [(67,vB (a0.kind == 54))] H fun _ H=>qe ?_)
    rcases csplit hr with ⟨c21,hr⟩|⟨c21,hr⟩
    ·refine qT H c21 (W_skip ?_)
     cases hr
     exact ⟨rfl,H.tq,K.keep []⟩
    refine qF H c21 (W_reg (qg 2 [(67,vB (a0.kind == 55))] H fun _ H=>qe ?_))
    cases hr
    exact ⟨rfl,H.tq,K.keep []⟩
   rintro e fr st ⟨rfl,H,K⟩
   rcases csplit hr with ⟨c23,hr⟩|⟨c23,hr⟩
   ·refine qT H c23 (sr (qg 1 [(70,aN a0)] H fun _ H=>?_))
    refine qb hr (fun x h s=>F104_R n _ _ x h (p0:=.shut)) H fun x24 hr fr H=>qg 1 [(72,vB x24)] H fun _ H=>qg 3 [(75,vB (x24 && ((a0.kids.length:Int) == 1)))] H (hs:=by intro _ _; generalize (x24) = b0; cases b0 <;> kernel_rfl) fun _ H=>qg 1 [(76,vB (x24 && ((a0.kids.length:Int) == 1)))] H fun _ H=>?_
    rcases csplit hr with ⟨c25,hr⟩|⟨c25,hr⟩
    rotate_left
    ·rw [c25] at H
     refine qg 4 [(2,vB false)] H fun _ H=>qe (W_ret ?_)
     cases hr
     exact qr [vB false] H K
    rw [c25] at H
    refine qg 1 [(77,aN a0)] H fun _ H=>?_
    refine qb hr (fun x h s=>ih_F105 _ _ x h (p0:=.shut)) H fun x26 hr fr H=>qg 2 [(2,vB x26)] H fun _ H=>qe (W_ret ?_)
    obtain rfl:=Option.some.inj hr
    exact qr [vB x26] H K
   refine qF H c23 (sr (qg 2 [(80,vB (a0.kind == 56))] H fun _ H=>qe ?_))
   rcases csplit hr with ⟨c27,hr⟩|⟨c27,hr⟩
   ·refine qT H c27 (sr (qg 1 [(82,aN a0)] H fun _ H=>?_))
    refine qb hr (fun x h s=>F104_R n _ _ x h (p0:=.shut)) H fun x28 hr fr H=>qg 1 [(84,vB x28)] H fun _ H=>qg 3 [(87,vB (x28 && (decide (1≤(a0.kids.length:Int)))))] H (hs:=by intro _ _; generalize (x28) = b0; cases b0 <;> kernel_rfl) fun _ H=>qg 1 [(88,vB (x28 && (decide (1≤(a0.kids.length:Int)))))] H fun _ H=>?_
    rcases csplit hr with ⟨c29,hr⟩|⟨c29,hr⟩
    rotate_left
    ·rw [c29] at H
     refine qg 4 [(2,vB false)] H fun _ H=>qe (W_ret ?_)
     cases hr
     exact qr [vB false] H K
    rw [c29] at H
    refine qg 1 [(89,aN a0)] H fun _ H=>?_
    refine qb hr (fun x h s=>ih_F105 _ _ x h (p0:=.shut)) H fun x30 hr fr H=>qg 2 [(2,vB x30)] H fun _ H=>qe (W_ret ?_)
    obtain rfl:=Option.some.inj hr
    exact qr [vB x30] H K
   refine qF H c27 (sr (qg 2 [(92,vB (a0.kind == 57))] H fun _ H=>qe ?_))
   rcases csplit hr with ⟨c31,hr⟩|⟨c31,hr⟩
   rotate_left
   ·refine qF H c31 (W_skip (sr (qg 1 [(2,vB false)] H fun _ H=>qe (W_ret ?_))))
    cases hr
    exact qr [vB false] H K
   refine qT H c31 (W_seq ?_)
   obtain ⟨j46,hj46,hr⟩:=obind hr
   refine W_via (fun e fr st=>match j46 with | .inl j46a=>(e = .ret∧Rd fr [(2,vB false)]∧HL st []) | .inr j46b=>(e = .normal∧Rd fr [(1,cN a0 0),(3,vI (a0.kids.length:Int))]∧HL st [])) ?_ ?_
   ·replace hr:=hj46
    refine sr (qg 3 [(96,vB ((a0.kids.length:Int) == 0))] H fun _ H=>?_)
    rcases csplit hr with ⟨c32,hr⟩|⟨c32,hr⟩
    ·rw [c32] at H
     refine qg 31 [(127,vB true)] H fun _ H=>qe (qT H rfl (sr (qg 1 [(2,vB false)] H fun _ H=>qe (W_ret ?_))))
     cases hr
     exact ⟨rfl,H.tq,K.keep []⟩
    rw [c32] at H
    refine qg 1 [(97,aN a0)] H fun _ H=>?_
    refine qb hr (fun x h s=>F104_R n _ _ x h (p0:=.shut)) H fun x33 hr fr H=>qg 3 [(101,vB !x33)] H fun _ H=>?_
    rcases csplit hr with ⟨c34,hr⟩|⟨c34,hr⟩
    ·rw [c34] at H
     refine qg 26 [(127,vB true)] H fun _ H=>qe (qT H rfl (sr (qg 1 [(2,vB false)] H fun _ H=>qe (W_ret ?_))))
     cases hr
     exact ⟨rfl,H.tq,K.keep []⟩
    rw [c34] at H
    refine qg 2 [(103,vS a0.name)] H fun _ H=>?_
    refine qb hr (fun x h s=>F174_R n _ x h) H fun x35 hr fr H=>qg 3 [(107,vB !x35)] H fun _ H=>?_
    rcases csplit hr with ⟨c36,hr⟩|⟨c36,hr⟩
    ·rw [c36] at H
     refine qg 20 [(127,vB true)] H fun _ H=>qe (qT H rfl (sr (qg 1 [(2,vB false)] H fun _ H=>qe (W_ret ?_))))
     cases hr
     exact ⟨rfl,H.tq,K.keep []⟩
    rw [c36] at H
    refine qg 4 [(111,vB (!(strEq a0.other (bs []))))] H fun _ H=>?_
    rcases csplit hr with ⟨c37,hr⟩|⟨c37,hr⟩
    rotate_left
    ·rw [c37] at H
     refine qg 11 [(118,vB false),(120,vL tNode a0.kids .shut),(122,vI (w64 ((a0.kids.length:Int) - 1)))] H fun _ H=>?_
     refine qix tNode 22 .shut hr H fun x42 hr hx42 fr H=>qg 1 [(124,aN x42)] H fun _ H=>?_
     refine qb hr (fun x h s=>ih_F231 _ x h (p0:=.shut)) H fun x43 hr fr H=>qg 2 [(127,vB !x43)] H fun _ H=>qe ?_
     rcases csplit hr with ⟨c45,hr⟩|⟨c45,hr⟩
     rotate_left
     ·refine qF H c45 (W_skip ?_)
      cases hr
      exact ⟨rfl,H.tq,K.keep []⟩
     refine qT H c45 (sr (qg 1 [(2,vB false)] H fun _ H=>qe (W_ret ?_)))
     cases hr
     exact ⟨rfl,H.tq,K.keep []⟩
    rw [c37] at H
    refine qg 2 [(113,vS a0.other)] H fun _ H=>?_
    refine qb hr (fun x h s=>F174_R n _ x h) H fun x38 hr fr H=>qg 4 [(118,vB !x38)] H fun _ H=>?_
    rcases csplit hr with ⟨c39,hr⟩|⟨c39,hr⟩
    ·rw [c39] at H
     refine qg 9 [(127,vB true)] H fun _ H=>qe (qT H rfl (sr (qg 1 [(2,vB false)] H fun _ H=>qe (W_ret ?_))))
     cases hr
     exact ⟨rfl,H.tq,K.keep []⟩
    rw [c39] at H
    refine qg 4 [(120,vL tNode a0.kids .shut),(122,vI (w64 ((a0.kids.length:Int) - 1)))] H fun _ H=>?_
    refine qix tNode 22 .shut hr H fun x40 hr hx40 fr H=>qg 1 [(124,aN x40)] H fun _ H=>?_
    refine qb hr (fun x h s=>ih_F231 _ x h (p0:=.shut)) H fun x41 hr fr H=>qg 2 [(127,vB !x41)] H fun _ H=>qe ?_
    rcases csplit hr with ⟨c44,hr⟩|⟨c44,hr⟩
    rotate_left
    ·refine qF H c44 (W_skip ?_)
     cases hr
     exact ⟨rfl,H.tq,K.keep []⟩
    refine qT H c44 (sr (qg 1 [(2,vB false)] H fun _ H=>qe (W_ret ?_)))
    cases hr
    exact ⟨rfl,H.tq,K.keep []⟩
   rcases j46 with j46a | j46b
   ·rintro e fr st ⟨rfl,H,K⟩
    cases hr
    exact qr [vB false] H K
   rintro e fr st ⟨rfl,H,K⟩
   refine sr (qg 4 [(129,vL tNode a0.kids .shut),(131,vI (w64 ((a0.kids.length:Int) - 1)))] H fun _ H=>?_)
   obtain ⟨x47,hx47,hr⟩:=obind hr
   refine qv (.slice 22 (vL tNode a0.kids .shut) none (some (vI (w64 ((a0.kids.length:Int) - 1))))) H (run_subL_hi tNode (by kernel_rfl) hx47) fun _ H=>qg 1 [(133,.agg [vI 0,vS (bs []),vS (bs []),vI 0,vI 0,vI 0,vB false,vL tNode x47 .shut,vI 0])] H fun _ H=>?_
   refine qb hr (fun x h s=>ih_F105 _ _ x h (p0:=.shut)) H fun x48 hr fr H=>qg 1 [(2,vB x48)] H fun _ H=>qe (W_ret ?_)
   obtain rfl:=Option.some.inj hr
   exact qr [vB x48] H K
  ·intro a0 a1 r hr st p0
   change F229_step (F204 n) (F203 n) (F229 n) (F231 n) (F202 n) (F173 n) (F106 n) (F172 n) (F105 n) n a0 a1 = some r at hr
   unfold F229_step at hr
   refine R_pureX [aN a0,vI a1] [(0,aN a0),(1,vI a1)] Tryz.func229 rfl (by simp only [strip,stripL,stripL_cNode,Option.bind_some,Option.map_some]) rfl fun fr st H K=>sr (qg 2 [(2,cN a0 0)] H fun _ H=>qe (W_seq (W_seq (W_reg (qg 2 [(5,vI a1)] H fun _ H=>qe (W_block ?_))))))
   obtain ⟨r15,hr15,hr⟩:=obind hr
   refine W_iter hr15 (fun (s1:Int) fr st=>Rd fr [(1,vI a1),(2,cN a0 0),(5,vI s1)]∧HL st []) (fun (r15:Unit ⊕ Unit) e fr st=>match r15 with | .inl r15a=>(e = .ret∧Rd fr [(4,vB false)]∧HL st []) | .inr r15b=>(e = .exit 0∧Rd fr [(1,vI a1),(2,cN a0 0)]∧HL st [])) ⟨H.tq,K.keep []⟩ ?_ ?_
   ·intro s1 fr st r hi hr
    obtain ⟨H,K⟩:=hi
    refine W_seq (W_seq (W_reg (qg 3 [(7,vI s1),(9,vL tNode a0.kids .shut)] H fun _ H=>?_)))
    refine qln tNode 22 a0.kids .shut H fun _ H=>qg 1 [(11,vB (decide (s1 < (a0.kids.length:Int))))] H fun _ H=>qe ?_
    rcases csplit hr with ⟨c2,hr⟩|⟨c2,hr⟩
    rotate_left
    ·refine qF H c2 ?_
     refine W_exit ?_
     cases hr
     exact ⟨by simp,⟨rfl,H.tq,K.keep []⟩⟩
    refine qT H c2 (W_skip (W_seq (W_block (sr (qg 6 [(19,vB ((Int.tmod (w64 (s1 - a1)) 2) == 0))] H fun _ H=>?_)))))
    rcases csplit hr with ⟨c3,hr⟩|⟨c3,hr⟩
    rotate_left
    ·rw [c3] at H
     refine qg 15 [(28,vB false),(34,vB ((Int.tmod (w64 (s1 - a1)) 2) == 1))] H fun _ H=>?_
     rcases csplit hr with ⟨c10,hr⟩|⟨c10,hr⟩
     rotate_left
     ·rw [c10] at H
      refine qg 9 [(43,vB false)] H fun _ H=>qe (qF H rfl (W_skip (W_reg (qg 3 [(5,vI (w64 (s1 + 1)))] H fun _ H=>qe ?_))))
      cases hr
      exact ⟨rfl,⟨H.tq,K.keep []⟩⟩
     rw [c10] at H
     refine qg 3 [(36,vL tNode a0.kids .shut),(37,vI s1)] H fun _ H=>?_
     refine qix tNode 22 .shut hr H fun x11 hr hx11 fr H=>qg 1 [(39,aN x11)] H fun _ H=>?_
     refine qb hr (fun x h s=>ih_F106 _ x h (p0:=.shut)) H fun x12 hr fr H=>qg 3 [(43,vB !x12)] H fun _ H=>qe ?_
     rcases csplit hr with ⟨c14,hr⟩|⟨c14,hr⟩
     ·refine qT H c14 (sr (qg 1 [(4,vB false)] H fun _ H=>qe (W_ret ?_)))
      cases hr
      exact ⟨by simp,⟨rfl,H.tq,K.keep []⟩⟩
     refine qF H c14 (W_skip (W_reg (qg 3 [(5,vI (w64 (s1 + 1)))] H fun _ H=>qe ?_)))
     cases hr
     exact ⟨rfl,⟨H.tq,K.keep []⟩⟩
    rw [c3] at H
    refine qg 3 [(21,vL tNode a0.kids .shut),(22,vI s1)] H fun _ H=>?_
    refine qix tNode 22 .shut hr H fun x4 hr hx4 fr H=>qg 1 [(24,aN x4)] H fun _ H=>?_
    refine qb hr (fun x h s=>ih_F173 _ x h (p0:=.shut)) H fun x5 hr fr H=>qg 3 [(28,vB !x5)] H fun _ H=>?_
    rcases csplit hr with ⟨c6,hr⟩|⟨c6,hr⟩
    ·rw [c6] at H
     refine qg 15 [(43,vB true)] H fun _ H=>qe (qT H rfl (sr (qg 1 [(4,vB false)] H fun _ H=>qe (W_ret ?_))))
     cases hr
     exact ⟨by simp,⟨rfl,H.tq,K.keep []⟩⟩
    rw [c6] at H
    refine qg 6 [(34,vB ((Int.tmod (w64 (s1 - a1)) 2) == 1))] H fun _ H=>?_
    rcases csplit hr with ⟨c7,hr⟩|⟨c7,hr⟩
    rotate_left
    ·rw [c7] at H
     refine qg 9 [(43,vB false)] H fun _ H=>qe (qF H rfl (W_skip (W_reg (qg 3 [(5,vI (w64 (s1 + 1)))] H fun _ H=>qe ?_))))
     cases hr
     exact ⟨rfl,⟨H.tq,K.keep []⟩⟩
    rw [c7] at H
    refine qg 3 [(36,vL tNode a0.kids .shut),(37,vI s1)] H fun _ H=>?_
    refine qix tNode 22 .shut hr H fun x8 hr hx8 fr H=>qg 1 [(39,aN x8)] H fun _ H=>?_
    refine qb hr (fun x h s=>ih_F106 _ x h (p0:=.shut)) H fun x9 hr fr H=>qg 3 [(43,vB !x9)] H fun _ H=>qe ?_
    rcases csplit hr with ⟨c13,hr⟩|⟨c13,hr⟩
    ·refine qT H c13 (sr (qg 1 [(4,vB false)] H fun _ H=>qe (W_ret ?_)))
     cases hr
     exact ⟨by simp,⟨rfl,H.tq,K.keep []⟩⟩
    refine qF H c13 (W_skip (W_reg (qg 3 [(5,vI (w64 (s1 + 1)))] H fun _ H=>qe ?_)))
    cases hr
    exact ⟨rfl,⟨H.tq,K.keep []⟩⟩
   rcases r15 with r15a | r15b
   ·rintro e fr st ⟨rfl,H,K⟩
    cases hr
    exact qr [vB false] H K
   rintro e fr st ⟨rfl,H,K⟩
   refine sr (qg 2 [(45,vL tNode a0.kids .shut)] H fun _ H=>?_)
   refine qln tNode 22 a0.kids .shut H fun _ H=>qg 5 [(4,vB ((Int.tmod (w64 ((a0.kids.length:Int) - a1)) 2) == 0))] H fun _ H=>qe (W_ret ?_)
   cases hr
   exact qr [vB ((Int.tmod (w64 ((a0.kids.length:Int) - a1)) 2) == 0)] H K
  ·intro a0 r hr st p0
   change F231_step (F204 n) (F203 n) (F229 n) (F231 n) (F202 n) (F173 n) (F106 n) (F172 n) (F105 n) n a0 = some r at hr
   unfold F231_step at hr
   refine R_pureX [aN a0] [(0,aN a0)] Tryz.func231 rfl (by simp only [strip,stripL,stripL_cNode,Option.bind_some,Option.map_some]) rfl fun fr st H K=>sr (qg 2 [(1,cN a0 0)] H fun _ H=>qe (sr (qg 4 [(6,vB (a0.kind == 34))] H fun _ H=>?_)))
   rcases csplit hr with ⟨c1,hr⟩|⟨c1,hr⟩
   rotate_left
   ·rw [c1] at H
    refine qg 8 [(2,vB false)] H fun _ H=>qe (W_ret ?_)
    cases hr
    exact qr [vB false] H K
   rw [c1] at H
   refine qg 1 [(7,aN a0)] H fun _ H=>?_
   refine qb hr (fun x h s=>F104_R n _ _ x h (p0:=.shut)) H fun x2 hr fr H=>qg 2 [(10,vB x2)] H fun _ H=>?_
   rcases csplit hr with ⟨c3,hr⟩|⟨c3,hr⟩
   rotate_left
   ·rw [c3] at H
    refine qg 4 [(2,vB false)] H fun _ H=>qe (W_ret ?_)
    cases hr
    exact qr [vB false] H K
   rw [c3] at H
   refine qg 1 [(11,aN a0)] H fun _ H=>?_
   refine qb hr (fun x h s=>ih_F105 _ _ x h (p0:=.shut)) H fun x4 hr fr H=>qg 2 [(2,vB x4)] H fun _ H=>qe (W_ret ?_)
   obtain rfl:=Option.some.inj hr
   exact qr [vB x4] H K
  ·intro a0 r hr st p0
   change F202_step (F204 n) (F203 n) (F229 n) (F231 n) (F202 n) (F173 n) (F106 n) (F172 n) (F105 n) n a0 = some r at hr
   unfold F202_step at hr
   refine R_pureX [aN a0] [(0,aN a0)] Tryz.func202 rfl (by simp only [strip,stripL,stripL_cNode,Option.bind_some,Option.map_some]) rfl fun fr st H K=>sr (qg 2 [(1,cN a0 0)] H fun _ H=>qe (sr (qg 2 [(5,vL tNode a0.kids .shut)] H fun _ H=>?_)))
   refine qln tNode 22 a0.kids .shut H fun _ H=>qg 1 [(3,vI (a0.kids.length:Int))] H fun _ H=>qe (W_seq (W_seq (W_reg (qg 2 [(8,vI a0.kind)] H fun _ H=>qe (W_block (W_seq ?_))))))
   obtain ⟨j2,hj2,hr⟩:=obind hr
   refine W_via (fun e fr st=>e = .normal∧Rd fr [(1,cN a0 0),(3,vI (a0.kids.length:Int)),(8,vI a0.kind),(9,vB j2)]∧HL st []) ?_ ?_
   ·replace hr:=hj2
    refine sr (qg 2 [(9,vB (a0.kind == 20))] H fun _ H=>qe ?_)
    rcases csplit hr with ⟨c1,hr⟩|⟨c1,hr⟩
    ·refine qT H c1 (W_skip ?_)
     cases hr
     exact ⟨rfl,H.tq,K.keep []⟩
    refine qF H c1 (W_reg (qg 2 [(9,vB (a0.kind == 29))] H fun _ H=>qe ?_))
    cases hr
    exact ⟨rfl,H.tq,K.keep []⟩
   rintro e fr st ⟨rfl,H,K⟩
   rcases csplit hr with ⟨c3,hr⟩|⟨c3,hr⟩
   ·refine qT H c3 (sr (qg 1 [(12,aN a0)] H fun _ H=>?_))
    refine qb hr (fun x h s=>F104_R n _ _ x h (p0:=.shut)) H fun x4 hr fr H=>qg 1 [(14,vB x4)] H fun _ H=>qg 3 [(17,vB (x4 && ((a0.kids.length:Int) == 1)))] H (hs:=by intro _ _; generalize (x4) = b0; cases b0 <;> kernel_rfl) fun _ H=>qg 1 [(18,vB (x4 && ((a0.kids.length:Int) == 1)))] H fun _ H=>?_
    rcases csplit hr with ⟨c5,hr⟩|⟨c5,hr⟩
    rotate_left
    ·rw [c5] at H
     refine qg 4 [(2,vB false)] H fun _ H=>qe (W_ret ?_)
     cases hr
     exact qr [vB false] H K
    rw [c5] at H
    refine qg 1 [(19,aN a0)] H fun _ H=>?_
    refine qb hr (fun x h s=>ih_F105 _ _ x h (p0:=.shut)) H fun x6 hr fr H=>qg 2 [(2,vB x6)] H fun _ H=>qe (W_ret ?_)
    obtain rfl:=Option.some.inj hr
    exact qr [vB x6] H K
   refine qF H c3 (W_seq ?_)
   obtain ⟨j8,hj8,hr⟩:=obind hr
   refine W_via (fun e fr st=>e = .normal∧Rd fr [(1,cN a0 0),(3,vI (a0.kids.length:Int)),(8,vI a0.kind),(22,vB j8)]∧HL st []) ?_ ?_
   ·replace hr:=hj8
    refine sr (qg 2 [(22,vB (a0.kind == 26))] H fun _ H=>qe ?_)
    rcases csplit hr with ⟨c7,hr⟩|⟨c7,hr⟩
    ·refine qT H c7 (W_skip ?_)
     cases hr
     exact ⟨rfl,H.tq,K.keep []⟩
    refine qF H c7 (W_reg (qg 2 [(22,vB (a0.kind == 30))] H fun _ H=>qe ?_))
    cases hr
    exact ⟨rfl,H.tq,K.keep []⟩
   rintro e fr st ⟨rfl,H,K⟩
   rcases csplit hr with ⟨c9,hr⟩|⟨c9,hr⟩
   ·refine qT H c9 (sr (qg 1 [(25,aN a0)] H fun _ H=>?_))
    refine qb hr (fun x h s=>F104_R n _ _ x h (p0:=.shut)) H fun x10 hr fr H=>qg 1 [(27,vB x10)] H fun _ H=>qg 3 [(30,vB (x10 && ((a0.kids.length:Int) == 0)))] H (hs:=by intro _ _; generalize (x10) = b0; cases b0 <;> kernel_rfl) fun _ H=>qg 1 [(2,vB (x10 && ((a0.kids.length:Int) == 0)))] H fun _ H=>qe (W_ret ?_)
    cases hr
    exact qr [vB (x10 && ((a0.kids.length:Int) == 0))] H K
   refine qF H c9 (sr (qg 2 [(31,vB (a0.kind == 21))] H fun _ H=>qe ?_))
   rcases csplit hr with ⟨c11,hr⟩|⟨c11,hr⟩
   ·refine qT H c11 (sr (qg 1 [(33,aN a0)] H fun _ H=>?_))
    refine qb hr (fun x h s=>F104_R n _ _ x h (p0:=.shut)) H fun x12 hr fr H=>qg 1 [(35,vB x12)] H fun _ H=>qg 4 [(39,vB (x12 && (decide (a0.n≤1))))] H (hs:=by intro _ _; generalize (x12) = b0; cases b0 <;> kernel_rfl) fun _ H=>qg 1 [(40,vB (x12 && (decide (a0.n≤1))))] H fun _ H=>qg 3 [(43,vB ((x12 && (decide (a0.n≤1))) && (decide (2≤(a0.kids.length:Int)))))] H (hs:=by intro _ _; generalize (x12 && (decide (a0.n≤1))) = b0; cases b0 <;> kernel_rfl) fun _ H=>qg 1 [(44,vB ((x12 && (decide (a0.n≤1))) && (decide (2≤(a0.kids.length:Int)))))] H fun _ H=>?_
    rcases csplit hr with ⟨c13,hr⟩|⟨c13,hr⟩
    rotate_left
    ·rw [c13] at H
     refine qg 4 [(2,vB false)] H fun _ H=>qe (W_ret ?_)
     cases hr
     exact qr [vB false] H K
    rw [c13] at H
    refine qg 1 [(45,aN a0)] H fun _ H=>?_
    refine qb hr (fun x h s=>ih_F229 _ _ x h (p0:=.shut)) H fun x14 hr fr H=>qg 2 [(2,vB x14)] H fun _ H=>qe (W_ret ?_)
    obtain rfl:=Option.some.inj hr
    exact qr [vB x14] H K
   refine qF H c11 (sr (qg 2 [(48,vB (a0.kind == 22))] H fun _ H=>qe ?_))
   rcases csplit hr with ⟨c15,hr⟩|⟨c15,hr⟩
   ·refine qT H c15 (sr (qg 1 [(50,aN a0)] H fun _ H=>?_))
    refine qb hr (fun x h s=>F104_R n _ _ x h (p0:=.shut)) H fun x16 hr fr H=>qg 1 [(52,vB x16)] H fun _ H=>qg 3 [(55,vB (x16 && (decide (1≤(a0.kids.length:Int)))))] H (hs:=by intro _ _; generalize (x16) = b0; cases b0 <;> kernel_rfl) fun _ H=>qg 1 [(56,vB (x16 && (decide (1≤(a0.kids.length:Int)))))] H fun _ H=>?_
    rcases csplit hr with ⟨c17,hr⟩|⟨c17,hr⟩
    rotate_left
    ·rw [c17] at H
     refine qg 18 [(2,vB false)] H fun _ H=>qe (W_ret ?_)
     cases hr
     exact qr [vB false] H K
    rw [c17] at H
    refine qg 2 [(58,vL tNode a0.kids .shut)] H fun _ H=>?_
    refine qix tNode 22 .shut hr H fun x18 hr hx18 fr H=>qg 1 [(60,aN x18)] H fun _ H=>?_
    refine qb hr (fun x h s=>F230_R n _ x h (p0:=.shut)) H fun x19 hr fr H=>qg 1 [(62,vB x19)] H fun _ H=>?_
    rcases csplit hr with ⟨c20,hr⟩|⟨c20,hr⟩
    ·rw [c20] at H
     refine qg 9 [(70,vB true),(71,aN a0)] H fun _ H=>?_
     refine qb hr (fun x h s=>ih_F229 _ _ x h (p0:=.shut)) H fun x21 hr fr H=>qg 2 [(2,vB x21)] H fun _ H=>qe (W_ret ?_)
     obtain rfl:=Option.some.inj hr
     exact qr [vB x21] H K
    rw [c20] at H
    refine qg 2 [(64,vL tNode a0.kids .shut)] H fun _ H=>?_
    refine qix tNode 22 .shut hr H fun x22 hr hx22 fr H=>qg 1 [(66,aN x22)] H fun _ H=>?_
    refine qb hr (fun x h s=>ih_F106 _ x h (p0:=.shut)) H fun x23 hr fr H=>qg 3 [(70,vB x23)] H fun _ H=>?_
    rcases csplit hr with ⟨c24,hr⟩|⟨c24,hr⟩
    rotate_left
    ·rw [c24] at H
     refine qg 4 [(2,vB false)] H fun _ H=>qe (W_ret ?_)
     cases hr
     exact qr [vB false] H K
    rw [c24] at H
    refine qg 1 [(71,aN a0)] H fun _ H=>?_
    refine qb hr (fun x h s=>ih_F229 _ _ x h (p0:=.shut)) H fun x25 hr fr H=>qg 2 [(2,vB x25)] H fun _ H=>qe (W_ret ?_)
    obtain rfl:=Option.some.inj hr
    exact qr [vB x25] H K
   refine qF H c15 (sr (qg 2 [(74,vB (a0.kind == 23))] H fun _ H=>qe ?_))
   rcases csplit hr with ⟨c26,hr⟩|⟨c26,hr⟩
   ·refine qT H c26 (sr (qg 1 [(76,aN a0)] H fun _ H=>?_))
    refine qb hr (fun x h s=>F104_R n _ _ x h (p0:=.shut)) H fun x27 hr fr H=>qg 1 [(78,vB x27)] H fun _ H=>qg 3 [(81,vB (x27 && (decide (4≤(a0.kids.length:Int)))))] H (hs:=by intro _ _; generalize (x27) = b0; cases b0 <;> kernel_rfl) fun _ H=>qg 1 [(82,vB (x27 && (decide (4≤(a0.kids.length:Int)))))] H fun _ H=>?_
    rcases csplit hr with ⟨c28,hr⟩|⟨c28,hr⟩
    rotate_left
    ·rw [c28] at H
     refine qg 32 [(2,vB false)] H fun _ H=>qe (W_ret ?_)
     cases hr
     exact qr [vB false] H K
    rw [c28] at H
    refine qg 2 [(84,vL tNode a0.kids .shut)] H fun _ H=>?_
    refine qix tNode 22 .shut hr H fun x29 hr hx29 fr H=>qg 1 [(86,aN x29)] H fun _ H=>?_
    refine qb hr (fun x h s=>ih_F173 _ x h (p0:=.shut)) H fun x30 hr fr H=>qg 2 [(89,vB x30)] H fun _ H=>?_
    rcases csplit hr with ⟨c31,hr⟩|⟨c31,hr⟩
    rotate_left
    ·rw [c31] at H
     refine qg 25 [(2,vB false)] H fun _ H=>qe (W_ret ?_)
     cases hr
     exact qr [vB false] H K
    rw [c31] at H
    refine qg 2 [(91,vL tNode a0.kids .shut)] H fun _ H=>?_
    refine qix tNode 22 .shut hr H fun x32 hr hx32 fr H=>qg 1 [(93,aN x32)] H fun _ H=>?_
    refine qb hr (fun x h s=>ih_F106 _ x h (p0:=.shut)) H fun x33 hr fr H=>qg 2 [(96,vB x33)] H fun _ H=>?_
    rcases csplit hr with ⟨c34,hr⟩|⟨c34,hr⟩
    rotate_left
    ·rw [c34] at H
     refine qg 18 [(2,vB false)] H fun _ H=>qe (W_ret ?_)
     cases hr
     exact qr [vB false] H K
    rw [c34] at H
    refine qg 2 [(98,vL tNode a0.kids .shut)] H fun _ H=>?_
    refine qix tNode 22 .shut hr H fun x35 hr hx35 fr H=>qg 1 [(100,aN x35)] H fun _ H=>?_
    refine qb hr (fun x h s=>ih_F106 _ x h (p0:=.shut)) H fun x36 hr fr H=>qg 2 [(103,vB x36)] H fun _ H=>?_
    rcases csplit hr with ⟨c37,hr⟩|⟨c37,hr⟩
    rotate_left
    ·rw [c37] at H
     refine qg 11 [(2,vB false)] H fun _ H=>qe (W_ret ?_)
     cases hr
     exact qr [vB false] H K
    rw [c37] at H
    refine qg 2 [(105,vL tNode a0.kids .shut)] H fun _ H=>?_
    refine qix tNode 22 .shut hr H fun x38 hr hx38 fr H=>qg 1 [(107,aN x38)] H fun _ H=>?_
    refine qb hr (fun x h s=>ih_F173 _ x h (p0:=.shut)) H fun x39 hr fr H=>qg 2 [(110,vB x39)] H fun _ H=>?_
    rcases csplit hr with ⟨c40,hr⟩|⟨c40,hr⟩
    rotate_left
    ·rw [c40] at H
     refine qg 4 [(2,vB false)] H fun _ H=>qe (W_ret ?_)
     cases hr
     exact qr [vB false] H K
    rw [c40] at H
    refine qg 1 [(111,aN a0)] H fun _ H=>?_
    refine qb hr (fun x h s=>ih_F229 _ _ x h (p0:=.shut)) H fun x41 hr fr H=>qg 2 [(2,vB x41)] H fun _ H=>qe (W_ret ?_)
    obtain rfl:=Option.some.inj hr
    exact qr [vB x41] H K
   refine qF H c26 (W_seq ?_)
   obtain ⟨j43,hj43,hr⟩:=obind hr
   refine W_via (fun e fr st=>e = .normal∧Rd fr [(1,cN a0 0),(3,vI (a0.kids.length:Int)),(8,vI a0.kind),(114,vB j43)]∧HL st []) ?_ ?_
   ·replace hr:=hj43
    refine sr (qg 2 [(114,vB (a0.kind == 24))] H fun _ H=>qe ?_)
    rcases csplit hr with ⟨c42,hr⟩|⟨c42,hr⟩
    ·refine qT H c42 (W_skip ?_)
     cases hr
     exact ⟨rfl,H.tq,K.keep []⟩
    refine qF H c42 (W_reg (qg 2 [(114,vB (a0.kind == 25))] H fun _ H=>qe ?_))
    cases hr
    exact ⟨rfl,H.tq,K.keep []⟩
   rintro e fr st ⟨rfl,H,K⟩
   rcases csplit hr with ⟨c44,hr⟩|⟨c44,hr⟩
   ·refine qT H c44 (sr (qg 1 [(117,aN a0)] H fun _ H=>?_))
    refine qb hr (fun x h s=>F104_R n _ _ x h (p0:=.shut)) H fun x45 hr fr H=>qg 1 [(119,vB x45)] H fun _ H=>?_
    rcases csplit hr with ⟨c46,hr⟩|⟨c46,hr⟩
    rotate_left
    ·rw [c46] at H
     refine qg 9 [(2,vB false)] H fun _ H=>qe (W_ret ?_)
     cases hr
     exact qr [vB false] H K
    rw [c46] at H
    refine qg 2 [(121,vS a0.name)] H fun _ H=>?_
    refine qb hr (fun x h s=>F205_R n _ x h) H fun x47 hr fr H=>qg 2 [(124,vB x47)] H fun _ H=>qg 3 [(127,vB (x47 && ((a0.kids.length:Int) == 0)))] H (hs:=by intro _ _; generalize (x47) = b0; cases b0 <;> kernel_rfl) fun _ H=>qg 1 [(2,vB (x47 && ((a0.kids.length:Int) == 0)))] H fun _ H=>qe (W_ret ?_)
    cases hr
    exact qr [vB (x47 && ((a0.kids.length:Int) == 0))] H K
   refine qF H c44 (W_seq ?_)
   obtain ⟨j49,hj49,hr⟩:=obind hr
   refine W_via (fun e fr st=>e = .normal∧Rd fr [(1,cN a0 0),(3,vI (a0.kids.length:Int)),(8,vI a0.kind),(128,vB j49)]∧HL st []) ?_ ?_
   ·replace hr:=hj49
    refine sr (qg 2 [(128,vB (a0.kind == 27))] H fun _ H=>qe ?_)
    rcases csplit hr with ⟨c48,hr⟩|⟨c48,hr⟩
    ·refine qT H c48 (W_skip ?_)
     cases hr
     exact ⟨rfl,H.tq,K.keep []⟩
    refine qF H c48 (W_reg (qg 2 [(128,vB (a0.kind == 28))] H fun _ H=>qe ?_))
    cases hr
    exact ⟨rfl,H.tq,K.keep []⟩
   rintro e fr st ⟨rfl,H,K⟩
   rcases csplit hr with ⟨c50,hr⟩|⟨c50,hr⟩
   ·refine qT H c50 (sr (qg 1 [(131,aN a0)] H fun _ H=>?_))
    refine qb hr (fun x h s=>F104_R n _ _ x h (p0:=.shut)) H fun x51 hr fr H=>qg 1 [(133,vB x51)] H fun _ H=>?_
    rcases csplit hr with ⟨c52,hr⟩|⟨c52,hr⟩
    rotate_left
    ·rw [c52] at H
     refine qg 9 [(2,vB false)] H fun _ H=>qe (W_ret ?_)
     cases hr
     exact qr [vB false] H K
    rw [c52] at H
    refine qg 2 [(135,vS a0.name)] H fun _ H=>?_
    refine qb hr (fun x h s=>F174_R n _ x h) H fun x53 hr fr H=>qg 2 [(138,vB x53)] H fun _ H=>qg 3 [(141,vB (x53 && ((a0.kids.length:Int) == 0)))] H (hs:=by intro _ _; generalize (x53) = b0; cases b0 <;> kernel_rfl) fun _ H=>qg 1 [(2,vB (x53 && ((a0.kids.length:Int) == 0)))] H fun _ H=>qe (W_ret ?_)
    cases hr
    exact qr [vB (x53 && ((a0.kids.length:Int) == 0))] H K
   refine qF H c50 (sr (qg 2 [(142,vB (a0.kind == 31))] H fun _ H=>qe ?_))
   rcases csplit hr with ⟨c54,hr⟩|⟨c54,hr⟩
   ·refine qT H c54 (sr (qg 1 [(144,aN a0)] H fun _ H=>?_))
    refine qb hr (fun x h s=>F104_R n _ _ x h (p0:=.shut)) H fun x55 hr fr H=>qg 1 [(146,vB x55)] H fun _ H=>qg 3 [(149,vB (x55 && ((a0.kids.length:Int) == 3)))] H (hs:=by intro _ _; generalize (x55) = b0; cases b0 <;> kernel_rfl) fun _ H=>qg 1 [(150,vB (x55 && ((a0.kids.length:Int) == 3)))] H fun _ H=>?_
    rcases csplit hr with ⟨c56,hr⟩|⟨c56,hr⟩
    rotate_left
    ·rw [c56] at H
     refine qg 21 [(2,vB false)] H fun _ H=>qe (W_ret ?_)
     cases hr
     exact qr [vB false] H K
    rw [c56] at H
    refine qg 2 [(152,vL tNode a0.kids .shut)] H fun _ H=>?_
    refine qix tNode 22 .shut hr H fun x57 hr hx57 fr H=>qg 1 [(154,aN x57)] H fun _ H=>?_
    refine qb hr (fun x h s=>ih_F106 _ x h (p0:=.shut)) H fun x58 hr fr H=>qg 2 [(157,vB x58)] H fun _ H=>?_
    rcases csplit hr with ⟨c59,hr⟩|⟨c59,hr⟩
    rotate_left
    ·rw [c59] at H
     refine qg 14 [(2,vB false)] H fun _ H=>qe (W_ret ?_)
     cases hr
     exact qr [vB false] H K
    rw [c59] at H
    refine qg 2 [(159,vL tNode a0.kids .shut)] H fun _ H=>?_
    refine qix tNode 22 .shut hr H fun x60 hr hx60 fr H=>qg 1 [(161,aN x60)] H fun _ H=>?_
    refine qb hr (fun x h s=>ih_F231 _ x h (p0:=.shut)) H fun x61 hr fr H=>qg 2 [(164,vB x61)] H fun _ H=>?_
    rcases csplit hr with ⟨c62,hr⟩|⟨c62,hr⟩
    rotate_left
    ·rw [c62] at H
     refine qg 7 [(2,vB false)] H fun _ H=>qe (W_ret ?_)
     cases hr
     exact qr [vB false] H K
    rw [c62] at H
    refine qg 2 [(166,vL tNode a0.kids .shut)] H fun _ H=>?_
    refine qix tNode 22 .shut hr H fun x63 hr hx63 fr H=>qg 1 [(168,aN x63)] H fun _ H=>?_
    refine qb hr (fun x h s=>ih_F231 _ x h (p0:=.shut)) H fun x64 hr fr H=>qg 2 [(2,vB x64)] H fun _ H=>qe (W_ret ?_)
    obtain rfl:=Option.some.inj hr
    exact qr [vB x64] H K
   refine qF H c54 (sr (qg 2 [(171,vB (a0.kind == 32))] H fun _ H=>qe ?_))
   rcases csplit hr with ⟨c65,hr⟩|⟨c65,hr⟩
   ·refine qT H c65 (sr (qg 1 [(173,aN a0)] H fun _ H=>?_))
    refine qb hr (fun x h s=>F104_R n _ _ x h (p0:=.shut)) H fun x66 hr fr H=>qg 1 [(175,vB x66)] H fun _ H=>qg 3 [(178,vB (x66 && ((a0.kids.length:Int) == 3)))] H (hs:=by intro _ _; generalize (x66) = b0; cases b0 <;> kernel_rfl) fun _ H=>qg 1 [(179,vB (x66 && ((a0.kids.length:Int) == 3)))] H fun _ H=>?_
    rcases csplit hr with ⟨c67,hr⟩|⟨c67,hr⟩
    rotate_left
    ·rw [c67] at H
     refine qg 28 [(2,vB false)] H fun _ H=>qe (W_ret ?_)
     cases hr
     exact qr [vB false] H K
    rw [c67] at H
    refine qg 2 [(181,vL tNode a0.kids .shut)] H fun _ H=>?_
    refine qix tNode 22 .shut hr H fun x68 hr hx68 fr H=>qg 1 [(183,aN x68)] H fun _ H=>?_
    refine qb hr (fun x h s=>ih_F106 _ x h (p0:=.shut)) H fun x69 hr fr H=>qg 2 [(186,vB x69)] H fun _ H=>?_
    rcases csplit hr with ⟨c70,hr⟩|⟨c70,hr⟩
    rotate_left
    ·rw [c70] at H
     refine qg 21 [(2,vB false)] H fun _ H=>qe (W_ret ?_)
     cases hr
     exact qr [vB false] H K
    rw [c70] at H
    refine qg 2 [(188,vL tNode a0.kids .shut)] H fun _ H=>?_
    refine qix tNode 22 .shut hr H fun x71 hr hx71 fr H=>qg 1 [(190,aN x71)] H fun _ H=>?_
    refine qb hr (fun x h s=>F230_R n _ x h (p0:=.shut)) H fun x72 hr fr H=>qg 1 [(192,vB x72)] H fun _ H=>?_
    rcases csplit hr with ⟨c73,hr⟩|⟨c73,hr⟩
    ·rw [c73] at H
     refine qg 10 [(200,vB true),(202,vL tNode a0.kids .shut)] H fun _ H=>?_
     refine qix tNode 22 .shut hr H fun x74 hr hx74 fr H=>qg 1 [(204,aN x74)] H fun _ H=>?_
     refine qb hr (fun x h s=>ih_F231 _ x h (p0:=.shut)) H fun x75 hr fr H=>qg 2 [(2,vB x75)] H fun _ H=>qe (W_ret ?_)
     obtain rfl:=Option.some.inj hr
     exact qr [vB x75] H K
    rw [c73] at H
    refine qg 2 [(194,vL tNode a0.kids .shut)] H fun _ H=>?_
    refine qix tNode 22 .shut hr H fun x76 hr hx76 fr H=>qg 1 [(196,aN x76)] H fun _ H=>?_
    refine qb hr (fun x h s=>ih_F106 _ x h (p0:=.shut)) H fun x77 hr fr H=>qg 3 [(200,vB x77)] H fun _ H=>?_
    rcases csplit hr with ⟨c78,hr⟩|⟨c78,hr⟩
    rotate_left
    ·rw [c78] at H
     refine qg 7 [(2,vB false)] H fun _ H=>qe (W_ret ?_)
     cases hr
     exact qr [vB false] H K
    rw [c78] at H
    refine qg 2 [(202,vL tNode a0.kids .shut)] H fun _ H=>?_
    refine qix tNode 22 .shut hr H fun x79 hr hx79 fr H=>qg 1 [(204,aN x79)] H fun _ H=>?_
    refine qb hr (fun x h s=>ih_F231 _ x h (p0:=.shut)) H fun x80 hr fr H=>qg 2 [(2,vB x80)] H fun _ H=>qe (W_ret ?_)
    obtain rfl:=Option.some.inj hr
    exact qr [vB x80] H K
   refine qF H c65 (sr (qg 2 [(207,vB (a0.kind == 33))] H fun _ H=>qe ?_))
   rcases csplit hr with ⟨c81,hr⟩|⟨c81,hr⟩
   ·refine qT H c81 (sr (qg 1 [(209,aN a0)] H fun _ H=>?_))
    refine qb hr (fun x h s=>F104_R n _ _ x h (p0:=.shut)) H fun x82 hr fr H=>qg 1 [(211,vB x82)] H fun _ H=>?_
    rcases csplit hr with ⟨c83,hr⟩|⟨c83,hr⟩
    rotate_left
    ·rw [c83] at H
     refine qg 9 [(2,vB false)] H fun _ H=>qe (W_ret ?_)
     cases hr
     exact qr [vB false] H K
    rw [c83] at H
    refine qg 2 [(213,vS a0.name)] H fun _ H=>?_
    refine qb hr (fun x h s=>F205_R n _ x h) H fun x84 hr fr H=>qg 2 [(216,vB x84)] H fun _ H=>?_
    rcases csplit hr with ⟨c85,hr⟩|⟨c85,hr⟩
    rotate_left
    ·rw [c85] at H
     refine qg 4 [(2,vB false)] H fun _ H=>qe (W_ret ?_)
     cases hr
     exact qr [vB false] H K
    rw [c85] at H
    refine qg 1 [(217,aN a0)] H fun _ H=>?_
    refine qb hr (fun x h s=>ih_F105 _ _ x h (p0:=.shut)) H fun x86 hr fr H=>qg 2 [(2,vB x86)] H fun _ H=>qe (W_ret ?_)
    obtain rfl:=Option.some.inj hr
    exact qr [vB x86] H K
   refine qF H c81 (sr (qg 2 [(220,vB (a0.kind == 35))] H fun _ H=>qe ?_))
   rcases csplit hr with ⟨c87,hr⟩|⟨c87,hr⟩
   rotate_left
   ·refine qF H c87 (W_skip (sr (qg 1 [(2,vB false)] H fun _ H=>qe (W_ret ?_))))
    cases hr
    exact qr [vB false] H K
   refine qT H c87 (sr (qg 1 [(222,aN a0)] H fun _ H=>?_))
   refine qb hr (fun x h s=>F104_R n _ _ x h (p0:=.shut)) H fun x88 hr fr H=>qg 1 [(224,vB x88)] H fun _ H=>?_
   rcases csplit hr with ⟨c89,hr⟩|⟨c89,hr⟩
   rotate_left
   ·rw [c89] at H
    refine qg 9 [(2,vB false)] H fun _ H=>qe (W_ret ?_)
    cases hr
    exact qr [vB false] H K
   rw [c89] at H
   refine qg 2 [(226,vS a0.name)] H fun _ H=>?_
   refine qb hr (fun x h s=>F174_R n _ x h) H fun x90 hr fr H=>qg 2 [(229,vB x90)] H fun _ H=>qg 3 [(232,vB (x90 && ((a0.kids.length:Int) == 0)))] H (hs:=by intro _ _; generalize (x90) = b0; cases b0 <;> kernel_rfl) fun _ H=>qg 1 [(2,vB (x90 && ((a0.kids.length:Int) == 0)))] H fun _ H=>qe (W_ret ?_)
   cases hr
   exact qr [vB (x90 && ((a0.kids.length:Int) == 0))] H K
  ·intro a0 r hr st p0
   change F173_step (F204 n) (F203 n) (F229 n) (F231 n) (F202 n) (F173 n) (F106 n) (F172 n) (F105 n) n a0 = some r at hr
   unfold F173_step at hr
   refine R_pureX [aN a0] [(0,aN a0)] Tryz.func173 rfl (by simp only [strip,stripL,stripL_cNode,Option.bind_some,Option.map_some]) rfl fun fr st H K=>sr (qg 2 [(1,cN a0 0)] H fun _ H=>qe (sr (qg 4 [(6,vB (a0.kind == 2))] H fun _ H=>?_)))
   rcases csplit hr with ⟨c1,hr⟩|⟨c1,hr⟩
   rotate_left
   ·rw [c1] at H
    refine qg 19 [(2,vB false)] H fun _ H=>qe (W_ret ?_)
    cases hr
    exact qr [vB false] H K
   rw [c1] at H
   refine qg 1 [(7,aN a0)] H fun _ H=>?_
   refine qb hr (fun x h s=>F104_R n _ _ x h (p0:=.shut)) H fun x2 hr fr H=>qg 2 [(10,vB x2)] H fun _ H=>?_
   rcases csplit hr with ⟨c3,hr⟩|⟨c3,hr⟩
   rotate_left
   ·rw [c3] at H
    refine qg 15 [(2,vB false)] H fun _ H=>qe (W_ret ?_)
    cases hr
    exact qr [vB false] H K
   rw [c3] at H
   refine qg 2 [(12,vS a0.name)] H fun _ H=>?_
   refine qb hr (fun x h s=>F205_R n _ x h) H fun x4 hr fr H=>qg 2 [(15,vB x4)] H fun _ H=>?_
   rcases csplit hr with ⟨c5,hr⟩|⟨c5,hr⟩
   rotate_left
   ·rw [c5] at H
    refine qg 10 [(2,vB false)] H fun _ H=>qe (W_ret ?_)
    cases hr
    exact qr [vB false] H K
   rw [c5] at H
   refine qg 2 [(17,vL tNode a0.kids .shut)] H fun _ H=>?_
   refine qln tNode 22 a0.kids .shut H fun _ H=>qg 3 [(21,vB (decide ((a0.kids.length:Int)≤1)))] H fun _ H=>?_
   rcases csplit hr with ⟨c6,hr⟩|⟨c6,hr⟩
   rotate_left
   ·rw [c6] at H
    refine qg 4 [(2,vB false)] H fun _ H=>qe (W_ret ?_)
    cases hr
    exact qr [vB false] H K
   rw [c6] at H
   refine qg 1 [(22,aN a0)] H fun _ H=>?_
   refine qb hr (fun x h s=>ih_F105 _ _ x h (p0:=.shut)) H fun x7 hr fr H=>qg 2 [(2,vB x7)] H fun _ H=>qe (W_ret ?_)
   obtain rfl:=Option.some.inj hr
   exact qr [vB x7] H K
  ·intro a0 r hr st p0
   change F106_step (F204 n) (F203 n) (F229 n) (F231 n) (F202 n) (F173 n) (F106 n) (F172 n) (F105 n) n a0 = some r at hr
   unfold F106_step at hr
   refine R_pureX [aN a0] [(0,aN a0)] Tryz.func106 rfl (by simp only [strip,stripL,stripL_cNode,Option.bind_some,Option.map_some]) rfl fun fr st H K=>sr (qg 2 [(1,cN a0 0)] H fun _ H=>qe (sr (qg 2 [(9,vL tNode a0.kids .shut)] H fun _ H=>?_)))
   refine qln tNode 22 a0.kids .shut H fun _ H=>qg 1 [(3,vI (a0.kids.length:Int))] H fun _ H=>qe (W_seq (W_seq (W_reg (qg 2 [(12,vI a0.kind)] H fun _ H=>qe (W_block (sr (qg 2 [(13,vB (a0.kind == 1))] H fun _ H=>qe ?_)))))))
   rcases csplit hr with ⟨c1,hr⟩|⟨c1,hr⟩
   ·refine qT H c1 (sr (qg 1 [(15,aN a0)] H fun _ H=>?_))
    refine qb hr (fun x h s=>F104_R n _ _ x h (p0:=.shut)) H fun x2 hr fr H=>qg 1 [(17,vB x2)] H fun _ H=>qg 3 [(20,vB (x2 && ((a0.kids.length:Int) == 0)))] H (hs:=by intro _ _; generalize (x2) = b0; cases b0 <;> kernel_rfl) fun _ H=>qg 1 [(2,vB (x2 && ((a0.kids.length:Int) == 0)))] H fun _ H=>qe (W_ret ?_)
    cases hr
    exact qr [vB (x2 && ((a0.kids.length:Int) == 0))] H K
   refine qF H c1 (sr (qg 2 [(21,vB (a0.kind == 2))] H fun _ H=>qe ?_))
   rcases csplit hr with ⟨c3,hr⟩|⟨c3,hr⟩
   ·refine qT H c3 (sr (qg 1 [(23,aN a0)] H fun _ H=>?_))
    refine qb hr (fun x h s=>ih_F173 _ x h (p0:=.shut)) H fun x4 hr fr H=>qg 1 [(2,vB x4)] H fun _ H=>qe (W_ret ?_)
    obtain rfl:=Option.some.inj hr
    exact qr [vB x4] H K
   refine qF H c3 (sr (qg 2 [(25,vB (a0.kind == 3))] H fun _ H=>qe ?_))
   rcases csplit hr with ⟨c5,hr⟩|⟨c5,hr⟩
   ·refine qT H c5 (sr (qg 1 [(27,aN a0)] H fun _ H=>?_))
    refine qb hr (fun x h s=>F104_R n _ _ x h (p0:=.shut)) H fun x6 hr fr H=>qg 1 [(29,vB x6)] H fun _ H=>qg 3 [(32,vB (x6 && ((a0.kids.length:Int) == 1)))] H (hs:=by intro _ _; generalize (x6) = b0; cases b0 <;> kernel_rfl) fun _ H=>qg 1 [(33,vB (x6 && ((a0.kids.length:Int) == 1)))] H fun _ H=>?_
    rcases csplit hr with ⟨c7,hr⟩|⟨c7,hr⟩
    rotate_left
    ·rw [c7] at H
     refine qg 7 [(2,vB false)] H fun _ H=>qe (W_ret ?_)
     cases hr
     exact qr [vB false] H K
    rw [c7] at H
    refine qg 2 [(35,vL tNode a0.kids .shut)] H fun _ H=>?_
    refine qix tNode 22 .shut hr H fun x8 hr hx8 fr H=>qg 1 [(37,aN x8)] H fun _ H=>?_
    refine qb hr (fun x h s=>ih_F173 _ x h (p0:=.shut)) H fun x9 hr fr H=>qg 2 [(2,vB x9)] H fun _ H=>qe (W_ret ?_)
    obtain rfl:=Option.some.inj hr
    exact qr [vB x9] H K
   refine qF H c5 (sr (qg 2 [(40,vB (a0.kind == 4))] H fun _ H=>qe ?_))
   rcases csplit hr with ⟨c10,hr⟩|⟨c10,hr⟩
   ·refine qT H c10 (sr (qg 1 [(42,aN a0)] H fun _ H=>?_))
    refine qb hr (fun x h s=>F104_R n _ _ x h (p0:=.shut)) H fun x11 hr fr H=>qg 1 [(44,vB x11)] H fun _ H=>qg 3 [(47,vB (x11 && ((a0.kids.length:Int) == 1)))] H (hs:=by intro _ _; generalize (x11) = b0; cases b0 <;> kernel_rfl) fun _ H=>qg 1 [(48,vB (x11 && ((a0.kids.length:Int) == 1)))] H fun _ H=>?_
    rcases csplit hr with ⟨c12,hr⟩|⟨c12,hr⟩
    rotate_left
    ·rw [c12] at H
     refine qg 4 [(2,vB false)] H fun _ H=>qe (W_ret ?_)
     cases hr
     exact qr [vB false] H K
    rw [c12] at H
    refine qg 1 [(49,aN a0)] H fun _ H=>?_
    refine qb hr (fun x h s=>ih_F105 _ _ x h (p0:=.shut)) H fun x13 hr fr H=>qg 2 [(2,vB x13)] H fun _ H=>qe (W_ret ?_)
    obtain rfl:=Option.some.inj hr
    exact qr [vB x13] H K
   refine qF H c10 (sr (qg 2 [(52,vB (a0.kind == 5))] H fun _ H=>qe ?_))
   rcases csplit hr with ⟨c14,hr⟩|⟨c14,hr⟩
   rotate_left
   ·refine qF H c14 (sr (qg 2 [(99,vB (a0.kind == 6))] H fun _ H=>qe ?_))
    rcases csplit hr with ⟨c30,hr⟩|⟨c30,hr⟩
    ·refine qT H c30 (sr (qg 1 [(101,aN a0)] H fun _ H=>?_))
     refine qb hr (fun x h s=>F104_R n _ _ x h (p0:=.shut)) H fun x31 hr fr H=>qg 1 [(103,vB x31)] H fun _ H=>qg 3 [(106,vB (x31 && ((a0.kids.length:Int) == 3)))] H (hs:=by intro _ _; generalize (x31) = b0; cases b0 <;> kernel_rfl) fun _ H=>qg 1 [(107,vB (x31 && ((a0.kids.length:Int) == 3)))] H fun _ H=>?_
     rcases csplit hr with ⟨c32,hr⟩|⟨c32,hr⟩
     rotate_left
     ·rw [c32] at H
      refine qg 4 [(2,vB false)] H fun _ H=>qe (W_ret ?_)
      cases hr
      exact qr [vB false] H K
     rw [c32] at H
     refine qg 1 [(108,aN a0)] H fun _ H=>?_
     refine qb hr (fun x h s=>ih_F105 _ _ x h (p0:=.shut)) H fun x33 hr fr H=>qg 2 [(2,vB x33)] H fun _ H=>qe (W_ret ?_)
     obtain rfl:=Option.some.inj hr
     exact qr [vB x33] H K
    refine qF H c30 (W_seq ?_)
    obtain ⟨j35,hj35,hr⟩:=obind hr
    refine W_via (fun e fr st=>e = .normal∧Rd fr [(1,cN a0 0),(3,vI (a0.kids.length:Int)),(111,vB j35)]∧HL st []) ?_ ?_
    ·replace hr:=hj35
     refine sr (qg 2 [(111,vB (a0.kind == 7))] H fun _ H=>qe ?_)
     rcases csplit hr with ⟨c34,hr⟩|⟨c34,hr⟩
     ·refine qT H c34 (W_skip ?_)
      cases hr
      exact ⟨rfl,H.tq,K.keep []⟩
     refine qF H c34 (W_reg (qg 2 [(111,vB (a0.kind == 8))] H fun _ H=>qe ?_))
     cases hr
     exact ⟨rfl,H.tq,K.keep []⟩
    rintro e fr st ⟨rfl,H,K⟩
    rcases csplit hr with ⟨c36,hr⟩|⟨c36,hr⟩
    rotate_left
    ·refine qF H c36 (W_skip (sr (qg 1 [(2,vB false)] H fun _ H=>qe (W_ret ?_))))
     cases hr
     exact qr [vB false] H K
    refine qT H c36 (sr (qg 1 [(114,aN a0)] H fun _ H=>?_))
    refine qb hr (fun x h s=>F104_R n _ _ x h (p0:=.shut)) H fun x37 hr fr H=>qg 1 [(116,vB x37)] H fun _ H=>?_
    rcases csplit hr with ⟨c38,hr⟩|⟨c38,hr⟩
    rotate_left
    ·rw [c38] at H
     refine qg 13 [(2,vB false)] H fun _ H=>qe (W_ret ?_)
     cases hr
     exact qr [vB false] H K
    rw [c38] at H
    refine qg 2 [(118,vS a0.name)] H fun _ H=>?_
    refine qb hr (fun x h s=>F174_R n _ x h) H fun x39 hr fr H=>qg 2 [(121,vB x39)] H fun _ H=>qg 3 [(124,vB (x39 && ((a0.kids.length:Int) == 1)))] H (hs:=by intro _ _; generalize (x39) = b0; cases b0 <;> kernel_rfl) fun _ H=>qg 1 [(125,vB (x39 && ((a0.kids.length:Int) == 1)))] H fun _ H=>?_
    rcases csplit hr with ⟨c40,hr⟩|⟨c40,hr⟩
    rotate_left
    ·rw [c40] at H
     refine qg 4 [(2,vB false)] H fun _ H=>qe (W_ret ?_)
     cases hr
     exact qr [vB false] H K
    rw [c40] at H
    refine qg 1 [(126,aN a0)] H fun _ H=>?_
    refine qb hr (fun x h s=>ih_F105 _ _ x h (p0:=.shut)) H fun x41 hr fr H=>qg 2 [(2,vB x41)] H fun _ H=>qe (W_ret ?_)
    obtain rfl:=Option.some.inj hr
    exact qr [vB x41] H K
   refine qT H c14 (sr (qg 4 [(4,vB (strEq a0.name (bs [61,61,62])))] H fun _ H=>qe (sr ?_)))
   refine qb hr (fun x h s=>F73_R  x h) H fun x15 hr fr H=>qg 1 [(5,vL (tL tS) x15 .shut)] H fun _ H=>qe (W_seq (W_seq (W_reg (qg 1 [(6,vI 0)] H fun _ H=>qe (W_block ?_)))))
   obtain ⟨r25,hr25,hr⟩:=obind hr
   refine W_iter hr25 (fun (s16:Bool × Int) fr st=>Rd fr [(1,cN a0 0),(3,vI (a0.kids.length:Int)),(4,vB s16.1),(5,vL (tL tS) x15 .shut),(6,vI s16.2)]∧HL st []) (fun (r25:Bool) e fr st=>e = .exit 1∧Rd fr [(1,cN a0 0),(3,vI (a0.kids.length:Int)),(4,vB r25)]∧HL st []) ⟨H.tq,K.keep []⟩ ?_ ?_
   ·intro s16 fr st r hi hr
    obtain ⟨H,K⟩:=hi
    refine W_seq (W_seq (W_reg (qg 2 [(58,vI s16.2),(59,vL (tL tS) x15 .shut)] H fun _ H=>?_)))
    refine qln (tL tS) 98 x15 .shut H fun _ H=>qg 1 [(61,vB (decide (s16.2 < (x15.length:Int))))] H fun _ H=>qe ?_
    rcases csplit hr with ⟨c17,hr⟩|⟨c17,hr⟩
    rotate_left
    ·refine qF H c17 ?_
     refine W_exit ?_
     cases hr
     exact ⟨by simp,⟨rfl,H.tq,K.keep []⟩⟩
    refine qT H c17 (W_skip (W_seq (W_block (sr (qg 1 [(7,vI 0)] H fun _ H=>qe (W_block ?_))))))
    obtain ⟨r24,hr24,hr⟩:=obind hr
    refine W_iter hr24 (fun (s18:Bool × Int) fr st=>Rd fr [(1,cN a0 0),(3,vI (a0.kids.length:Int)),(4,vB s18.1),(5,vL (tL tS) x15 .shut),(6,vI s16.2),(7,vI s18.2)]∧HL st []) (fun (r24:Bool) e fr st=>e = .exit 3∧Rd fr [(1,cN a0 0),(3,vI (a0.kids.length:Int)),(4,vB r24),(5,vL (tL tS) x15 .shut),(6,vI s16.2)]∧HL st []) ⟨H.tq,K.keep []⟩ ?_ ?_
    ·intro s18 fr st r hi hr
     obtain ⟨H,K⟩:=hi
     refine W_seq (W_seq (W_reg (qg 3 [(64,vI s18.2),(65,vL (tL tS) x15 .shut),(66,vI s16.2)] H fun _ H=>?_)))
     refine qix (tL tS) 98 .shut hr H fun x19 hr hx19 fr H=>qg 1 [(68,vL tS x19 .shut)] H fun _ H=>?_
     refine qln tS 30 x19 .shut H fun _ H=>qg 1 [(70,vB (decide (s18.2 < (x19.length:Int))))] H fun _ H=>qe ?_
     rcases csplit hr with ⟨c20,hr⟩|⟨c20,hr⟩
     rotate_left
     ·refine qF H c20 ?_
      refine W_exit ?_
      cases hr
      exact ⟨by simp,⟨rfl,H.tq,K.keep []⟩⟩
     refine qT H c20 (W_skip (W_seq (W_block ?_)))
     refine W_drw (qg 2 [(74,vB s18.1)] H fun _ H=>?_)
     rcases csplit hr with ⟨c21,hr⟩|⟨c21,hr⟩
     ·rw [c21] at H
      refine qg 12 [(4,vB true)] H fun _ H=>qe (qd (W_reg (qg 3 [(7,vI (w64 (s18.2 + 1)))] H fun _ H=>qe ?_)))
      cases hr
      exact ⟨rfl,⟨H.tq,K.keep []⟩⟩
     rw [c21] at H
     refine qg 2 [(75,vL (tL tS) x15 .shut),(76,vI s16.2)] H fun _ H=>?_
     refine qix (tL tS) 98 .shut hr H fun x22 hr hx22 fr H=>qg 2 [(78,vL tS x22 .shut),(79,vI s18.2)] H fun _ H=>?_
     refine qix tS 30 .shut hr H fun x23 hr hx23 fr H=>qg 6 [(4,vB (strEq x23 a0.name))] H fun _ H=>qe (qd (W_reg (qg 3 [(7,vI (w64 (s18.2 + 1)))] H fun _ H=>qe ?_)))
     cases hr
     exact ⟨rfl,⟨H.tq,K.keep []⟩⟩
    rintro e fr st ⟨rfl,H,K⟩
    refine W_reg (qg 3 [(6,vI (w64 (s16.2 + 1)))] H fun _ H=>qe ?_)
    cases hr
    exact ⟨rfl,⟨H.tq,K.keep []⟩⟩
   rintro e fr st ⟨rfl,H,K⟩
   refine sr (qg 2 [(87,vB r25)] H fun _ H=>?_)
   rcases csplit hr with ⟨c26,hr⟩|⟨c26,hr⟩
   rotate_left
   ·rw [c26] at H
    refine qg 12 [(2,vB false)] H fun _ H=>qe (W_ret ?_)
    cases hr
    exact qr [vB false] H K
   rw [c26] at H
   refine qg 1 [(88,aN a0)] H fun _ H=>?_
   refine qb hr (fun x h s=>F104_R n _ _ x h (p0:=.shut)) H fun x27 hr fr H=>qg 2 [(91,vB x27)] H fun _ H=>qg 3 [(94,vB (x27 && ((a0.kids.length:Int) == 2)))] H (hs:=by intro _ _; generalize (x27) = b0; cases b0 <;> kernel_rfl) fun _ H=>qg 1 [(95,vB (x27 && ((a0.kids.length:Int) == 2)))] H fun _ H=>?_
   rcases csplit hr with ⟨c28,hr⟩|⟨c28,hr⟩
   rotate_left
   ·rw [c28] at H
    refine qg 4 [(2,vB false)] H fun _ H=>qe (W_ret ?_)
    cases hr
    exact qr [vB false] H K
   rw [c28] at H
   refine qg 1 [(96,aN a0)] H fun _ H=>?_
   refine qb hr (fun x h s=>ih_F105 _ _ x h (p0:=.shut)) H fun x29 hr fr H=>qg 2 [(2,vB x29)] H fun _ H=>qe (W_ret ?_)
   obtain rfl:=Option.some.inj hr
   exact qr [vB x29] H K
  ·intro a0 a1 r hr st p0
   change F172_step (F204 n) (F203 n) (F229 n) (F231 n) (F202 n) (F173 n) (F106 n) (F172 n) (F105 n) n a0 a1 = some r at hr
   unfold F172_step at hr
   refine R_pureX [vI a0,aN a1] [(0,vI a0),(1,aN a1)] Tryz.func172 rfl (by simp only [strip,stripL,stripL_cNode,Option.bind_some,Option.map_some]) rfl fun fr st H K=>sr (qg 2 [(3,cN a1 0)] H fun _ H=>qe (W_seq (W_seq (W_reg (qg 1 [(5,vI a0)] H fun _ H=>qe (W_block (sr (qg 2 [(6,vB (a0 == 1))] H fun _ H=>qe ?_))))))))
   rcases csplit hr with ⟨c1,hr⟩|⟨c1,hr⟩
   ·refine qT H c1 (sr (qg 1 [(8,aN a1)] H fun _ H=>?_))
    refine qb hr (fun x h s=>ih_F202 _ x h (p0:=.shut)) H fun x2 hr fr H=>qg 1 [(4,vB x2)] H fun _ H=>qe (W_ret ?_)
    obtain rfl:=Option.some.inj hr
    exact qr [vB x2] H K
   refine qF H c1 (sr (qg 2 [(10,vB (a0 == 2))] H fun _ H=>qe ?_))
   rcases csplit hr with ⟨c3,hr⟩|⟨c3,hr⟩
   ·refine qT H c3 (sr (qg 4 [(15,vB (a1.kind == 52))] H fun _ H=>?_))
    rcases csplit hr with ⟨c4,hr⟩|⟨c4,hr⟩
    rotate_left
    ·rw [c4] at H
     refine qg 15 [(4,vB false)] H fun _ H=>qe (W_ret ?_)
     cases hr
     exact qr [vB false] H K
    rw [c4] at H
    refine qg 1 [(16,aN a1)] H fun _ H=>?_
    refine qb hr (fun x h s=>F104_R n _ _ x h (p0:=.shut)) H fun x5 hr fr H=>qg 2 [(19,vB x5)] H fun _ H=>?_
    rcases csplit hr with ⟨c6,hr⟩|⟨c6,hr⟩
    rotate_left
    ·rw [c6] at H
     refine qg 11 [(4,vB false)] H fun _ H=>qe (W_ret ?_)
     cases hr
     exact qr [vB false] H K
    rw [c6] at H
    refine qg 2 [(21,vS a1.name)] H fun _ H=>?_
    refine qb hr (fun x h s=>F174_R n _ x h) H fun x7 hr fr H=>qg 2 [(24,vB x7)] H fun _ H=>?_
    rcases csplit hr with ⟨c8,hr⟩|⟨c8,hr⟩
    rotate_left
    ·rw [c8] at H
     refine qg 6 [(4,vB false)] H fun _ H=>qe (W_ret ?_)
     cases hr
     exact qr [vB false] H K
    rw [c8] at H
    refine qg 2 [(26,vL tNode a1.kids .shut)] H fun _ H=>?_
    refine qln tNode 22 a1.kids .shut H fun _ H=>qg 3 [(4,vB ((a1.kids.length:Int) == 0))] H fun _ H=>qe (W_ret ?_)
    cases hr
    exact qr [vB ((a1.kids.length:Int) == 0)] H K
   refine qF H c3 (sr (qg 2 [(30,vB (a0 == 3))] H fun _ H=>qe ?_))
   rcases csplit hr with ⟨c9,hr⟩|⟨c9,hr⟩
   ·refine qT H c9 (sr (qg 4 [(35,vB (a1.kind == 58))] H fun _ H=>?_))
    rcases csplit hr with ⟨c10,hr⟩|⟨c10,hr⟩
    rotate_left
    ·rw [c10] at H
     refine qg 15 [(4,vB false)] H fun _ H=>qe (W_ret ?_)
     cases hr
     exact qr [vB false] H K
    rw [c10] at H
    refine qg 1 [(36,aN a1)] H fun _ H=>?_
    refine qb hr (fun x h s=>F104_R n _ _ x h (p0:=.shut)) H fun x11 hr fr H=>qg 2 [(39,vB x11)] H fun _ H=>?_
    rcases csplit hr with ⟨c12,hr⟩|⟨c12,hr⟩
    rotate_left
    ·rw [c12] at H
     refine qg 11 [(4,vB false)] H fun _ H=>qe (W_ret ?_)
     cases hr
     exact qr [vB false] H K
    rw [c12] at H
    refine qg 2 [(41,vS a1.name)] H fun _ H=>?_
    refine qb hr (fun x h s=>F174_R n _ x h) H fun x13 hr fr H=>qg 2 [(44,vB x13)] H fun _ H=>?_
    rcases csplit hr with ⟨c14,hr⟩|⟨c14,hr⟩
    rotate_left
    ·rw [c14] at H
     refine qg 6 [(4,vB false)] H fun _ H=>qe (W_ret ?_)
     cases hr
     exact qr [vB false] H K
    rw [c14] at H
    refine qg 2 [(46,vL tNode a1.kids .shut)] H fun _ H=>?_
    refine qln tNode 22 a1.kids .shut H fun _ H=>qg 3 [(4,vB ((a1.kids.length:Int) == 0))] H fun _ H=>qe (W_ret ?_)
    cases hr
    exact qr [vB ((a1.kids.length:Int) == 0)] H K
   refine qF H c9 (sr (qg 2 [(50,vB (a0 == 4))] H fun _ H=>qe ?_))
   rcases csplit hr with ⟨c15,hr⟩|⟨c15,hr⟩
   ·refine qT H c15 (sr (qg 1 [(52,aN a1)] H fun _ H=>?_))
    refine qb hr (fun x h s=>ih_F203 _ x h (p0:=.shut)) H fun x16 hr fr H=>qg 1 [(4,vB x16)] H fun _ H=>qe (W_ret ?_)
    obtain rfl:=Option.some.inj hr
    exact qr [vB x16] H K
   refine qF H c15 (sr (qg 2 [(54,vB (a0 == 5))] H fun _ H=>qe ?_))
   rcases csplit hr with ⟨c17,hr⟩|⟨c17,hr⟩
   ·refine qT H c17 (sr (qg 1 [(56,aN a1)] H fun _ H=>?_))
    refine qb hr (fun x h s=>ih_F204 _ x h (p0:=.shut)) H fun x18 hr fr H=>qg 1 [(4,vB x18)] H fun _ H=>qe (W_ret ?_)
    obtain rfl:=Option.some.inj hr
    exact qr [vB x18] H K
   refine qF H c17 (sr (qg 2 [(58,vB (a0 == 6))] H fun _ H=>qe ?_))
   rcases csplit hr with ⟨c19,hr⟩|⟨c19,hr⟩
   ·refine qT H c19 (sr (qg 4 [(63,vB (a1.kind == 1))] H fun _ H=>?_))
    rcases csplit hr with ⟨c20,hr⟩|⟨c20,hr⟩
    rotate_left
    ·rw [c20] at H
     refine qg 4 [(4,vB false)] H fun _ H=>qe (W_ret ?_)
     cases hr
     exact qr [vB false] H K
    rw [c20] at H
    refine qg 1 [(64,aN a1)] H fun _ H=>?_
    refine qb hr (fun x h s=>ih_F106 _ x h (p0:=.shut)) H fun x21 hr fr H=>qg 2 [(4,vB x21)] H fun _ H=>qe (W_ret ?_)
    obtain rfl:=Option.some.inj hr
    exact qr [vB x21] H K
   refine qF H c19 (sr (qg 2 [(67,vB (a0 == 7))] H fun _ H=>qe ?_))
   rcases csplit hr with ⟨c22,hr⟩|⟨c22,hr⟩
   rotate_left
   ·refine qF H c22 (W_skip (sr (qg 1 [(77,aN a1)] H fun _ H=>?_)))
    refine qb hr (fun x h s=>ih_F106 _ x h (p0:=.shut)) H fun x25 hr fr H=>qg 1 [(4,vB x25)] H fun _ H=>qe (W_ret ?_)
    obtain rfl:=Option.some.inj hr
    exact qr [vB x25] H K
   refine qT H c22 (sr (qg 1 [(69,aN a1)] H fun _ H=>?_))
   refine qb hr (fun x h s=>ih_F173 _ x h (p0:=.shut)) H fun x23 hr fr H=>qg 1 [(71,vB x23)] H fun _ H=>?_
   rcases csplit hr with ⟨c24,hr⟩|⟨c24,hr⟩
   rotate_left
   ·rw [c24] at H
    refine qg 6 [(4,vB false)] H fun _ H=>qe (W_ret ?_)
    cases hr
    exact qr [vB false] H K
   rw [c24] at H
   refine qg 2 [(73,vL tNode a1.kids .shut)] H fun _ H=>?_
   refine qln tNode 22 a1.kids .shut H fun _ H=>qg 3 [(4,vB ((a1.kids.length:Int) == 0))] H fun _ H=>qe (W_ret ?_)
   cases hr
   exact qr [vB ((a1.kids.length:Int) == 0)] H K
  ·intro a0 a1 r hr st p0
   change F105_step (F204 n) (F203 n) (F229 n) (F231 n) (F202 n) (F173 n) (F106 n) (F172 n) (F105 n) n a0 a1 = some r at hr
   unfold F105_step at hr
   refine R_pureX [aN a0,vI a1] [(0,aN a0),(1,vI a1)] Tryz.func105 rfl (by simp only [strip,stripL,stripL_cNode,Option.bind_some,Option.map_some]) rfl fun fr st H K=>sr (qg 2 [(2,cN a0 0)] H fun _ H=>qe (W_seq (W_seq (W_reg (qg 1 [(5,vI 0)] H fun _ H=>qe (W_block ?_))))))
   obtain ⟨r6,hr6,hr⟩:=obind hr
   refine W_iter hr6 (fun (s1:Int) fr st=>Rd fr [(1,vI a1),(2,cN a0 0),(5,vI s1)]∧HL st []) (fun (r6:Unit ⊕ Unit) e fr st=>match r6 with | .inl r6a=>(e = .ret∧Rd fr [(4,vB false)]∧HL st []) | .inr r6b=>(e = .exit 0∧Rd fr []∧HL st [])) ⟨H.tq,K.keep []⟩ ?_ ?_
   ·intro s1 fr st r hi hr
    obtain ⟨H,K⟩:=hi
    refine W_seq (W_seq (W_reg (qg 3 [(6,vI s1),(8,vL tNode a0.kids .shut)] H fun _ H=>?_)))
    refine qln tNode 22 a0.kids .shut H fun _ H=>qg 1 [(10,vB (decide (s1 < (a0.kids.length:Int))))] H fun _ H=>qe ?_
    rcases csplit hr with ⟨c2,hr⟩|⟨c2,hr⟩
    rotate_left
    ·refine qF H c2 ?_
     refine W_exit ?_
     cases hr
     exact ⟨by simp,⟨rfl,H.tq,K.keep []⟩⟩
    refine qT H c2 (W_skip (W_seq (W_block (sr (qg 4 [(13,vI a1),(15,vL tNode a0.kids .shut),(16,vI s1)] H fun _ H=>?_)))))
    refine qix tNode 22 .shut hr H fun x3 hr hx3 fr H=>qg 1 [(18,aN x3)] H fun _ H=>?_
    refine qb hr (fun x h s=>ih_F172 _ _ x h (p0:=.shut)) H fun x4 hr fr H=>qg 1 [(20,vB !x4)] H fun _ H=>qe ?_
    rcases csplit hr with ⟨c5,hr⟩|⟨c5,hr⟩
    ·refine qT H c5 (sr (qg 1 [(4,vB false)] H fun _ H=>qe (W_ret ?_)))
     cases hr
     exact ⟨by simp,⟨rfl,H.tq,K.keep []⟩⟩
    refine qF H c5 (W_skip (W_reg (qg 3 [(5,vI (w64 (s1 + 1)))] H fun _ H=>qe ?_)))
    cases hr
    exact ⟨rfl,⟨H.tq,K.keep []⟩⟩
   rcases r6 with r6a | r6b
   ·rintro e fr st ⟨rfl,H,K⟩
    cases hr
    exact qr [vB false] H K
   rintro e fr st ⟨rfl,H,K⟩
   refine sr (qg 1 [(4,vB true)] H fun _ H=>qe (W_ret ?_))
   cases hr
   exact qr [vB true] H K
theorem F106_R (n:Nat) (a0:Node) (r:Bool) (hr:F106 n a0 = some r) {st:St} {p0:Spare}:R Tryz.prog AN 106 [.agg (cNode p0 a0)] st (.ret (vB r)) st:=(F204_RR n).2.2.2.2.2.2.1 a0 r hr
theorem F105_R (n:Nat) (a0:Node) (a1:Int) (r:Bool) (hr:F105 n a0 a1 = some r) {st:St} {p0:Spare}:R Tryz.prog AN 105 [.agg (cNode p0 a0),vI a1] st (.ret (vB r)) st:=(F204_RR n).2.2.2.2.2.2.2.2 a0 a1 r hr
def F69 (n:Nat) (a0:Node):Option Bool :=
 bif a0.kind == 62 then
  ((F104 n a0 (bs [])).bind fun x2 =>
  bif x2 then
   ((F105 n a0 (5:Int)).bind fun x4 =>
   some x4)
  else
   (some false))
 else
  ((F106 n a0).bind fun x5 =>
  some x5)
theorem F69_R (n:Nat) (a0:Node) (r:Bool) (hr:F69 n a0 = some r) {st:St} {p0:Spare}:R Tryz.prog AN 69 [.agg (cNode p0 a0)] st (.ret (vB r)) st:=by
 unfold F69 at hr
 refine R_pureX [aN a0] [(0,aN a0)] Tryz.func69 rfl (by simp only [strip,stripL,stripL_cNode,Option.bind_some,Option.map_some]) rfl fun fr st H K=>sr (qg 2 [(1,cN a0 0)] H fun _ H=>qe (W_seq (W_seq (W_reg (qg 3 [(5,vB (a0.kind == 62))] H fun _ H=>qe ?_)))))
 rcases csplit hr with ⟨c1,hr⟩|⟨c1,hr⟩
 rotate_left
 ·refine qF H c1 (W_skip (sr (qg 1 [(12,aN a0)] H fun _ H=>?_)))
  refine qb hr (fun x h s=>F106_R n _ x h (p0:=.shut)) H fun x5 hr fr H=>qg 1 [(2,vB x5)] H fun _ H=>qe (W_ret ?_)
  obtain rfl:=Option.some.inj hr
  exact qr [vB x5] H K
 refine qT H c1 (sr (qg 1 [(6,aN a0)] H fun _ H=>?_))
 refine qb hr (fun x h s=>F104_R n _ _ x h (p0:=.shut)) H fun x2 hr fr H=>qg 1 [(8,vB x2)] H fun _ H=>?_
 rcases csplit hr with ⟨c3,hr⟩|⟨c3,hr⟩
 rotate_left
 ·rw [c3] at H
  refine qg 4 [(2,vB false)] H fun _ H=>qe (W_ret ?_)
  cases hr
  exact qr [vB false] H K
 rw [c3] at H
 refine qg 1 [(9,aN a0)] H fun _ H=>?_
 refine qb hr (fun x h s=>F105_R n _ _ x h (p0:=.shut)) H fun x4 hr fr H=>qg 2 [(2,vB x4)] H fun _ H=>qe (W_ret ?_)
 obtain rfl:=Option.some.inj hr
 exact qr [vB x4] H K
def F31 (n:Nat) (a0:Node):Option Bool :=
 (F27 n a0).bind fun x1 =>
 bif x1 then
  ((F69 n a0).bind fun x3 =>
  some x3)
 else
  (some false)
theorem F31_R (n:Nat) (a0:Node) (r:Bool) (hr:F31 n a0 = some r) {st:St} {p0:Spare}:R Tryz.prog AN 31 [.agg (cNode p0 a0)] st (.ret (vB r)) st:=by
 unfold F31 at hr
 refine R_pureX [aN a0] [(0,aN a0)] Tryz.func31 rfl (by simp only [strip,stripL,stripL_cNode,Option.bind_some,Option.map_some]) rfl fun fr st H K=>sr (qg 2 [(1,cN a0 0)] H fun _ H=>qe (sr (qg 1 [(3,aN a0)] H fun _ H=>?_)))
 refine qb hr (fun x h s=>F27_R n _ x h (p0:=.shut)) H fun x1 hr fr H=>qg 1 [(5,vB x1)] H fun _ H=>?_
 rcases csplit hr with ⟨c2,hr⟩|⟨c2,hr⟩
 rotate_left
 ·rw [c2] at H
  refine qg 4 [(2,vB false)] H fun _ H=>qe (W_ret ?_)
  cases hr
  exact qr [vB false] H K
 rw [c2] at H
 refine qg 1 [(6,aN a0)] H fun _ H=>?_
 refine qb hr (fun x h s=>F69_R n _ x h (p0:=.shut)) H fun x3 hr fr H=>qg 2 [(2,vB x3)] H fun _ H=>qe (W_ret ?_)
 obtain rfl:=Option.some.inj hr
 exact qr [vB x3] H K
def F189 (a0:ByteArray):Option Int :=
 bif strEq a0 (bs [61,61,62]) then
  (some (2:Int))
 else
  (bif strEq a0 (bs [124,124]) then
   (some (3:Int))
  else
   (bif strEq a0 (bs [38,38]) then
    (some (4:Int))
   else
    (bif strEq a0 (bs [124]) then
     (some (6:Int))
    else
     (bif strEq a0 (bs [94]) then
      (some (7:Int))
     else
      (bif strEq a0 (bs [38]) then
       (some (8:Int))
      else
       ((bif strEq a0 (bs [43]) then
         (some (strEq a0 (bs [43])))
        else
         (some (strEq a0 (bs [45]))):Option (Bool)).bind fun j8 =>
       bif j8 then
        (some (9:Int))
       else
        (bif strEq a0 (bs [42]) then
         (some (10:Int))
        else
         (some (5:Int)))))))))
theorem F189_R (a0:ByteArray) (r:Int) (hr:F189 a0 = some r) {st:St}:R Tryz.prog AN 189 [vS a0] st (.ret (vI r)) st:=by
 unfold F189 at hr
 refine R_pureX [vS a0] [(0,vS a0)] Tryz.func189 rfl (by kernel_rfl) rfl fun fr st H K=>sr (qg 1 [] H fun _ H=>qe (W_seq (W_seq (W_reg (qg 1 [(3,vS a0)] H fun _ H=>qe (W_block (sr (qg 2 [(4,vB (strEq a0 (bs [61,61,62])))] H fun _ H=>qe ?_))))))))
 rcases csplit hr with ⟨c1,hr⟩|⟨c1,hr⟩
 ·refine qT H c1 (sr (qg 1 [(2,vI 2)] H fun _ H=>qe (W_ret ?_)))
  cases hr
  exact qr [vI 2] H K
 refine qF H c1 (sr (qg 2 [(6,vB (strEq a0 (bs [124,124])))] H fun _ H=>qe ?_))
 rcases csplit hr with ⟨c2,hr⟩|⟨c2,hr⟩
 ·refine qT H c2 (sr (qg 1 [(2,vI 3)] H fun _ H=>qe (W_ret ?_)))
  cases hr
  exact qr [vI 3] H K
 refine qF H c2 (sr (qg 2 [(8,vB (strEq a0 (bs [38,38])))] H fun _ H=>qe ?_))
 rcases csplit hr with ⟨c3,hr⟩|⟨c3,hr⟩
 ·refine qT H c3 (sr (qg 1 [(2,vI 4)] H fun _ H=>qe (W_ret ?_)))
  cases hr
  exact qr [vI 4] H K
 refine qF H c3 (sr (qg 2 [(10,vB (strEq a0 (bs [124])))] H fun _ H=>qe ?_))
 rcases csplit hr with ⟨c4,hr⟩|⟨c4,hr⟩
 ·refine qT H c4 (sr (qg 1 [(2,vI 6)] H fun _ H=>qe (W_ret ?_)))
  cases hr
  exact qr [vI 6] H K
 refine qF H c4 (sr (qg 2 [(12,vB (strEq a0 (bs [94])))] H fun _ H=>qe ?_))
 rcases csplit hr with ⟨c5,hr⟩|⟨c5,hr⟩
 ·refine qT H c5 (sr (qg 1 [(2,vI 7)] H fun _ H=>qe (W_ret ?_)))
  cases hr
  exact qr [vI 7] H K
 refine qF H c5 (sr (qg 2 [(14,vB (strEq a0 (bs [38])))] H fun _ H=>qe ?_))
 rcases csplit hr with ⟨c6,hr⟩|⟨c6,hr⟩
 ·refine qT H c6 (sr (qg 1 [(2,vI 8)] H fun _ H=>qe (W_ret ?_)))
  cases hr
  exact qr [vI 8] H K
 refine qF H c6 (W_seq ?_)
 obtain ⟨j8,hj8,hr⟩:=obind hr
 refine W_via (fun e fr st=>e = .normal∧Rd fr [(3,vS a0),(16,vB j8)]∧HL st []) ?_ ?_
 ·replace hr:=hj8
  refine sr (qg 2 [(16,vB (strEq a0 (bs [43])))] H fun _ H=>qe ?_)
  rcases csplit hr with ⟨c7,hr⟩|⟨c7,hr⟩
  ·refine qT H c7 (W_skip ?_)
   cases hr
   exact ⟨rfl,H.tq,K.keep []⟩
  refine qF H c7 (W_reg (qg 2 [(16,vB (strEq a0 (bs [45])))] H fun _ H=>qe ?_))
  cases hr
  exact ⟨rfl,H.tq,K.keep []⟩
 rintro e fr st ⟨rfl,H,K⟩
 rcases csplit hr with ⟨c9,hr⟩|⟨c9,hr⟩
 ·refine qT H c9 (sr (qg 1 [(2,vI 9)] H fun _ H=>qe (W_ret ?_)))
  cases hr
  exact qr [vI 9] H K
 refine qF H c9 (sr (qg 2 [(19,vB (strEq a0 (bs [42])))] H fun _ H=>qe ?_))
 rcases csplit hr with ⟨c10,hr⟩|⟨c10,hr⟩
 ·refine qT H c10 (sr (qg 1 [(2,vI 10)] H fun _ H=>qe (W_ret ?_)))
  cases hr
  exact qr [vI 10] H K
 refine qF H c10 (W_skip (sr (qg 1 [(2,vI 5)] H fun _ H=>qe (W_ret ?_))))
 cases hr
 exact qr [vI 5] H K
def F188 (a0:Node):Option Int :=
 (bif a0.kind == 7 then
   (some (a0.kind == 7))
  else
   (some (a0.kind == 8)):Option (Bool)).bind fun j2 =>
 bif j2 then
  (some (0:Int))
 else
  (bif a0.kind == 6 then
   (some (1:Int))
  else
   (bif a0.kind == 4 then
    (some (11:Int))
   else
    (bif a0.kind == 5 then
     ((F189 a0.name).bind fun x7 =>
     some x7)
    else
     (some (12:Int)))))
theorem F188_R (a0:Node) (r:Int) (hr:F188 a0 = some r) {st:St} {p0:Spare}:R Tryz.prog AN 188 [.agg (cNode p0 a0)] st (.ret (vI r)) st:=by
 unfold F188 at hr
 refine R_pureX [aN a0] [(0,aN a0)] Tryz.func188 rfl (by simp only [strip,stripL,stripL_cNode,Option.bind_some,Option.map_some]) rfl fun fr st H K=>sr (qg 2 [(1,cN a0 0)] H fun _ H=>qe (W_seq (W_seq (W_reg (qg 2 [(4,vI a0.kind)] H fun _ H=>qe (W_block (W_seq ?_)))))))
 obtain ⟨j2,hj2,hr⟩:=obind hr
 refine W_via (fun e fr st=>e = .normal∧Rd fr [(1,cN a0 0),(4,vI a0.kind),(5,vB j2)]∧HL st []) ?_ ?_
 ·replace hr:=hj2
  refine sr (qg 2 [(5,vB (a0.kind == 7))] H fun _ H=>qe ?_)
  rcases csplit hr with ⟨c1,hr⟩|⟨c1,hr⟩
  ·refine qT H c1 (W_skip ?_)
   cases hr
   exact ⟨rfl,H.tq,K.keep []⟩
  refine qF H c1 (W_reg (qg 2 [(5,vB (a0.kind == 8))] H fun _ H=>qe ?_))
  cases hr
  exact ⟨rfl,H.tq,K.keep []⟩
 rintro e fr st ⟨rfl,H,K⟩
 rcases csplit hr with ⟨c3,hr⟩|⟨c3,hr⟩
 ·refine qT H c3 (sr (qg 1 [(2,vI 0)] H fun _ H=>qe (W_ret ?_)))
  cases hr
  exact qr [vI 0] H K
 refine qF H c3 (sr (qg 2 [(8,vB (a0.kind == 6))] H fun _ H=>qe ?_))
 rcases csplit hr with ⟨c4,hr⟩|⟨c4,hr⟩
 ·refine qT H c4 (sr (qg 1 [(2,vI 1)] H fun _ H=>qe (W_ret ?_)))
  cases hr
  exact qr [vI 1] H K
 refine qF H c4 (sr (qg 2 [(10,vB (a0.kind == 4))] H fun _ H=>qe ?_))
 rcases csplit hr with ⟨c5,hr⟩|⟨c5,hr⟩
 ·refine qT H c5 (sr (qg 1 [(2,vI 11)] H fun _ H=>qe (W_ret ?_)))
  cases hr
  exact qr [vI 11] H K
 refine qF H c5 (sr (qg 2 [(12,vB (a0.kind == 5))] H fun _ H=>qe ?_))
 rcases csplit hr with ⟨c6,hr⟩|⟨c6,hr⟩
 rotate_left
 ·refine qF H c6 (W_skip (sr (qg 1 [(2,vI 12)] H fun _ H=>qe (W_ret ?_))))
  cases hr
  exact qr [vI 12] H K
 refine qT H c6 (sr (qg 2 [(15,vS a0.name)] H fun _ H=>?_))
 refine qb hr (fun x h s=>F189_R  _ x h) H fun x7 hr fr H=>qg 1 [(2,vI x7)] H fun _ H=>qe (W_ret ?_)
 obtain rfl:=Option.some.inj hr
 exact qr [vI x7] H K
def F131 (a0:ByteArray):Option (Int × Int) :=
 (F189 a0).bind fun x1 =>
 bif x1 == 2 then
  (some ((3:Int),(2:Int)))
 else
  (bif x1 == 5 then
   (some ((6:Int),(6:Int)))
  else
   (some (x1,w64 (x1 + 1))))
theorem F131_R (a0:ByteArray) (r:Int × Int) (hr:F131 a0 = some r) {st:St}:R Tryz.prog AN 131 [vS a0] st (.ret (.tuple [vI r.1,vI r.2])) st:=by
 unfold F131 at hr
 refine R_pureX [vS a0] [(0,vS a0)] Tryz.func131 rfl (by kernel_rfl) rfl fun fr st H K=>sr (qg 2 [] H fun _ H=>qe (sr (qg 1 [(5,vS a0)] H fun _ H=>?_)))
 refine qb hr (fun x h s=>F189_R  _ x h) H fun x1 hr fr H=>qg 1 [(4,vI x1)] H fun _ H=>qe (W_seq (W_seq (W_reg (qg 2 [(8,vB (x1 == 2))] H fun _ H=>qe ?_))))
 rcases csplit hr with ⟨c2,hr⟩|⟨c2,hr⟩
 ·refine qT H c2 (sr (qg 2 [(2,vI 3),(3,vI 2)] H fun _ H=>qe (W_ret ?_)))
  cases hr
  exact e_ret [vI 3,vI 2] H K (fun _=>resT (by kernel_rfl) (resT (by kernel_rfl) resN)) (fun _=>by kernel_rfl)
 refine qF H c2 (W_skip (W_seq (W_seq (W_reg (qg 2 [(10,vB (x1 == 5))] H fun _ H=>qe ?_)))))
 rcases csplit hr with ⟨c3,hr⟩|⟨c3,hr⟩
 ·refine qT H c3 (sr (qg 2 [(2,vI 6),(3,vI 6)] H fun _ H=>qe (W_ret ?_)))
  cases hr
  exact e_ret [vI 6,vI 6] H K (fun _=>resT (by kernel_rfl) (resT (by kernel_rfl) resN)) (fun _=>by kernel_rfl)
 refine qF H c3 (W_skip (sr (qg 5 [(2,vI x1),(3,vI (w64 (x1 + 1)))] H fun _ H=>qe (W_ret ?_))))
 cases hr
 exact e_ret [vI x1,vI (w64 (x1 + 1))] H K (fun _=>resT (by kernel_rfl) (resT (by kernel_rfl) resN)) (fun _=>by kernel_rfl)
def F130_step (_:Node→Int→Option ByteArray) (F80:Node→Option ByteArray) (_:Nat) (a0:Node) (a1:Int):Option ByteArray :=
 (F188 a0).bind fun x1 =>
 bif decide (x1 < a1) then
  ((F80 a0).bind fun x3 =>
  (catS (bs [40]) x3).bind fun x4 =>
  (catS x4 (bs [41])).bind fun x5 =>
  some x5)
 else
  ((F80 a0).bind fun x6 =>
  some x6)
def F80_step (F130:Node→Int→Option ByteArray) (_:Node→Option ByteArray) (_:Nat) (a0:Node):Option ByteArray :=
 bif a0.kind == 1 then
  ((itoaF a0.n).bind fun x2 =>
  some x2)
 else
  (bif a0.kind == 2 then
   (bif (a0.kids.length:Int) == 0 then
    (some a0.name)
   else
    ((catS a0.name (bs [91])).bind fun x5 =>
    (idxL a0.kids 0).bind fun x6 =>
    (F130 x6 (0:Int)).bind fun x7 =>
    (catS x5 x7).bind fun x8 =>
    (catS x8 (bs [93])).bind fun x9 =>
    some x9))
  else
   (bif a0.kind == 3 then
    ((idxL a0.kids 0).bind fun x11 =>
    (F130 x11 (0:Int)).bind fun x12 =>
    (catS (bs [111,108,100,40]) x12).bind fun x13 =>
    (catS x13 (bs [41])).bind fun x14 =>
    some x14)
   else
    (bif a0.kind == 4 then
     ((idxL a0.kids 0).bind fun x16 =>
     (F130 x16 (11:Int)).bind fun x17 =>
     (catS (bs [33]) x17).bind fun x18 =>
     some x18)
    else
     (bif a0.kind == 5 then
      ((F131 a0.name).bind fun x20 =>
      (idxL a0.kids 0).bind fun x21 =>
      (F130 x21 x20.1).bind fun x22 =>
      (catS x22 (bs [32])).bind fun x23 =>
      (catS x23 a0.name).bind fun x24 =>
      (catS x24 (bs [32])).bind fun x25 =>
      (idxL a0.kids 1).bind fun x26 =>
      (F130 x26 x20.2).bind fun x27 =>
      (catS x25 x27).bind fun x28 =>
      some x28)
     else
      (bif a0.kind == 6 then
       ((idxL a0.kids 0).bind fun x30 =>
       (F130 x30 (2:Int)).bind fun x31 =>
       (catS x31 (bs [32,63,32])).bind fun x32 =>
       (idxL a0.kids 1).bind fun x33 =>
       (F130 x33 (1:Int)).bind fun x34 =>
       (catS x32 x34).bind fun x35 =>
       (catS x35 (bs [32,58,32])).bind fun x36 =>
       (idxL a0.kids 2).bind fun x37 =>
       (F130 x37 (1:Int)).bind fun x38 =>
       (catS x36 x38).bind fun x39 =>
       some x39)
      else
       ((bif a0.kind == 8 then
         (some (bs [115,111,109,101,32]))
        else
         (some (bs [97,108,108,32])):Option (ByteArray)).bind fun j41 =>
       (catS j41 a0.name).bind fun x42 =>
       (catS x42 (bs [32,60,32])).bind fun x43 =>
       (itoaF a0.n).bind fun x44 =>
       (catS x43 x44).bind fun x45 =>
       (catS x45 (bs [32,58,32])).bind fun x46 =>
       (idxL a0.kids 0).bind fun x47 =>
       (F130 x47 (0:Int)).bind fun x48 =>
       (catS x46 x48).bind fun x49 =>
       some x49))))))
mutual
def F130:Nat→Node→Int→Option ByteArray
 | 0,_,_=>none
 | n + 1,a0,a1=>F130_step (F130 n) (F80 n) n a0 a1
def F80:Nat→Node→Option ByteArray
 | 0,_=>none
 | n + 1,a0=>F80_step (F130 n) (F80 n) n a0
end
theorem F130_RR (n:Nat):(∀ (a0:Node) (a1:Int) (r:ByteArray),F130 n a0 a1 = some r→∀ {st:St} {p0:Spare},R Tryz.prog AN 130 [.agg (cNode p0 a0),vI a1] st (.ret (vS r)) st)∧(∀ (a0:Node) (r:ByteArray),F80 n a0 = some r→∀ {st:St} {p0:Spare},R Tryz.prog AN 80 [.agg (cNode p0 a0)] st (.ret (vS r)) st):=by
 induction n with
 | zero=>exact ⟨by intros; contradiction,by intros; contradiction⟩
 | succ n ih =>
  obtain ⟨ih_F130,ih_F80⟩:=ih
  refine ⟨?_,?_⟩
  ·intro a0 a1 r hr st p0
   change F130_step (F130 n) (F80 n) n a0 a1 = some r at hr
   unfold F130_step at hr
   refine R_pureX [aN a0,vI a1] [(0,aN a0),(1,vI a1)] Tryz.func130 rfl (by simp only [strip,stripL,stripL_cNode,Option.bind_some,Option.map_some]) rfl fun fr st H K=>sr (qg 2 [(2,cN a0 0)] H fun _ H=>qe (W_seq (W_seq (W_reg (qg 1 [(5,aN a0)] H fun _ H=>?_)))))
   refine qb hr (fun x h s=>F188_R  _ x h (p0:=.shut)) H fun x1 hr fr H=>qg 2 [(8,vB (decide (x1 < a1)))] H fun _ H=>qe ?_
   rcases csplit hr with ⟨c2,hr⟩|⟨c2,hr⟩
   rotate_left
   ·refine qF H c2 (W_skip (sr (qg 1 [(13,aN a0)] H fun _ H=>?_)))
    refine qb hr (fun x h s=>ih_F80 _ x h (p0:=.shut)) H fun x6 hr fr H=>qg 1 [(4,vS x6)] H fun _ H=>qe (W_ret ?_)
    obtain rfl:=Option.some.inj hr
    exact qr [vS x6] H K
   refine qT H c2 (sr (qg 1 [(9,aN a0)] H fun _ H=>?_))
   refine qb hr (fun x h s=>ih_F80 _ x h (p0:=.shut)) H fun x3 hr fr H=>?_
   obtain ⟨x4,hx4,hr⟩:=obind hr
   refine qv (.bin .add 9 (.const (.string (bs [40]))) (.tmp 10) (vS (bs [40])) (vS x3)) H (run_cat hx4) fun _ H=>?_
   obtain ⟨x5,hx5,hr⟩:=obind hr
   refine qv (.bin .add 9 (.tmp 11) (.const (.string (bs [41]))) (vS x4) (vS (bs [41]))) H (run_cat hx5) fun _ H=>qg 1 [(4,vS x5)] H fun _ H=>qe (W_ret ?_)
   obtain rfl:=Option.some.inj hr
   exact qr [vS x5] H K
  ·intro a0 r hr st p0
   change F80_step (F130 n) (F80 n) n a0 = some r at hr
   unfold F80_step at hr
   refine R_pureX [aN a0] [(0,aN a0)] Tryz.func80 rfl (by simp only [strip,stripL,stripL_cNode,Option.bind_some,Option.map_some]) rfl fun fr st H K=>sr (qg 2 [(1,cN a0 0)] H fun _ H=>qe (W_seq (W_seq (W_reg (qg 2 [(7,vI a0.kind)] H fun _ H=>qe (W_block (sr (qg 2 [(8,vB (a0.kind == 1))] H fun _ H=>qe ?_))))))))
   rcases csplit hr with ⟨c1,hr⟩|⟨c1,hr⟩
   ·refine qT H c1 (sr (qg 2 [(11,vI a0.n)] H fun _ H=>?_))
    refine qb hr (fun x h s=>itoa_R _ x h) H fun x2 hr fr H=>qg 1 [(2,vS x2)] H fun _ H=>qe (W_ret ?_)
    obtain rfl:=Option.some.inj hr
    exact qr [vS x2] H K
   refine qF H c1 (sr (qg 2 [(13,vB (a0.kind == 2))] H fun _ H=>qe ?_))
   rcases csplit hr with ⟨c3,hr⟩|⟨c3,hr⟩
   ·refine qT H c3 (W_seq (W_seq (W_reg (qg 2 [(16,vL tNode a0.kids .shut)] H fun _ H=>?_))))
    refine qln tNode 22 a0.kids .shut H fun _ H=>qg 1 [(18,vB ((a0.kids.length:Int) == 0))] H fun _ H=>qe ?_
    rcases csplit hr with ⟨c4,hr⟩|⟨c4,hr⟩
    ·refine qT H c4 (sr (qg 3 [(2,vS a0.name)] H fun _ H=>qe (W_ret ?_)))
     cases hr
     exact qr [vS a0.name] H K
    refine qF H c4 (W_skip (W_seq (W_drw (qg 2 [(22,vS a0.name)] H fun _ H=>?_))))
    obtain ⟨x5,hx5,hr⟩:=obind hr
    refine qv (.bin .add 9 (.tmp 22) (.const (.string (bs [91]))) (vS a0.name) (vS (bs [91]))) H (run_cat hx5) fun _ H=>qg 2 [(25,vL tNode a0.kids .shut)] H fun _ H=>?_
    refine qix tNode 22 .shut hr H fun x6 hr hx6 fr H=>qg 1 [(27,aN x6)] H fun _ H=>?_
    refine qb hr (fun x h s=>ih_F130 _ _ x h (p0:=.shut)) H fun x7 hr fr H=>?_
    obtain ⟨x8,hx8,hr⟩:=obind hr
    refine qv (.bin .add 9 (.tmp 23) (.tmp 28) (vS x5) (vS x7)) H (run_cat hx8) fun _ H=>?_
    obtain ⟨x9,hx9,hr⟩:=obind hr
    refine qv (.bin .add 9 (.tmp 29) (.const (.string (bs [93]))) (vS x8) (vS (bs [93]))) H (run_cat hx9) fun _ H=>qg 1 [(2,vS x9)] H fun _ H=>qe (qd (W_ret ?_))
    obtain rfl:=Option.some.inj hr
    exact qr [vS x9] H K
   refine qF H c3 (sr (qg 2 [(31,vB (a0.kind == 3))] H fun _ H=>qe ?_))
   rcases csplit hr with ⟨c10,hr⟩|⟨c10,hr⟩
   ·refine qT H c10 (sr (qg 2 [(34,vL tNode a0.kids .shut)] H fun _ H=>?_))
    refine qix tNode 22 .shut hr H fun x11 hr hx11 fr H=>qg 1 [(36,aN x11)] H fun _ H=>?_
    refine qb hr (fun x h s=>ih_F130 _ _ x h (p0:=.shut)) H fun x12 hr fr H=>?_
    obtain ⟨x13,hx13,hr⟩:=obind hr
    refine qv (.bin .add 9 (.const (.string (bs [111,108,100,40]))) (.tmp 37) (vS (bs [111,108,100,40])) (vS x12)) H (run_cat hx13) fun _ H=>?_
    obtain ⟨x14,hx14,hr⟩:=obind hr
    refine qv (.bin .add 9 (.tmp 38) (.const (.string (bs [41]))) (vS x13) (vS (bs [41]))) H (run_cat hx14) fun _ H=>qg 1 [(2,vS x14)] H fun _ H=>qe (W_ret ?_)
    obtain rfl:=Option.some.inj hr
    exact qr [vS x14] H K
   refine qF H c10 (sr (qg 2 [(40,vB (a0.kind == 4))] H fun _ H=>qe ?_))
   rcases csplit hr with ⟨c15,hr⟩|⟨c15,hr⟩
   ·refine qT H c15 (sr (qg 2 [(43,vL tNode a0.kids .shut)] H fun _ H=>?_))
    refine qix tNode 22 .shut hr H fun x16 hr hx16 fr H=>qg 1 [(45,aN x16)] H fun _ H=>?_
    refine qb hr (fun x h s=>ih_F130 _ _ x h (p0:=.shut)) H fun x17 hr fr H=>?_
    obtain ⟨x18,hx18,hr⟩:=obind hr
    refine qv (.bin .add 9 (.const (.string (bs [33]))) (.tmp 46) (vS (bs [33])) (vS x17)) H (run_cat hx18) fun _ H=>qg 1 [(2,vS x18)] H fun _ H=>qe (W_ret ?_)
    obtain rfl:=Option.some.inj hr
    exact qr [vS x18] H K
   refine qF H c15 (sr (qg 2 [(48,vB (a0.kind == 5))] H fun _ H=>qe ?_))
   rcases csplit hr with ⟨c19,hr⟩|⟨c19,hr⟩
   ·refine qT H c19 (sr (qg 2 [(52,vS a0.name)] H fun _ H=>?_))
    refine qb hr (fun x h s=>F131_R  _ x h) H fun x20 hr fr H=>qg 5 [(3,vI x20.1),(4,vI x20.2)] H fun _ H=>qe (W_seq (W_drw (qg 2 [(57,vL tNode a0.kids .shut)] H fun _ H=>?_)))
    refine qix tNode 22 .shut hr H fun x21 hr hx21 fr H=>qg 2 [(59,aN x21),(60,vI x20.1)] H fun _ H=>?_
    refine qb hr (fun x h s=>ih_F130 _ _ x h (p0:=.shut)) H fun x22 hr fr H=>?_
    obtain ⟨x23,hx23,hr⟩:=obind hr
    refine qv (.bin .add 9 (.tmp 61) (.const (.string (bs [32]))) (vS x22) (vS (bs [32]))) H (run_cat hx23) fun _ H=>qg 2 [(64,vS a0.name)] H fun _ H=>?_
    obtain ⟨x24,hx24,hr⟩:=obind hr
    refine qv (.bin .add 9 (.tmp 62) (.tmp 64) (vS x23) (vS a0.name)) H (run_cat hx24) fun _ H=>?_
    obtain ⟨x25,hx25,hr⟩:=obind hr
    refine qv (.bin .add 9 (.tmp 65) (.const (.string (bs [32]))) (vS x24) (vS (bs [32]))) H (run_cat hx25) fun _ H=>qg 2 [(68,vL tNode a0.kids .shut)] H fun _ H=>?_
    refine qix tNode 22 .shut hr H fun x26 hr hx26 fr H=>qg 2 [(70,aN x26),(71,vI x20.2)] H fun _ H=>?_
    refine qb hr (fun x h s=>ih_F130 _ _ x h (p0:=.shut)) H fun x27 hr fr H=>?_
    obtain ⟨x28,hx28,hr⟩:=obind hr
    refine qv (.bin .add 9 (.tmp 66) (.tmp 72) (vS x25) (vS x27)) H (run_cat hx28) fun _ H=>qg 1 [(2,vS x28)] H fun _ H=>qe (qd (W_ret ?_))
    obtain rfl:=Option.some.inj hr
    exact qr [vS x28] H K
   refine qF H c19 (sr (qg 2 [(74,vB (a0.kind == 6))] H fun _ H=>qe ?_))
   rcases csplit hr with ⟨c29,hr⟩|⟨c29,hr⟩
   ·refine qT H c29 (W_seq (W_drw (qg 2 [(77,vL tNode a0.kids .shut)] H fun _ H=>?_)))
    refine qix tNode 22 .shut hr H fun x30 hr hx30 fr H=>qg 1 [(79,aN x30)] H fun _ H=>?_
    refine qb hr (fun x h s=>ih_F130 _ _ x h (p0:=.shut)) H fun x31 hr fr H=>?_
    obtain ⟨x32,hx32,hr⟩:=obind hr
    refine qv (.bin .add 9 (.tmp 80) (.const (.string (bs [32,63,32]))) (vS x31) (vS (bs [32,63,32]))) H (run_cat hx32) fun _ H=>qg 2 [(83,vL tNode a0.kids .shut)] H fun _ H=>?_
    refine qix tNode 22 .shut hr H fun x33 hr hx33 fr H=>qg 1 [(85,aN x33)] H fun _ H=>?_
    refine qb hr (fun x h s=>ih_F130 _ _ x h (p0:=.shut)) H fun x34 hr fr H=>?_
    obtain ⟨x35,hx35,hr⟩:=obind hr
    refine qv (.bin .add 9 (.tmp 81) (.tmp 86) (vS x32) (vS x34)) H (run_cat hx35) fun _ H=>?_
    obtain ⟨x36,hx36,hr⟩:=obind hr
    refine qv (.bin .add 9 (.tmp 87) (.const (.string (bs [32,58,32]))) (vS x35) (vS (bs [32,58,32]))) H (run_cat hx36) fun _ H=>qg 2 [(90,vL tNode a0.kids .shut)] H fun _ H=>?_
    refine qix tNode 22 .shut hr H fun x37 hr hx37 fr H=>qg 1 [(92,aN x37)] H fun _ H=>?_
    refine qb hr (fun x h s=>ih_F130 _ _ x h (p0:=.shut)) H fun x38 hr fr H=>?_
    obtain ⟨x39,hx39,hr⟩:=obind hr
    refine qv (.bin .add 9 (.tmp 88) (.tmp 93) (vS x36) (vS x38)) H (run_cat hx39) fun _ H=>qg 1 [(2,vS x39)] H fun _ H=>qe (qd (W_ret ?_))
    obtain rfl:=Option.some.inj hr
    exact qr [vS x39] H K
   refine qF H c29 (W_skip (sr (qg 1 [(5,vS (bs [97,108,108,32]))] H fun _ H=>qe (W_seq ?_))))
   obtain ⟨j41,hj41,hr⟩:=obind hr
   refine W_via (fun e fr st=>e = .normal∧Rd fr [(1,cN a0 0),(5,vS j41)]∧HL st []) ?_ ?_
   ·replace hr:=hj41
    refine sr (qg 3 [(97,vB (a0.kind == 8))] H fun _ H=>qe ?_)
    rcases csplit hr with ⟨c40,hr⟩|⟨c40,hr⟩
    rotate_left
    ·refine qF H c40 (W_skip ?_)
     cases hr
     exact ⟨rfl,H.tq,K.keep []⟩
    refine qT H c40 (W_reg (qg 1 [(5,vS (bs [115,111,109,101,32]))] H fun _ H=>qe ?_))
    cases hr
    exact ⟨rfl,H.tq,K.keep []⟩
   rintro e fr st ⟨rfl,H,K⟩
   refine W_seq (W_drw (qg 3 [(98,vS j41),(100,vS a0.name)] H fun _ H=>?_))
   obtain ⟨x42,hx42,hr⟩:=obind hr
   refine qv (.bin .add 9 (.tmp 98) (.tmp 100) (vS j41) (vS a0.name)) H (run_cat hx42) fun _ H=>?_
   obtain ⟨x43,hx43,hr⟩:=obind hr
   refine qv (.bin .add 9 (.tmp 101) (.const (.string (bs [32,60,32]))) (vS x42) (vS (bs [32,60,32]))) H (run_cat hx43) fun _ H=>qg 2 [(104,vI a0.n)] H fun _ H=>?_
   refine qb hr (fun x h s=>itoa_R _ x h) H fun x44 hr fr H=>?_
   obtain ⟨x45,hx45,hr⟩:=obind hr
   refine qv (.bin .add 9 (.tmp 102) (.tmp 105) (vS x43) (vS x44)) H (run_cat hx45) fun _ H=>?_
   obtain ⟨x46,hx46,hr⟩:=obind hr
   refine qv (.bin .add 9 (.tmp 106) (.const (.string (bs [32,58,32]))) (vS x45) (vS (bs [32,58,32]))) H (run_cat hx46) fun _ H=>qg 2 [(109,vL tNode a0.kids .shut)] H fun _ H=>?_
   refine qix tNode 22 .shut hr H fun x47 hr hx47 fr H=>qg 1 [(111,aN x47)] H fun _ H=>?_
   refine qb hr (fun x h s=>ih_F130 _ _ x h (p0:=.shut)) H fun x48 hr fr H=>?_
   obtain ⟨x49,hx49,hr⟩:=obind hr
   refine qv (.bin .add 9 (.tmp 107) (.tmp 112) (vS x46) (vS x48)) H (run_cat hx49) fun _ H=>qg 1 [(2,vS x49)] H fun _ H=>qe (qd (W_ret ?_))
   obtain rfl:=Option.some.inj hr
   exact qr [vS x49] H K
theorem F80_R (n:Nat) (a0:Node) (r:ByteArray) (hr:F80 n a0 = some r) {st:St} {p0:Spare}:R Tryz.prog AN 80 [.agg (cNode p0 a0)] st (.ret (vS r)) st:=(F130_RR n).2 a0 r hr
def F78 (n:Nat) (a0:ByteArray):Option (ByteArray × Int) :=
 (F39 n a0).bind fun x1 =>
 bif x1.2.1 != 0 then
  (some ((bs []),(2:Int)))
 else
  (some (a0,(0:Int)))
theorem F78_R (n:Nat) (a0:ByteArray) (r:ByteArray × Int) (hr:F78 n a0 = some r) {st:St}:R Tryz.prog AN 78 [vS a0] st (.ret (.tuple [vS r.1,vI r.2])) st:=by
 unfold F78 at hr
 refine R_pureX [vS a0] [(0,vS a0)] Tryz.func78 rfl (by kernel_rfl) rfl fun fr st H K=>sr (qg 2 [] H fun _ H=>qe (sr (qg 1 [(8,vS a0)] H fun _ H=>?_)))
 refine qb hr (fun x h s=>F39_R n _ x h) H fun x1 hr fr H=>qg 7 [(5,vI x1.2.1)] H fun _ H=>qe (W_seq (W_seq (W_reg (qg 2 [(14,vB (x1.2.1 != 0))] H fun _ H=>qe ?_))))
 rcases csplit hr with ⟨c2,hr⟩|⟨c2,hr⟩
 ·refine qT H c2 (sr (qg 2 [(2,vS (bs [])),(3,vI 2)] H fun _ H=>qe (W_ret ?_)))
  cases hr
  exact e_ret [vS (bs []),vI 2] H K (fun _=>resT (by kernel_rfl) (resT (by kernel_rfl) resN)) (fun _=>by kernel_rfl)
 refine qF H c2 (W_skip (sr (qg 3 [(2,vS a0),(3,vI 0)] H fun _ H=>qe (W_ret ?_))))
 cases hr
 exact e_ret [vS a0,vI 0] H K (fun _=>resT (by kernel_rfl) (resT (by kernel_rfl) resN)) (fun _=>by kernel_rfl)
def F53 (n:Nat) (a0:Node):Option (ByteArray × Int) :=
 (F31 n a0).bind fun x1 =>
 bif !x1 || (a0.kind == 62) then
  (some ((bs []),(1:Int)))
 else
  ((F80 n a0).bind fun x3 =>
  (F78 n x3).bind fun x4 =>
  some (x4.1,x4.2))
theorem F53_R (n:Nat) (a0:Node) (r:ByteArray × Int) (hr:F53 n a0 = some r) {st:St} {p0:Spare}:R Tryz.prog AN 53 [.agg (cNode p0 a0)] st (.ret (.tuple [vS r.1,vI r.2])) st:=by
 unfold F53 at hr
 refine R_pureX [aN a0] [(0,aN a0)] Tryz.func53 rfl (by simp only [strip,stripL,stripL_cNode,Option.bind_some,Option.map_some]) rfl fun fr st H K=>sr (qg 3 [(1,cN a0 0)] H fun _ H=>qe (sr (qg 1 [(5,aN a0)] H fun _ H=>?_)))
 refine qb hr (fun x h s=>F31_R n _ x h (p0:=.shut)) H fun x1 hr fr H=>qg 1 [(4,vB x1)] H fun _ H=>qe (W_seq (W_seq (W_reg (qg 3 [(9,vB !x1)] H fun _ H=>qg 4 [(13,vB (!x1 || (a0.kind == 62)))] H (hs:=by intro _ _; generalize (!x1) = b0; cases b0 <;> kernel_rfl) fun _ H=>qe ?_))))
 rcases csplit hr with ⟨c2,hr⟩|⟨c2,hr⟩
 ·refine qT H c2 (sr (qg 2 [(2,vS (bs [])),(3,vI 1)] H fun _ H=>qe (W_ret ?_)))
  cases hr
  exact e_ret [vS (bs []),vI 1] H K (fun _=>resT (by kernel_rfl) (resT (by kernel_rfl) resN)) (fun _=>by kernel_rfl)
 refine qF H c2 (W_skip (sr (qg 1 [(14,aN a0)] H fun _ H=>?_)))
 refine qb hr (fun x h s=>F80_R n _ x h (p0:=.shut)) H fun x3 hr fr H=>?_
 refine qb hr (fun x h s=>F78_R n _ x h) H fun x4 hr fr H=>qg 4 [(2,vS x4.1),(3,vI x4.2)] H fun _ H=>qe (W_ret ?_)
 cases hr
 exact e_ret [vS x4.1,vI x4.2] H K (fun _=>resT (by kernel_rfl) (resT (by kernel_rfl) resN)) (fun _=>by kernel_rfl)
def F21 (n:Nat) (a0:Node):Option Bool :=
 (F45 n a0 (120:Int)).bind fun x1 =>
 bif !x1 then
  (some false)
 else
  ((F53 n a0).bind fun x3 =>
  some (x3.2 == 0))
theorem F21_R (n:Nat) (a0:Node) (r:Bool) (hr:F21 n a0 = some r) {st:St} {p0:Spare}:R Tryz.prog AN 21 [.agg (cNode p0 a0)] st (.ret (vB r)) st:=by
 unfold F21 at hr
 refine R_pureX [aN a0] [(0,aN a0)] Tryz.func21 rfl (by simp only [strip,stripL,stripL_cNode,Option.bind_some,Option.map_some]) rfl fun fr st H K=>sr (qg 2 [(1,cN a0 0)] H fun _ H=>qe (W_seq (W_seq (W_reg (qg 1 [(5,aN a0)] H fun _ H=>?_)))))
 refine qb hr (fun x h s=>F45_R n _ _ x h (p0:=.shut)) H fun x1 hr fr H=>qg 1 [(7,vB !x1)] H fun _ H=>qe ?_
 rcases csplit hr with ⟨c2,hr⟩|⟨c2,hr⟩
 ·refine qT H c2 (sr (qg 1 [(2,vB false)] H fun _ H=>qe (W_ret ?_)))
  cases hr
  exact qr [vB false] H K
 refine qF H c2 (W_skip (sr (qg 1 [(9,aN a0)] H fun _ H=>?_)))
 refine qb hr (fun x h s=>F53_R n _ x h (p0:=.shut)) H fun x3 hr fr H=>qg 5 [(4,vI x3.2)] H fun _ H=>qe (sr (qg 3 [(2,vB (x3.2 == 0))] H fun _ H=>qe (W_ret ?_)))
 cases hr
 exact qr [vB (x3.2 == 0)] H K
def F44 (n:Nat) (a0:List Token) (a1:Int):Option Int :=
 (iter (σ:=Int × Int) (ρ:=Int ⊕ Unit) (fun s1=>bif decide (s1.2 < (a0.length:Int)) then
   (((idxL a0 s1.2).bind fun x3 =>
    bif strEq x3.text (bs [40]) then
     (some (w64 (s1.1 + 1)))
    else
     (some s1.1):Option (Int)).bind fun j5 =>
   (idxL a0 s1.2).bind fun x6 =>
   bif strEq x6.text (bs [41]) then
    (bif (w64 (j5 - 1)) == 0 then
     (some (.inr (.inl s1.2)))
    else
     (some (.inl (w64 (j5 - 1),w64 (s1.2 + 1)))))
   else
    (bif j5 == 0 then
     (some (.inr (.inl s1.2)))
    else
     (some (.inl (j5,w64 (s1.2 + 1))))))
  else
   (some (.inr (.inr ())))) n ((0:Int),a1)).bind fun r10=>match r10 with
 | .inl r10a=>some r10a
 | .inr _=>some ((-1):Int)
theorem F44_R (n:Nat) (a0:List Token) (a1:Int) (r:Int) (hr:F44 n a0 a1 = some r) {st:St} {p0:Spare}:R Tryz.prog AN 44 [vL tToken a0 p0,vI a1] st (.ret (vI r)) st:=by
 unfold F44 at hr
 refine R_pureX [vL tToken a0 .shut,vI a1] [(0,vL tToken a0 .shut),(1,vI a1)] Tryz.func44 rfl (by simp only [strip,stripL,stripL_ET,Option.bind_some,Option.map_some]) rfl fun fr st H K=>sr (qg 1 [] H fun _ H=>qe (sr (qg 1 [(5,vI 0)] H fun _ H=>qe (W_seq (W_seq (W_reg (qg 2 [(6,vI a1)] H fun _ H=>qe (W_block ?_))))))))
 obtain ⟨r10,hr10,hr⟩:=obind hr
 refine W_iter hr10 (fun (s1:Int × Int) fr st=>Rd fr [(0,vL tToken a0 .shut),(5,vI s1.1),(6,vI s1.2)]∧HL st []) (fun (r10:Int ⊕ Unit) e fr st=>match r10 with | .inl r10a=>(e = .ret∧Rd fr [(4,vI r10a)]∧HL st []) | .inr r10b=>(e = .exit 0∧Rd fr []∧HL st [])) ⟨H.tq,K.keep []⟩ ?_ ?_
 ·intro s1 fr st r hi hr
  obtain ⟨H,K⟩:=hi
  refine W_seq (W_seq (W_reg (qg 2 [(8,vI s1.2),(9,vL tToken a0 .shut)] H fun _ H=>?_)))
  refine qln tToken 56 a0 .shut H fun _ H=>qg 1 [(11,vB (decide (s1.2 < (a0.length:Int))))] H fun _ H=>qe ?_
  rcases csplit hr with ⟨c2,hr⟩|⟨c2,hr⟩
  rotate_left
  ·refine qF H c2 ?_
   refine W_exit ?_
   cases hr
   exact ⟨by simp,⟨rfl,H.tq,K.keep []⟩⟩
  refine qT H c2 (W_skip (W_seq (W_block (W_seq ?_))))
  obtain ⟨j5,hj5,hr⟩:=obind hr
  refine W_via (fun e fr st=>e = .normal∧Rd fr [(0,vL tToken a0 .shut),(5,vI j5),(6,vI s1.2)]∧HL st []) ?_ ?_
  ·replace hr:=hj5
   refine sr (qg 2 [(14,vL tToken a0 .shut),(15,vI s1.2)] H fun _ H=>?_)
   refine qix tToken 56 .shut hr H fun x3 hr hx3 fr H=>qg 3 [(19,vB (strEq x3.text (bs [40])))] H fun _ H=>qe ?_
   rcases csplit hr with ⟨c4,hr⟩|⟨c4,hr⟩
   rotate_left
   ·refine qF H c4 (W_skip ?_)
    cases hr
    exact ⟨rfl,H.tq,K.keep []⟩
   refine qT H c4 (W_reg (qg 3 [(5,vI (w64 (s1.1 + 1)))] H fun _ H=>qe ?_))
   cases hr
   exact ⟨rfl,H.tq,K.keep []⟩
  rintro e fr st ⟨rfl,H,K⟩
  refine W_seq (W_seq (W_reg (qg 2 [(22,vL tToken a0 .shut),(23,vI s1.2)] H fun _ H=>?_)))
  refine qix tToken 56 .shut hr H fun x6 hr hx6 fr H=>qg 3 [(27,vB (strEq x6.text (bs [41])))] H fun _ H=>qe ?_
  rcases csplit hr with ⟨c7,hr⟩|⟨c7,hr⟩
  rotate_left
  ·refine qF H c7 (W_skip (sr (qg 2 [(31,vB (j5 == 0))] H fun _ H=>qe ?_)))
   rcases csplit hr with ⟨c9,hr⟩|⟨c9,hr⟩
   ·refine qT H c9 (sr (qg 2 [(4,vI s1.2)] H fun _ H=>qe (W_ret ?_)))
    cases hr
    exact ⟨by simp,⟨rfl,H.tq,K.keep []⟩⟩
   refine qF H c9 (W_skip (W_reg (qg 3 [(6,vI (w64 (s1.2 + 1)))] H fun _ H=>qe ?_)))
   cases hr
   exact ⟨rfl,⟨H.tq,K.keep []⟩⟩
  refine qT H c7 (W_reg (qg 3 [(5,vI (w64 (j5 - 1)))] H fun _ H=>qe (sr (qg 2 [(31,vB ((w64 (j5 - 1)) == 0))] H fun _ H=>qe ?_))))
  rcases csplit hr with ⟨c8,hr⟩|⟨c8,hr⟩
  ·refine qT H c8 (sr (qg 2 [(4,vI s1.2)] H fun _ H=>qe (W_ret ?_)))
   cases hr
   exact ⟨by simp,⟨rfl,H.tq,K.keep []⟩⟩
  refine qF H c8 (W_skip (W_reg (qg 3 [(6,vI (w64 (s1.2 + 1)))] H fun _ H=>qe ?_)))
  cases hr
  exact ⟨rfl,⟨H.tq,K.keep []⟩⟩
 rcases r10 with r10a | r10b
 ·rintro e fr st ⟨rfl,H,K⟩
  obtain rfl:=Option.some.inj hr
  exact qr [vI r10a] H K
 rintro e fr st ⟨rfl,H,K⟩
 refine sr (qg 1 [(4,vI (-1))] H fun _ H=>qe (W_ret ?_))
 cases hr
 exact qr [vI (-1)] H K
def F14 (n:Nat) (a0:Node) (a1:Int):Option Bool :=
 (F17 n ).bind fun x1 =>
 (F21 n a0).bind fun x2 =>
 bif !x2 then
  (some x1)
 else
  ((F23 n a0).bind fun x4 =>
  (F39 n x4.1).bind fun x5 =>
  bif x5.2.1 != 0 then
   (some false)
  else
   ((iter (σ:=(List Int) × Int) (ρ:=((List Int))) (fun s7=>bif decide (s7.2 < (x5.1.length:Int)) then
     (((idxL x5.1 s7.2).bind fun x9 =>
      bif strEq x9.text (bs [40]) then
       (bif s7.2 == 0 then
        (some true)
       else
        ((idxL x5.1 (w64 (s7.2 - 1))).bind fun x12 =>
        some (!(strEq x12.text (bs [111,108,100])))))
      else
       (some false):Option (Bool)).bind fun j13 =>
     bif j13 then
      ((appL 8 s7.1 ([s7.2]:List Int)).bind fun x15 =>
      some (.inl (x15,w64 (s7.2 + 1))))
     else
      (some (.inl (s7.1,w64 (s7.2 + 1)))))
    else
     (some (.inr s7.1))) n (([]:List Int),(0:Int))).bind fun r17 =>
   bif (r17.length:Int) == 0 then
    (some x1)
   else
    ((remI (w64 a1) (r17.length:Int)).bind fun x19 =>
    (idxL r17 x19).bind fun x20 =>
    (F44 n x5.1 x20).bind fun x21 =>
    bif decide (x21 < 0) then
     (some false)
    else
     ((idxL x5.1 x20).bind fun x23 =>
     (idxL x5.1 x21).bind fun x24 =>
     (subS x4.1 0 x23.pos).bind fun x25 =>
     (catS x25 (bs [32])).bind fun x26 =>
     (subS x4.1 (w64 (x23.pos + 1)) x24.pos).bind fun x27 =>
     (catS x26 x27).bind fun x28 =>
     (catS x28 (bs [32])).bind fun x29 =>
     (subS x4.1 (w64 (x24.pos + 1)) (x4.1.size:Int)).bind fun x30 =>
     (catS x29 x30).bind fun x31 =>
     (F29 n x31).bind fun x32 =>
     bif x1 then
      (bif decide (0 < (x32.2.length:Int)) then
       (some true)
      else
       ((F45 n x32.1 (120:Int)).bind fun x36 =>
       bif !x36 then
        (some true)
       else
        ((F34 n x32.1).bind fun x38 =>
        (F34 n a0).bind fun x39 =>
        (F30 n x38 x39).bind fun x40 =>
        some !x40)))
     else
      (some false)))))
theorem F14_R (n:Nat) (a0:Node) (a1:Int) (r:Bool) (hr:F14 n a0 a1 = some r) {st:St} {p0:Spare}:R Tryz.prog AN 14 [.agg (cNode p0 a0),vU a1] st (.ret (vB r)) st:=by
 unfold F14 at hr
 refine R_pureX [aN a0,vU a1] [(0,aN a0),(1,vU a1)] Tryz.func14 rfl (by simp only [strip,stripL,stripL_cNode,Option.bind_some,Option.map_some]) rfl fun fr st H K=>sr (qg 2 [(2,cN a0 0)] H fun _ H=>qe (sr ?_))
 refine qb hr (fun x h s=>F17_R n x h) H fun x1 hr fr H=>qg 1 [(5,vB x1)] H fun _ H=>qe (W_seq (W_seq (W_reg (qg 1 [(20,aN a0)] H fun _ H=>?_))))
 refine qb hr (fun x h s=>F21_R n _ x h (p0:=.shut)) H fun x2 hr fr H=>qg 1 [(22,vB !x2)] H fun _ H=>qe ?_
 rcases csplit hr with ⟨c3,hr⟩|⟨c3,hr⟩
 ·refine qT H c3 (sr (qg 2 [(4,vB x1)] H fun _ H=>qe (W_ret ?_)))
  obtain rfl:=Option.some.inj hr
  exact qr [vB x1] H K
 refine qF H c3 (W_skip (sr (qg 1 [(25,aN a0)] H fun _ H=>?_)))
 refine qb hr (fun x h s=>F23_R n _ x h (p0:=.shut)) H fun x4 hr fr H=>qg 5 [(6,vS x4.1)] H fun _ H=>qe (sr (qg 1 [(30,vS x4.1)] H fun _ H=>?_))
 refine qb hr (fun x h s=>F39_R n _ x h) H fun x5 hr fr H=>qg 7 [(8,vL tToken x5.1 .shut),(9,vI x5.2.1)] H fun _ H=>qe (W_seq (W_seq (W_reg (qg 2 [(36,vB (x5.2.1 != 0))] H fun _ H=>qe ?_))))
 rcases csplit hr with ⟨c6,hr⟩|⟨c6,hr⟩
 ·refine qT H c6 (sr (qg 1 [(4,vB false)] H fun _ H=>qe (W_ret ?_)))
  cases hr
  exact qr [vB false] H K
 refine qF H c6 (W_skip (sr (qg 1 [(11,vL (tI .i64) ([]:List Int) .nil)] H fun _ H=>qe (W_seq (W_seq (W_reg (qg 1 [(12,vI 0)] H fun _ H=>qe (W_block ?_))))))))
 obtain ⟨r17,hr17,hr⟩:=obind hr
 refine W_iter hr17 (fun (s7:(List Int) × Int) fr st=>∃ (s7sp0:Spare),Rd fr [(1,vU a1),(2,cN a0 0),(5,vB x1),(6,vS x4.1),(8,vL tToken x5.1 .shut),(11,vL (tI .i64) s7.1 s7sp0),(12,vI s7.2)]∧HL st [.own s7sp0]) (fun (r17:((List Int))) e fr st=>e = .exit 0∧∃ (r17sp0:Spare),Rd fr [(1,vU a1),(2,cN a0 0),(5,vB x1),(6,vS x4.1),(8,vL tToken x5.1 .shut),(11,vL (tI .i64) r17 r17sp0)]∧HL st [.own r17sp0]) ⟨.nil,H.tq,((K.keep []).nilo)⟩ ?_ ?_
 ·intro s7 fr st r hi hr
  obtain ⟨s7sp0,H,K⟩:=hi
  refine W_seq (W_seq (W_reg (qg 2 [(37,vI s7.2),(38,vL tToken x5.1 .shut)] H fun _ H=>?_)))
  refine qln tToken 56 x5.1 .shut H fun _ H=>qg 1 [(40,vB (decide (s7.2 < (x5.1.length:Int))))] H fun _ H=>qe ?_
  rcases csplit hr with ⟨c8,hr⟩|⟨c8,hr⟩
  rotate_left
  ·refine qF H c8 ?_
   refine W_exit ?_
   cases hr
   exact ⟨by simp,⟨rfl,s7sp0,H.tq,K.keep [true]⟩⟩
  refine qT H c8 (W_skip (W_seq (W_block (W_seq ?_))))
  obtain ⟨j13,hj13,hr⟩:=obind hr
  refine W_via (fun e fr st=>e = .normal∧Rd fr [(1,vU a1),(2,cN a0 0),(5,vB x1),(6,vS x4.1),(8,vL tToken x5.1 .shut),(11,vL (tI .i64) s7.1 s7sp0),(12,vI s7.2),(61,vB j13)]∧HL st [.own s7sp0]) ?_ ?_
  ·replace hr:=hj13
   refine W_reg (qg 2 [(43,vL tToken x5.1 .shut),(44,vI s7.2)] H fun _ H=>?_)
   refine qix tToken 56 .shut hr H fun x9 hr hx9 fr H=>qg 4 [(49,vB (strEq x9.text (bs [40])))] H fun _ H=>?_
   rcases csplit hr with ⟨c10,hr⟩|⟨c10,hr⟩
   rotate_left
   ·rw [c10] at H
    refine qg 12 [(61,vB false)] H fun _ H=>qe ?_
    cases hr
    exact ⟨rfl,H.tq,K.keep [true]⟩
   rw [c10] at H
   refine qg 3 [(52,vB (s7.2 == 0))] H fun _ H=>?_
   rcases csplit hr with ⟨c11,hr⟩|⟨c11,hr⟩
   ·rw [c11] at H
    refine qg 9 [(61,vB true)] H fun _ H=>qe ?_
    cases hr
    exact ⟨rfl,H.tq,K.keep [true]⟩
   rw [c11] at H
   refine qg 3 [(53,vL tToken x5.1 .shut),(55,vI (w64 (s7.2 - 1)))] H fun _ H=>?_
   refine qix tToken 56 .shut hr H fun x12 hr hx12 fr H=>qg 5 [(61,vB (!(strEq x12.text (bs [111,108,100]))))] H fun _ H=>qe ?_
   cases hr
   exact ⟨rfl,H.tq,K.keep [true]⟩
  rintro e fr st ⟨rfl,H,K⟩
  rcases csplit hr with ⟨c14,hr⟩|⟨c14,hr⟩
  rotate_left
  ·refine qF H c14 (W_skip (W_reg (qg 3 [(12,vI (w64 (s7.2 + 1)))] H fun _ H=>qe ?_)))
   cases hr
   exact ⟨rfl,⟨s7sp0,H.tq,K.keep [true]⟩⟩
  refine qT H c14 (W_reg (qg 2 [(62,vL (tI .i64) s7.1 s7sp0),(63,vI s7.2)] H fun _ H=>?_))
  refine qbs (tI .i64) 48 ([s7.2]:List Int) H fun _ H=>?_
  refine qapp (tI .i64) 8 48 48 .full hr 0 H K rfl fun x15 hr sp16 st K fr H=>qg 1 [(11,vL (tI .i64) x15 sp16)] H fun _ H=>qe (W_reg (qg 3 [(12,vI (w64 (s7.2 + 1)))] H fun _ H=>qe ?_))
  cases hr
  exact ⟨rfl,⟨sp16,H.tq,K.keep [true]⟩⟩
 rintro e fr st ⟨rfl,r17sp0,H,K⟩
 refine W_seq (W_seq (W_reg (qg 1 [(66,vL (tI .i64) r17 r17sp0)] H fun _ H=>?_)))
 refine qln (tI .i64) 48 r17 r17sp0 H fun _ H=>qg 1 [(68,vB ((r17.length:Int) == 0))] H fun _ H=>qe ?_
 rcases csplit hr with ⟨c18,hr⟩|⟨c18,hr⟩
 ·refine qT H c18 (sr (qg 2 [(4,vB x1)] H fun _ H=>qe (W_ret ?_)))
  obtain rfl:=Option.some.inj hr
  exact qr [vB x1] H K
 refine qF H c18 (W_skip (sr (qg 4 [(70,vL (tI .i64) r17 r17sp0),(72,vI (w64 a1)),(73,vL (tI .i64) r17 r17sp0)] H fun _ H=>?_)))
 refine qln (tI .i64) 48 r17 r17sp0 H fun _ H=>?_
 obtain ⟨x19,hx19,hr⟩:=obind hr
 refine qv (.bin .rem 3 (.tmp 72) (.tmp 74) (vI (w64 a1)) (vI (r17.length:Int))) H (run_rem hx19) fun _ H=>?_
 refine qix (tI .i64) 48 r17sp0 hr H fun x20 hr hx20 fr H=>qg 2 [(13,vI x20)] H fun _ H=>qe (sr (qg 2 [(78,vL tToken x5.1 .shut),(79,vI x20)] H fun _ H=>?_))
 refine qb hr (fun x h s=>F44_R n _ _ x h (p0:=.shut)) H fun x21 hr fr H=>qg 1 [(14,vI x21)] H fun _ H=>qe (W_seq (W_seq (W_reg (qg 2 [(82,vB (decide (x21 < 0)))] H fun _ H=>qe ?_))))
 rcases csplit hr with ⟨c22,hr⟩|⟨c22,hr⟩
 ·refine qT H c22 (sr (qg 1 [(4,vB false)] H fun _ H=>qe (W_ret ?_)))
  cases hr
  exact qr [vB false] H K
 refine qF H c22 (W_skip (sr (qg 2 [(83,vL tToken x5.1 .shut),(84,vI x20)] H fun _ H=>?_)))
 refine qix tToken 56 .shut hr H fun x23 hr hx23 fr H=>qg 3 [(15,vI x23.pos)] H fun _ H=>qe (sr (qg 2 [(88,vL tToken x5.1 .shut),(89,vI x21)] H fun _ H=>?_))
 refine qix tToken 56 .shut hr H fun x24 hr hx24 fr H=>qg 3 [(16,vI x24.pos)] H fun _ H=>qe (W_seq (W_drw (qg 2 [(94,vS x4.1),(95,vI x23.pos)] H fun _ H=>?_)))
 obtain ⟨x25,hx25,hr⟩:=obind hr
 refine qv (.slice 9 (vS x4.1) none (some (vI x23.pos))) H (run_subS_hi (by kernel_rfl) hx25) fun _ H=>?_
 obtain ⟨x26,hx26,hr⟩:=obind hr
 refine qv (.bin .add 9 (.tmp 96) (.const (.string (bs [32]))) (vS x25) (vS (bs [32]))) H (run_cat hx26) fun _ H=>qg 4 [(98,vS x4.1),(100,vI (w64 (x23.pos + 1))),(101,vI x24.pos)] H fun _ H=>?_
 obtain ⟨x27,hx27,hr⟩:=obind hr
 refine qv (.slice 9 (vS x4.1) (some (vI (w64 (x23.pos + 1)))) (some (vI x24.pos))) H (run_subS (by kernel_rfl) hx27) fun _ H=>?_
 obtain ⟨x28,hx28,hr⟩:=obind hr
 refine qv (.bin .add 9 (.tmp 97) (.tmp 102) (vS x26) (vS x27)) H (run_cat hx28) fun _ H=>?_
 obtain ⟨x29,hx29,hr⟩:=obind hr
 refine qv (.bin .add 9 (.tmp 103) (.const (.string (bs [32]))) (vS x28) (vS (bs [32]))) H (run_cat hx29) fun _ H=>qg 3 [(105,vS x4.1),(107,vI (w64 (x24.pos + 1)))] H fun _ H=>?_
 obtain ⟨x30,hx30,hr⟩:=obind hr
 refine qv (.slice 9 (vS x4.1) (some (vI (w64 (x24.pos + 1)))) none) H (run_subS_lo (by kernel_rfl) hx30) fun _ H=>?_
 obtain ⟨x31,hx31,hr⟩:=obind hr
 refine qv (.bin .add 9 (.tmp 104) (.tmp 108) (vS x29) (vS x30)) H (run_cat hx31) fun _ H=>?_
 refine qb hr (fun x h s=>F29_R n _ x h) H fun x32 hr fr H=>qg 3 [(111,aN x32.1),(112,vL tDiag x32.2 .shut)] H fun _ H=>?_
 refine qal 24 zL H K fun id33 st K fr H=>?_
 refine qst 24 0 (aN x32.1) [vI x32.1.kind,vS x32.1.name,vS x32.1.other,vI x32.1.n,vI x32.1.len,vI x32.1.init,vB x32.1.ghost,vL tNode x32.1.kids .shut,vI x32.1.pos] 0 H K rfl fun st K fr H=>qg 1 [(18,vL tDiag x32.2 .shut)] H fun _ H=>qe (qdI K [0,0,0,0,0,0,0,0,0,0,0,0,0,0,0,0,0,0,0,0,.keep [],.put 0,0] (W_seq (W_drw (qg 2 [(114,vB x1)] H fun _ H=>?_))))
 rcases csplit hr with ⟨c34,hr⟩|⟨c34,hr⟩
 rotate_left
 ·rw [c34] at H
  refine qg 18 [(4,vB false)] H fun _ H=>qe (qd (W_ret ?_))
  cases hr
  exact qr [vB false] H K
 rw [c34] at H
 refine qg 1 [(115,vL tDiag x32.2 .shut)] H fun _ H=>?_
 refine qln tDiag 37 x32.2 .shut H fun _ H=>qg 2 [(118,vB (decide (0 < (x32.2.length:Int))))] H fun _ H=>?_
 rcases csplit hr with ⟨c35,hr⟩|⟨c35,hr⟩
 ·rw [c35] at H
  refine qg 14 [(4,vB true)] H fun _ H=>qe (qd (W_ret ?_))
  cases hr
  exact qr [vB true] H K
 rw [c35] at H
 refine qld 24 0 (aN x32.1) 0 H K rfl fun _ H=>?_
 refine qb hr (fun x h s=>F45_R n _ _ x h (p0:=.shut)) H fun x36 hr fr H=>qg 3 [(123,vB !x36)] H fun _ H=>?_
 rcases csplit hr with ⟨c37,hr⟩|⟨c37,hr⟩
 ·rw [c37] at H
  refine qg 9 [(4,vB true)] H fun _ H=>qe (qd (W_ret ?_))
  cases hr
  exact qr [vB true] H K
 rw [c37] at H
 refine qld 24 0 (aN x32.1) 0 H K rfl fun _ H=>?_
 refine qb hr (fun x h s=>F34_R n _ x h (p0:=.shut)) H fun x38 hr fr H=>qg 1 [(126,aN a0)] H fun _ H=>?_
 refine qb hr (fun x h s=>F34_R n _ x h (p0:=.shut)) H fun x39 hr fr H=>?_
 refine qb hr (fun x h s=>F30_R n _ _ x h (p0:=.shut) (p1:=.shut)) H fun x40 hr fr H=>qg 4 [(4,vB !x40)] H fun _ H=>qe (qd (W_ret ?_))
 cases hr
 exact qr [vB !x40] H K
end Go.Proofs.YtbecjgckobhmpaaGreatDoor
