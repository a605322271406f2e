/-
  Proved here: a part of what the claim needs (texts ZLC PL13 PL9 of the prover's own).
-/
import Derived.Test.YtbecjgckobhmpaaGreatDoorLY11
section
namespace Go.Proofs.YtbecjgckobhmpaaGreatDoor
open Go Go.AM Go.Proofs
variable {s:ByteArray} {n:Nat}
theorem F113_eq {t:ByteArray} {a:Nat} (ha:a≤(tl s).length) (hs:s.size≤4000) (ht:t.size≤3):F113 s a t = some ((tl t).isPrefixOf ((tl s).drop a)):=by
 have hz:=size_tl s
 have htz:=size_tl t
 unfold F113
 have ew:w64 ((a:Int) + (t.size:Int)) = ((a + (tl t).length:Nat):Int):=by rw [w64_id (by omega) (by omega)]; omega
 rw [ew]
 by_cases h:a + (tl t).length≤(tl s).length
 ·have c:decide (((a + (tl t).length:Nat):Int)≤(s.size:Int)) = true:=by simp; omega
  rw [c,subS_eq (by omega) h]
  simp only [cond_true,Option.bind_some]
  rw [show a + (tl t).length - a = (tl t).length by omega]
  exact congrArg some (pre_take (tl t) _)
 ·have c:decide (((a + (tl t).length:Nat):Int)≤(s.size:Int)) = false:=by simp; omega
  rw [c]
  have:(tl t).isPrefixOf ((tl s).drop a) = false:=by
   rw [← pre_take,beq_eq_false_iff_ne]
   intro e
   have:=congrArg List.length e
   rw [List.length_take,List.length_drop] at this
   omega
  rw [this]
  rfl
theorem F114_eq (b:UInt8):F114 (b.toNat:Int) = some (wht b):=by
 unfold F114 wht
 have e1:((b.toNat:Int) == 32) = (b.toNat == 32):=i_eq _ 32
 have e2:((b.toNat:Int) == 9) = (b.toNat == 9):=i_eq _ 9
 have e3:((b.toNat:Int) == 10) = (b.toNat == 10):=i_eq _ 10
 have e4:((b.toNat:Int) == 13) = (b.toNat == 13):=i_eq _ 13
 rw [e1,e2,e3,e4]
 simp only [Bool.or_assoc]
theorem F115_eq (b:UInt8):F115 (b.toNat:Int) = some (ltr b):=by
 unfold F115 ltr
 have e1:decide (65≤(b.toNat:Int)) = decide (65≤b.toNat):=i_le 65 _
 have e2:decide ((b.toNat:Int)≤90) = decide (b.toNat≤90):=i_le _ 90
 have e3:decide (97≤(b.toNat:Int)) = decide (97≤b.toNat):=i_le 97 _
 have e4:decide ((b.toNat:Int)≤122) = decide (b.toNat≤122):=i_le _ 122
 rw [e1,e2,e3,e4,Bool.or_comm]
theorem F117_eq (b:UInt8):F117 (b.toNat:Int) = some (dgt b):=by
 unfold F117 dgt
 have e1:decide (48≤(b.toNat:Int)) = decide (48≤b.toNat):=i_le 48 _
 have e2:decide ((b.toNat:Int)≤57) = decide (b.toNat≤57):=i_le _ 57
 rw [e1,e2]
theorem F74_eq (hs:s.size≤4000) (hn:5000≤n) {a:Nat} (ha:a≤(tl s).length):F74 n s a = some (((tl s).length - (skp false ((tl s).drop a)).length:Nat):Int):=by
 have hz:=size_tl s
 apply T.eq
 unfold F74
 refine T.bind (P:=fun r=>match r with | .inl e=>e = (((tl s).length - (skp false ((tl s).drop a)).length:Nat):Int) | .inr e=>e = (((tl s).length - (skp false ((tl s).drop a)).length:Nat):Int)) ?_ (fun r h=>by
  cases r with
  | inl r=>exact T.some h
  | inr r=>exact T.some h)
 refine iter_T (fun e=>∃ k:Nat,e = (k:Int)∧k≤(tl s).length∧skp false ((tl s).drop k) = skp false ((tl s).drop a)) (fun e=>((tl s).length - e.toNat)) _ (fun e he=>?_) n a (by omega) ⟨a,rfl,ha,rfl⟩
 obtain ⟨k,rfl,hk,hsk⟩:=he
 by_cases hlt:k < (tl s).length
 ·have hg:=List.getElem?_eq_getElem hlt
  have hd:=get_drop hg
  have c1:decide ((k:Int) < (s.size:Int)) = true:=by simp; omega
  rw [c1,F113_eq hk hs (by simp [size_bs])]
  have e2:(tl (bs [47,47])).isPrefixOf ((tl s).drop k) = two ((tl s).drop k):=rfl
  rw [e2]
  simp only [cond_true,Option.bind_some]
  cases h2:two ((tl s).drop k)
  ·rw [idxS_some hg]
   simp only [cond_false,Option.bind_some,F114_eq,w64_nat (k:=k) (by omega)]
   cases hw:wht (tl s)[k]
   ·refine T.some ?_
    have h3:=skp_fix ((tl s).drop k) (by rw [hd,List.takeWhile_cons,if_neg (by simp [hw])]) h2
    show (k:Int) = _
    rw [← hsk,h3,List.length_drop]
    omega
   ·refine T.some ⟨⟨k + 1,rfl,by omega,?_⟩,?_⟩
    ·rw [← hsk,hd]
     simp only [skp,hw,if_true]
    ·show (tl s).length - (k + 1) < (tl s).length - k
     omega
  ·simp only [cond_true]
   obtain ⟨hk3l,hd3⟩:=drop_step nol hk
   have hpos:1≤(((tl s).drop k).takeWhile nol).length:=by
    rw [hd] at h2 ⊢
    have hb:=two_cons h2
    rw [hb,List.takeWhile_cons,if_pos (by decide)]
    simp
   refine T.bind (take_T (L:=tl s) nol (fun j b hb=>?_) ?_ hk (by omega)) fun e he=>?_
   ·have hjl:=lt_of_get hb
    have c:decide ((j:Int) < (s.size:Int)) = true:=by simp; omega
    have e3:((b.toNat:Int) == 10) = (b.toNat == 10):=i_eq _ 10
    rw [c,idxS_some hb,w64_nat (by omega)]
    simp only [cond_true,Option.bind_some,bne,e3]
    have:nol b = !(b.toNat == 10):=rfl
    rw [this]
    cases b.toNat == 10 <;> rfl
   ·have c:decide (((tl s).length:Int) < (s.size:Int)) = false:=by simp; omega
    rw [c]
    rfl
   ·subst he
    generalize hk3:k + (((tl s).drop k).takeWhile nol).length = k3 at hk3l hd3
    refine T.some ⟨⟨k3,rfl,hk3l,by rw [hd3,← skp_two _ h2,hsk]⟩,?_⟩
    show (tl s).length - k3 < (tl s).length - k
    omega
 ·have c1:decide ((k:Int) < (s.size:Int)) = false:=by simp; omega
  rw [c1]
  refine T.some ?_
  have:(tl s).drop k = []:=List.drop_eq_nil_iff.2 (by omega)
  show (k:Int) = _
  rw [← hsk,this,skp_nil]
  simp
  omega
theorem F116_eq (hs:s.size≤4000) (hn:5000≤n) {a:Nat} (ha:a≤(tl s).length) :
  F116 n s a = some (⟨1,bs (((tl s).drop a).takeWhile wrd),(a:Int)⟩,decide ((((tl s).drop a).takeWhile wrd).length≤16)):=by
 have hz:=size_tl s
 apply T.eq
 unfold F116
 refine T.bind (take_T (L:=tl s) wrd (fun j b hb=>?_) ?_ ha (by omega)) fun e he=>?_
 ·have hjl:=lt_of_get hb
  have c:decide ((j:Int) < (s.size:Int)) = true:=by simp; omega
  have e3:((b.toNat:Int) == 95) = (b.toNat == 95):=i_eq _ 95
  rw [c,idxS_some hb,w64_nat (by omega)]
  simp only [cond_true,Option.bind_some,F115_eq,F117_eq,e3]
  have hw:wrd b = (ltr b || (dgt b || b.toNat == 95)):=rfl
  rw [hw]
  cases ltr b <;> cases dgt b <;> cases b.toNat == 95 <;> rfl
 ·have c:decide (((tl s).length:Int) < (s.size:Int)) = false:=by simp; omega
  rw [c]
  rfl
 ·subst he
  obtain ⟨hkl,_⟩:=drop_step wrd ha
  rw [subS_eq (by omega) hkl]
  simp only [Option.bind_some]
  rw [w64_id (by omega) (by omega),Nat.add_sub_cancel_left,take_tw]
  refine T.some ?_
  congr 1
  rw [decide_eq_decide]
  omega
theorem F118_eq (hs:s.size≤4000) (hn:5000≤n) {a:Nat} {b:UInt8} {r:List UInt8} (hd:(tl s).drop a = b :: r) (hb2:dgt b = true) :
  F118 n s a = some (⟨2,bs (((tl s).drop a).takeWhile dgt),(a:Int)⟩,numOk b ((tl s).drop a)):=by
 have hz:=size_tl s
 have hb:=get_of_drop hd
 have ha:=lt_of_get hb
 apply T.eq
 unfold F118
 refine T.bind (take_T (L:=tl s) dgt (fun j b hb=>?_) ?_ (Nat.le_of_lt ha) (by omega)) fun e he=>?_
 ·have hjl:=lt_of_get hb
  have c:decide ((j:Int) < (s.size:Int)) = true:=by simp; omega
  rw [c,idxS_some hb,w64_nat (by omega)]
  simp only [cond_true,Option.bind_some,F117_eq]
  cases dgt b <;> rfl
 ·have c:decide (((tl s).length:Int) < (s.size:Int)) = false:=by simp; omega
  rw [c]
  rfl
 ·subst he
  obtain ⟨hkl,hkd⟩:=drop_step dgt (Nat.le_of_lt ha)
  have htk:=take_tw dgt ((tl s).drop a)
  have hnd:∀ c,(((tl s).drop a).dropWhile dgt).head? = some c→dgt c = false:=by
   intro c hc
   have:=List.head?_dropWhile_not dgt ((tl s).drop a)
   rw [hc] at this
   simpa using this
  unfold numOk
  rw [← hkd] at hnd ⊢
  have hk1:1≤(((tl s).drop a).takeWhile dgt).length:=by rw [hd,List.takeWhile_cons,if_pos hb2]; simp
  rw [subS_eq (by omega) hkl,Nat.add_sub_cancel_left,htk,idxS_some hb]
  generalize hk:(((tl s).drop a).takeWhile dgt).length = k at hkl hkd hk1 hnd ⊢
  have ew:w64 (((a + k:Nat):Int) - (a:Int)) = (k:Int):=by rw [w64_id (by omega) (by omega)]; omega
  have ew2:w64 ((a:Int) + 1) = ((a + 1:Nat):Int):=w64_nat (by omega)
  rw [ew,ew2]
  have e9:decide ((k:Int)≤9) = decide (k≤9):=i_le k 9
  have e48:((b.toNat:Int) == 48) = (b.toNat == 48):=i_eq _ 48
  have e1:(((a + k:Nat):Int) == ((a + 1:Nat):Int)) = (k == 1):=by
   rw [i_eq,Bool.eq_iff_iff]; simp only [beq_iff_eq]; omega
  simp only [Option.bind_some,e9,bne,e48,e1]
  have ej:(bif decide (k≤9) then some ((!(b.toNat == 48)) || (k == 1)) else some false) = some (decide (k≤9) && ((!(b.toNat == 48)) || (k == 1))):=by
   cases decide (k≤9) <;> rfl
  rw [ej]
  simp only [Option.bind_some]
  rw [List.head?_drop] at hnd ⊢
  by_cases hlt:a + k < (tl s).length
  ·have hg:=List.getElem?_eq_getElem hlt
   have hdg:=hnd _ hg
   have c3:decide (((a + k:Nat):Int) < (s.size:Int)) = true:=by simp; omega
   have e95:((((tl s)[a + k]).toNat:Int) == 95) = (((tl s)[a + k]).toNat == 95):=i_eq _ 95
   rw [c3,idxS_some hg,hg]
   simp only [cond_true,Option.bind_some,F115_eq,e95,Option.all_some,wrd,hdg,Bool.false_or]
   cases ltr (tl s)[a + k] <;> cases ((tl s)[a + k]).toNat == 95 <;> cases decide (k≤9) <;> cases b.toNat == 48 <;> cases k == 1 <;> exact T.some rfl
  ·have c3:decide (((a + k:Nat):Int) < (s.size:Int)) = false:=by simp; omega
   rw [c3,List.getElem?_eq_none (by omega)]
   simp only [cond_false,Option.bind_some,Option.all_none,Bool.and_true]
   exact T.some rfl
def symR:List ByteArray:=[(bs [61,61,62]),(bs [58,61]),(bs [61,61]),(bs [33,61]),(bs [60,61]),(bs [38,38]),(bs [124,124]),(bs [123]),(bs [125]),(bs [40]),(bs [41]),(bs [91]),(bs [93]),(bs [59]),(bs [58]),(bs [44]),(bs [46]),(bs [63]),(bs [61]),(bs [33]),(bs [60]),(bs [38]),(bs [124]),(bs [94]),(bs [43]),(bs [45]),(bs [42])]
theorem symR_sz:∀ x ∈ symR,1≤x.size∧x.size≤3:=by
 have:symR.all (fun x=>decide (1≤x.size∧x.size≤3)) = true:=by rfl
 intro x hx
 simpa using List.all_eq_true.1 this x hx
theorem symR_find (l:List UInt8):(symR.map tl).find? (fun t=>t.isPrefixOf l) = symL.find? (fun t=>t.isPrefixOf l):=by
 show ([61,61,62] :: [58,61] :: [61,61] :: symL.drop 3:List (List UInt8)).find? _ = ([61,61,62] :: [61,61] :: [58,61] :: symL.drop 3:List (List UInt8)).find? _
 simp only [List.find?_cons]
 cases h1:([61,61,62]:List UInt8).isPrefixOf l
 ·cases h2:([58,61]:List UInt8).isPrefixOf l
  ·cases h3:([61,61]:List UInt8).isPrefixOf l <;> rfl
  ·cases h3:([61,61]:List UInt8).isPrefixOf l
   ·rfl
   ·cases l with
    | nil=>simp at h2
    | cons x l =>
     simp [List.isPrefixOf] at h2 h3
     exact absurd (h2.1.trans h3.1.symm) (by decide)
 ·rfl
theorem find_TF {β:Type} {S:List ByteArray} {step:Int→Option (Int ⊕ (β ⊕ Unit))} (p:ByteArray→Bool) (f:ByteArray→β)
  (h1:∀ (k:Nat) x,S[k]? = some x→T (step (k:Int)) (fun r=>r = if p x = true then .inr (.inl (f x)) else .inl ((k + 1:Nat):Int)))
  (h2:step (S.length:Int) = some (.inr (.inr ()))) {n:Nat} (hn:S.length < n) :
  T (iter step n (0:Int)) (fun r=>r = match S.find? p with | some x=>.inl (f x) | none=>.inr ()):=by
 have key:∀ (l:List ByteArray) (k:Nat),runF (A:=Unit) (ρ:=β ⊕ Unit) (fun _ _ x=>if p x = true then .inr (.inl (f x)) else .inl ()) (fun _=>.inr ()) k l () = match l.find? p with | some x=>.inl (f x) | none=>.inr ():=by
  intro l
  induction l with
  | nil=>intro k; rfl
  | cons x l ih =>
   intro k
   rw [List.find?_cons,runF]
   cases hp:p x
   ·simpa [hp] using ih (k + 1)
   ·simp
 have e:=iter_runF S (fun (k:Nat) (_:Unit)=>(k:Int)) (fun _ _ x=>if p x = true then .inr (.inl (f x)) else .inl ()) (fun _=>.inr ()) (step:=step)
  (fun k a x hx=>by
   rw [T.eq (h1 k x hx)]
   cases p x <;> rfl)
  (fun _=>h2) n () hn
 rw [key] at e
 exact ⟨_,e,rfl⟩
theorem F75_eq (hs:s.size≤4000) (hn:5000≤n) {a:Nat} {b:UInt8} {r:List UInt8} (hd:(tl s).drop a = b :: r) :
  T (F75 n s a) (fun q=>match tokL ((tl s).drop a) with | some km=>q = (⟨(km.1:Int),bs (((tl s).drop a).take km.2),(a:Int)⟩,true) | none=>q.2 = false):=by
 have hz:=size_tl s
 have hb:=get_of_drop hd
 have ha:=lt_of_get hb
 unfold F75
 rw [idxS_some hb]
 simp only [Option.bind_some,F115_eq,F117_eq]
 rw [hd,tokL_cons]
 cases h1:ltr b
 ·simp only [cond_false]
  cases h2:dgt b
  ·simp only [cond_false,F119,Option.bind_some]
   refine T.bind (find_TF (S:=symR) (fun x=>(tl x).isPrefixOf ((tl s).drop a)) (fun x=>Token.mk 3 x (a:Int)) (fun k x hx=>?_) ?_ (by simp [symR]; omega)) fun q hq=>?_
   ·have hk:=lt_of_get hx
    have hk27:k < 27:=hk
    have c1:decide ((k:Int) < (symR.length:Int)) = true:=by simp; omega
    have hm:=symR_sz x (List.mem_of_getElem? hx)
    show T (bif decide ((k:Int) < (symR.length:Int)) then ((idxL symR (k:Int)).bind fun x13 =>
     (F113 s (a:Int) x13).bind fun x14 =>
     bif x14 then
      ((idxL symR (k:Int)).bind fun x16 =>
      some (.inr (.inl (Token.mk 3 x16 (a:Int)))))
     else
      (some (.inl (w64 ((k:Int) + 1))))) else some (.inr (.inr ())):Option (Int ⊕ (Token ⊕ Unit))) _
    rw [c1,idxL_some hx,w64_nat (k:=k) (by omega)]
    simp only [cond_true,Option.bind_some]
    rw [F113_eq (Nat.le_of_lt ha) hs hm.2]
    simp only [Option.bind_some]
    cases (tl x).isPrefixOf ((tl s).drop a)
    ·exact T.some rfl
    ·exact T.some rfl
   ·rfl
   ·rw [hq,find_tl (p:=fun t=>t.isPrefixOf ((tl s).drop a)),symR_find,hd]
    cases hf:symL.find? (fun t=>t.isPrefixOf (b :: r)) with
    | none=>exact T.some rfl
    | some t =>
     have hp:=List.find?_some hf
     have ht:=List.prefix_iff_eq_take.1 (List.isPrefixOf_iff_prefix.1 hp)
     refine T.some ?_
     simp only [Option.map_some]
     rw [← ht]
     rfl
  ·simp only [cond_true]
   rw [F118_eq hs hn hd h2,hd]
   simp only [Option.bind_some]
   cases numOk b (b :: r)
   ·exact T.some rfl
   ·refine T.some ?_
    simp only [cond_true]
    rw [take_tw]
    rfl
 ·simp only [cond_true]
  rw [F116_eq hs hn (Nat.le_of_lt ha),hd]
  simp only [Option.bind_some]
  cases decide (((b :: r).takeWhile wrd).length≤16)
  ·exact T.some rfl
  ·refine T.some ?_
   simp only [cond_true]
   rw [take_tw]
   rfl
theorem F39_eq (hn:5000≤n):F39 n s = some (lexR s):=by
 have hz:=size_tl s
 apply T.eq
 unfold F39 lexR
 by_cases h4:4000 < s.size
 ·have c:decide ((4000:Int) < (s.size:Int)) = true:=by simp; omega
  rw [c,if_pos h4]
  exact T.some rfl
 have c:decide ((4000:Int) < (s.size:Int)) = false:=by simp; omega
 have hs:s.size≤4000:=by omega
 rw [c,if_neg h4]
 simp only [cond_false]
 have e0:F74 n s (0:Int) = some (((tl s).length - (skp false ((tl s).drop 0)).length:Nat):Int):=F74_eq (a:=0) hs hn (by omega)
 rw [e0]
 simp only [Option.bind_some]
 have hdr:∀ k,k≤(tl s).length→(tl s).drop ((tl s).length - (skp false ((tl s).drop k)).length) = skp false ((tl s).drop k)∧k≤(tl s).length - (skp false ((tl s).drop k)).length:=by
  intro k hk
  obtain ⟨p,hp⟩:=skp_suf ((tl s).drop k) false
  have hp1:=congrArg List.length hp
  rw [List.length_append,List.length_drop] at hp1
  have e:(tl s).length - (skp false ((tl s).drop k)).length = k + p.length:=by omega
  constructor
  ·rw [e,← List.drop_drop]
   conv=>lhs; rw [hp]
   exact List.drop_left
  ·omega
 refine T.bind (P:=fun r=>(match r with | .inl e=>(([]:List Token),e.1,e.2) | .inr l=>(l,(0:Int),(0:Int))) = outT [] (lexG s.size (s.size + 1) 0 (tl s))) ?_ (fun r h=>by
  cases r with
  | inl e=>exact T.some h
  | inr l=>exact T.some h)
 refine iter_T (fun st=>∃ (k f:Nat),st.2 = (k:Int)∧k≤(tl s).length∧st.1.length≤1500∧((tl s).drop k).length≤f∧outT st.1 (lexS s.size (lexG s.size f (st.1.length + 1)) st.1.length ((tl s).drop k)) = outT [] (lexG s.size (s.size + 1) 0 (tl s))) (fun st=>(tl s).length - st.2.toNat) _ (fun st hst=>?_) n _ ?_ ⟨(tl s).length - (skp false ((tl s).drop 0)).length,s.size,rfl,by omega,by simp,?_,?_⟩
 ·obtain ⟨k,f,hk,hkl,h15,hf,hout⟩:=hst
  rw [hk]
  cases hd:(tl s).drop k with
  | nil =>
   have hk2:k = (tl s).length:=by
    have:=List.drop_eq_nil_iff.1 hd
    omega
   have c1:decide ((k:Int) < (s.size:Int)) = false:=by simp; omega
   rw [c1]
   rw [hd] at hout
   simp only [lexS,outT,List.append_nil] at hout
   exact T.some hout
  | cons b r =>
   have hlt:k < (tl s).length:=lt_of_get (get_of_drop hd)
   have hlen:=List.length_drop (i:=k) (l:=tl s)
   have c1:decide ((k:Int) < (s.size:Int)) = true:=by simp; omega
   have hpos:s.size - ((tl s).drop k).length = k:=by omega
   rw [c1]
   rw [hd] at hpos
   rw [hd] at hout
   simp only [lexS,hpos] at hout
   simp only [cond_true]
   by_cases h1500:st.1.length = 1500
   ·have c2:decide ((1500:Int)≤(st.1.length:Int)) = true:=by simp; omega
    rw [c2]
    rw [if_pos h1500] at hout
    exact T.some hout
   have c2:decide ((1500:Int)≤(st.1.length:Int)) = false:=by simp; omega
   rw [c2]
   simp only [cond_false]
   rw [if_neg h1500] at hout
   obtain ⟨q,hq,hq2⟩:=F75_eq hs hn hd
   rw [hq]
   simp only [Option.bind_some]
   rw [hd] at hq2
   cases htk:tokL (b :: r) with
   | none =>
    rw [htk] at hout hq2
    have hq2':q.2 = false:=hq2
    rw [hq2']
    exact T.some hout
   | some km =>
    rw [htk] at hout hq2
    have hq2':q = (⟨(km.1:Int),bs ((b :: r).take km.2),(k:Int)⟩,true):=hq2
    have hm:=tokL_spec htk
    subst hq2'
    simp only [Bool.not_true,cond_false,appL] at hout ⊢
    rw [if_pos (by simp; omega)]
    have hlen2:(tl s).length - k = (b :: r).length:=by rw [← hlen,hd]
    have etz:((bs ((b :: r).take km.2)).size:Int) = (km.2:Int):=by
     rw [size_bs,List.length_take]; omega
    have ew:w64 ((k:Int) + ((bs ((b :: r).take km.2)).size:Int)) = ((k + km.2:Nat):Int):=by
     rw [etz,w64_id (by omega) (by omega)]; rfl
    rw [ew,F74_eq hs hn (a:=k + km.2) (by omega)]
    simp only [Option.bind_some]
    obtain ⟨h5,h6⟩:=hdr (k + km.2) (by omega)
    rw [out_cons] at hout
    have hdk:(tl s).drop (k + km.2) = (b :: r).drop km.2:=by rw [← List.drop_drop,hd]
    have hsl:=skp_len false ((tl s).drop (k + km.2))
    rw [List.length_drop] at hsl
    obtain ⟨f,rfl⟩:∃ g,f = g + 1:=⟨f - 1,by rw [List.length_drop] at hf; omega⟩
    refine T.some ⟨⟨_,f,rfl,by omega,by simp; omega,?_,?_⟩,?_⟩
    ·rw [h5]
     rw [List.length_drop] at hf
     omega
    ·rw [h5,hdk]
     simp only [List.length_append,List.length_cons,List.length_nil]
     simp only [lexG] at hout
     exact hout
    ·show (tl s).length - ((((tl s).length - (skp false ((tl s).drop (k + km.2))).length:Nat):Int)).toNat < (tl s).length - ((k:Int)).toNat
     simp only [Int.toNat_natCast]
     omega
 ·simp only [Int.toNat_natCast]
  omega
 ·rw [(hdr 0 (by omega)).1]
  have:=skp_len false ((tl s).drop 0)
  rw [List.length_drop] at this
  omega
 ·rw [(hdr 0 (by omega)).1]
  simp only [List.drop_zero,List.length_nil]
  rfl
end Go.Proofs.YtbecjgckobhmpaaGreatDoor
end
section
namespace Go.Proofs.YtbecjgckobhmpaaGreatDoor
open Go Go.AM Go.Proofs
namespace M
variable {α:Type}
end M
theorem Lexed.nodup {s:ByteArray} {ts:List Token} (h:Lexed s ts) {i j:Nat} {a b:Token} (ha:ts[i]? = some a) (hb:ts[j]? = some b) (e:a.pos = b.pos):i = j:=by
 have hp:=(h.lx.le (by rw [← size_tl]; exact Nat.le_refl _)).1
 obtain ⟨hi,rfl⟩:=List.getElem?_eq_some_iff.1 ha
 obtain ⟨hj,rfl⟩:=List.getElem?_eq_some_iff.1 hb
 rw [List.pairwise_iff_getElem] at hp
 rcases Nat.lt_trichotomy i j with h1 | h1 | h1
 ·have:=hp i j hi hj h1; omega
 ·exact h1
 ·have:=hp j i hj hi h1; omega
theorem F33_ok {s:ByteArray} {ts:List Token} (h:Lexed s ts) {n:Nat} (hn:5000≤n):F33 n s = some true:=by
 unfold F33
 rw [decide_eq_false (by have:=h.len; omega),F39_eq hn,lexR_ok h]
 rfl
theorem F33_cases (s:ByteArray) {n:Nat} (hn:5000≤n):(∃ ts,Lexed s ts∧F33 n s = some true∧F39 n s = some (ts,0,0))∨F33 n s = some false:=by
 rcases lexR_cases s with ⟨ts,h,h2⟩ | ⟨e,p,h,h2,_⟩
 ·exact .inl ⟨ts,h,F33_ok h hn,by rw [F39_eq hn,h2]⟩
 ·right
  unfold F33
  cases decide ((6000:Int) < (s.size:Int))
  ·simp only [cond_false]
   rw [F39_eq hn,h]
   rcases h2 with rfl | rfl <;> rfl
  ·rfl
end Go.Proofs.YtbecjgckobhmpaaGreatDoor
end
section
namespace Go.Proofs.YtbecjgckobhmpaaGreatDoor
open Go Go.AM Go.Proofs
theorem jn_snoc (p:List UInt8 × Token):∀ ps:List (List UInt8 × Token),jn (ps ++ [p]) = jn ps ++ p.1 ++ tl p.2.text
 | []=>by simp [jn]
 | q :: r=>by simp [jn,jn_snoc p r]
theorem jt_snoc (p:List UInt8 × Token):∀ (ps:List (List UInt8 × Token)) (o:Nat),jt (ps ++ [p]) o = jt ps o ++ [⟨p.2.kind,p.2.text,((o + (jn ps).length + p.1.length:Nat):Int)⟩]
 | [],o=>by simp [jt,jn]
 | q :: r,o=>by
  have e:o + q.1.length + q.2.text.size + (jn r).length + p.1.length = o + (jn (q :: r)).length + p.1.length:=by
   simp only [jn,List.length_append,size_tl]
   omega
  simp [jt,jt_snoc p r,e]
theorem jt_len:∀ (ps:List (List UInt8 × Token)) (o:Nat),(jt ps o).length = ps.length
 | [],_=>rfl
 | p :: r,o=>by simp [jt,jt_len r]
theorem jn_len {B:Nat}:∀ ps:List (List UInt8 × Token),(∀ p ∈ ps,p.1.length≤5∧(tl p.2.text).length≤B)→(jn ps).length≤ps.length * (B + 5)
 | [],_=>by simp [jn]
 | p :: r,h=>by
  have h1:=jn_len r fun q hq=>h q (List.mem_cons_of_mem _ hq)
  have h2:=h p (List.mem_cons_self ..)
  simp only [jn,List.length_append,List.length_cons,Nat.add_mul,Nat.one_mul]
  omega
theorem gapL_len:∀ g ∈ gapL,g.length≤5:=by decide
theorem joins (ts:List Token) (l1:List Int) (h1:∀ x ∈ l1,0≤x∧x < 256) (hc:ts.length≤1500) (hb:∀ t ∈ ts,(tl t.text).length≤4000) :
  ∃ r,(iter (σ:=ByteArray × (List Int) × Int) (ρ:=(ByteArray × (List Int))) (fun s7=>bif decide (s7.2.2 < (ts.length:Int)) then
    ((bif decide (s7.2.2 < (l1.length:Int)) then
      ((idxL l1 s7.2.2).bind fun x10 =>
      (F40 x10).bind fun x11 =>
      (catS s7.1 x11).bind fun x12 =>
      some x12)
     else
      ((catS s7.1 (bs [32])).bind fun x13 =>
      some x13):Option (ByteArray)).bind fun j14 =>
    (appL 8 s7.2.1 ([(j14.size:Int)]:List Int)).bind fun x15 =>
    (idxL ts s7.2.2).bind fun x17 =>
    (catS j14 x17.text).bind fun x18 =>
    some (.inl (x18,x15,w64 (s7.2.2 + 1))))
   else
    (some (.inr (s7.1,s7.2.1)))) 20000 ((bs []),([]:List Int),(0:Int))) = some r ∧
   ∃ ps:List (List UInt8 × Token),ps.map (·.2) = ts∧(∀ p ∈ ps,p.1 ∈ gapL)∧r = (bs (jn ps),(jt ps 0).map (·.pos)):=by
 refine iter_inv ts (fun (k:Nat) (ps:List (List UInt8 × Token))=>(bs (jn ps),(jt ps 0).map (·.pos),(k:Int))) (fun k ps=>ps.map (·.2) = ts.take k∧∀ p ∈ ps,p.1 ∈ gapL) _ (fun k ps y hy hI=>?_) (fun ps hI=>?_) 20000 [] (by omega) (by simp)
 ·left
  have hlt:=lt_of_get hy
  have hym:=List.mem_of_getElem? hy
  have hlen:ps.length = k:=by
   have:=congrArg List.length hI.1
   rw [List.length_map,List.length_take] at this
   omega
  have hB:(jn ps).length≤ps.length * 4005:=jn_len ps fun p hp=>⟨gapL_len _ (hI.2 p hp),hb _ (by
   have:p.2 ∈ ps.map (·.2):=List.mem_map_of_mem hp
   rw [hI.1] at this
   exact List.mem_of_mem_take this)⟩
  have hB2:(jn ps).length≤1500 * 4005:=Nat.le_trans hB (Nat.mul_le_mul_right _ (by omega))
  have c2:decide ((k:Int) < (ts.length:Int)) = true:=by simpa using hlt
  have hj:∃ g ∈ gapL,(bif decide ((k:Int) < (l1.length:Int)) then
      ((idxL l1 (k:Int)).bind fun x10 =>
      (F40 x10).bind fun x11 =>
      (catS (bs (jn ps)) x11).bind fun x12 =>
      some x12)
     else
      ((catS (bs (jn ps)) (bs [32])).bind fun x13 =>
      some x13):Option (ByteArray)) = some (bs (jn ps ++ g)):=by
   by_cases hk:k < l1.length
   ·have c3:decide ((k:Int) < (l1.length:Int)) = true:=by simpa using hk
    have hx:l1[k]? = some l1[k]:=List.getElem?_eq_getElem hk
    obtain ⟨g,hg,e⟩:=F40_ok (h1 _ (List.mem_of_getElem? hx))
    refine ⟨g,hg,?_⟩
    have:=gapL_len g hg
    rw [c3,idxL_some hx]
    simp only [cond_true,Option.bind_some,e]
    rw [cat_ok (by rw [tl_bs,tl_bs]; omega)]
    rfl
   ·have c3:decide ((k:Int) < (l1.length:Int)) = false:=by simpa using hk
    refine ⟨[32],by simp [gapL],?_⟩
    rw [c3,cond_false,cat_ok (by rw [tl_bs,tl_bs]; simp only [List.length_cons,List.length_nil]; omega)]
    rfl
  obtain ⟨g,hg,hj⟩:=hj
  have hgl:=gapL_len g hg
  have hyl:=hb y hym
  have hal:((jt ps 0).map (·.pos)).length = k:=by rw [List.length_map,jt_len,hlen]
  refine ⟨ps ++ [(g,y)],?_,?_,?_⟩
  ·simp only [c2,cond_true,hj,Option.bind_some,idxL_some hy]
   rw [appL_some (by rw [hal]; simp only [List.length_cons,List.length_nil]; omega)]
   simp only [Option.bind_some]
   rw [cat_ok (by rw [tl_bs,List.length_append]; omega)]
   simp only [Option.bind_some,w64_nat (k:=k) (by omega)]
   rw [jn_snoc,jt_snoc]
   simp [tl_bs,size_bs]
  ·rw [List.map_append,hI.1,List.take_add_one,hy]
   rfl
  ·intro p hp
   rcases List.mem_append.1 hp with hp | hp
   ·exact hI.2 p hp
   ·rw [List.mem_singleton.1 hp]
    exact hg
 ·have c2:decide ((ts.length:Int) < (ts.length:Int)) = false:=by simp
  simp only [c2,cond_false]
  refine ⟨_,rfl,ps,?_,hI.2,rfl⟩
  rw [hI.1,List.take_length]
theorem seeks (ts:List Token) (f:Int→Int) (M q:Int) (hc:ts.length≤1500) (hq:(∀ t ∈ ts,t.pos≠q)→f q = M) (D:List Diag) (i:Int) (x:Diag) (hx:idxL D i = some x) (hxq:x.pos = q) :
  (iter (σ:=Int × Int) (ρ:=Int) (fun s37=>bif decide (s37.2 < (ts.length:Int)) then
           ((idxL ts s37.2).bind fun x39 =>
           (idxL D i).bind fun x40 =>
           bif x39.pos == x40.pos then
            ((idxL (ts.map fun t=>f t.pos) s37.2).bind fun x42 =>
            some (.inl (x42,w64 (s37.2 + 1))))
           else
            (some (.inl (s37.1,w64 (s37.2 + 1)))))
          else
           (some (.inr s37.1))) 20000 (M,(0:Int))) = some (f q):=by
 refine Teq (iter_inv ts (fun (k:Nat) (a:Int)=>(a,(k:Int))) (fun k a=>(a = f q∧∃ t ∈ ts.take k,t.pos = q)∨(a = M∧∀ t ∈ ts.take k,t.pos≠q)) _ (fun k a y hy ha=>?_) (fun a ha=>?_) 20000 M (by omega) (.inr ⟨rfl,by simp⟩))
 ·left
  have hlt:=lt_of_get hy
  have c2:decide ((k:Int) < (ts.length:Int)) = true:=by simpa using hlt
  have hy2:(ts.map fun t=>f t.pos)[k]? = some (f y.pos):=by rw [List.getElem?_map,hy]; rfl
  simp only [c2,cond_true,idxL_some hy,Option.bind_some,hx,hxq,idxL_some hy2,w64_nat (k:=k) (by omega)]
  rw [List.take_add_one,hy]
  cases hb:y.pos == q
  ·refine ⟨a,rfl,?_⟩
   rcases ha with ⟨h1,t,ht,h2⟩ | ⟨h1,h2⟩
   ·exact .inl ⟨h1,t,List.mem_append_left _ ht,h2⟩
   ·refine .inr ⟨h1,fun t ht=>?_⟩
    rcases List.mem_append.1 ht with ht | ht
    ·exact h2 t ht
    ·simp only [Option.toList_some,List.mem_singleton] at ht
     rw [ht]
     simpa using hb
  ·have hb':y.pos = q:=by simpa using hb
   refine ⟨f y.pos,rfl,.inl ⟨by rw [hb'],y,by simp,hb'⟩⟩
 ·have c2:decide ((ts.length:Int) < (ts.length:Int)) = false:=by simp
  simp only [c2,cond_false]
  refine ⟨_,rfl,?_⟩
  rw [List.take_length] at ha
  rcases ha with ⟨h1,_⟩ | ⟨h1,h2⟩
  ·exact h1
  ·rw [h1,hq h2]
def DiagsGo (f:Int→Int) (D1 D2:List Diag):Prop:=∃ g:Diag→Diag,D2 = D1.map g∧∀ x ∈ D1,(g x).err = x.err∧((x.err = 2∧x.pos = 0)∨(g x).pos = f x.pos)
theorem compares (ts:List Token) (f:Int→Int) (M:Int) (hc:ts.length≤1500) (hq:∀ q,(∀ t ∈ ts,t.pos≠q)→f q = M) (D1 D2:List Diag) (hD:DiagsGo f D1 D2) (h20:D1.length≤20) :
  (iter (σ:=Int) (ρ:=Unit ⊕ Unit) (fun s35=>bif decide (s35 < (D1.length:Int)) then
         ((iter (σ:=Int × Int) (ρ:=Int) (fun s37=>bif decide (s37.2 < (ts.length:Int)) then
           ((idxL ts s37.2).bind fun x39 =>
           (idxL D1 s35).bind fun x40 =>
           bif x39.pos == x40.pos then
            ((idxL (ts.map fun t=>f t.pos) s37.2).bind fun x42 =>
            some (.inl (x42,w64 (s37.2 + 1))))
           else
            (some (.inl (s37.1,w64 (s37.2 + 1)))))
          else
           (some (.inr s37.1))) 20000 (M,(0:Int))).bind fun r43 =>
         ((idxL D1 s35).bind fun x44 =>
          bif x44.err == 2 then
           ((idxL D1 s35).bind fun x46 =>
           some (x46.pos == 0))
          else
           (some false):Option (Bool)).bind fun j47 =>
         (idxL D1 s35).bind fun x48 =>
         (idxL D2 s35).bind fun x49 =>
         bif x48.err != x49.err then
          (some (.inr (.inl ())))
         else
          (bif !j47 then
           ((idxL D2 s35).bind fun x52 =>
           bif x52.pos != r43 then
            (some (.inr (.inl ())))
           else
            (some (.inl (w64 (s35 + 1)))))
          else
           (some (.inl (w64 (s35 + 1))))))
        else
         (some (.inr (.inr ())))) 20000 (0:Int)) = some (.inr ()):=by
 obtain ⟨g,rfl,hg⟩:=hD
 refine Teq (iter_inv D1 (fun (k:Nat) (_:Unit)=>(k:Int)) (fun _ _=>True) _ (fun k a x hx _=>?_) (fun a _=>?_) 20000 () (by omega) trivial)
 ·left
  have hlt:=lt_of_get hx
  have c2:decide ((k:Int) < (D1.length:Int)) = true:=by simpa using hlt
  have hx2:(D1.map g)[k]? = some (g x):=by rw [List.getElem?_map,hx]; rfl
  obtain ⟨he,hp⟩:=hg x (List.mem_of_getElem? hx)
  have hs:=seeks ts f M x.pos hc (hq x.pos) D1 (k:Int) x (idxL_some hx) rfl
  refine ⟨(),?_,trivial⟩
  simp only [c2,cond_true]
  rw [hs]
  simp only [idxL_some hx,idxL_some hx2,Option.bind_some,he,bne_self_eq_false,cond_false,w64_nat (k:=k) (by omega)]
  rcases hp with ⟨h1,h2⟩ | hp
  ·have e1:(x.err == 2) = true:=by rw [h1]; rfl
   have e2:(x.pos == 0) = true:=by rw [h2]; rfl
   simp [e1,e2]
  ·rw [hp]
   cases x.err == 2
   ·simp
   ·cases hz:x.pos == 0 <;> simp
 ·have c2:decide ((D1.length:Int) < (D1.length:Int)) = false:=by simp
  simp only [c2,cond_false]
  exact ⟨_,rfl,rfl⟩
theorem law9 (s0:ByteArray) (l1:List Int) (h1:∀ x ∈ l1,0≤x∧x < 256):∃ n,F9 n s0 l1 = some true:=by
 refine ⟨20000,?_⟩
 unfold F9
 rw [F24_ok]
 simp only [Option.bind_some]
 rcases F33_cases s0 (n:=20000) (by omega) with ⟨ts,hL,h33,h39⟩ | h33
 ·rw [h33,h39]
  have hle:=hL.lx.le (by rw [← size_tl]; exact Nat.le_refl _)
  have hlen:=hL.len
  have hcnt:=hL.cnt
  have hmk:mkL (α:=Int) 8 (ts.length:Int) = some []:=if_pos ⟨by omega,by omega⟩
  obtain ⟨r,hr,ps,hps,hgap,rfl⟩:=joins ts l1 h1 hcnt fun t ht=>by have:=hle.2 t ht; omega
  simp only [Option.bind_some,Bool.not_true,cond_false,hmk,hr]
  rcases F33_cases (bs (jn ps)) (n:=20000) (by omega) with ⟨ts2,hL2',h33',_⟩ | h33'
  ·have hJ:=hL.lx.join ps 0 hps hgap
   rw [Nat.zero_add] at hJ
   have hpw:ps.Pairwise (fun a b=>a.2.pos < b.2.pos):=by
    have:=hle.1
    rw [← hps,List.pairwise_map] at this
    exact this.imp fun h=>by omega
   have hsz2:(bs (jn ps)).size = (jn ps).length:=size_bs _
   have hjt:jt ps 0 = ts.map (mapT (fOf ((bs (jn ps)).size:Int) ps 0)):=by
    rw [jt_map (M:=((bs (jn ps)).size:Int)) ps 0 hpw,← hps,List.map_map]
    rfl
   have hq:∀ q,(∀ t ∈ ts,t.pos≠q)→fOf ((bs (jn ps)).size:Int) ps 0 q = ((bs (jn ps)).size:Int):=fun q h=>fOf_end ps 0 q fun p hp=>h _ (by rw [← hps]; exact List.mem_map_of_mem hp)
   generalize fOf ((bs (jn ps)).size:Int) ps 0 = f at hjt hq
   have hL2:Lexed (bs (jn ps)) (ts.map (mapT f)):=⟨hL2'.len,by rw [hsz2,tl_bs,← hjt]; exact hJ,by rw [List.length_map]; exact hcnt⟩
   have hat:(jt ps 0).map (·.pos) = ts.map fun t=>f t.pos:=by rw [hjt,List.map_map]; rfl
   have hfin:f s0.size = ((bs (jn ps)).size:Int):=hq _ fun t ht=>by have:=hle.2 t ht; omega
   have hle2:=hL2.lx.le (by rw [← size_tl]; exact Nat.le_refl _)
   obtain ⟨l,p,hR⟩:=read_some (n:=20000) (by omega) hL.cnt hL.lx.oks s0.size
   obtain ⟨l2,p2,hR2⟩:=read_some (n:=20000) (by omega) hL2.cnt hL2.lx.oks (bs (jn ps)).size
   obtain ⟨rfl,rfl⟩:=hR.map f (by rw [hfin]; exact hR2)
   rw [h33',F25_ok (by omega) (by omega) hL hR,F25_ok (by omega) (by omega) hL2 hR2]
   simp only [Option.bind_some,Bool.not_true,cond_false,hat]
   have hinj:∀ x y,(x = (s0.size:Int)∨∃ t ∈ ts,t.pos = x)→(y = (s0.size:Int)∨∃ t ∈ ts,t.pos = y)→f x = f y→x = y:=by
    have hlast:∀ t ∈ ts,f t.pos≠f s0.size:=fun t ht e=>by
     have:=hle2.2 (mapT f t) (List.mem_map_of_mem ht)
     simp only [mapT] at this
     omega
    rintro x y (rfl | ⟨t,ht,rfl⟩) (rfl | ⟨u,hu,rfl⟩) e
    ·rfl
    ·exact absurd e.symm (hlast u hu)
    ·exact absurd e (hlast t ht)
    ·obtain ⟨i,hi⟩:=List.mem_iff_getElem?.1 ht
     obtain ⟨j,hj⟩:=List.mem_iff_getElem?.1 hu
     have hi2:(ts.map (mapT f))[i]? = some (mapT f t):=by rw [List.getElem?_map,hi]; rfl
     have hj2:(ts.map (mapT f))[j]? = some (mapT f u):=by rw [List.getElem?_map,hj]; rfl
     have:=hL2.nodup hi2 hj2 e
     subst this
     rw [hi] at hj
     cases hj
     rfl
   have hdm:=(addDs_map hinj p [] hR.rep_in (by simp)).1
   simp only [List.map_nil] at hdm
   have hdl:=(hR.diags hL).1
   have hszl:szs l≤1500:=Nat.le_trans hR.sz hcnt
   have hkm:=kids_map f l
   obtain ⟨T1,T2,D1,D2,hE1,hE2,hs1,hs2,hst,hD,h20⟩:∃ T1 T2 D1 D2,endP l (addDs [] p) = (T1,D1)∧endP (l.map (mapN f)) (addDs [] (p.map fun r=>(r.1,f r.2))) = (T2,D2)∧sz T1≤1501∧sz T2≤1501∧mapN (fun _=>0) T1 = mapN (fun _=>0) T2∧DiagsGo f D1 D2∧D1.length≤20:=by
    rw [hdm]
    have hz1:sz (srcN l)≤1501:=by rw [srcN,M.szL]; omega
    have hz2:sz (srcN (l.map (mapN f)))≤1501:=by rw [srcN,M.szL]; omega
    unfold endP
    by_cases hd:addDs [] p = []
    ·rw [if_pos hd,hd]
     simp only [List.map_nil,if_true]
     by_cases hsm:smallP (srcN l)
     ·rw [if_pos hsm,if_pos ((small_map f l).2 hsm)]
      exact ⟨_,_,_,_,rfl,rfl,hz1,hz2,(strip_map f l).symm,⟨id,by simp,by simp⟩,by simp⟩
     ·rw [if_neg hsm,if_neg (fun h=>hsm ((small_map f l).1 h))]
      exact ⟨_,_,_,_,rfl,rfl,by decide,by decide,rfl,⟨id,by simp,by simp⟩,by simp⟩
    ·rw [if_neg hd,if_neg (by simpa using hd)]
     exact ⟨_,_,_,_,rfl,rfl,hz1,hz2,(strip_map f l).symm,⟨mapD f,rfl,fun x _=>⟨rfl,.inr rfl⟩⟩,hdl⟩
   rw [hE1,hE2]
   have hDl:D2.length = D1.length:=by obtain ⟨g,rfl,_⟩:=hD; rw [List.length_map]
   have h4:∀ T,sz T≤1501→F26 20000 T (4000:Int) = some true:=fun T hT=>by
    have:=G26 T (by omega) (lim:=4000) (by omega) (n:=20000) (by omega)
    rw [decide_eq_true (by omega)] at this
    exact this
   simp only [hDl,bne_self_eq_false,cond_false,h4 T1 hs1,h4 T2 hs2,Option.bind_some,Bool.not_true]
   rw [G34 _ T1 (Nat.le_refl _) (by omega) 20000 (by omega),G34 _ T2 (Nat.le_refl _) (by omega) 20000 (by omega)]
   simp only [Option.bind_some]
   rw [G30t hst (by rw [(sz_mapN _ _ T1 (Nat.le_refl _)).1]; omega) (by rw [(sz_mapN _ _ T1 (Nat.le_refl _)).1]; omega)]
   simp only [Option.bind_some,Bool.not_true,cond_false]
   rw [compares ts f _ hcnt hq D1 D2 hD h20]
   rfl
  ·rw [h33']
   rfl
 ·rw [h33]
  rfl
end Go.Proofs.YtbecjgckobhmpaaGreatDoor
end
