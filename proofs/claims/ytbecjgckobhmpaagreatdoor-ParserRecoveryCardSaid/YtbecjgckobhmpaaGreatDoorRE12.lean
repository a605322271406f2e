/-
  Proved here: a part of what the claim needs (texts ZLB ZLP PP PL10a PX PY ZLC PL13 PL11 of the prover's own).
-/
import Derived.Test.YtbecjgckobhmpaaGreatDoorRE11
section
namespace Go.Proofs.YtbecjgckobhmpaaGreatDoor
open Go Go.AM Go.Proofs
theorem symTab_sz:∀ x ∈ symTab,1≤x.size∧x.size≤3:=by
 have:symTab.all (fun x=>decide (1≤x.size∧x.size≤3)) = true:=by kernel_rfl
 intro x hx
 simpa using List.all_eq_true.1 this x hx
theorem iter_T {ρ σ:Type} {step:σ→Option (σ ⊕ ρ)} (I:σ→Prop) (m:σ→Nat) (Q:ρ→Prop)
  (h:∀ s,I s→T (step s) (fun r=>match r with | .inl s'=>I s'∧m s' < m s | .inr r=>Q r))
  (n:Nat) (s:σ) (hn:m s < n) (hi:I s):T (iter step n s) Q :=
 iter_meas I m Q (fun s hs=>by
  obtain ⟨r,hr,hq⟩:=h s hs
  cases r with
  | inl s'=>exact .inl ⟨s',hr,hq.1,hq.2⟩
  | inr r=>exact .inr ⟨r,hr,hq⟩) n s hn hi
theorem T.eq {α:Type} {o:Option α} {v:α} (h:T o (fun e=>e = v)):o = Option.some v:=by
 obtain ⟨r,hr,rfl⟩:=h
 exact hr
theorem get_drop {α:Type} {L:List α} {k:Nat} {b:α} (h:L[k]? = some b):L.drop k = b :: L.drop (k + 1):=by
 obtain ⟨hk,rfl⟩:=List.getElem?_eq_some_iff.1 h
 exact List.drop_eq_getElem_cons hk
theorem get_of_drop {α:Type} {L r:List α} {k:Nat} {b:α} (h:L.drop k = b :: r):L[k]? = some b:=by
 rw [← List.head?_drop,h]
 rfl
theorem take_T {L:List UInt8} {step:Int→Option (Int ⊕ Int)} (q:UInt8→Bool)
  (h1:∀ (k:Nat) b,L[k]? = some b→step (k:Int) = some (if q b = true then .inl ((k + 1:Nat):Int) else .inr (k:Int)))
  (h2:step (L.length:Int) = some (.inr (L.length:Int))) {n a:Nat} (ha:a≤L.length) (hn:L.length < n) :
  T (iter step n (a:Int)) (fun e=>e = ((a + ((L.drop a).takeWhile q).length:Nat):Int)):=by
 have key:∀ (j a n:Nat),a + j = L.length→j < n→iter step n (a:Int) = some (((a + ((L.drop a).takeWhile q).length:Nat):Int)):=by
  intro j
  induction j with
  | zero =>
   intro a n h hn
   have:a = L.length:=by omega
   subst this
   cases n with
   | zero=>omega
   | succ n=>simp only [iter,h2,List.drop_length,List.takeWhile_nil,List.length_nil,Nat.add_zero]
  | succ j ih =>
   intro a n h hn
   have hlt:a < L.length:=by omega
   have hg:=List.getElem?_eq_getElem hlt
   cases n with
   | zero=>omega
   | succ n =>
    rw [get_drop hg,List.takeWhile_cons]
    cases hq:q L[a]
    ·simp [iter,h1 a _ hg,hq]
    ·simp only [iter,h1 a _ hg,hq,if_true]
     rw [ih (a + 1) n (by omega) (by omega)]
     have:a + 1 + ((L.drop (a + 1)).takeWhile q).length = a + (L[a] :: (L.drop (a + 1)).takeWhile q).length:=by
      simp only [List.length_cons]; omega
     rw [this]
 exact ⟨_,key (L.length - a) a n (by omega) (by omega),rfl⟩
variable {s:ByteArray} {n:Nat}
theorem i_eq (m c:Nat):((m:Int) == (c:Int)) = (m == c):=by
 rw [Bool.eq_iff_iff]
 simp only [beq_iff_eq]
 omega
theorem i_le (m c:Nat):decide ((m:Int)≤(c:Int)) = decide (m≤c):=by rw [decide_eq_decide]; omega
theorem F136_eq {k:Nat} {b:UInt8} (hb:(tl s)[k]? = some b):F136 s k = some (wht b):=by
 unfold F136
 rw [idxS_some hb]
 have e1:((b.toNat:Int) == 32) = (b.toNat == 32):=i_eq _ 32
 have e2:((b.toNat:Int) == 9) = (b.toNat == 9):=i_eq _ 9
 have e3:((b.toNat:Int) == 10) = (b.toNat == 10):=i_eq _ 10
 have e4:((b.toNat:Int) == 13) = (b.toNat == 13):=i_eq _ 13
 simp only [Option.bind_some,e1,e2,e3,e4]
 unfold wht
 cases b.toNat == 32 <;> cases b.toNat == 9 <;> cases b.toNat == 10 <;> cases b.toNat == 13 <;> rfl
theorem F138_eq {k:Nat} {b:UInt8} (hb:(tl s)[k]? = some b):F138 s k = some (nol b):=by
 unfold F138
 rw [idxS_some hb]
 have e3:((b.toNat:Int) == 10) = (b.toNat == 10):=i_eq _ 10
 simp only [Option.bind_some,bne,e3,nol]
theorem F139_eq (b:UInt8):F139 (b.toNat:Int) = some (ltr b):=by
 unfold F139 ltr
 have e1:decide (65≤(b.toNat:Int)) = decide (65≤b.toNat):=i_le 65 _
 have e2:decide ((b.toNat:Int)≤90) = decide (b.toNat≤90):=i_le _ 90
 have e3:decide (97≤(b.toNat:Int)) = decide (97≤b.toNat):=i_le 97 _
 have e4:decide ((b.toNat:Int)≤122) = decide (b.toNat≤122):=i_le _ 122
 rw [e1,e2,e3,e4]
theorem F141_eq {k:Nat} {b:UInt8} (hb:(tl s)[k]? = some b):F141 s k = some (dgt b):=by
 unfold F141 dgt
 rw [idxS_some hb]
 have e1:decide (48≤(b.toNat:Int)) = decide (48≤b.toNat):=i_le 48 _
 have e2:decide ((b.toNat:Int)≤57) = decide (b.toNat≤57):=i_le _ 57
 simp only [Option.bind_some,e1,e2]
 cases decide (48≤b.toNat) <;> rfl
theorem F140_eq {k:Nat} {b:UInt8} (hb:(tl s)[k]? = some b):F140 s k = some (wrd b):=by
 unfold F140 wrd
 have e1:((b.toNat:Int) == 95) = (b.toNat == 95):=i_eq _ 95
 rw [idxS_some hb]
 simp only [Option.bind_some,F139_eq,F141_eq hb,e1]
 cases ltr b <;> cases dgt b <;> rfl
theorem run_eq {p:Int→Option Bool} {q:UInt8→Bool} (hp:∀ (k:Nat) b,(tl s)[k]? = some b→p (k:Int) = some (q b)) (hs:s.size≤4000) (hn:5000≤n) {a:Nat} (ha:a≤(tl s).length) :
  ((iter (σ:=Int) (ρ:=Int) (fun s1=>bif decide (s1 < (s.size:Int)) then ((p s1).bind fun x3=>bif x3 then (some (.inl (w64 (s1 + 1)))) else (some (.inr s1))) else (some (.inr s1))) n (a:Int)).bind fun r5=>some r5)
   = some ((a + (((tl s).drop a).takeWhile q).length:Nat):Int):=by
 have hz:=size_tl s
 apply T.eq
 refine T.bind (take_T (L:=tl s) q (fun k b hb=>?_) ?_ ha (by omega)) fun e he=>T.some he
 ·have hk:=lt_of_get hb
  have c:decide ((k:Int) < (s.size:Int)) = true:=by rw [hz]; simp; omega
  rw [c,hp k b hb,w64_nat (by omega)]
  cases q b <;> rfl
 ·have c:decide (((tl s).length:Int) < (s.size:Int)) = false:=by rw [hz]; simp
  rw [c]
  rfl
theorem F135_eq (hs:s.size≤4000) (hn:5000≤n) {a:Nat} (ha:a≤(tl s).length):F135 n s a s = some ((a + (((tl s).drop a).takeWhile wrd).length:Nat):Int):=by
 unfold F135
 exact run_eq (fun k b h=>F140_eq h) hs hn ha
theorem F135_1_eq (hs:s.size≤4000) (hn:5000≤n) {a:Nat} (ha:a≤(tl s).length):F135_1 n s a s = some ((a + (((tl s).drop a).takeWhile dgt).length:Nat):Int):=by
 unfold F135_1
 exact run_eq (fun k b h=>F141_eq h) hs hn ha
theorem F135_2_eq (hs:s.size≤4000) (hn:5000≤n) {a:Nat} (ha:a≤(tl s).length):F135_2 n s a s = some ((a + (((tl s).drop a).takeWhile wht).length:Nat):Int):=by
 unfold F135_2
 exact run_eq (fun k b h=>F136_eq h) hs hn ha
theorem F135_3_eq (hs:s.size≤4000) (hn:5000≤n) {a:Nat} (ha:a≤(tl s).length):F135_3 n s a s = some ((a + (((tl s).drop a).takeWhile nol).length:Nat):Int):=by
 unfold F135_3
 exact run_eq (fun k b h=>F138_eq h) hs hn ha
theorem pre_take (t l:List UInt8):(l.take t.length == t) = t.isPrefixOf l:=by
 rw [Bool.eq_iff_iff,List.isPrefixOf_iff_prefix,List.prefix_iff_eq_take,beq_iff_eq]
 exact eq_comm
theorem F137_eq (l:List UInt8):F137 (bs l) (bs [47,47]) = some (two l):=by
 unfold F137 F192
 have e0:((bs [47,47]).size:Int) = ((2:Nat):Int):=rfl
 have e1:((bs l).size:Int) = (l.length:Int):=rfl
 rw [e0,e1]
 by_cases h:2≤l.length
 ·have c:decide (((2:Nat):Int)≤(l.length:Int)) = true:=by simp; omega
  have e:=subS_eq (s:=bs l) (a:=0) (b:=2) (by omega) (by rw [tl_bs]; exact h)
  rw [c,cond_true]
  erw [e]
  simp only [Option.bind_some,tl_bs,List.drop_zero]
  exact congrArg some (pre_take [47,47] l)
 ·have c:decide (((2:Nat):Int)≤(l.length:Int)) = false:=by simp; omega
  rw [c]
  have:two l = false:=by
   rw [two,← pre_take]
   rw [beq_eq_false_iff_ne]
   intro e
   have:=congrArg List.length e
   rw [List.length_take] at this
   simp at this
   omega
  rw [this]
  rfl
theorem drop_step {L:List UInt8} {k:Nat} (q:UInt8→Bool) (hk:k≤L.length):k + ((L.drop k).takeWhile q).length≤L.length∧L.drop (k + ((L.drop k).takeWhile q).length) = (L.drop k).dropWhile q:=by
 constructor
 ·have:=len_tw q (L.drop k)
  rw [List.length_drop] at this
  omega
 ·rw [← List.drop_drop,drop_tw]
theorem F86_eq (hs:s.size≤4000) (hn:5000≤n) {a:Nat} (ha:a≤(tl s).length):F86 n s a = some (((tl s).length - (skp false ((tl s).drop a)).length:Nat):Int):=by
 have hz:=size_tl s
 apply T.eq
 unfold F86
 refine T.bind (P:=fun e=>e = (((tl s).length - (skp false ((tl s).drop a)).length:Nat):Int)) ?_ (fun _ h=>T.some h)
 refine iter_T (fun e=>∃ k:Nat,e = (k:Int)∧k≤(tl s).length∧skp false ((tl s).drop k) = skp false ((tl s).drop a)) (fun e=>((tl s).length - e.toNat)) _ (fun e he=>?_) n a (by omega) ⟨a,rfl,ha,rfl⟩
 obtain ⟨k,rfl,hk,hsk⟩:=he
 obtain ⟨hk2l,hd2⟩:=drop_step wht hk
 have h0:((tl s).drop k).takeWhile wht = [] ↔ (((tl s).drop k).takeWhile wht).length = 0:=List.length_eq_zero_iff.symm
 rw [F135_2_eq hs hn hk]
 simp only [Option.bind_some]
 generalize hk2:k + (((tl s).drop k).takeWhile wht).length = k2 at hk2l hd2
 have es:subS s (k2:Int) (s.size:Int) = some (bs ((tl s).drop k2)):=by
  rw [hz,subS_eq hk2l (Nat.le_refl _),List.take_of_length_le (by rw [List.length_drop]; omega)]
 rw [es]
 simp only [Option.bind_some,F137_eq]
 cases h2:two ((tl s).drop k2)
 ·simp only [cond_false,Option.bind_some]
  cases he:((k2:Int) == (k:Int))
  ·have ne:k2≠k:=by rw [i_eq] at he; simpa using he
   refine T.some ⟨⟨k2,rfl,hk2l,by rw [hd2,← skp_wht,hsk]⟩,?_⟩
   show (tl s).length - k2 < (tl s).length - k
   omega
  ·have eq:k2 = k:=by rw [i_eq] at he; simpa using he
   refine T.some ?_
   have h3:=skp_fix _ (h0.2 (by omega)) (by rw [← eq]; exact h2)
   rw [← hsk,h3,List.length_drop]
   show (k:Int) = _
   omega
 ·simp only [cond_true]
  obtain ⟨hk3l,hd3⟩:=drop_step nol hk2l
  have hpos:1≤(((tl s).drop k2).takeWhile nol).length:=by
   cases hd:(tl s).drop k2 with
   | nil=>rw [hd] at h2; simp [two] at h2
   | cons b r =>
    rw [hd] at h2
    have hb:=two_cons h2
    subst hb
    rw [List.takeWhile_cons,if_pos (by decide)]
    simp
  rw [F135_3_eq hs hn hk2l]
  simp only [Option.bind_some]
  generalize hk3:k2 + (((tl s).drop k2).takeWhile nol).length = k3 at hk3l hd3
  have he:((k3:Int) == (k:Int)) = false:=by rw [i_eq]; simp; omega
  rw [he]
  refine T.some ⟨⟨k3,rfl,hk3l,by rw [hd3,← skp_two _ h2,hd2,← skp_wht,hsk]⟩,?_⟩
  show (tl s).length - k3 < (tl s).length - k
  omega
theorem find_T {S:List ByteArray} {step:Int→Option (Int ⊕ (ByteArray ⊕ Unit))} (p:ByteArray→Bool)
  (h1:∀ (k:Nat) x,S[k]? = some x→T (step (k:Int)) (fun r=>r = if p x = true then .inr (.inl x) else .inl ((k + 1:Nat):Int)))
  (h2:step (S.length:Int) = some (.inr (.inr ()))) (hn:S.length < n) :
  T (iter step n (0:Int)) (fun r=>r = match S.find? p with | some x=>.inl x | none=>.inr ()):=by
 have key:∀ (l:List ByteArray) (k:Nat),runF (A:=Unit) (ρ:=ByteArray ⊕ Unit) (fun _ _ x=>if p x = true then .inr (.inl x) else .inl ()) (fun _=>.inr ()) k l () = match l.find? p with | some x=>.inl x | none=>.inr ():=by
  intro l
  induction l with
  | nil=>intro k; rfl
  | cons x l ih =>
   intro k
   rw [List.find?_cons,runF]
   cases hp:p x
   ·simpa [hp] using ih (k + 1)
   ·simp
 have e:=iter_runF S (fun (k:Nat) (_:Unit)=>(k:Int)) (fun _ _ x=>if p x = true then .inr (.inl x) else .inl ()) (fun _=>.inr ()) (step:=step)
  (fun k a x hx=>by
   rw [T.eq (h1 k x hx)]
   cases p x <;> rfl)
  (fun _=>h2) n () hn
 rw [key] at e
 exact ⟨_,e,rfl⟩
theorem allI_pre {L:List UInt8} {a:Nat}:∀ (t:List UInt8) (k:Nat),allI (fun j c=>L[a + j]? == some c) k t = t.isPrefixOf (L.drop (a + k))
 | [],_=>by simp [allI]
 | c :: t,k=>by
  rw [allI,allI_pre t (k + 1)]
  cases hd:L[a + k]? with
  | none =>
   have:L.drop (a + k) = []:=List.drop_eq_nil_iff.2 (List.getElem?_eq_none_iff.1 hd)
   rw [this]
   rfl
  | some d =>
   rw [get_drop hd,show a + (k + 1) = a + k + 1 by omega]
   show ((some d == some c) && _) = ((c == d) && _)
   congr 1
   rw [Bool.eq_iff_iff]
   simp
   exact eq_comm
theorem symTab_map:symTab.map tl = symL:=by rfl
theorem find_tl {p:List UInt8→Bool}:∀ (S:List ByteArray),(S.find? (fun x=>p (tl x))) = ((S.map tl).find? p).map bs
 | []=>rfl
 | x :: S=>by
  rw [List.find?_cons,List.map_cons,List.find?_cons]
  cases p (tl x)
  ·exact find_tl S
  ·rfl
theorem F142_eq (hs:s.size≤4000) (hn:5000≤n) {a:Nat} (ha:a≤(tl s).length):F142 n s a = some (bs ((symL.find? (fun t=>t.isPrefixOf ((tl s).drop a))).getD [])):=by
 have hz:=size_tl s
 apply T.eq
 unfold F142
 refine T.bind (find_T (S:=symTab) (fun x=>(tl x).isPrefixOf ((tl s).drop a)) (fun k x hx=>?_) ?_ (by simp [symTab]; omega)) fun r hr=>?_
 ·have hk:k < 27:=lt_of_get hx
  have c1:decide ((k:Int) < 27) = true:=by simp; omega
  have hm:=symTab_sz x (List.mem_of_getElem? hx)
  have hxz:=size_tl x
  rw [c1,idxL_some hx,w64_id (x:=(s.size:Int) - (a:Int)) (by omega) (by omega),w64_nat (k:=k) (by omega)]
  simp only [cond_true,Option.bind_some]
  refine T.cond (fun hc=>T.some ?_) (fun hc=>?_)
  ·have hc':(s.size:Int) - (a:Int) < (x.size:Int):=by simpa using hc
   have:(tl x).isPrefixOf ((tl s).drop a) = false:=by
    rw [← pre_take,beq_eq_false_iff_ne]
    intro e
    have:=congrArg List.length e
    rw [List.length_take,List.length_drop] at this
    omega
   simp [this]
  ·have hc':¬ (s.size:Int) - (a:Int) < (x.size:Int):=by simpa using hc
   refine T.bind (T.of_eq (iter_allI (tl x) (fun j c=>(tl s)[a + j]? == some c) (by omega) (fun j c hj=>?_) ?_ (n:=n) (by omega))) fun r hr=>?_
   ·have hjl:=lt_of_get hj
    have c2:decide ((j:Int) < (x.size:Int)) = true:=by simp; omega
    have hlt:a + j < (tl s).length:=by omega
    have hg:=List.getElem?_eq_getElem hlt
    have ew:w64 ((a:Int) + (j:Int)) = ((a + j:Nat):Int):=by rw [w64_id (by omega) (by omega)]; rfl
    rw [c2,ew,idxS_some hg,idxS_some hj,hg]
    simp only [cond_true,Option.bind_some]
    by_cases hcc:(tl s)[a + j] = c
    ·rw [hcc]; simp
    ·have:((((tl s)[a + j]).toNat:Int) != (c.toNat:Int)) = true:=by
      simp only [bne,i_eq,Bool.not_eq_true',beq_eq_false_iff_ne]
      exact fun e=>hcc (UInt8.toNat_inj.1 e)
     rw [this]
     simp [hcc]
   ·have c2:decide (((tl x).length:Int) < (x.size:Int)) = false:=by simp; omega
    rw [c2]
    rfl
   ·rw [hr,allI_pre]
    simp only [Nat.add_zero]
    cases (tl x).isPrefixOf ((tl s).drop a)
    ·exact T.some rfl
    ·exact T.some rfl
 ·have c1:decide (((symTab.length:Nat):Int) < 27) = false:=by simp [symTab]
  rw [c1]
  rfl
 ·rw [hr,find_tl (p:=fun t=>t.isPrefixOf ((tl s).drop a)),symTab_map]
  cases symL.find? (fun t=>t.isPrefixOf ((tl s).drop a)) with
  | none=>exact T.some rfl
  | some t=>exact T.some rfl
theorem F87_eq (hs:s.size≤4000) (hn:5000≤n) {a:Nat} {b:UInt8} {r:List UInt8} (hd:(tl s).drop a = b :: r) :
  F87 n s a = some (match tokL ((tl s).drop a) with | some km=>((km.1:Int),((a + km.2:Nat):Int)) | none=>((0:Int),(a:Int))):=by
 have hz:=size_tl s
 have hb:=get_of_drop hd
 have ha:=lt_of_get hb
 have hw:∀ k:Nat,k≤5000→w64 (((a + k:Nat):Int) - (a:Int)) = (k:Int):=fun k hk=>by
  rw [w64_id (by omega) (by omega)]; omega
 unfold F87
 rw [idxS_some hb]
 simp only [Option.bind_some,F139_eq]
 rw [hd,tokL_cons]
 cases h1:ltr b
 ·simp only [cond_false,F141_eq hb,Option.bind_some]
  cases h2:dgt b
  ·simp only [cond_false,F142_eq hs hn (Nat.le_of_lt ha),hd,Option.bind_some]
   cases hf:symL.find? (fun t=>t.isPrefixOf (b :: r)) with
   | none=>rfl
   | some t =>
    have hm:=symL_ok t (List.mem_of_find?_eq_some hf)
    have hne:strEq (bs t) (bs []) = false:=by
     cases t with
     | nil=>simp at hm
     | cons x y=>rfl
    have ew:w64 ((a:Int) + ((bs t).size:Int)) = ((a + t.length:Nat):Int):=by
     rw [size_bs,w64_id (by omega) (by omega)]; rfl
    simp only [Option.getD_some,hne,Bool.not_false,cond_true,ew,Option.map_some]
    rfl
  ·simp only [cond_true,F135_1_eq hs hn (Nat.le_of_lt ha),Option.bind_some]
   obtain ⟨hkl,hkd⟩:=drop_step dgt (Nat.le_of_lt ha)
   rw [hd] at hkl hkd ⊢
   unfold numOk
   rw [← hkd]
   generalize hk:((b :: r).takeWhile dgt).length = k at hkl hkd ⊢
   have hk1:1≤k:=by rw [← hk,List.takeWhile_cons,if_pos h2]; simp
   rw [hw k (by omega)]
   by_cases h9:9 < k
   ·have c1:decide (9 < (k:Int)) = true:=by simp; omega
    have c2:decide (k≤9) = false:=by simp; omega
    rw [c1,c2]
    rfl
   ·have c1:decide (9 < (k:Int)) = false:=by simp; omega
    have c2:decide (k≤9) = true:=by simp; omega
    rw [c1,c2]
    have e48:((b.toNat:Int) == 48) = (b.toNat == 48):=i_eq _ 48
    have e1:decide (1 < (k:Int)) = !(k == 1):=by rw [Bool.eq_iff_iff]; simp; omega
    simp only [cond_false,Option.bind_some,e48,e1,Bool.true_and]
    have e3:((b.toNat != 48) || (k == 1)) = !((b.toNat == 48) && !(k == 1)):=by
     simp only [bne]; cases b.toNat == 48 <;> cases k == 1 <;> rfl
    rw [e3]
    cases (b.toNat == 48) && !(k == 1)
    ·simp only [cond_false,Bool.not_false,Bool.true_and]
     rw [List.head?_drop]
     by_cases hlt:a + k < (tl s).length
     ·have hg:=List.getElem?_eq_getElem hlt
      have c3:decide (((a + k:Nat):Int) < (s.size:Int)) = true:=by simp; omega
      rw [c3,F140_eq hg,hg]
      simp only [cond_true,Option.bind_some,Option.all_some]
      cases wrd (tl s)[a + k] <;> rfl
     ·have c3:decide (((a + k:Nat):Int) < (s.size:Int)) = false:=by simp; omega
      rw [c3,List.getElem?_eq_none (by omega)]
      rfl
    ·rfl
 ·simp only [cond_true,F135_eq hs hn (Nat.le_of_lt ha),Option.bind_some]
  obtain ⟨hkl,_⟩:=drop_step wrd (Nat.le_of_lt ha)
  rw [hd] at hkl ⊢
  generalize hk:((b :: r).takeWhile wrd).length = k at hkl ⊢
  rw [hw k (by omega)]
  by_cases h16:16 < k
  ·have c1:decide (16 < (k:Int)) = true:=by simp; omega
   have c2:decide (k≤16) = false:=by simp; omega
   rw [c1,c2]
   rfl
  ·have c1:decide (16 < (k:Int)) = false:=by simp; omega
   have c2:decide (k≤16) = true:=by simp; omega
   rw [c1,c2]
   rfl
def outT (acc:List Token):List Token ⊕ (Int × Int)→List Token × Int × Int
 | .inl ts=>(acc ++ ts,0,0)
 | .inr e=>([],e.1,e.2)
def lexR (s:ByteArray):List Token × Int × Int :=
 if 4000 < s.size then ([],2,0) else outT [] (lexG s.size (s.size + 1) 0 (tl s))
theorem out_cons (acc:List Token) (t:Token) (r:List Token ⊕ (Int × Int)):outT acc (consT t r) = outT (acc ++ [t]) r:=by
 cases r with
 | inl ts=>simp [outT,consT]
 | inr e=>rfl
theorem F55_eq (hn:5000≤n):F55 n s = some (lexR s):=by
 have hz:=size_tl s
 apply T.eq
 unfold F55 lexR
 by_cases h4:4000 < s.size
 ·have c:decide ((4000:Int) < (s.size:Int)) = true:=by simp; omega
  rw [c,if_pos h4]
  exact T.some rfl
 have c:decide ((4000:Int) < (s.size:Int)) = false:=by simp; omega
 have hs:s.size≤4000:=by omega
 rw [c,if_neg h4]
 simp only [cond_false]
 refine T.bind (P:=fun r=>r = outT [] (lexG s.size (s.size + 1) 0 (tl s))) ?_ (fun r h=>T.some h)
 refine iter_T (fun st=>∃ (k f:Nat),st.2 = (k:Int)∧k≤(tl s).length∧st.1.length≤1500∧((tl s).drop k).length < f∧outT st.1 (lexG s.size f st.1.length ((tl s).drop k)) = outT [] (lexG s.size (s.size + 1) 0 (tl s))) (fun st=>(tl s).length - st.2.toNat) _ (fun st hst=>?_) n _ (by simp; omega) ⟨0,s.size + 1,rfl,by omega,by simp,by simp; omega,by simp⟩
 obtain ⟨k,f,hk,hkl,h15,hf,hout⟩:=hst
 rw [hk,F86_eq hs hn hkl]
 simp only [Option.bind_some]
 obtain ⟨f,rfl⟩:∃ g,f = g + 1:=⟨f - 1,by omega⟩
 simp only [lexG] at hout
 have hlen:=skp_len false ((tl s).drop k)
 rw [List.length_drop] at hlen
 obtain ⟨p,hp⟩:=skp_suf ((tl s).drop k) false
 have hp1:=congrArg List.length hp
 rw [List.length_append,List.length_drop] at hp1
 have hdr:(tl s).drop ((tl s).length - (skp false ((tl s).drop k)).length) = skp false ((tl s).drop k):=by
  have:(tl s).length - (skp false ((tl s).drop k)).length = k + p.length:=by omega
  rw [this,← List.drop_drop]
  conv=>lhs; rw [hp]
  exact List.drop_left
 cases hsk:skp false ((tl s).drop k) with
 | nil =>
  rw [hsk] at hout
  have c1:((((tl s).length - ([]:List UInt8).length:Nat):Int) == (s.size:Int)) = true:=by simp; omega
  rw [c1]
  simp only [lexS,outT,List.append_nil] at hout
  exact T.some hout
 | cons b r =>
  rw [hsk] at hout hdr hlen
  have hbl:1≤(b :: r).length:=by simp
  generalize hj:(tl s).length - (b :: r).length = j at hdr ⊢
  have hjl:j + (b :: r).length = (tl s).length:=by omega
  have c1:((j:Int) == (s.size:Int)) = false:=by rw [i_eq]; simp; omega
  rw [c1]
  simp only [cond_false]
  have hpos:s.size - (b :: r).length = j:=by omega
  simp only [lexS,hpos] at hout
  by_cases h1500:st.1.length = 1500
  ·have c2:((st.1.length:Int) == 1500) = true:=by simp; omega
   rw [c2]
   rw [if_pos h1500] at hout
   exact T.some hout
  have c2:((st.1.length:Int) == 1500) = false:=by simp; omega
  rw [c2,F87_eq hs hn hdr,hdr]
  rw [if_neg h1500] at hout
  simp only [cond_false,Option.bind_some]
  cases htk:tokL (b :: r) with
  | none =>
   rw [htk] at hout
   exact T.some hout
  | some km =>
   rw [htk] at hout
   have hm:=tokL_spec htk
   simp only at hout ⊢
   have c3:((km.1:Int) == 0) = false:=by simp; omega
   rw [c3,subS_eq (by omega) (by omega),hdr]
   simp only [cond_false,Option.bind_some,appL]
   rw [if_pos (by simp; omega)]
   rw [out_cons] at hout
   refine T.some ⟨⟨j + km.2,f,rfl,by omega,by simp; omega,?_,?_⟩,?_⟩
   ·rw [← List.drop_drop,hdr,List.length_drop]
    rw [List.length_drop] at hf
    omega
   ·rw [← List.drop_drop,hdr]
    have e1:j + km.2 - j = km.2:=by omega
    rw [e1,List.length_append]
    exact hout
   ·show (tl s).length - (((j + km.2:Nat):Int)).toNat < (tl s).length - ((k:Int)).toNat
    simp only [Int.toNat_natCast]
    omega
end Go.Proofs.YtbecjgckobhmpaaGreatDoor
end
section
namespace Go.Proofs.YtbecjgckobhmpaaGreatDoor
open Go Go.AM Go.Proofs
inductive Lx (N:Nat):List UInt8→List Token→Prop where
 | nil {l:List UInt8}:skp false l = []→Lx N l []
 | cons {l w r:List UInt8} {k:Nat} {ts:List Token}:skp false l = w ++ r→tokL (w ++ r) = some (k,w.length)→Lx N r ts→Lx N l (⟨(k:Int),bs w,((N - (w ++ r).length:Nat):Int)⟩ :: ts)
theorem lexG_Lx {N:Nat}:∀ {f c:Nat} {l:List UInt8} {ts:List Token},l.length < f→lexG N f c l = .inl ts→c≤1500→Lx N l ts∧c + ts.length≤1500
 | 0,_,_,_,h,_,_=>absurd h (Nat.not_lt_zero _)
 | f + 1,c,l,ts,hl,h,hc0=>by
  simp only [lexG] at h
  have hk:=skp_len false l
  cases hs:skp false l with
  | nil =>
   rw [hs] at h
   cases h
   exact ⟨.nil hs,by simpa using hc0⟩
  | cons b r =>
   rw [hs] at h hk
   simp only [lexS] at h
   by_cases hc:c = 1500
   ·rw [if_pos hc] at h; cases h
   ·rw [if_neg hc] at h
    cases ht:tokL (b :: r) with
    | none=>rw [ht] at h; cases h
    | some km =>
     rw [ht] at h
     simp only at h
     have hm:=tokL_spec ht
     cases hg:lexG N f (c + 1) ((b :: r).drop km.2) with
     | inr e=>rw [hg] at h; cases h
     | inl us =>
      rw [hg] at h
      cases h
      have hd:=List.length_drop (i:=km.2) (l:=b :: r)
      obtain ⟨i1,i2⟩:=lexG_Lx (by omega) hg (by omega)
      have e:(b :: r) = (b :: r).take km.2 ++ (b :: r).drop km.2:=(List.take_append_drop _ _).symm
      have hw:((b :: r).take km.2).length = km.2:=by rw [List.length_take]; omega
      refine ⟨?_,by simp only [List.length_cons]; omega⟩
      have:=Lx.cons (N:=N) (l:=l) (w:=(b :: r).take km.2) (r:=(b :: r).drop km.2) (k:=km.1) (by rw [← e]; exact hs) (by rw [← e,hw]; exact ht) i1
      rw [← e] at this
      exact this
theorem Lx_lexG {N:Nat} {l:List UInt8} {ts:List Token} (h:Lx N l ts):∀ {f c:Nat},l.length < f→c + ts.length≤1500→lexG N f c l = .inl ts:=by
 induction h with
 | nil hs =>
  intro f c hl _
  cases f with
  | zero=>omega
  | succ f=>simp only [lexG,hs,lexS]
 | @cons l w r k ts hs ht _ ih =>
  intro f c hl hc
  simp only [List.length_cons] at hc
  cases f with
  | zero=>omega
  | succ f =>
   have hk:=skp_len false l
   have hm:=tokL_spec ht
   rw [hs,List.length_append] at hk
   rw [lexG,hs]
   cases w with
   | nil=>simp at hm
   | cons b w =>
    rw [List.cons_append] at ht ⊢
    simp only [lexS,if_neg (show c≠1500 by omega),ht]
    have e1:(b :: (w ++ r)).drop (b :: w).length = r:=by rw [← List.cons_append,List.drop_left]
    have e2:(b :: (w ++ r)).take (b :: w).length = b :: w:=by rw [← List.cons_append,List.take_left]
    rw [e1,e2,ih (by simp only [List.length_cons] at hk; omega) (by omega)]
    rfl
def sepB (b:UInt8):Bool:=!wrd b && symL.all fun t=>!(t.drop 1).contains b
theorem sym_no47:∀ t ∈ symL,t.head?≠some 47:=by decide
theorem tokL_head {l:List UInt8} {km:Nat × Nat} (h:tokL l = some km):l.head?≠some 47∧l≠[]:=by
 cases l with
 | nil=>cases h
 | cons b l =>
  refine ⟨fun e=>?_,by simp⟩
  simp only [List.head?_cons,Option.some.injEq] at e
  subst e
  rw [tokL_cons] at h
  have h1:ltr 47 = false:=by decide
  have h2:dgt 47 = false:=by decide
  rw [h1,h2] at h
  simp only [cond_false] at h
  cases h3:symL.find? (fun t=>t.isPrefixOf (47 :: l)) with
  | none=>rw [h3] at h; cases h
  | some t =>
   have hm:=List.mem_of_find?_eq_some h3
   have hp:=List.find?_some h3
   cases t with
   | nil=>have:=symL_ok [] hm; simp at this
   | cons y t =>
    simp only [List.isPrefixOf,Bool.and_eq_true,beq_iff_eq] at hp
    have:=sym_no47 _ hm
    simp [hp.1] at this
theorem tw_pre {p:UInt8→Bool}:∀ (w r r':List UInt8),((w ++ r).takeWhile p).length = w.length→(∀ b,r'.head? = some b→p b = false)→(w ++ r').takeWhile p = w∧(w ++ r').dropWhile p = r'∧(w ++ r).dropWhile p = r
 | [],r,r',h,hr=>by
  simp only [List.nil_append,List.length_nil,List.length_eq_zero_iff] at h ⊢
  have hd:∀ x:List UInt8,x.takeWhile p = []→x.dropWhile p = x:=by
   intro x hx
   have:=List.takeWhile_append_dropWhile (p:=p) (l:=x)
   rw [hx,List.nil_append] at this
   exact this
  have ht:r'.takeWhile p = []:=by
   cases r' with
   | nil=>rfl
   | cons b r'=>rw [List.takeWhile_cons,hr b rfl]; simp
  exact ⟨ht,hd r' ht,hd r h⟩
 | b :: w,r,r',h,hr=>by
  rw [List.cons_append,List.takeWhile_cons] at h
  rw [List.cons_append,List.takeWhile_cons,List.dropWhile_cons,List.cons_append,List.dropWhile_cons]
  cases hb:p b
  ·rw [hb] at h; simp at h
  ·rw [hb] at h
   simp only [if_true,List.length_cons,Nat.add_right_cancel_iff] at h ⊢
   have:=tw_pre w r r' h hr
   exact ⟨by rw [this.1],this.2⟩
def Fol (r r':List UInt8):Prop:=r' <+: r∨(∃ b x,r' = b :: x∧sepB b = true)∨∃ r1 b x,r1 <+: r∧r' = r1 ++ b :: x∧sepB b = true
theorem wrd_dgt {b:UInt8} (h:wrd b = false):dgt b = false:=by
 cases hd:dgt b
 ·rfl
 ·simp [wrd,hd] at h
theorem tokL_fol {w r r':List UInt8} {k:Nat} (h:tokL (w ++ r) = some (k,w.length)) (hf:Fol r r'):tokL (w ++ r') = some (k,w.length):=by
 have hm:=tokL_spec h
 cases w with
 | nil=>simp at hm
 | cons b w =>
  have hh:∀ (p:UInt8→Bool),(∀ c,wrd c = false→p c = false)→(∀ c,r.head? = some c→p c = false)→∀ c,r'.head? = some c→p c = false:=by
   intro p hp hr c hc
   have hsep:∀ d,sepB d = true→p d = false:=fun d hd=>by
    simp only [sepB,Bool.and_eq_true,Bool.not_eq_true'] at hd
    exact hp d hd.1
   rcases hf with ⟨x,hx⟩ | ⟨d,x,rfl,hd⟩ | ⟨r1,d,x,hr1,rfl,hd⟩
   ·cases r' with
    | nil=>cases hc
    | cons y r' =>
     simp only [List.head?_cons,Option.some.injEq] at hc
     subst hc
     exact hr y (by rw [← hx]; rfl)
   ·simp only [List.head?_cons,Option.some.injEq] at hc
    subst hc
    exact hsep d hd
   ·cases r1 with
    | nil =>
     simp only [List.nil_append,List.head?_cons,Option.some.injEq] at hc
     subst hc
     exact hsep d hd
    | cons y r1 =>
     obtain ⟨x',hx'⟩:=hr1
     exact hr c (by rw [← hx']; exact hc)
  have hstop:∀ (p:UInt8→Bool),((b :: w ++ r).takeWhile p).length = (b :: w).length→∀ c,r.head? = some c→p c = false:=by
   intro p hl c hc
   cases r with
   | nil=>cases hc
   | cons y r =>
    simp only [List.head?_cons,Option.some.injEq] at hc
    subst hc
    cases hy:p y
    ·rfl
    ·have e:=(tw_pre (p:=p) (b :: w) (y :: r) [] hl (by simp)).2.2
     have:=List.dropWhile_append_of_pos (p:=p) (l₁:=b :: w) (l₂:=y :: r)
     have hall:(b :: w ++ y :: r).takeWhile p = b :: w:=by
      have e1:=List.takeWhile_append_dropWhile (p:=p) (l:=b :: w ++ y :: r)
      rw [e] at e1
      exact List.append_cancel_right e1
     have hd2:(y :: r).dropWhile p≠y :: r:=by rw [List.dropWhile_cons,hy]; intro e; have:=congrArg List.length e; have h3:=(List.dropWhile_sublist p (l:=r)).length_le; simp at this; omega
     have hpre:∀ z ∈ b :: w,p z = true:=by
      intro z hz
      rw [← hall] at hz
      exact mem_tw hz
     rw [List.dropWhile_append_of_pos hpre] at e
     exact absurd e hd2
  have h':tokL (b :: (w ++ r)) = some (k,(b :: w).length):=h
  show tokL (b :: (w ++ r')) = some (k,(b :: w).length)
  rw [tokL_cons] at h' ⊢
  cases h1:ltr b
  ·rw [h1,cond_false] at h'
   rw [cond_false]
   cases h2:dgt b
   ·rw [h2,cond_false] at h'
    rw [cond_false]
    cases h3:symL.find? (fun t=>t.isPrefixOf (b :: (w ++ r))) with
    | none=>rw [h3] at h'; cases h'
    | some t =>
     rw [h3] at h'
     simp only [Option.map_some,Option.some.injEq,Prod.mk.injEq] at h'
     obtain ⟨rfl,hl⟩:=h'
     have hmem:=List.mem_of_find?_eq_some h3
     have hp:=List.find?_some h3
     have ht:t = b :: w:=by
      have hp':t <+: b :: w ++ r:=List.isPrefixOf_iff_prefix.1 hp
      obtain ⟨x,hx⟩:=hp'
      exact (List.append_inj hx hl).1
     subst ht
     obtain ⟨pre,pos,hsym,hno⟩:=(List.find?_eq_some_iff_append.1 h3).2
     have h4:symL.find? (fun t=>t.isPrefixOf (b :: (w ++ r'))) = some (b :: w):=by
      rw [List.find?_eq_some_iff_append]
      refine ⟨List.isPrefixOf_iff_prefix.2 ⟨r',rfl⟩,pre,pos,hsym,fun a ha=>?_⟩
      have hna:=hno a ha
      simp only [Bool.not_eq_true',Bool.eq_false_iff,ne_eq,List.isPrefixOf_iff_prefix] at hna ⊢
      intro hpa
      apply hna
      have hpa:a <+: b :: w ++ r':=hpa
      by_cases hla:a.length≤(b :: w).length
      ·exact (List.prefix_of_prefix_length_le hpa (List.prefix_append _ _) hla).trans (List.prefix_append _ _)
      ·rcases hf with hf | ⟨d,x,rfl,hd⟩ | ⟨r1,d,x,hr1,rfl,hd⟩
       ·exact hpa.trans ((List.prefix_append_right_inj _).2 hf)
       rotate_left
       ·by_cases hlr:a.length≤(b :: w ++ r1).length
        ·have h1:a <+: b :: w ++ r1:=List.prefix_of_prefix_length_le hpa (by rw [← List.append_assoc]; exact List.prefix_append _ _) hlr
         exact h1.trans ((List.prefix_append_right_inj _).2 hr1)
        ·exfalso
         have hwa:b :: w ++ r1 <+: a:=List.prefix_of_prefix_length_le (by rw [← List.append_assoc]; exact List.prefix_append _ _) hpa (by omega)
         obtain ⟨y,rfl⟩:=hwa
         rw [← List.append_assoc] at hpa
         have hy:y <+: d :: x:=(List.prefix_append_right_inj _).1 hpa
         cases y with
         | nil=>simp at hlr
         | cons y0 y =>
          obtain ⟨z,hz⟩:=hy
          simp only [List.cons_append,List.cons.injEq] at hz
          simp only [sepB,Bool.and_eq_true,List.all_eq_true,Bool.not_eq_true'] at hd
          have hin:(b :: w ++ r1 ++ y0 :: y) ∈ symL:=by rw [hsym]; exact List.mem_append_left _ ha
          have:=hd.2 _ hin
          rw [← hz.1] at this
          simp at this
       ·exfalso
        have hwa:b :: w <+: a:=List.prefix_of_prefix_length_le (List.prefix_append _ _) hpa (by omega)
        obtain ⟨y,rfl⟩:=hwa
        have hy:y <+: d :: x:=(List.prefix_append_right_inj _).1 hpa
        cases y with
        | nil=>simp at hla
        | cons y0 y =>
         obtain ⟨z,hz⟩:=hy
         simp only [List.cons_append,List.cons.injEq] at hz
         simp only [sepB,Bool.and_eq_true,List.all_eq_true,Bool.not_eq_true'] at hd
         have hin:(b :: w ++ y0 :: y) ∈ symL:=by rw [hsym]; exact List.mem_append_left _ ha
         have:=hd.2 _ hin
         rw [← hz.1] at this
         simp at this
     rw [h4]
     rfl
   ·rw [h2,cond_true] at h'
    rw [cond_true]
    cases h3:numOk b (b :: (w ++ r))
    ·rw [h3] at h'; cases h'
    ·rw [h3,cond_true] at h'
     simp only [Option.some.injEq,Prod.mk.injEq] at h'
     obtain ⟨rfl,hl⟩:=h'
     have hl':((b :: w ++ r).takeWhile dgt).length = (b :: w).length:=hl
     have e:=tw_pre (p:=dgt) (b :: w) r r' hl' (hh dgt (fun c=>wrd_dgt) (hstop dgt hl'))
     have e':(b :: (w ++ r')).takeWhile dgt = b :: w:=e.1
     have e2':(b :: (w ++ r')).dropWhile dgt = r':=e.2.1
     have e3':(b :: (w ++ r)).dropWhile dgt = r:=e.2.2
     have hn:numOk b (b :: (w ++ r')) = true:=by
      unfold numOk at h3 ⊢
      rw [e3',hl] at h3
      rw [e',e2']
      simp only [Bool.and_eq_true] at h3 ⊢
      refine ⟨h3.1,h3.2.1,?_⟩
      have h5:=hh wrd (fun c h=>h) (fun c hc=>by
       have:=h3.2.2
       rw [hc] at this
       simpa using this)
      cases hr:r'.head? with
      | none=>rfl
      | some c=>simp [h5 c hr]
     rw [hn,e']
     rfl
  ·rw [h1,cond_true] at h'
   rw [cond_true]
   cases h3:decide (((b :: (w ++ r)).takeWhile wrd).length≤16)
   ·rw [h3] at h'; cases h'
   ·rw [h3,cond_true] at h'
    simp only [Option.some.injEq,Prod.mk.injEq] at h'
    obtain ⟨rfl,hl⟩:=h'
    have hl':((b :: w ++ r).takeWhile wrd).length = (b :: w).length:=hl
    have e:=tw_pre (p:=wrd) (b :: w) r r' hl' (hh wrd (fun c h=>h) (hstop wrd hl'))
    have e':(b :: (w ++ r')).takeWhile wrd = b :: w:=e.1
    rw [hl] at h3
    rw [e',h3]
    rfl
theorem two_false {b:UInt8} {l:List UInt8} (h:b≠47):two (b :: l) = false:=by
 cases ht:two (b :: l)
 ·rfl
 ·exact absurd (two_cons ht) h
theorem skp_to {x x':List UInt8} (hx:∃ b y,x = b :: y∧b≠47) (hx':∃ b y,x' = b :: y∧b≠47∧wht b = false):∀ (g:List UInt8) (c:Bool),skp c (g ++ x) = x→skp c (g ++ x') = x'
 | [],c,h=>by
  obtain ⟨b,y,rfl,hb⟩:=hx
  obtain ⟨b',y',rfl,hb',hw⟩:=hx'
  simp only [List.nil_append] at h ⊢
  cases c
  ·simp only [skp,hw,two_false hb']
   rfl
  ·exfalso
   rw [skp] at h
   have h1:=skp_len true y
   have h2:=skp_len false y
   have h3:=congrArg List.length h
   split at h3 <;> simp only [List.length_cons] at h3 <;> omega
 | a :: g,true,h=>by
  rw [List.cons_append,skp] at h ⊢
  split
  ·rename_i hn
   rw [if_pos hn] at h
   exact skp_to hx hx' g true h
  ·rename_i hn
   rw [if_neg hn] at h
   exact skp_to hx hx' g false h
 | a :: g,false,h=>by
  have htwo:two (a :: (g ++ x')) = two (a :: (g ++ x)):=by
   cases g with
   | nil =>
    obtain ⟨b,y,rfl,hb⟩:=hx
    obtain ⟨b',y',rfl,hb',hw⟩:=hx'
    simp only [two,List.nil_append,List.isPrefixOf]
    have e1:((47:UInt8) == b) = false:=by simpa using fun h:(47:UInt8) = b=>hb h.symm
    have e2:((47:UInt8) == b') = false:=by simpa using fun h:(47:UInt8) = b'=>hb' h.symm
    simp [e1,e2]
   | cons b g=>simp [two,List.isPrefixOf]
  rw [List.cons_append,skp] at h ⊢
  rw [htwo]
  split
  ·rename_i hn
   rw [if_pos hn] at h
   exact skp_to hx hx' g false h
  ·rename_i hn
   rw [if_neg hn] at h
   split
   ·rename_i hn2
    rw [if_pos hn2] at h
    exact skp_to hx hx' g true h
   ·rename_i hn2
    rw [if_neg hn2] at h
    exfalso
    have:=congrArg List.length h
    simp at this
    omega
theorem tokL_wht {l:List UInt8} {km:Nat × Nat} (h:tokL l = some km):∃ b y,l = b :: y∧b≠47:=by
 have h1:=tokL_head h
 cases l with
 | nil=>exact absurd rfl h1.2
 | cons b y=>exact ⟨b,y,rfl,fun e=>h1.1 (by rw [e]; rfl)⟩
theorem skp_wfix {l b y} {g:List UInt8} (h:skp false g = l) (hl:l = b :: y):wht b = false:=by
 subst h
 revert hl
 suffices ∀ (g:List UInt8) (c:Bool),skp c g = b :: y→wht b = false from fun hl=>this g false hl
 intro g
 induction g with
 | nil=>intro c h; rw [skp_nil] at h; cases h
 | cons a g ih =>
  intro c h
  cases c
  ·rw [skp] at h
   split at h
   ·exact ih false h
   ·rename_i hn
    split at h
    ·exact ih true h
    ·simp only [List.cons.injEq] at h
     rw [← h.1]
     simpa using hn
  ·rw [skp] at h
   split at h
   ·exact ih true h
   ·exact ih false h
theorem Lx.split {N:Nat}:∀ {us:List Token} {l:List UInt8} {t:Token} {vs:List Token},Lx N l (us ++ t :: vs) →
  ∃ p r,l = p ++ r∧Lx N r vs∧t.pos + ((tl t.text).length:Int) = ((N - (tl t.text ++ r).length:Nat):Int) + ((tl t.text).length:Int)∧(∀ N',N' + r.length = N→Lx N' p (us ++ [t]))
 | [],l,t,vs,h=>by
  cases h with
  | @cons _ w r k _ hs ht hr =>
   obtain ⟨g,hg⟩:=skp_suf l false
   rw [hs] at hg
   refine ⟨g ++ w,r,by rw [List.append_assoc]; exact hg,hr,rfl,fun N' hN=>?_⟩
   have ht':=tokL_fol (r':=[]) ht (.inl (List.nil_prefix))
   have hs':skp false (g ++ (w ++ [])) = w ++ []:=skp_to (tokL_wht ht) (by
    obtain ⟨b,y,e,hb⟩:=tokL_wht ht'
    refine ⟨b,y,e,hb,?_⟩
    have hw:=tokL_spec ht
    cases w with
    | nil=>simp at hw
    | cons c w =>
     simp only [List.cons_append,List.cons.injEq] at e
     rw [← e.1]
     exact skp_wfix hs rfl) g false (by rw [← hg]; exact hs)
   have:=Lx.cons (N:=N') (l:=g ++ w) (w:=w) (r:=[]) (k:=k) (by simpa using hs') ht' (.nil rfl)
   have e:N' - (w ++ []).length = N - (w ++ r).length:=by
    simp only [List.length_append,List.length_nil]; omega
   rw [e] at this
   exact this
 | u :: us,l,t,vs,h=>by
  cases h with
  | @cons _ w r0 k _ hs ht hr =>
   obtain ⟨p,r,rfl,h2,h3,h4⟩:=Lx.split hr
   obtain ⟨g,hg⟩:=skp_suf l false
   rw [hs] at hg
   refine ⟨g ++ (w ++ p),r,by rw [hg]; simp,h2,h3,fun N' hN=>?_⟩
   have ht':=tokL_fol (r':=p) ht (.inl (List.prefix_append _ _))
   have hs':skp false (g ++ (w ++ p)) = w ++ p:=skp_to (tokL_wht ht) (by
    obtain ⟨b,y,e,hb⟩:=tokL_wht ht'
    refine ⟨b,y,e,hb,?_⟩
    have hw:=tokL_spec ht
    cases w with
    | nil=>simp at hw
    | cons c w =>
     simp only [List.cons_append,List.cons.injEq] at e
     rw [← e.1]
     exact skp_wfix hs rfl) g false (by rw [← hg]; exact hs)
   have:=Lx.cons (N:=N') (l:=g ++ (w ++ p)) (w:=w) (r:=p) (k:=k) hs' ht' (h4 N' hN)
   have e:N' - (w ++ p).length = N - (w ++ (p ++ r)).length:=by
    simp only [List.length_append]; omega
   rw [e] at this
   exact this
theorem Lx.le {N:Nat} {l:List UInt8} {ts:List Token} (h:Lx N l ts) (hN:l.length≤N):ts.Pairwise (fun a b=>a.pos + 1≤b.pos)∧∀ t ∈ ts,((N - l.length:Nat):Int)≤t.pos∧t.pos + ((tl t.text).length:Int)≤(N:Int)∧1≤(tl t.text).length:=by
 induction h with
 | nil hs=>exact ⟨.nil,by simp⟩
 | @cons l w r k ts hs ht _ ih =>
  have hk:=skp_len false l
  have hm:=tokL_spec ht
  rw [hs] at hk
  have hlen:=@List.length_append _ w r
  obtain ⟨i1,i2⟩:=ih (by omega)
  constructor
  ·refine List.pairwise_cons.2 ⟨fun t ht=>?_,i1⟩
   have:=(i2 t ht).1
   simp only
   omega
  ·intro t ht
   rcases List.mem_cons.1 ht with rfl | ht
   ·simp only [tl_bs]
    omega
   ·have:=i2 t ht
    omega
end Go.Proofs.YtbecjgckobhmpaaGreatDoor
end
section
namespace Go.Proofs.YtbecjgckobhmpaaGreatDoor
open Go Go.AM Go.Proofs
theorem key_sym:∀ t ∈ symL,keyNames.any (t == ·) = false:=by decide
theorem tk_ok {w r:List UInt8} {k:Nat} (h:tokL (w ++ r) = some (k,w.length)):TkOk ((k:Int),bs w):=by
 have hm:=tokL_spec h
 cases w with
 | nil=>simp at hm
 | cons b w =>
  have h':tokL (b :: (w ++ r)) = some (k,(b :: w).length):=h
  rw [tokL_cons] at h'
  cases h1:ltr b
  ·rw [h1,cond_false] at h'
   cases h2:dgt b
   ·rw [h2,cond_false] at h'
    cases h3:symL.find? (fun t=>t.isPrefixOf (b :: (w ++ r))) with
    | none=>rw [h3] at h'; cases h'
    | some t =>
     rw [h3] at h'
     simp only [Option.map_some,Option.some.injEq,Prod.mk.injEq] at h'
     obtain ⟨rfl,hl⟩:=h'
     have hmem:=List.mem_of_find?_eq_some h3
     have hp:=List.find?_some h3
     have ht:t = b :: w:=by
      have hp':t <+: b :: w ++ r:=List.isPrefixOf_iff_prefix.1 hp
      obtain ⟨x,hx⟩:=hp'
      exact (List.append_inj hx hl).1
     subst ht
     have:=symL_ok _ hmem
     exact .inr (.inr ⟨rfl,this.1,this.2.1,key_sym _ hmem⟩)
   ·rw [h2,cond_true] at h'
    cases h3:numOk b (b :: (w ++ r))
    ·rw [h3] at h'; cases h'
    ·rw [h3,cond_true] at h'
     simp only [Option.some.injEq,Prod.mk.injEq] at h'
     obtain ⟨rfl,hl⟩:=h'
     have hl':((b :: w ++ r).takeWhile dgt).length = (b :: w).length:=hl
     have e:=(tw_pre (p:=dgt) (b :: w) r [] hl' (by simp)).1
     rw [List.append_nil] at e
     have e0:(b :: (w ++ r)).takeWhile dgt = b :: w:=by
      have:=take_tw dgt (b :: w ++ r)
      rw [hl',List.take_left] at this
      exact this.symm
     unfold numOk at h3
     rw [e0] at h3
     simp only [Bool.and_eq_true,decide_eq_true_eq,Bool.or_eq_true,bne_iff_ne,beq_iff_eq] at h3
     refine .inr (.inl ⟨rfl,by simp [tl_bs],h3.1,fun c hc=>?_,?_⟩)
     ·rw [tl_bs,← e] at hc
      have:=mem_tw hc
      simpa [dgt] using this
     ·rw [tl_bs]
      rcases h3.2.1 with h4 | h4
      ·right
       simp only [List.head?_cons,ne_eq,Option.some.injEq]
       intro e; apply h4; rw [e]; rfl
      ·left; exact h4
  ·rw [h1,cond_true] at h'
   cases h3:decide (((b :: (w ++ r)).takeWhile wrd).length≤16)
   ·rw [h3] at h'; cases h'
   ·rw [h3,cond_true] at h'
    simp only [Option.some.injEq,Prod.mk.injEq] at h'
    obtain ⟨rfl,hl⟩:=h'
    have hl':((b :: w ++ r).takeWhile wrd).length = (b :: w).length:=hl
    have e:=(tw_pre (p:=wrd) (b :: w) r [] hl' (by simp)).1
    rw [List.append_nil] at e
    refine .inl ⟨rfl,?_,by simp [tl_bs],?_⟩
    ·rw [tl_bs]
     simp only [nameCs,Bool.and_eq_true,List.all_eq_true]
     refine ⟨?_,fun c hc=>?_⟩
     ·simp only [ltr,isLetI,Bool.or_eq_true,Bool.and_eq_true,decide_eq_true_eq] at h1 ⊢
      omega
     ·have:c ∈ b :: w:=List.mem_cons_of_mem _ hc
      rw [← e] at this
      have:=mem_tw this
      simp only [wrd,ltr,dgt,isWordI,isLetI,isDigI,Bool.or_eq_true,Bool.and_eq_true,decide_eq_true_eq,beq_iff_eq] at this ⊢
      omega
    ·rw [hl] at h3
     rw [tl_bs]
     exact of_decide_eq_true h3
theorem Lx.oks {N:Nat} {l:List UInt8} {ts:List Token} (h:Lx N l ts):TksOk ts:=by
 induction h with
 | nil hs=>intro t ht; cases ht
 | cons hs ht _ ih =>
  intro t hm
  rcases List.mem_cons.1 hm with rfl | hm
  ·exact tk_ok ht
  ·exact ih t hm
structure Lexed (s:ByteArray) (ts:List Token):Prop where
 len:s.size≤4000
 lx:Lx s.size (tl s) ts
 cnt:ts.length≤1500
theorem lexR_ok {s:ByteArray} {ts:List Token} (h:Lexed s ts):lexR s = (ts,0,0):=by
 unfold lexR
 rw [if_neg (by have:=h.len; omega),Lx_lexG h.lx (by rw [← size_tl]; omega) (by have:=h.cnt; omega)]
 rfl
theorem lexG_bad {N:Nat}:∀ {f c:Nat} {l:List UInt8} {e:Int × Int},lexG N f c l = .inr e→l.length≤N→(e.1 = 2∨e.1 = 10)∧0≤e.2∧e.2≤(N:Int)
 | 0,_,_,_,h,_=>by cases h
 | f + 1,c,l,e,h,hN=>by
  simp only [lexG] at h
  have hk:=skp_len false l
  cases hs:skp false l with
  | nil=>rw [hs] at h; cases h
  | cons b r =>
   rw [hs] at h hk
   simp only [lexS] at h
   by_cases hc:c = 1500
   ·rw [if_pos hc] at h; cases h; exact ⟨.inl rfl,by simp only; omega,by simp only; omega⟩
   ·rw [if_neg hc] at h
    cases ht:tokL (b :: r) with
    | none=>rw [ht] at h; cases h; exact ⟨.inr rfl,by simp only; omega,by simp only; omega⟩
    | some km =>
     rw [ht] at h
     simp only at h
     cases hg:lexG N f (c + 1) ((b :: r).drop km.2) with
     | inl e=>rw [hg] at h; cases h
     | inr e' =>
      rw [hg] at h
      cases h
      exact lexG_bad hg (by rw [List.length_drop]; omega)
theorem lexR_cases (s:ByteArray):(∃ ts,Lexed s ts∧lexR s = (ts,0,0))∨(∃ e p,lexR s = ([],e,p)∧(e = 2∨e = 10)∧0≤p∧p≤(s.size:Int)):=by
 unfold lexR
 by_cases h:4000 < s.size
 ·rw [if_pos h]
  exact .inr ⟨2,0,rfl,.inl rfl,by omega,by omega⟩
 ·rw [if_neg h]
  cases hg:lexG s.size (s.size + 1) 0 (tl s) with
  | inl ts =>
   obtain ⟨h1,h2⟩:=lexG_Lx (by rw [← size_tl]; omega) hg (by omega)
   exact .inl ⟨ts,⟨by omega,h1,by omega⟩,rfl⟩
  | inr e =>
   have:=lexG_bad hg (by rw [← size_tl]; omega)
   exact .inr ⟨e.1,e.2,rfl,this⟩
theorem Lexed.of {s:ByteArray} {ts:List Token} {p:Int} (h:lexR s = (ts,0,p)):Lexed s ts:=by
 rcases lexR_cases s with ⟨ts',h1,h2⟩ | ⟨e,q,h1,h2,_⟩
 ·rw [h2] at h
  simp only [Prod.mk.injEq] at h
  rw [← h.1]
  exact h1
 ·rw [h1] at h
  simp only [Prod.mk.injEq] at h
  omega
theorem list_open {n:Nat} {item:M Node} (fin:Int):∀ (k:Nat) (acc:List Node) (s:PS),s.rest.length < n→(∀ b s',(M.iterM (M.listS n false item) k acc).run fin s≠.bad b s')∧(∀ l s',(M.iterM (M.listS n false item) k acc).run fin s = .ok l s'→s'.rest = []):=by
 intro k
 induction k with
 | zero=>intro acc s _; exact ⟨fun _ _ h=>(by cases h),fun _ _ h=>by cases h⟩
 | succ k ih =>
  intro acc s hs
  have hstep:(∀ b s',(M.listS n false item acc).run fin s≠.bad b s')∧(∀ l s',(M.listS n false item acc).run fin s = .ok (.inr l) s'→s'.rest = []):=by
   obtain ⟨r,i,p⟩:=s
   cases r with
   | nil=>exact ⟨fun _ _ h=>(by cases h),fun _ _ h=>by cases h; rfl⟩
   | cons t r =>
    have e:(M.listS n false item acc).run fin ⟨t :: r,i,p⟩ = (item.tryM (fun x=>.ret (.inl (acc ++ [x]))) (fun b=>.rep b ((M.skip n false).bind fun _=>.ret (.inl acc))):M (List Node ⊕ List Node)).run fin ⟨t :: r,i,p⟩:=rfl
    rw [e,M.run_try]
    have hsuf:=M.run_suf fin item ⟨t :: r,i,p⟩
    cases hr:item.run fin ⟨t :: r,i,p⟩ with
    | ok a s'=>exact ⟨fun _ _ h=>(by cases h),fun _ _ h=>by cases h⟩
    | bad b s' =>
     rw [hr] at hsuf
     have hle:=List.IsSuffix.length_le hsuf
     simp only at hle hs
     obtain ⟨s2,h2,_⟩:=M.run_skip (closed:=false) (fin:=fin) (s:=⟨s'.rest,s'.inner,s'.reps ++ [(codeOf b s'.rest,posOf fin s'.rest)]⟩) (n:=n) (by simp only; omega)
     simp only [M.andThen,M.run,M.run_bind,h2]
     exact ⟨fun _ _ h=>(by cases h),fun _ _ h=>by cases h⟩
    | out=>exact ⟨fun _ _ h=>(by cases h),fun _ _ h=>by cases h⟩
  simp only [M.iterM,M.run_bind]
  have hsuf:=M.run_suf fin (M.listS n false item acc) s
  cases hr:(M.listS n false item acc).run fin s with
  | ok a s' =>
   rw [hr] at hsuf
   have hle:=List.IsSuffix.length_le hsuf
   cases a with
   | inl x'=>exact ih x' s' (by omega)
   | inr l=>exact ⟨fun _ _ h=>(by cases h),fun l' s2 h=>by cases h; exact hstep.2 l _ hr⟩
  | bad b s'=>exact absurd hr (hstep.1 b s')
  | out=>exact ⟨fun _ _ h=>(by cases h),fun _ _ h=>by cases h⟩
structure Read (n:Nat) (ts:List Token) (fin:Int) (l:List Node) (p:List (Int × Int)):Prop where
 run:∃ i,(M.source n).run fin ⟨ts,0,[]⟩ = .ok l ⟨[],i,p⟩
 ok:∀ y ∈ l,okT y = true∧isItm y.kind = true
 sz:szs l≤ts.length
theorem read_some {n:Nat} (hn:9000≤n) {ts:List Token} (hc:ts.length≤1500) (hok:TksOk ts) (fin:Int):∃ l p,Read n ts fin l p:=by
 have ht:=M.tot_source (L:=1501) (n:=n) (by omega) fin ⟨ts,0,[]⟩ (by simp only; omega)
 have ho:=list_open (n:=n) (item:=M.item n) fin n [] ⟨ts,0,[]⟩ (by simp only; omega)
 cases hr:(M.source n).run fin ⟨ts,0,[]⟩ with
 | ok l s' =>
  have h1:=ho.2 l s' hr
  obtain ⟨d,hd,hq⟩:=M.post_source n fin ⟨ts,0,[]⟩ l s' hok hr
  obtain ⟨r,i,p⟩:=s'
  simp only at h1
  subst h1
  simp only [List.length_nil] at hd
  exact ⟨l,p,⟨i,hr⟩,hq.1,by have:=hq.2; omega⟩
 | bad b s'=>exact absurd hr (ho.1 b s')
 | out=>exact absurd hr ht
theorem Read.eq {n:Nat} {ts:List Token} {fin:Int} {l l':List Node} {p p':List (Int × Int)} (h:Read n ts fin l p) (h':Read n ts fin l' p'):l = l'∧p = p':=by
 obtain ⟨i,h1⟩:=h.run
 obtain ⟨j,h2⟩:=h'.run
 rw [h1] at h2
 cases h2
 exact ⟨rfl,rfl⟩
def srcN (l:List Node):Node:=Node.mk 62 (bs []) (bs []) 0 0 0 false l 0
def endP (l:List Node) (d:List Diag):Node × List Diag:=if d = [] then (if smallP (srcN l) then (srcN l,[]) else (srcN [],[⟨2,0⟩])) else (srcN l,d)
theorem F25_ok {n:Nat} (h1:9000≤n) (h2:n≤100000000) {s:ByteArray} {ts:List Token} (hs:Lexed s ts) {l:List Node} {p:List (Int × Int)} (hr:Read n ts s.size l p):F25 n s = some (endP l (addDs [] p)):=by
 unfold F25
 rw [F55_eq (by omega),lexR_ok hs]
 simp only [Option.bind_some]
 obtain ⟨i,hrun⟩:=hr.run
 have hm:(RS.mk ts 0 (s.size:Int) 0 []) = mkS ts s.size ⟨ts,0,[]⟩:=by simp [mkS,addDs]
 have hsim:=sim_source h2 ts s.size ⟨ts,0,[]⟩ hs.cnt hs.lx.oks (List.suffix_refl _)
 rw [hrun] at hsim
 have e:((0:Int) != 0) = false:=rfl
 rw [e,hm,hsim]
 simp only [cond_false,toO,nopan,Option.bind_some,mkS]
 have hsz:sz (srcN l)≤1501:=by
  have:=hr.sz
  have:=hs.cnt
  rw [srcN,M.szL]
  omega
 unfold endP
 cases hd:addDs [] p with
 | nil =>
  have:=G59 (srcN l) (by omega) (n:=n) (by omega)
  rw [srcN] at this
  simp only [List.length_nil,if_pos,this]
  by_cases hsm:smallP (srcN l)
  ·rw [if_pos hsm]
   have:decide (smallP (Node.mk 62 (bs []) (bs []) 0 0 0 false l 0)) = true:=decide_eq_true hsm
   simp [this,srcN]
  ·rw [if_neg hsm]
   have:decide (smallP (Node.mk 62 (bs []) (bs []) 0 0 0 false l 0)) = false:=decide_eq_false hsm
   simp [this,srcN]
 | cons x r =>
  have:((((x :: r).length:Nat):Int) == 0) = false:=by simp; omega
  rw [this]
  simp [srcN]
theorem F25_bad {n:Nat} (h1:9000≤n) {s:ByteArray} {e p:Int} (h:lexR s = ([],e,p)) (he:e≠0):F25 n s = some (srcN [],[⟨e,p⟩]):=by
 unfold F25
 rw [F55_eq (by omega),h]
 simp only [Option.bind_some]
 have:(e != 0) = true:=by simpa using he
 rw [this]
 rfl
theorem F24_ok:F24 20000 = some true:=by kernel_rfl
end Go.Proofs.YtbecjgckobhmpaaGreatDoor
end
section
namespace Go.Proofs.YtbecjgckobhmpaaGreatDoor
open Go Go.AM Go.Proofs
theorem skp_nl (z:List UInt8):∀ (l:List UInt8) (c:Bool),skp c (l ++ 10 :: z) = bif (skp c l).isEmpty then skp false z else skp c l ++ 10 :: z
 | [],c=>by
  have h1:wht 10 = true:=by decide
  have h2:nol 10 = false:=by decide
  cases c <;> simp [skp,h1,h2]
 | b :: l,true=>by
  rw [List.cons_append,skp,skp]
  split
  ·exact skp_nl z l true
  ·exact skp_nl z l false
 | b :: l,false=>by
  have htwo:two (b :: (l ++ 10 :: z)) = two (b :: l):=by
   cases l with
   | nil =>
    simp only [two,List.nil_append,List.isPrefixOf]
    have e:((47:UInt8) == 10) = false:=by decide
    simp [e]
   | cons c l=>simp [two,List.isPrefixOf]
  rw [List.cons_append,skp,skp,htwo]
  split
  ·exact skp_nl z l false
  ·split
   ·exact skp_nl z l true
   ·rfl
theorem Lx.app {N:Nat} {l:List UInt8} {ts:List Token} (h:Lx N l ts):∀ {z:List UInt8} {tz:List Token},l.length≤N→Lx (N + (z.length + 1)) z tz→Lx (N + (z.length + 1)) (l ++ 10 :: z) (ts ++ tz):=by
 induction h with
 | @nil l hs =>
  intro z tz hN hz
  have e:=skp_nl z l false
  rw [hs] at e
  have e:skp false (l ++ 10 :: z) = skp false z:=e
  cases hz with
  | nil h=>exact .nil (e.trans h)
  | cons h1 h2 h3=>exact .cons (e.trans h1) h2 h3
 | @cons l w r k ts hs ht _ ih =>
  intro z tz hN hz
  have hk:=skp_len false l
  rw [hs,List.length_append] at hk
  have hm:=tokL_spec ht
  have hne:(skp false l).isEmpty = false:=by
   rw [hs]
   cases w with
   | nil=>simp at hm
   | cons c w=>rfl
  have e:=skp_nl z l false
  rw [hne,cond_false,hs,List.append_assoc] at e
  have h1:=tokL_fol (r':=r ++ 10 :: z) ht (.inr (.inr ⟨r,10,z,List.prefix_refl _,rfl,by decide⟩))
  have h2:=Lx.cons e h1 (ih (by omega) hz)
  have e2:N + (z.length + 1) - (w ++ (r ++ 10 :: z)).length = N - (w ++ r).length:=by
   simp only [List.length_append,List.length_cons]
   omega
  rw [e2] at h2
  exact h2
theorem Lx.shift {N:Nat} (d:Nat) {l:List UInt8} {ts:List Token} (h:Lx N l ts):l.length≤N→Lx (N + d) l (ts.map (mapT fun p=>p + d)):=by
 induction h with
 | nil hs=>intro _; exact .nil hs
 | @cons l w r k ts hs ht _ ih =>
  intro hN
  have hk:=skp_len false l
  rw [hs,List.length_append] at hk
  have h2:=Lx.cons (N:=N + d) hs ht (ih (by omega))
  have e2:((N + d - (w ++ r).length:Nat):Int) = ((N - (w ++ r).length:Nat):Int) + d:=by
   simp only [List.length_append]
   omega
  rw [e2] at h2
  exact h2
theorem Lx.det {N:Nat} {l:List UInt8} {t1:List Token} (h1:Lx N l t1):∀ {t2:List Token},Lx N l t2→t1 = t2:=by
 induction h1 with
 | nil hs =>
  intro t2 h2
  cases h2 with
  | nil _=>rfl
  | cons h3 h4 _ =>
   have:=tokL_spec h4
   rw [hs] at h3
   have e:=congrArg List.length h3
   simp only [List.length_nil,List.length_append] at e
   omega
 | @cons l w r k ts hs ht _ ih =>
  intro t2 h2
  cases h2 with
  | nil h3 =>
   have:=tokL_spec ht
   rw [hs] at h3
   have e:=congrArg List.length h3
   simp only [List.length_nil,List.length_append] at e
   omega
  | @cons _ w' r' k' ts' h3 h4 h5 =>
   rw [hs] at h3
   rw [← h3,ht] at h4
   simp only [Option.some.injEq,Prod.mk.injEq] at h4
   obtain ⟨rfl,rfl⟩:=List.append_inj h3 h4.2
   obtain rfl:=h4.1
   rw [ih h5]
namespace M
variable {α β σ ρ:Type}
theorem iter_mono {step:σ→M (σ ⊕ ρ)} (fin:Int) (d:Nat):∀ (k:Nat) (x:σ) (s:PS) (a:ρ) (s':PS),(iterM step k x).run fin s = .ok a s'→(iterM step (k + d) x).run fin s = .ok a s'
 | 0,_,_,_,_,h=>by cases h
 | k + 1,x,s,a,s',h=>by
  rw [Nat.add_right_comm,iterM,run_bind]
  rw [iterM,run_bind] at h
  cases hr:(step x).run fin s with
  | ok r s1 =>
   rw [hr] at h
   cases r with
   | inl x'=>exact iter_mono fin d k x' s1 a s' h
   | inr r=>exact h
  | bad b s1=>rw [hr] at h; cases h
  | out=>rw [hr] at h; cases h
theorem listS_one {n:Nat} {item:M Node} (fin:Int) (acc:List Node) (t:Token) (r:List Token) (i:Int) (p:List (Int × Int)):(listS n false item acc).run fin ⟨t :: r,i,p⟩ = (item.tryM (fun x=>.ret (.inl (acc ++ [x]))) (fun b=>.rep b ((skip n false).bind fun _=>.ret (.inl acc))):M (List Node ⊕ List Node)).run fin ⟨t :: r,i,p⟩:=rfl
theorem loop_cat {n:Nat} {item:M Node} (hEA:EA item) (hIn:In 0 0 item) (fin fin':Int) (u:List Token):∀ (k:Nat) (acc:List Node) (A:List Token) (l:List Node) (s':PS),
  (iterM (listS n false item) k acc).run fin ⟨A,0,[]⟩ = .ok l s'→s'.reps = []→∀ (k2:Nat) (l2:List Node) (s2:PS),(iterM (listS n false item) k2 l).run fin' ⟨u,0,[]⟩ = .ok l2 s2 →
   ∃ K,(iterM (listS n false item) K acc).run fin' ⟨A ++ u,0,[]⟩ = .ok l2 s2
 | 0,_,_,_,_,h,_,_,_,_,_=>by cases h
 | k + 1,acc,A,l,s',h,hr,k2,l2,s2,h2=>by
  cases A with
  | nil=>cases h; exact ⟨k2,h2⟩
  | cons x A =>
   rw [iterM,run_bind,listS_one,run_try] at h
   cases hi:item.run fin ⟨x :: A,0,[]⟩ with
   | ok a s1 =>
    rw [hi] at h
    simp only [andThen,run] at h
    have hreps:=run_reps fin (iterM (listS n false item) k (acc ++ [a])) s1
    rw [h] at hreps
    have h0:s1.reps = []:=by
     have:s1.reps <+: s'.reps:=hreps
     rw [hr] at this
     exact List.prefix_nil.1 this
    have h1:s1.inner = 0:=In.run fin item ⟨x :: A,0,[]⟩ a s1 hIn hi h0
    have hx:=EAr.ext (.inr hEA) hi fin' u
    obtain ⟨r1,i1,p1⟩:=s1
    simp only at h0 h1
    subst h0 h1
    obtain ⟨K,hK⟩:=loop_cat hEA hIn fin fin' u k (acc ++ [a]) r1 l s' h hr k2 l2 s2 h2
    refine ⟨K + 1,?_⟩
    rw [iterM,run_bind,List.cons_append,listS_one,run_try]
    have hx':item.run fin' ⟨x :: (A ++ u),0,[]⟩ = .ok a ⟨r1 ++ u,0,[]⟩:=hx
    rw [hx']
    exact hK
   | bad b s1 =>
    exfalso
    rw [hi] at h
    simp only [andThen,run,run_bind] at h
    cases hs:(skip n false).run fin ⟨s1.rest,s1.inner,s1.reps ++ [(codeOf b s1.rest,posOf fin s1.rest)]⟩ with
    | ok v s3 =>
     have h5:=run_reps fin (skip n false) ⟨s1.rest,s1.inner,s1.reps ++ [(codeOf b s1.rest,posOf fin s1.rest)]⟩
     rw [hs] at h5 h
     simp only at h
     have h6:=run_reps fin (iterM (listS n false item) k acc) s3
     rw [h] at h6
     have h7:s1.reps ++ [(codeOf b s1.rest,posOf fin s1.rest)] <+: s'.reps:=List.IsPrefix.trans h5 h6
     rw [hr] at h7
     have:=List.prefix_nil.1 h7
     simp at this
    | bad b s3=>rw [hs] at h; cases h
    | out=>rw [hs] at h; cases h
   | out=>rw [hi] at h; cases h
end M
end Go.Proofs.YtbecjgckobhmpaaGreatDoor
end
section
namespace Go.Proofs.YtbecjgckobhmpaaGreatDoor
open Go Go.AM Go.Proofs
def Inc (fin:Int) (l:List Token):Prop:=l.Pairwise (fun a b=>a.pos≤b.pos)∧∀ t ∈ l,t.pos≤fin
theorem Inc.tail {fin:Int} {t:Token} {l:List Token} (h:Inc fin (t :: l)):Inc fin l∧t.pos≤posOf fin l:=by
 obtain ⟨h1,h2⟩:=h
 rw [List.pairwise_cons] at h1
 refine ⟨⟨h1.2,fun x hx=>h2 x (List.mem_cons_of_mem _ hx)⟩,?_⟩
 cases l with
 | nil=>exact h2 t (List.mem_cons_self ..)
 | cons x l=>exact h1.1 x (List.mem_cons_self ..)
theorem Inc.le {fin:Int} {l:List Token} (h:Inc fin l):posOf fin l≤fin:=by
 cases l with
 | nil=>exact Int.le_refl _
 | cons x l=>exact h.2 x (List.mem_cons_self ..)
def RepOk (lo fin:Int) (l:List (Int × Int)):Prop:=l.Pairwise (fun a b=>a.2≤b.2)∧∀ r ∈ l,r.1≠0∧lo≤r.2∧r.2≤fin
theorem M.rep_ok {α:Type} (fin:Int):∀ (m:M α) (s:PS),Inc fin s.rest→M.Ends (m.run fin s) fun s'=>∃ l,s'.reps = s.reps ++ l∧RepOk (posOf fin s.rest) fin l
 | .ret a,s,_=>⟨[],by simp,by simp [RepOk]⟩
 | .fail b,s,_=>⟨[],by simp,by simp [RepOk]⟩
 | .out,s,_=>trivial
 | .look k,s,h=>rep_ok fin (k (hdOf s.rest)) s h
 | .adv k,s,h=>by
  obtain ⟨r,i,p⟩:=s
  cases r with
  | nil=>trivial
  | cons t r =>
   have ht:=Inc.tail h
   refine (rep_ok fin k ⟨r,i,p⟩ ht.1).mono fun s' ⟨l,h1,h2⟩=>⟨l,h1,h2.1,fun x hx=>?_⟩
   have:=h2.2 x hx
   have h3:=ht.2
   simp only [posOf] at this ⊢
   exact ⟨this.1,Int.le_trans h3 this.2.1,this.2.2⟩
 | .pos k,s,h=>rep_ok fin (k (posOf fin s.rest)) s h
 | .setI i k,s,h=>rep_ok fin k ⟨s.rest,i,s.reps⟩ h
 | .getI k,s,h=>rep_ok fin (k s.inner) s h
 | .rep b k,s,h=>(rep_ok fin k ⟨s.rest,s.inner,s.reps ++ [(codeOf b s.rest,posOf fin s.rest)]⟩ h).mono fun s' ⟨l,h1,h2⟩=>by
   refine ⟨(codeOf b s.rest,posOf fin s.rest) :: l,by rw [h1]; simp,List.pairwise_cons.2 ⟨fun x hx=>(h2.2 x hx).2.1,h2.1⟩,fun x hx=>?_⟩
   rcases List.mem_cons.1 hx with rfl | hx
   ·exact ⟨by have:=code_ne b s.rest; simpa using this,Int.le_refl _,h.le⟩
   ·exact h2.2 x hx
theorem addD_cases (d:List Diag) (r:Int × Int):addD d r = d∨(addD d r = d ++ [⟨r.1,r.2⟩]∧d.length < 20∧∀ y,d.getLast? = some y→y.pos≠r.2):=by
 unfold addD
 cases h20:decide (20≤(d.length:Int))
 ·have h20':¬ 20≤(d.length:Int):=of_decide_eq_false h20
  simp only [cond_false]
  cases hl:d.getLast? with
  | none=>exact .inr ⟨rfl,by omega,by simp⟩
  | some y =>
   cases hy:y.pos == r.2
   ·exact .inr ⟨by simp [hy],by omega,fun z hz=>by simp only [Option.some.injEq] at hz; subst hz; simpa using hy⟩
   ·exact .inl (by simp [hy])
 ·exact .inl rfl
theorem addDs_ok {lo fin:Int}:∀ (l:List (Int × Int)) (d:List Diag),RepOk lo fin l→d.length≤20→d.Pairwise (fun a b=>a.pos < b.pos)→(∀ x ∈ d,(x.err≠0∧lo≤x.pos∧x.pos≤fin)∧∀ r ∈ l,x.pos≤r.2) →
  (addDs d l).length≤20∧(addDs d l).Pairwise (fun a b=>a.pos < b.pos)∧∀ x ∈ addDs d l,x.err≠0∧lo≤x.pos∧x.pos≤fin
 | [],d,_,h1,h2,h3=>⟨h1,h2,fun x hx=>(h3 x hx).1⟩
 | r :: l,d,hr,h1,h2,h3=>by
  have hr1:=List.pairwise_cons.1 hr.1
  have hr':RepOk lo fin l:=⟨hr1.2,fun x hx=>hr.2 x (List.mem_cons_of_mem _ hx)⟩
  have hsame:(addDs d l).length≤20∧(addDs d l).Pairwise (fun a b=>a.pos < b.pos)∧∀ x ∈ addDs d l,x.err≠0∧lo≤x.pos∧x.pos≤fin :=
   addDs_ok l d hr' h1 h2 fun x hx=>⟨(h3 x hx).1,fun r hr=>(h3 x hx).2 r (List.mem_cons_of_mem _ hr)⟩
  have e:addDs d (r :: l) = addDs (addD d r) l:=rfl
  rw [e]
  rcases addD_cases d r with h | ⟨h,h20,hy⟩
  ·rw [h]
   exact hsame
  ·rw [h]
   have hlt:∀ x ∈ d,x.pos < r.2:=by
    intro x hx
    cases hl:d.getLast? with
    | none =>
     rw [List.getLast?_eq_none_iff] at hl
     rw [hl] at hx
     cases hx
    | some y =>
     have hy':=hy y hl
     have h5:=(h3 y (List.mem_of_getLast? hl)).2 r (List.mem_cons_self ..)
     obtain ⟨d',rfl⟩:∃ d',d = d' ++ [y]:=List.getLast?_eq_some_iff.1 hl
     rcases List.mem_append.1 hx with hx | hx
     ·have:=(List.pairwise_append.1 h2).2.2 x hx y (by simp)
      omega
     ·rw [List.mem_singleton.1 hx]
      omega
   refine addDs_ok l _ hr' (by simp; omega) (List.pairwise_append.2 ⟨h2,by simp,fun x hx y hy=>?_⟩) fun x hx=>?_
   ·rw [List.mem_singleton.1 hy]
    exact hlt x hx
   ·rcases List.mem_append.1 hx with hx | hx
    ·exact ⟨(h3 x hx).1,fun r hr=>(h3 x hx).2 r (List.mem_cons_of_mem _ hr)⟩
    ·rw [List.mem_singleton.1 hx]
     exact ⟨hr.2 r (List.mem_cons_self ..),fun y hy=>hr1.1 y hy⟩
theorem Read.diags {n:Nat} {s:ByteArray} {ts:List Token} (hs:Lexed s ts) {l:List Node} {p:List (Int × Int)} (hr:Read n ts s.size l p) :
  (addDs [] p).length≤20∧(addDs [] p).Pairwise (fun a b=>a.pos < b.pos)∧∀ x ∈ addDs [] p,x.err≠0∧0≤x.pos∧x.pos≤(s.size:Int):=by
 have hle:=hs.lx.le (by rw [← size_tl]; exact Nat.le_refl _)
 have hinc:Inc s.size ts:=⟨hle.1.imp fun h=>by omega,fun t ht=>by have:=hle.2 t ht; omega⟩
 have h:=M.rep_ok s.size (M.source n) ⟨ts,0,[]⟩ hinc
 obtain ⟨i,hi⟩:=hr.run
 rw [hi] at h
 obtain ⟨l',h1,h2⟩:=h
 simp only [List.nil_append] at h1
 subst h1
 have h0:0≤posOf s.size ts:=by
  cases ts with
  | nil=>simp [posOf]
  | cons t r=>have:=(hle.2 t (List.mem_cons_self ..)).1; simp only [posOf]; omega
 have:=addDs_ok p [] h2 (by simp) (by simp) (by simp)
 exact ⟨this.1,this.2.1,fun x hx=>⟨(this.2.2 x hx).1,Int.le_trans h0 (this.2.2 x hx).2.1,(this.2.2 x hx).2.2⟩⟩
end Go.Proofs.YtbecjgckobhmpaaGreatDoor
end
section
namespace Go.Proofs.YtbecjgckobhmpaaGreatDoor
open Go Go.AM Go.Proofs
theorem cat_ok {a b:ByteArray} (h:(tl a).length + (tl b).length≤1000000000000000):catS a b = some (bs (tl a ++ tl b)):=by
 unfold catS
 rw [if_pos (by rw [size_tl,size_tl]; omega)]
 rfl
theorem M.rep_in {α:Type} (fin:Int):∀ (m:M α) (s:PS),M.Ends (m.run fin s) fun s'=>∃ l,s'.reps = s.reps ++ l∧∀ r ∈ l,r.2 = fin∨∃ t ∈ s.rest,t.pos = r.2
 | .ret a,s=>⟨[],by simp,by simp⟩
 | .fail b,s=>⟨[],by simp,by simp⟩
 | .out,s=>trivial
 | .look k,s=>rep_in fin (k (hdOf s.rest)) s
 | .adv k,s=>by
  obtain ⟨r,i,p⟩:=s
  cases r with
  | nil=>trivial
  | cons t r =>
   refine (rep_in fin k ⟨r,i,p⟩).mono fun s' ⟨l,h1,h2⟩=>⟨l,h1,fun x hx=>?_⟩
   rcases h2 x hx with h | ⟨u,hu,h⟩
   ·exact .inl h
   ·exact .inr ⟨u,List.mem_cons_of_mem _ hu,h⟩
 | .pos k,s=>rep_in fin (k (posOf fin s.rest)) s
 | .setI i k,s=>rep_in fin k ⟨s.rest,i,s.reps⟩
 | .getI k,s=>rep_in fin (k s.inner) s
 | .rep b k,s=>(rep_in fin k ⟨s.rest,s.inner,s.reps ++ [(codeOf b s.rest,posOf fin s.rest)]⟩).mono fun s' ⟨l,h1,h2⟩=>by
   refine ⟨(codeOf b s.rest,posOf fin s.rest) :: l,by rw [h1]; simp,fun x hx=>?_⟩
   rcases List.mem_cons.1 hx with rfl | hx
   ·cases hr:s.rest with
    | nil=>exact .inl rfl
    | cons t r=>exact .inr ⟨t,List.mem_cons_self ..,rfl⟩
   ·exact h2 x hx
theorem mapN_mapN (f g:Int→Int):∀ (m:Nat) (x:Node),sz x≤m→mapN g (mapN f x) = mapN (fun p=>g (f p)) x:=by
 intro m
 induction m with
 | zero=>intro x hx; have:=sz_pos x; omega
 | succ m ih =>
  intro x hx
  have hsz:=sz_eq x
  rw [mapN_eq f x,mapN_eq g,mapN_eq _ x]
  simp only [List.map_map]
  congr 1
  refine List.map_congr_left fun y hy=>?_
  have:=szs_mem x.kids y hy
  exact ih y (by omega)
theorem kids_map (f:Int→Int) (l:List Node):szs (l.map (mapN f)) = szs l∧deps (l.map (mapN f)) = deps l:=by
 have h:=sz_mapN f (sz (srcN l)) (srcN l) (Nat.le_refl _)
 have e:mapN f (srcN l) = Node.mk 62 (bs []) (bs []) 0 0 0 false (l.map (mapN f)) (f 0):=by rw [mapN_eq]; rfl
 rw [e,sz_eq,dep_eq,sz_eq (srcN l),dep_eq (srcN l)] at h
 simp only [srcN] at h
 omega
theorem strip_map (f:Int→Int) (l:List Node):mapN (fun _=>0) (srcN (l.map (mapN f))) = mapN (fun _=>0) (srcN l):=by
 rw [mapN_eq,mapN_eq]
 simp only [srcN,List.map_map]
 congr 1
 exact List.map_congr_left fun y _=>mapN_mapN f _ _ y (Nat.le_refl _)
theorem Read.map {n:Nat} {ts:List Token} {fin:Int} {l:List Node} {p:List (Int × Int)} (h:Read n ts fin l p) (f:Int→Int) {l2:List Node} {p2:List (Int × Int)} (h2:Read n (ts.map (mapT f)) (f fin) l2 p2):l2 = l.map (mapN f)∧p2 = p.map fun r=>(r.1,f r.2):=by
 obtain ⟨i,h⟩:=h.run
 obtain ⟨j,h2⟩:=h2.run
 have e:=M.Nat'.run (f:=f) fin _ _ ⟨ts,0,[]⟩ (M.nat_source n)
 rw [h] at e
 have e2:mapP f ⟨ts,0,[]⟩ = ⟨ts.map (mapT f),0,[]⟩:=rfl
 rw [e2,h2] at e
 cases e
 exact ⟨rfl,rfl⟩
theorem Read.rep_in {n:Nat} {ts:List Token} {fin:Int} {l:List Node} {p:List (Int × Int)} (h:Read n ts fin l p):∀ r ∈ p,r.2 = fin∨∃ t ∈ ts,t.pos = r.2:=by
 obtain ⟨i,h⟩:=h.run
 have:=M.rep_in fin (M.source n) ⟨ts,0,[]⟩
 rw [h] at this
 obtain ⟨l',h1,h2⟩:=this
 simp only [List.nil_append] at h1
 subst h1
 exact h2
end Go.Proofs.YtbecjgckobhmpaaGreatDoor
end
section
namespace Go.Proofs.YtbecjgckobhmpaaGreatDoor
open Go Go.AM Go.Proofs
variable {s:ByteArray} {n:Nat}
theorem F113_eq {t:ByteArray} {a:Nat} (ha:a≤(tl s).length) (hs:s.size≤4000) (ht:t.size≤3):F113 s a t = some ((tl t).isPrefixOf ((tl s).drop a)):=by
 have hz:=size_tl s
 have htz:=size_tl t
 unfold F113
 have ew:w64 ((a:Int) + (t.size:Int)) = ((a + (tl t).length:Nat):Int):=by rw [w64_id (by omega) (by omega)]; omega
 rw [ew]
 by_cases h:a + (tl t).length≤(tl s).length
 ·have c:decide (((a + (tl t).length:Nat):Int)≤(s.size:Int)) = true:=by simp; omega
  rw [c,subS_eq (by omega) h]
  simp only [cond_true,Option.bind_some]
  rw [show a + (tl t).length - a = (tl t).length by omega]
  exact congrArg some (pre_take (tl t) _)
 ·have c:decide (((a + (tl t).length:Nat):Int)≤(s.size:Int)) = false:=by simp; omega
  rw [c]
  have:(tl t).isPrefixOf ((tl s).drop a) = false:=by
   rw [← pre_take,beq_eq_false_iff_ne]
   intro e
   have:=congrArg List.length e
   rw [List.length_take,List.length_drop] at this
   omega
  rw [this]
  rfl
theorem F114_eq (b:UInt8):F114 (b.toNat:Int) = some (wht b):=by
 unfold F114 wht
 have e1:((b.toNat:Int) == 32) = (b.toNat == 32):=i_eq _ 32
 have e2:((b.toNat:Int) == 9) = (b.toNat == 9):=i_eq _ 9
 have e3:((b.toNat:Int) == 10) = (b.toNat == 10):=i_eq _ 10
 have e4:((b.toNat:Int) == 13) = (b.toNat == 13):=i_eq _ 13
 rw [e1,e2,e3,e4]
 simp only [Bool.or_assoc]
theorem F115_eq (b:UInt8):F115 (b.toNat:Int) = some (ltr b):=by
 unfold F115 ltr
 have e1:decide (65≤(b.toNat:Int)) = decide (65≤b.toNat):=i_le 65 _
 have e2:decide ((b.toNat:Int)≤90) = decide (b.toNat≤90):=i_le _ 90
 have e3:decide (97≤(b.toNat:Int)) = decide (97≤b.toNat):=i_le 97 _
 have e4:decide ((b.toNat:Int)≤122) = decide (b.toNat≤122):=i_le _ 122
 rw [e1,e2,e3,e4,Bool.or_comm]
theorem F117_eq (b:UInt8):F117 (b.toNat:Int) = some (dgt b):=by
 unfold F117 dgt
 have e1:decide (48≤(b.toNat:Int)) = decide (48≤b.toNat):=i_le 48 _
 have e2:decide ((b.toNat:Int)≤57) = decide (b.toNat≤57):=i_le _ 57
 rw [e1,e2]
theorem F74_eq (hs:s.size≤4000) (hn:5000≤n) {a:Nat} (ha:a≤(tl s).length):F74 n s a = some (((tl s).length - (skp false ((tl s).drop a)).length:Nat):Int):=by
 have hz:=size_tl s
 apply T.eq
 unfold F74
 refine T.bind (P:=fun r=>match r with | .inl e=>e = (((tl s).length - (skp false ((tl s).drop a)).length:Nat):Int) | .inr e=>e = (((tl s).length - (skp false ((tl s).drop a)).length:Nat):Int)) ?_ (fun r h=>by
  cases r with
  | inl r=>exact T.some h
  | inr r=>exact T.some h)
 refine iter_T (fun e=>∃ k:Nat,e = (k:Int)∧k≤(tl s).length∧skp false ((tl s).drop k) = skp false ((tl s).drop a)) (fun e=>((tl s).length - e.toNat)) _ (fun e he=>?_) n a (by omega) ⟨a,rfl,ha,rfl⟩
 obtain ⟨k,rfl,hk,hsk⟩:=he
 by_cases hlt:k < (tl s).length
 ·have hg:=List.getElem?_eq_getElem hlt
  have hd:=get_drop hg
  have c1:decide ((k:Int) < (s.size:Int)) = true:=by simp; omega
  rw [c1,F113_eq hk hs (by simp [size_bs])]
  have e2:(tl (bs [47,47])).isPrefixOf ((tl s).drop k) = two ((tl s).drop k):=rfl
  rw [e2]
  simp only [cond_true,Option.bind_some]
  cases h2:two ((tl s).drop k)
  ·rw [idxS_some hg]
   simp only [cond_false,Option.bind_some,F114_eq,w64_nat (k:=k) (by omega)]
   cases hw:wht (tl s)[k]
   ·refine T.some ?_
    have h3:=skp_fix ((tl s).drop k) (by rw [hd,List.takeWhile_cons,if_neg (by simp [hw])]) h2
    show (k:Int) = _
    rw [← hsk,h3,List.length_drop]
    omega
   ·refine T.some ⟨⟨k + 1,rfl,by omega,?_⟩,?_⟩
    ·rw [← hsk,hd]
     simp only [skp,hw,if_true]
    ·show (tl s).length - (k + 1) < (tl s).length - k
     omega
  ·simp only [cond_true]
   obtain ⟨hk3l,hd3⟩:=drop_step nol hk
   have hpos:1≤(((tl s).drop k).takeWhile nol).length:=by
    rw [hd] at h2 ⊢
    have hb:=two_cons h2
    rw [hb,List.takeWhile_cons,if_pos (by decide)]
    simp
   refine T.bind (take_T (L:=tl s) nol (fun j b hb=>?_) ?_ hk (by omega)) fun e he=>?_
   ·have hjl:=lt_of_get hb
    have c:decide ((j:Int) < (s.size:Int)) = true:=by simp; omega
    have e3:((b.toNat:Int) == 10) = (b.toNat == 10):=i_eq _ 10
    rw [c,idxS_some hb,w64_nat (by omega)]
    simp only [cond_true,Option.bind_some,bne,e3]
    have:nol b = !(b.toNat == 10):=rfl
    rw [this]
    cases b.toNat == 10 <;> rfl
   ·have c:decide (((tl s).length:Int) < (s.size:Int)) = false:=by simp; omega
    rw [c]
    rfl
   ·subst he
    generalize hk3:k + (((tl s).drop k).takeWhile nol).length = k3 at hk3l hd3
    refine T.some ⟨⟨k3,rfl,hk3l,by rw [hd3,← skp_two _ h2,hsk]⟩,?_⟩
    show (tl s).length - k3 < (tl s).length - k
    omega
 ·have c1:decide ((k:Int) < (s.size:Int)) = false:=by simp; omega
  rw [c1]
  refine T.some ?_
  have:(tl s).drop k = []:=List.drop_eq_nil_iff.2 (by omega)
  show (k:Int) = _
  rw [← hsk,this,skp_nil]
  simp
  omega
theorem F116_eq (hs:s.size≤4000) (hn:5000≤n) {a:Nat} (ha:a≤(tl s).length) :
  F116 n s a = some (⟨1,bs (((tl s).drop a).takeWhile wrd),(a:Int)⟩,decide ((((tl s).drop a).takeWhile wrd).length≤16)):=by
 have hz:=size_tl s
 apply T.eq
 unfold F116
 refine T.bind (take_T (L:=tl s) wrd (fun j b hb=>?_) ?_ ha (by omega)) fun e he=>?_
 ·have hjl:=lt_of_get hb
  have c:decide ((j:Int) < (s.size:Int)) = true:=by simp; omega
  have e3:((b.toNat:Int) == 95) = (b.toNat == 95):=i_eq _ 95
  rw [c,idxS_some hb,w64_nat (by omega)]
  simp only [cond_true,Option.bind_some,F115_eq,F117_eq,e3]
  have hw:wrd b = (ltr b || (dgt b || b.toNat == 95)):=rfl
  rw [hw]
  cases ltr b <;> cases dgt b <;> cases b.toNat == 95 <;> rfl
 ·have c:decide (((tl s).length:Int) < (s.size:Int)) = false:=by simp; omega
  rw [c]
  rfl
 ·subst he
  obtain ⟨hkl,_⟩:=drop_step wrd ha
  rw [subS_eq (by omega) hkl]
  simp only [Option.bind_some]
  rw [w64_id (by omega) (by omega),Nat.add_sub_cancel_left,take_tw]
  refine T.some ?_
  congr 1
  rw [decide_eq_decide]
  omega
theorem F118_eq (hs:s.size≤4000) (hn:5000≤n) {a:Nat} {b:UInt8} {r:List UInt8} (hd:(tl s).drop a = b :: r) (hb2:dgt b = true) :
  F118 n s a = some (⟨2,bs (((tl s).drop a).takeWhile dgt),(a:Int)⟩,numOk b ((tl s).drop a)):=by
 have hz:=size_tl s
 have hb:=get_of_drop hd
 have ha:=lt_of_get hb
 apply T.eq
 unfold F118
 refine T.bind (take_T (L:=tl s) dgt (fun j b hb=>?_) ?_ (Nat.le_of_lt ha) (by omega)) fun e he=>?_
 ·have hjl:=lt_of_get hb
  have c:decide ((j:Int) < (s.size:Int)) = true:=by simp; omega
  rw [c,idxS_some hb,w64_nat (by omega)]
  simp only [cond_true,Option.bind_some,F117_eq]
  cases dgt b <;> rfl
 ·have c:decide (((tl s).length:Int) < (s.size:Int)) = false:=by simp; omega
  rw [c]
  rfl
 ·subst he
  obtain ⟨hkl,hkd⟩:=drop_step dgt (Nat.le_of_lt ha)
  have htk:=take_tw dgt ((tl s).drop a)
  have hnd:∀ c,(((tl s).drop a).dropWhile dgt).head? = some c→dgt c = false:=by
   intro c hc
   have:=List.head?_dropWhile_not dgt ((tl s).drop a)
   rw [hc] at this
   simpa using this
  unfold numOk
  rw [← hkd] at hnd ⊢
  have hk1:1≤(((tl s).drop a).takeWhile dgt).length:=by rw [hd,List.takeWhile_cons,if_pos hb2]; simp
  rw [subS_eq (by omega) hkl,Nat.add_sub_cancel_left,htk,idxS_some hb]
  generalize hk:(((tl s).drop a).takeWhile dgt).length = k at hkl hkd hk1 hnd ⊢
  have ew:w64 (((a + k:Nat):Int) - (a:Int)) = (k:Int):=by rw [w64_id (by omega) (by omega)]; omega
  have ew2:w64 ((a:Int) + 1) = ((a + 1:Nat):Int):=w64_nat (by omega)
  rw [ew,ew2]
  have e9:decide ((k:Int)≤9) = decide (k≤9):=i_le k 9
  have e48:((b.toNat:Int) == 48) = (b.toNat == 48):=i_eq _ 48
  have e1:(((a + k:Nat):Int) == ((a + 1:Nat):Int)) = (k == 1):=by
   rw [i_eq,Bool.eq_iff_iff]; simp only [beq_iff_eq]; omega
  simp only [Option.bind_some,e9,bne,e48,e1]
  have ej:(bif decide (k≤9) then some ((!(b.toNat == 48)) || (k == 1)) else some false) = some (decide (k≤9) && ((!(b.toNat == 48)) || (k == 1))):=by
   cases decide (k≤9) <;> rfl
  rw [ej]
  simp only [Option.bind_some]
  rw [List.head?_drop] at hnd ⊢
  by_cases hlt:a + k < (tl s).length
  ·have hg:=List.getElem?_eq_getElem hlt
   have hdg:=hnd _ hg
   have c3:decide (((a + k:Nat):Int) < (s.size:Int)) = true:=by simp; omega
   have e95:((((tl s)[a + k]).toNat:Int) == 95) = (((tl s)[a + k]).toNat == 95):=i_eq _ 95
   rw [c3,idxS_some hg,hg]
   simp only [cond_true,Option.bind_some,F115_eq,e95,Option.all_some,wrd,hdg,Bool.false_or]
   cases ltr (tl s)[a + k] <;> cases ((tl s)[a + k]).toNat == 95 <;> cases decide (k≤9) <;> cases b.toNat == 48 <;> cases k == 1 <;> exact T.some rfl
  ·have c3:decide (((a + k:Nat):Int) < (s.size:Int)) = false:=by simp; omega
   rw [c3,List.getElem?_eq_none (by omega)]
   simp only [cond_false,Option.bind_some,Option.all_none,Bool.and_true]
   exact T.some rfl
def symR:List ByteArray:=[(bs [61,61,62]),(bs [58,61]),(bs [61,61]),(bs [33,61]),(bs [60,61]),(bs [38,38]),(bs [124,124]),(bs [123]),(bs [125]),(bs [40]),(bs [41]),(bs [91]),(bs [93]),(bs [59]),(bs [58]),(bs [44]),(bs [46]),(bs [63]),(bs [61]),(bs [33]),(bs [60]),(bs [38]),(bs [124]),(bs [94]),(bs [43]),(bs [45]),(bs [42])]
theorem symR_sz:∀ x ∈ symR,1≤x.size∧x.size≤3:=by
 have:symR.all (fun x=>decide (1≤x.size∧x.size≤3)) = true:=by rfl
 intro x hx
 simpa using List.all_eq_true.1 this x hx
theorem symR_find (l:List UInt8):(symR.map tl).find? (fun t=>t.isPrefixOf l) = symL.find? (fun t=>t.isPrefixOf l):=by
 show ([61,61,62] :: [58,61] :: [61,61] :: symL.drop 3:List (List UInt8)).find? _ = ([61,61,62] :: [61,61] :: [58,61] :: symL.drop 3:List (List UInt8)).find? _
 simp only [List.find?_cons]
 cases h1:([61,61,62]:List UInt8).isPrefixOf l
 ·cases h2:([58,61]:List UInt8).isPrefixOf l
  ·cases h3:([61,61]:List UInt8).isPrefixOf l <;> rfl
  ·cases h3:([61,61]:List UInt8).isPrefixOf l
   ·rfl
   ·cases l with
    | nil=>simp at h2
    | cons x l =>
     simp [List.isPrefixOf] at h2 h3
     exact absurd (h2.1.trans h3.1.symm) (by decide)
 ·rfl
theorem find_TF {β:Type} {S:List ByteArray} {step:Int→Option (Int ⊕ (β ⊕ Unit))} (p:ByteArray→Bool) (f:ByteArray→β)
  (h1:∀ (k:Nat) x,S[k]? = some x→T (step (k:Int)) (fun r=>r = if p x = true then .inr (.inl (f x)) else .inl ((k + 1:Nat):Int)))
  (h2:step (S.length:Int) = some (.inr (.inr ()))) {n:Nat} (hn:S.length < n) :
  T (iter step n (0:Int)) (fun r=>r = match S.find? p with | some x=>.inl (f x) | none=>.inr ()):=by
 have key:∀ (l:List ByteArray) (k:Nat),runF (A:=Unit) (ρ:=β ⊕ Unit) (fun _ _ x=>if p x = true then .inr (.inl (f x)) else .inl ()) (fun _=>.inr ()) k l () = match l.find? p with | some x=>.inl (f x) | none=>.inr ():=by
  intro l
  induction l with
  | nil=>intro k; rfl
  | cons x l ih =>
   intro k
   rw [List.find?_cons,runF]
   cases hp:p x
   ·simpa [hp] using ih (k + 1)
   ·simp
 have e:=iter_runF S (fun (k:Nat) (_:Unit)=>(k:Int)) (fun _ _ x=>if p x = true then .inr (.inl (f x)) else .inl ()) (fun _=>.inr ()) (step:=step)
  (fun k a x hx=>by
   rw [T.eq (h1 k x hx)]
   cases p x <;> rfl)
  (fun _=>h2) n () hn
 rw [key] at e
 exact ⟨_,e,rfl⟩
theorem F75_eq (hs:s.size≤4000) (hn:5000≤n) {a:Nat} {b:UInt8} {r:List UInt8} (hd:(tl s).drop a = b :: r) :
  T (F75 n s a) (fun q=>match tokL ((tl s).drop a) with | some km=>q = (⟨(km.1:Int),bs (((tl s).drop a).take km.2),(a:Int)⟩,true) | none=>q.2 = false):=by
 have hz:=size_tl s
 have hb:=get_of_drop hd
 have ha:=lt_of_get hb
 unfold F75
 rw [idxS_some hb]
 simp only [Option.bind_some,F115_eq,F117_eq]
 rw [hd,tokL_cons]
 cases h1:ltr b
 ·simp only [cond_false]
  cases h2:dgt b
  ·simp only [cond_false,F119,Option.bind_some]
   refine T.bind (find_TF (S:=symR) (fun x=>(tl x).isPrefixOf ((tl s).drop a)) (fun x=>Token.mk 3 x (a:Int)) (fun k x hx=>?_) ?_ (by simp [symR]; omega)) fun q hq=>?_
   ·have hk:=lt_of_get hx
    have hk27:k < 27:=hk
    have c1:decide ((k:Int) < (symR.length:Int)) = true:=by simp; omega
    have hm:=symR_sz x (List.mem_of_getElem? hx)
    show T (bif decide ((k:Int) < (symR.length:Int)) then ((idxL symR (k:Int)).bind fun x13 =>
     (F113 s (a:Int) x13).bind fun x14 =>
     bif x14 then
      ((idxL symR (k:Int)).bind fun x16 =>
      some (.inr (.inl (Token.mk 3 x16 (a:Int)))))
     else
      (some (.inl (w64 ((k:Int) + 1))))) else some (.inr (.inr ())):Option (Int ⊕ (Token ⊕ Unit))) _
    rw [c1,idxL_some hx,w64_nat (k:=k) (by omega)]
    simp only [cond_true,Option.bind_some]
    rw [F113_eq (Nat.le_of_lt ha) hs hm.2]
    simp only [Option.bind_some]
    cases (tl x).isPrefixOf ((tl s).drop a)
    ·exact T.some rfl
    ·exact T.some rfl
   ·rfl
   ·rw [hq,find_tl (p:=fun t=>t.isPrefixOf ((tl s).drop a)),symR_find,hd]
    cases hf:symL.find? (fun t=>t.isPrefixOf (b :: r)) with
    | none=>exact T.some rfl
    | some t =>
     have hp:=List.find?_some hf
     have ht:=List.prefix_iff_eq_take.1 (List.isPrefixOf_iff_prefix.1 hp)
     refine T.some ?_
     simp only [Option.map_some]
     rw [← ht]
     rfl
  ·simp only [cond_true]
   rw [F118_eq hs hn hd h2,hd]
   simp only [Option.bind_some]
   cases numOk b (b :: r)
   ·exact T.some rfl
   ·refine T.some ?_
    simp only [cond_true]
    rw [take_tw]
    rfl
 ·simp only [cond_true]
  rw [F116_eq hs hn (Nat.le_of_lt ha),hd]
  simp only [Option.bind_some]
  cases decide (((b :: r).takeWhile wrd).length≤16)
  ·exact T.some rfl
  ·refine T.some ?_
   simp only [cond_true]
   rw [take_tw]
   rfl
theorem F39_eq (hn:5000≤n):F39 n s = some (lexR s):=by
 have hz:=size_tl s
 apply T.eq
 unfold F39 lexR
 by_cases h4:4000 < s.size
 ·have c:decide ((4000:Int) < (s.size:Int)) = true:=by simp; omega
  rw [c,if_pos h4]
  exact T.some rfl
 have c:decide ((4000:Int) < (s.size:Int)) = false:=by simp; omega
 have hs:s.size≤4000:=by omega
 rw [c,if_neg h4]
 simp only [cond_false]
 have e0:F74 n s (0:Int) = some (((tl s).length - (skp false ((tl s).drop 0)).length:Nat):Int):=F74_eq (a:=0) hs hn (by omega)
 rw [e0]
 simp only [Option.bind_some]
 have hdr:∀ k,k≤(tl s).length→(tl s).drop ((tl s).length - (skp false ((tl s).drop k)).length) = skp false ((tl s).drop k)∧k≤(tl s).length - (skp false ((tl s).drop k)).length:=by
  intro k hk
  obtain ⟨p,hp⟩:=skp_suf ((tl s).drop k) false
  have hp1:=congrArg List.length hp
  rw [List.length_append,List.length_drop] at hp1
  have e:(tl s).length - (skp false ((tl s).drop k)).length = k + p.length:=by omega
  constructor
  ·rw [e,← List.drop_drop]
   conv=>lhs; rw [hp]
   exact List.drop_left
  ·omega
 refine T.bind (P:=fun r=>(match r with | .inl e=>(([]:List Token),e.1,e.2) | .inr l=>(l,(0:Int),(0:Int))) = outT [] (lexG s.size (s.size + 1) 0 (tl s))) ?_ (fun r h=>by
  cases r with
  | inl e=>exact T.some h
  | inr l=>exact T.some h)
 refine iter_T (fun st=>∃ (k f:Nat),st.2 = (k:Int)∧k≤(tl s).length∧st.1.length≤1500∧((tl s).drop k).length≤f∧outT st.1 (lexS s.size (lexG s.size f (st.1.length + 1)) st.1.length ((tl s).drop k)) = outT [] (lexG s.size (s.size + 1) 0 (tl s))) (fun st=>(tl s).length - st.2.toNat) _ (fun st hst=>?_) n _ ?_ ⟨(tl s).length - (skp false ((tl s).drop 0)).length,s.size,rfl,by omega,by simp,?_,?_⟩
 ·obtain ⟨k,f,hk,hkl,h15,hf,hout⟩:=hst
  rw [hk]
  cases hd:(tl s).drop k with
  | nil =>
   have hk2:k = (tl s).length:=by
    have:=List.drop_eq_nil_iff.1 hd
    omega
   have c1:decide ((k:Int) < (s.size:Int)) = false:=by simp; omega
   rw [c1]
   rw [hd] at hout
   simp only [lexS,outT,List.append_nil] at hout
   exact T.some hout
  | cons b r =>
   have hlt:k < (tl s).length:=lt_of_get (get_of_drop hd)
   have hlen:=List.length_drop (i:=k) (l:=tl s)
   have c1:decide ((k:Int) < (s.size:Int)) = true:=by simp; omega
   have hpos:s.size - ((tl s).drop k).length = k:=by omega
   rw [c1]
   rw [hd] at hpos
   rw [hd] at hout
   simp only [lexS,hpos] at hout
   simp only [cond_true]
   by_cases h1500:st.1.length = 1500
   ·have c2:decide ((1500:Int)≤(st.1.length:Int)) = true:=by simp; omega
    rw [c2]
    rw [if_pos h1500] at hout
    exact T.some hout
   have c2:decide ((1500:Int)≤(st.1.length:Int)) = false:=by simp; omega
   rw [c2]
   simp only [cond_false]
   rw [if_neg h1500] at hout
   obtain ⟨q,hq,hq2⟩:=F75_eq hs hn hd
   rw [hq]
   simp only [Option.bind_some]
   rw [hd] at hq2
   cases htk:tokL (b :: r) with
   | none =>
    rw [htk] at hout hq2
    have hq2':q.2 = false:=hq2
    rw [hq2']
    exact T.some hout
   | some km =>
    rw [htk] at hout hq2
    have hq2':q = (⟨(km.1:Int),bs ((b :: r).take km.2),(k:Int)⟩,true):=hq2
    have hm:=tokL_spec htk
    subst hq2'
    simp only [Bool.not_true,cond_false,appL] at hout ⊢
    rw [if_pos (by simp; omega)]
    have hlen2:(tl s).length - k = (b :: r).length:=by rw [← hlen,hd]
    have etz:((bs ((b :: r).take km.2)).size:Int) = (km.2:Int):=by
     rw [size_bs,List.length_take]; omega
    have ew:w64 ((k:Int) + ((bs ((b :: r).take km.2)).size:Int)) = ((k + km.2:Nat):Int):=by
     rw [etz,w64_id (by omega) (by omega)]; rfl
    rw [ew,F74_eq hs hn (a:=k + km.2) (by omega)]
    simp only [Option.bind_some]
    obtain ⟨h5,h6⟩:=hdr (k + km.2) (by omega)
    rw [out_cons] at hout
    have hdk:(tl s).drop (k + km.2) = (b :: r).drop km.2:=by rw [← List.drop_drop,hd]
    have hsl:=skp_len false ((tl s).drop (k + km.2))
    rw [List.length_drop] at hsl
    obtain ⟨f,rfl⟩:∃ g,f = g + 1:=⟨f - 1,by rw [List.length_drop] at hf; omega⟩
    refine T.some ⟨⟨_,f,rfl,by omega,by simp; omega,?_,?_⟩,?_⟩
    ·rw [h5]
     rw [List.length_drop] at hf
     omega
    ·rw [h5,hdk]
     simp only [List.length_append,List.length_cons,List.length_nil]
     simp only [lexG] at hout
     exact hout
    ·show (tl s).length - ((((tl s).length - (skp false ((tl s).drop (k + km.2))).length:Nat):Int)).toNat < (tl s).length - ((k:Int)).toNat
     simp only [Int.toNat_natCast]
     omega
 ·simp only [Int.toNat_natCast]
  omega
 ·rw [(hdr 0 (by omega)).1]
  have:=skp_len false ((tl s).drop 0)
  rw [List.length_drop] at this
  omega
 ·rw [(hdr 0 (by omega)).1]
  simp only [List.drop_zero,List.length_nil]
  rfl
end Go.Proofs.YtbecjgckobhmpaaGreatDoor
end
section
namespace Go.Proofs.YtbecjgckobhmpaaGreatDoor
open Go Go.AM Go.Proofs
theorem addDs_head (x:Diag):∀ (l:List (Int × Int)) (d:List Diag),∃ d',addDs (x :: d) l = x :: d'
 | [],d=>⟨d,rfl⟩
 | r :: l,d=>by
  have:∃ d1,addD (x :: d) r = x :: d1:=by
   unfold addD
   cases decide (20≤(((x :: d).length:Nat):Int))
   ·simp only [cond_false]
    cases hl:(x :: d).getLast? with
    | none=>simp at hl
    | some y =>
     show ∃ d1,(bif y.pos == r.2 then x :: d else x :: d ++ [⟨r.1,r.2⟩]) = x :: d1
     cases y.pos == r.2
     ·exact ⟨d ++ [⟨r.1,r.2⟩],rfl⟩
     ·exact ⟨d,rfl⟩
   ·exact ⟨d,rfl⟩
  obtain ⟨d1,h1⟩:=this
  obtain ⟨d',h2⟩:=addDs_head x l d1
  exact ⟨d',by show addDs (addD (x :: d) r) l = _; rw [h1,h2]⟩
theorem addDs_cons (r:Int × Int) (l:List (Int × Int)):∃ d,addDs [] (r :: l) = ⟨r.1,r.2⟩ :: d:=addDs_head ⟨r.1,r.2⟩ l []
theorem addDs_nil {l:List (Int × Int)} (h:addDs [] l = []):l = []:=by
 cases l with
 | nil=>rfl
 | cons r l =>
  obtain ⟨d,hd⟩:=addDs_cons r l
  rw [hd] at h
  cases h
namespace M
variable {α:Type}
end M
theorem Lexed.nodup {s:ByteArray} {ts:List Token} (h:Lexed s ts) {i j:Nat} {a b:Token} (ha:ts[i]? = some a) (hb:ts[j]? = some b) (e:a.pos = b.pos):i = j:=by
 have hp:=(h.lx.le (by rw [← size_tl]; exact Nat.le_refl _)).1
 obtain ⟨hi,rfl⟩:=List.getElem?_eq_some_iff.1 ha
 obtain ⟨hj,rfl⟩:=List.getElem?_eq_some_iff.1 hb
 rw [List.pairwise_iff_getElem] at hp
 rcases Nat.lt_trichotomy i j with h1 | h1 | h1
 ·have:=hp i j hi hj h1; omega
 ·exact h1
 ·have:=hp j i hj hi h1; omega
theorem F33_ok {s:ByteArray} {ts:List Token} (h:Lexed s ts) {n:Nat} (hn:5000≤n):F33 n s = some true:=by
 unfold F33
 rw [decide_eq_false (by have:=h.len; omega),F39_eq hn,lexR_ok h]
 rfl
theorem F33_cases (s:ByteArray) {n:Nat} (hn:5000≤n):(∃ ts,Lexed s ts∧F33 n s = some true∧F39 n s = some (ts,0,0))∨F33 n s = some false:=by
 rcases lexR_cases s with ⟨ts,h,h2⟩ | ⟨e,p,h,h2,_⟩
 ·exact .inl ⟨ts,h,F33_ok h hn,by rw [F39_eq hn,h2]⟩
 ·right
  unfold F33
  cases decide ((6000:Int) < (s.size:Int))
  ·simp only [cond_false]
   rw [F39_eq hn,h]
   rcases h2 with rfl | rfl <;> rfl
  ·rfl
end Go.Proofs.YtbecjgckobhmpaaGreatDoor
end
section
namespace Go.Proofs.YtbecjgckobhmpaaGreatDoor
open Go Go.AM Go.Proofs
theorem skp_first {l w r:List UInt8} {k m:Nat} (h:skp false l = w ++ r) (ht:tokL (w ++ r) = some (k,m)):skp false (w ++ r) = w ++ r∧∃ b y,w ++ r = b :: y∧b≠47∧wht b = false:=by
 obtain ⟨h1,h2⟩:=tokL_head ht
 cases hw:w ++ r with
 | nil=>exact absurd hw h2
 | cons b y =>
  rw [hw] at h h1
  have h3:wht b = false:=skp_wfix h rfl
  have h4:b≠47:=fun e=>h1 (by rw [e]; rfl)
  refine ⟨by simp only [skp,h3,two_false h4]; rfl,b,y,rfl,h4,h3⟩
theorem Lx.same {M:Nat} {x l:List UInt8} {tx:List Token} (h:Lx M x tx) (e:skp false l = skp false x):Lx M l tx:=by
 cases h with
 | nil h=>exact .nil (e.trans h)
 | cons h1 h2 h3=>exact .cons (e.trans h1) h2 h3
theorem Lx.part {N:Nat}:∀ {A:List Token} {l:List UInt8} {t:Token} {B:List Token},Lx N l (A ++ t :: B)→l.length≤N →
  ∃ p r,l = p ++ r∧((N - r.length:Nat):Int) = t.pos∧Lx N r (t :: B)∧∀ (x:List UInt8) (b:UInt8) (y:List UInt8) (tx:List Token),x = b :: y→sepB b = true→b≠47→wht b = false→Lx (N - r.length + x.length) x tx→Lx (N - r.length + x.length) (p ++ x) (A ++ tx)
 | [],l,t,B,h,hN=>by
  cases h with
  | @cons _ w r k _ hs ht hr =>
   obtain ⟨g,hg⟩:=skp_suf l false
   rw [hs] at hg
   obtain ⟨h1,b0,y0,h2,h3,h4⟩:=skp_first hs ht
   refine ⟨g,w ++ r,hg,rfl,.cons h1 ht hr,fun x b y tx hx hb h47 hw hL=>?_⟩
   have hxs:skp false x = x:=by rw [hx]; simp only [skp,hw,two_false h47]; rfl
   have:=skp_to (x:=w ++ r) (x':=x) ⟨b0,y0,h2,h3⟩ ⟨b,y,hx,h47,hw⟩ g false (by rw [← hg]; exact hs)
   exact hL.same (this.trans hxs.symm)
 | u :: A,l,t,B,h,hN=>by
  cases h with
  | @cons _ w r0 k _ hs ht hr =>
   have hk:=skp_len false l
   rw [hs,List.length_append] at hk
   obtain ⟨p,r,rfl,h2,h3,h4⟩:=Lx.part hr (by omega)
   obtain ⟨g,hg⟩:=skp_suf l false
   rw [hs] at hg
   refine ⟨g ++ (w ++ p),r,by rw [hg]; simp,h2,h3,fun x b y tx hx hb h47 hw hL=>?_⟩
   have h5:=h4 x b y tx hx hb h47 hw hL
   have ht':=tokL_fol (r':=p ++ x) ht (.inr (.inr ⟨p,b,y,List.prefix_append _ _,by rw [hx],hb⟩))
   have hs':skp false (g ++ (w ++ (p ++ x))) = w ++ (p ++ x):=skp_to (tokL_wht ht) (by
    obtain ⟨b,y,e,hb⟩:=tokL_wht ht'
    refine ⟨b,y,e,hb,?_⟩
    have hw:=tokL_spec ht
    cases w with
    | nil=>simp at hw
    | cons c w =>
     simp only [List.cons_append,List.cons.injEq] at e
     rw [← e.1]
     exact skp_wfix hs rfl) g false (by rw [← hg]; exact hs)
   have h6:=Lx.cons hs' ht' h5
   have hl:=congrArg List.length hg
   simp only [List.length_append] at hl hk hN
   have e:N - r.length + x.length - (w ++ (p ++ x)).length = N - (w ++ (p ++ r)).length:=by
    simp only [List.length_append]
    omega
   rw [e] at h6
   simp only [List.append_assoc] at h6 ⊢
   exact h6
def qTok (p:Int):Token:=⟨3,bs [63],p⟩
def cTok (p:Int):Token:=⟨3,bs [59],p⟩
theorem Lx.qc {M:Nat} {r:List UInt8} {tr:List Token} (h:Lx M r tr):Lx M (63 :: 59 :: 32 :: r) (qTok ((M - (r.length + 3):Nat):Int) :: cTok ((M - (r.length + 2):Nat):Int) :: tr):=by
 have hw:wht 63 = false∧wht 59 = false∧wht 32 = true:=by decide
 have t1:∀ l,tokL (63 :: 59 :: l) = some (3,1):=fun l=>by
  rw [tokL_cons]
  have h1:ltr 63 = false:=by decide
  have h2:dgt 63 = false:=by decide
  rw [h1,h2]
  simp [symL,List.find?,List.isPrefixOf]
 have t2:∀ l,tokL (59 :: 32 :: l) = some (3,1):=fun l=>by
  rw [tokL_cons]
  have h1:ltr 59 = false:=by decide
  have h2:dgt 59 = false:=by decide
  rw [h1,h2]
  simp [symL,List.find?,List.isPrefixOf]
 have s1:skp false (63 :: 59 :: 32 :: r) = [63] ++ 59 :: 32 :: r:=by simp only [skp,hw.1,two_false (show (63:UInt8)≠47 by decide)]; rfl
 have s2:skp false (59 :: 32 :: r) = [59] ++ 32 :: r:=by simp only [skp,hw.2.1,two_false (show (59:UInt8)≠47 by decide)]; rfl
 have s3:skp false (32 :: r) = skp false r:=by simp [skp,hw.2.2]
 exact Lx.cons (k:=3) s1 (t1 _) (Lx.cons (k:=3) s2 (t2 _) (h.same s3))
theorem its_len:∀ (m:Nat) (x:Node),sz x≤m→(its x).length + 1≤sz x:=by
 intro m
 induction m with
 | zero=>intro x hx; have:=sz_pos x; omega
 | succ m ih =>
  intro x hx
  have hl:∀ (b:Bool) (l:List Node),szs l≤m→(itsL b l).length≤szs l:=by
   intro b l
   induction l with
   | nil=>intro _; simp [itsL]
   | cons y r ihl =>
    intro h
    simp only [szs] at h
    have h1:=ih y (by omega)
    have h2:=ihl (by omega)
    simp only [itsL,szs,List.length_append]
    cases b <;> simp <;> omega
  have hsz:=sz_eq x
  have:=hl (inK x.kind) x.kids (by omega)
  rw [its_eq]
  omega
theorem inK_eq (k:Int):((((k == 62) || (k == 60)) || (k == 51)) || (k == 34)) = inK k:=rfl
theorem G43:∀ (m:Nat) (x:Node),sz x≤m→∀ (acc:List Int),acc.length + sz x≤1000000→∀ n,2000 + sz x≤n→F43 n x acc = some (acc ++ its x):=by
 intro m
 induction m with
 | zero=>intro x hx; have:=sz_pos x; omega
 | succ m ih =>
  intro x hx acc ha0 n hn
  obtain ⟨n,rfl⟩:∃ k,n = k + 1:=⟨n - 1,by omega⟩
  have hsz:=sz_eq x
  have hlen:=szs_len x.kids
  show F43_step (F43 n) n x acc = _
  unfold F43_step
  refine Teq (T.bind (P:=fun r=>r = acc ++ its x) ?_ fun r h=>T.some h)
  refine iter_inv x.kids (fun (k:Nat) (a:List Int)=>(a,(k:Int))) (fun k a=>a = acc ++ itsL (inK x.kind) (x.kids.take k)) _ (fun k a y hy ha=>?_) (fun a ha=>?_) n acc (by omega) (by simp [itsL])
  ·have hlt:=lt_of_get hy
   have hm:=List.mem_of_getElem? hy
   have htk:=ktake hy
   have hlena:a.length + sz y≤acc.length + szs x.kids:=by
    have h1:∀ l:List Node,(itsL (inK x.kind) l).length≤szs l:=by
     intro l
     induction l with
     | nil=>simp [itsL]
     | cons z r ihl =>
      have:=its_len (sz z) z (Nat.le_refl _)
      simp only [itsL,szs,List.length_append]
      generalize inK x.kind = bk at ihl ⊢
      cases bk <;> simp <;> omega
    have:=h1 (x.kids.take k)
    rw [ha,List.length_append]
    omega
   have hys:=szs_mem x.kids y hm
   have hyp:=sz_pos y
   have c2:decide ((k:Int) < (x.kids.length:Int)) = true:=by simpa using hlt
   left
   simp only [c2,cond_true,idxL_some hy,Option.bind_some,inK_eq]
   refine ⟨a ++ (bif inK x.kind then [y.pos] else []) ++ its y,?_,?_⟩
   ·cases hb:inK x.kind
    ·simp only [cond_false,Option.bind_some,List.append_nil]
     rw [ih y (by omega) a (by omega) n (by omega)]
     simp only [Option.bind_some,w64_nat (k:=k) (by omega)]
    ·simp only [cond_true]
     rw [appL_some (by simp only [List.length_cons,List.length_nil]; omega)]
     simp only [Option.bind_some]
     have hy2:sz y = 1 + szs y.kids:=sz_eq y
     rw [ih y (by omega) (a ++ [y.pos]) (by simp only [List.length_append,List.length_cons,List.length_nil]; omega) n (by omega)]
     simp only [Option.bind_some,w64_nat (k:=k) (by omega)]
   ·rw [List.take_add_one,hy,itsL_app,ha]
    simp [itsL]
  ·have c2:decide ((x.kids.length:Int) < (x.kids.length:Int)) = false:=by simp
   simp only [c2,cond_false]
   refine ⟨_,rfl,?_⟩
   rw [ha,List.take_length,its_eq]
theorem ins_end {ts:List Token} {fin fin':Int} {l:List Node} (hR:Read 20000 ts fin l []) (q c:Token) (hq:isQ q) (hc:isC c):∃ K i,(M.iterM (M.listS 20000 false (M.item 20000)) K []).run fin' ⟨ts ++ [q,c],0,[]⟩ = .ok l ⟨[],i,[(20,q.pos)]⟩:=by
 obtain ⟨i,h⟩:=hR.run
 have h2:(M.iterM (M.listS 20000 false (M.item 20000)) 2 l).run fin' ⟨[q,c],0,[]⟩ = .ok l ⟨[],0,[(20,q.pos)]⟩:=by
  have hb:(M.item 20000).run fin' ⟨[q,c],0,[]⟩ = .bad false ⟨[q,c],0,[]⟩:=M.bad_item 20000 fin' q [c] 0 [] hq
  rw [M.iterM,M.run_bind,M.listS_one,M.run_try,hb]
  have hcode:codeOf false [q,c] = 20:=rfl
  have hpos:posOf fin' [q,c] = q.pos:=rfl
  have hsk:=M.skip_qc (n:=19998) (closed:=false) fin' hq hc [] [(20,q.pos)]
  simp only [M.andThen,M.run,M.run_bind,hcode,hpos,List.nil_append,hsk]
  rfl
 obtain ⟨K,hK⟩:=M.loop_cat (M.EA_item 20000) (M.in_item 20000) fin fin' [q,c] 20000 [] ts l _ h rfl 2 l _ h2
 exact ⟨K,0,hK⟩
theorem law11_last {l:List Node} (hl:szs l≤1500) (f:Int→Int) (at':Int):(bif true then
       ((F37 20000 (endP (l.map (mapN f)) (addDs [] [((20:Int),at')])).2 (20:Int) at').bind fun x27 =>
       bif x27 then
        ((F26 20000 (endP (l.map (mapN f)) (addDs [] [((20:Int),at')])).1 (4000:Int)).bind fun x29 =>
        bif x29 then
         ((F34 20000 (srcN l)).bind fun x31 =>
         (F34 20000 (endP (l.map (mapN f)) (addDs [] [((20:Int),at')])).1).bind fun x32 =>
         (F30 20000 x31 x32).bind fun x33 =>
         some x33)
        else
         (some false))
       else
        (some false))
      else
       (some false):Option Bool) = some true:=by
 have hE:endP (l.map (mapN f)) (addDs [] [((20:Int),at')]) = (srcN (l.map (mapN f)),[⟨20,at'⟩]):=by
  have:addDs [] [((20:Int),at')] = [⟨20,at'⟩]:=rfl
  rw [this]
  unfold endP
  rw [if_neg (by simp)]
 have hkm:=kids_map f l
 have hz1:sz (srcN l)≤1501:=by rw [srcN,M.szL]; omega
 have hz2:sz (srcN (l.map (mapN f)))≤1501:=by rw [srcN,M.szL]; omega
 have h4:=G26 (srcN (l.map (mapN f))) (by omega) (lim:=4000) (by omega) (n:=20000) (by omega)
 rw [decide_eq_true (by omega)] at h4
 have h4':F26 20000 (srcN (l.map (mapN f))) (4000:Int) = some true:=h4
 rw [hE]
 simp only [cond_true,G37 rfl (show 2≤20000 by omega),Option.bind_some,h4']
 rw [G34 _ (srcN l) (Nat.le_refl _) (by omega) 20000 (by omega),G34 _ (srcN (l.map (mapN f))) (Nat.le_refl _) (by omega) 20000 (by omega)]
 simp only [Option.bind_some]
 rw [G30t (strip_map f l).symm (by rw [(sz_mapN _ _ _ (Nat.le_refl _)).1]; omega) (by rw [(sz_mapN _ _ _ (Nat.le_refl _)).1]; omega)]
 rfl
theorem law11 (s:ByteArray) (w:Nat) (hw:w < 65536):∃ n,F11 n s (w:Int) = some true:=by
 refine ⟨20000,?_⟩
 unfold F11
 rw [F24_ok]
 simp only [Option.bind_some]
 by_cases hsz:decide (6000 < (s.size:Int)) = true
 ·rw [hsz]; rfl
 have hsz':=Bool.eq_false_iff.2 hsz
 rw [hsz']
 simp only [decide_eq_false_iff_not] at hsz'
 simp only [cond_false]
 rcases lexR_cases s with ⟨ts,hL,_⟩ | ⟨e,p,h,he,_⟩
 rotate_left
 ·rw [F25_bad (by omega) h (by omega)]
  rfl
 obtain ⟨l,p,hR⟩:=read_some (n:=20000) (by omega) hL.cnt hL.lx.oks s.size
 rw [F25_ok (by omega) (by omega) hL hR]
 simp only [Option.bind_some]
 have hl:szs l≤1500:=Nat.le_trans hR.sz hL.cnt
 cases hd0:decide (0 < (((endP l (addDs [] p)).2.length:Nat):Int)) with
 | true=>rfl
 | false =>
  have hnil:(endP l (addDs [] p)).2 = []:=by
   have:¬ (0 < (((endP l (addDs [] p)).2.length:Nat):Int)):=of_decide_eq_false hd0
   exact List.length_eq_zero_iff.1 (by omega)
  have hd:addDs [] p = []:=by
   unfold endP at hnil
   by_cases h:addDs [] p = []
   ·exact h
   ·rw [if_neg h] at hnil; exact absurd hnil h
  have hp:p = []:=addDs_nil hd
  subst hp
  have hsm:smallP (srcN l):=by
   unfold endP at hnil
   rw [if_pos hd] at hnil
   by_cases h:smallP (srcN l)
   ·exact h
   ·rw [if_neg h] at hnil; cases hnil
  have hE:endP l (addDs [] []) = (srcN l,[]):=by unfold endP; rw [if_pos hd,if_pos hsm]
  rw [hE]
  have hz1:sz (srcN l)≤1501:=by rw [srcN,M.szL]; omega
  have h4:=G26 (srcN l) (by omega) (lim:=4000) (by omega) (n:=20000) (by omega)
  rw [decide_eq_true (by omega)] at h4
  have h4':F26 20000 (srcN l) (4000:Int) = some true:=h4
  have h43:=G43 _ (srcN l) (Nat.le_refl _) [] (by simp only [List.length_nil]; omega) 20000 (by omega)
  have hits:its (srcN l) = itsL true l:=by rw [its_eq]; rfl
  have hlen:=its_len _ (srcN l) (Nat.le_refl _)
  rw [hits,List.nil_append] at h43
  rw [hits] at hlen
  simp only [cond_false,h4',Option.bind_some,Bool.not_true,h43]
  rw [appL_some (by simp only [List.length_cons,List.length_nil]; omega)]
  simp only [Option.bind_some]
  generalize hpl:itsL true l = pl at hlen
  have hle:=hL.lx.le (by rw [← size_tl]; exact Nat.le_refl _)
  have hrem:remI (w64 (w:Int)) ((pl ++ [(s.size:Int)]).length:Int) = some ((w % (pl.length + 1):Nat):Int):=by
   unfold remI
   rw [if_neg (by simp; omega),w64_id (by omega) (by omega)]
   rw [Int.tmod_eq_emod_of_nonneg (by omega)]
   simp
  have hlt:w % (pl.length + 1) < (pl ++ [(s.size:Int)]).length:=by
   have:=Nat.mod_lt w (show 0 < pl.length + 1 by omega)
   simpa using this
  generalize w % (pl.length + 1) = j at hrem hlt
  have hget:(pl ++ [(s.size:Int)])[j]? = some (pl ++ [(s.size:Int)])[j]:=List.getElem?_eq_getElem hlt
  have hmem:(pl ++ [(s.size:Int)])[j] ∈ pl ++ [(s.size:Int)]:=List.getElem_mem hlt
  generalize (pl ++ [(s.size:Int)])[j] = at' at hget hmem
  rw [hrem]
  simp only [Option.bind_some,idxL_some hget]
  have hcase:at' = (s.size:Int)∨(at' ∈ pl∧0≤at'∧at' < (s.size:Int)):=by
   rcases List.mem_append.1 hmem with h | h
   ·right
    obtain ⟨i,hi⟩:=hR.run
    obtain ⟨A,t,B,h1,h2,_⟩:=M.rc_source (n:=20000) (L:=1600) (by omega) s.size ts l _ (by have:=hL.cnt; omega) hL.lx.oks hi rfl at' (by show at' ∈ itsL true l; rw [hpl]; exact h)
    have:=hle.2 t (by rw [h1]; simp)
    refine ⟨h,?_,?_⟩ <;> omega
   ·left; exact List.mem_singleton.1 h
  rcases hcase with rfl | ⟨hin,h0,hs⟩
  ·-- at the end
   have c1:(decide ((s.size:Int) < 0) || decide ((s.size:Int) < (s.size:Int))) = false:=by simp
   have hsub1:subS s 0 (s.size:Int) = some s:=by
    have:=subS_eq (s:=s) (a:=0) (b:=s.size) (by omega) (by rw [← size_tl]; omega)
    rw [show (0:Int) = ((0:Nat):Int) from rfl,this]
    congr 1
    rw [List.drop_zero,size_tl,Nat.sub_zero,List.take_length,bs_tl]
   have hsub2:subS s (s.size:Int) (s.size:Int) = some (bs []):=by
    rw [subS_eq (s:=s) (a:=s.size) (b:=s.size) (by omega) (by rw [← size_tl]; omega)]
    congr 1
    simp [size_tl]
   have e1:catS s (bs [10]) = some (bs (tl s ++ [10])):=by
    rw [cat_ok (by rw [tl_bs,← size_tl]; simp only [List.length_cons,List.length_nil]; omega)]; rfl
   have e2:catS (bs (tl s ++ [10])) (bs [63,59,32]) = some (bs (tl s ++ 10 :: [63,59,32])):=by
    rw [cat_ok (by rw [tl_bs,tl_bs,List.length_append,← size_tl]; simp only [List.length_cons,List.length_nil]; omega),tl_bs,tl_bs,List.append_assoc]; rfl
   have e3:catS (bs (tl s ++ 10 :: [63,59,32])) (bs []) = some (bs (tl s ++ 10 :: [63,59,32])):=by
    rw [cat_ok (by rw [tl_bs,tl_bs,List.length_append,← size_tl]; simp only [List.length_cons,List.length_nil]; omega),tl_bs,tl_bs,List.append_nil]
   simp only [c1,cond_false,hsub1,Option.bind_some,beq_self_eq_true,cond_true,e1,e2,hsub2,e3]
   generalize hz0:bs (tl s ++ 10 :: [63,59,32]) = z
   rcases F33_cases z (n:=20000) (by omega) with ⟨tz,hZ,h33z,_⟩ | h33z
   rotate_left
   ·rw [h33z]; rfl
   simp only [h33z,Option.bind_some,Bool.not_true,cond_false]
   have hzt:tl z = tl s ++ 10 :: [63,59,32]:=by rw [← hz0,tl_bs]
   have hzs:z.size = s.size + (([63,59,32]:List UInt8).length + 1):=by rw [size_tl,hzt,List.length_append,← size_tl]; rfl
   have hq:=Lx.qc (M:=z.size) (r:=[]) (tr:=[]) (.nil (skp_nil false))
   have htz:tz = ts ++ [qTok ((s.size + 1:Nat):Int),cTok ((s.size + 2:Nat):Int)]:=by
    have e4:z.size - (([]:List UInt8).length + 3) = s.size + 1:=by rw [hzs]; simp
    have e5:z.size - (([]:List UInt8).length + 2) = s.size + 2:=by rw [hzs]; simp
    rw [e4,e5] at hq
    rw [hzs] at hq
    have h2:=hL.lx.app (z:=[63,59,32]) (by rw [← size_tl]; exact Nat.le_refl _) hq
    rw [← hzs,← hzt] at h2
    exact hZ.lx.det h2
   obtain ⟨lz,pz,hRz⟩:=read_some (n:=20000) (by omega) hZ.cnt hZ.lx.oks z.size
   rw [F25_ok (by omega) (by omega) hZ hRz]
   simp only [Option.bind_some]
   obtain ⟨K,i2,hK⟩:=ins_end (fin':=z.size) hR (qTok ((s.size + 1:Nat):Int)) (cTok ((s.size + 2:Nat):Int)) ⟨rfl,rfl⟩ ⟨rfl,rfl⟩
   rw [← htz] at hK
   obtain ⟨iz,hiz⟩:=hRz.run
   have k1:=M.iter_mono z.size 20000 K _ _ _ _ hK
   have k2:=M.iter_mono z.size K 20000 _ _ _ _ hiz
   rw [Nat.add_comm,k2] at k1
   simp only [Out.ok.injEq,PS.mk.injEq] at k1
   obtain ⟨rfl,_,_,rfl⟩:=k1
   have hid:∀ lz:List Node,lz = lz.map (mapN id):=fun lz=>by
    have h1:∀ (m:Nat) (x:Node),sz x≤m→mapN id x = x:=by
     intro m
     induction m with
     | zero=>intro x hx; have:=sz_pos x; omega
     | succ m ih =>
      intro x hx
      have:=sz_eq x
      rw [mapN_eq]
      have:x.kids.map (mapN id) = x.kids:=by
       conv=>rhs; rw [← List.map_id x.kids]
       exact List.map_congr_left fun y hy=>ih y (by have:=szs_mem x.kids y hy; omega)
      rw [this]
      cases x
      rfl
    conv=>lhs; rw [← List.map_id lz]
    exact List.map_congr_left fun y _=>(h1 _ y (Nat.le_refl _)).symm
   have hpos:(qTok ((s.size + 1:Nat):Int)).pos = ((bs (tl s ++ [10])).size:Int):=by
    rw [size_bs,List.length_append,← size_tl]; rfl
   rw [hpos]
   have:=law11_last hl id ((bs (tl s ++ [10])).size:Int)
   rw [← hid] at this
   exact this
  ·-- ahead of an item
   obtain ⟨i,hi⟩:=hR.run
   obtain ⟨A,t,B,hts,hpos,_,hins⟩:=M.rc_source (n:=20000) (L:=1600) (by omega) s.size ts l _ (by have:=hL.cnt; omega) hL.lx.oks hi rfl at' (by show at' ∈ itsL true l; rw [hpl]; exact hin)
   obtain ⟨a,rfl⟩:∃ a:Nat,at' = (a:Int):=⟨at'.toNat,by omega⟩
   have c1:(decide ((a:Int) < 0) || decide ((s.size:Int) < (a:Int))) = false:=by simp; omega
   have c2:((a:Int) == (s.size:Int)) = false:=beq_eq_false_iff_ne.2 (by omega)
   obtain ⟨p,r,hpr,h2,h3,h5⟩:=Lx.part (A:=A) (t:=t) (B:=B) (by rw [← hts]; exact hL.lx) (by rw [← size_tl]; exact Nat.le_refl _)
   have hsl:s.size = p.length + r.length:=by rw [size_tl,hpr,List.length_append]
   have hpa:p.length = a:=by omega
   have hsub1:subS s 0 (a:Int) = some (bs p):=by
    have:=subS_eq (s:=s) (a:=0) (b:=a) (by omega) (by rw [← size_tl]; omega)
    rw [show (0:Int) = ((0:Nat):Int) from rfl,this]
    congr 2
    rw [hpr,← hpa]
    simp
   have hsub2:subS s (a:Int) (s.size:Int) = some (bs r):=by
    rw [subS_eq (s:=s) (a:=a) (b:=s.size) (by omega) (by rw [← size_tl]; omega)]
    congr 2
    rw [hpr,← hpa,hsl]
    simp
   have hsl4:=hL.len
   have e1:catS (bs p) (bs [63,59,32]) = some (bs (p ++ [63,59,32])):=by
    rw [cat_ok (by rw [tl_bs,tl_bs]; simp only [List.length_cons,List.length_nil]; omega)]; rfl
   have e2:catS (bs (p ++ [63,59,32])) (bs r) = some (bs (p ++ 63 :: 59 :: 32 :: r)):=by
    rw [cat_ok (by rw [tl_bs,tl_bs,List.length_append]; simp only [List.length_cons,List.length_nil]; omega),tl_bs,tl_bs,List.append_assoc]; rfl
   simp only [c1,cond_false,hsub1,Option.bind_some,c2,e1,hsub2,e2]
   generalize hz0:bs (p ++ 63 :: 59 :: 32 :: r) = z
   rcases F33_cases z (n:=20000) (by omega) with ⟨tz,hZ,h33z,_⟩ | h33z
   rotate_left
   ·rw [h33z]; rfl
   simp only [h33z,Option.bind_some,Bool.not_true,cond_false]
   have hzt:tl z = p ++ 63 :: 59 :: 32 :: r:=by rw [← hz0,tl_bs]
   have hzs:z.size = s.size + 3:=by rw [size_tl,hzt,List.length_append,hsl]; simp only [List.length_cons]; omega
   obtain ⟨f,hf⟩:∃ f:Int→Int,f = fun x=>if x = -1 then (a:Int) else if x = -2 then (a:Int) + 1 else if x < (a:Int) then x else x + 3:=⟨_,rfl⟩
   have hpw:=hle.1
   rw [hts] at hpw
   have hpw2:=List.pairwise_append.1 hpw
   have hfA:A.map (mapT f) = A:=by
    conv=>rhs; rw [← List.map_id A]
    refine List.map_congr_left fun u hu=>?_
    have h6:=hpw2.2.2 u hu t (by simp)
    have h7:=hle.2 u (by rw [hts]; exact List.mem_append_left _ hu)
    have:f u.pos = u.pos:=by rw [hf]; simp only; rw [if_neg (by omega),if_neg (by omega),if_pos (by omega)]
    simp only [mapT,this,id_eq]
   have hfB:(t :: B).map (mapT f) = (t :: B).map (mapT fun x=>x + ((3:Nat):Int)):=by
    refine List.map_congr_left fun u hu=>?_
    have h6:(a:Int)≤u.pos:=by
     rcases List.mem_cons.1 hu with rfl | hu
     ·omega
     ·have:=(List.pairwise_cons.1 hpw2.2.1).1 u hu
      omega
    have:f u.pos = u.pos + ((3:Nat):Int):=by rw [hf]; simp only; rw [if_neg (by omega),if_neg (by omega),if_neg (by omega)]; rfl
    simp only [mapT,this]
   have htz:tz = (A ++ qTok (-1) :: cTok (-2) :: t :: B).map (mapT f):=by
    have hsh:=h3.shift 3 (by omega)
    have hq:=hsh.qc
    have e4:s.size + 3 - (r.length + 3) = a:=by omega
    have e5:s.size + 3 - (r.length + 2) = a + 1:=by omega
    rw [e4,e5] at hq
    have e6:s.size - r.length + (63 :: 59 :: 32 :: r).length = s.size + 3:=by simp only [List.length_cons]; omega
    have h6:=h5 (63 :: 59 :: 32 :: r) 63 _ _ rfl (by decide) (by decide) (by decide) (by rw [e6]; exact hq)
    rw [e6,← hzs,← hzt,← hfB] at h6
    rw [hZ.lx.det h6,List.map_append,hfA,List.map_cons (f:=mapT f) (l:=cTok (-2) :: t :: B),List.map_cons (f:=mapT f) (l:=t :: B)]
    have e7:mapT f (qTok (-1)) = qTok (a:Int):=by rw [hf]; rfl
    have e8:mapT f (cTok (-2)) = cTok ((a + 1:Nat):Int):=by rw [hf]; rfl
    rw [e7,e8]
   obtain ⟨lz,pz,hRz⟩:=read_some (n:=20000) (by omega) hZ.cnt hZ.lx.oks z.size
   rw [F25_ok (by omega) (by omega) hZ hRz]
   simp only [Option.bind_some]
   obtain ⟨iz,hiz⟩:=hRz.run
   have hfin:f s.size = (z.size:Int):=by
    rw [hf,hzs]; simp only; rw [if_neg (by omega),if_neg (by omega),if_neg (by omega)]; rfl
   have hn:=M.Nat'.run (f:=f) s.size _ _ ⟨A ++ qTok (-1) :: cTok (-2) :: t :: B,0,[]⟩ (M.nat_source 20000)
   rw [hins (qTok (-1)) (cTok (-2)) ⟨rfl,rfl⟩ ⟨rfl,rfl⟩] at hn
   have em:mapP f ⟨A ++ qTok (-1) :: cTok (-2) :: t :: B,0,[]⟩ = ⟨tz,0,[]⟩:=by rw [htz]; rfl
   rw [em,hfin,hiz] at hn
   simp only [M.mapO,mapP,Out.ok.injEq,PS.mk.injEq,List.map_cons,List.map_nil] at hn
   obtain ⟨rfl,_,_,rfl⟩:=hn
   have e9:f (qTok (-1)).pos = (a:Int):=by rw [hf]; rfl
   rw [e9]
   have hbp:((bs p).size:Int) = (a:Int):=by rw [size_bs,hpa]
   rw [hbp]
   exact law11_last hl f (a:Int)
end Go.Proofs.YtbecjgckobhmpaaGreatDoor
end
