/-
  The card of PrinterLayout is proved: for every tree the law returns true and leaves the tree as it was; the package-level variables start as the program's text lays them.
-/
import Derived.Test.YtbecjgckobhmpaaGreatDoorPL11
section
namespace Go.Proofs.YtbecjgckobhmpaaGreatDoor
open Go Go.AM Go.Proofs
theorem cat_eq {a b:ByteArray} (h:(tl a).length + (tl b).length≤1000000000000000):catS a b = some (bs (tl a ++ tl b)):=by
 unfold catS
 rw [if_pos (by rw [size_tl,size_tl]; omega)]
 rfl
theorem op_all:([[61,61,62],[124,124],[38,38],[61,61],[33,61],[60],[60,61],[124],[94],[38],[43],[45],[42]]:List Bytes).all (fun l=>F189 (bs l) == some (ruleI (bs l)).2.1 && F131 (bs l) == some ((ruleI (bs l)).2.2.1,(ruleI (bs l)).2.2.2)) = true:=by kernel_rfl
theorem op_eq {s:ByteArray} (h:levelI s≠0):F189 s = some (ruleI s).2.1∧F131 s = some ((ruleI s).2.2.1,(ruleI s).2.2.2):=by
 have:=List.all_eq_true.1 op_all _ (level_cases h)
 rw [bs_tl] at this
 simpa using this
theorem words_ne {l:List Bytes} (h:∀ s ∈ l,s≠[]):wordsL l = joinL [32] l:=by
 unfold wordsL
 rw [List.filter_eq_self.2 (fun s hs=>by have:=h s hs; simpa using this)]
theorem F188_eq {x:Node} (h:x.kind = 5→levelI x.name≠0):F188 x = some (levI x):=by
 unfold F188 levI
 by_cases h5:x.kind = 5
 ·have:=(op_eq (h h5)).1
  simp [h5,this]
 ·have e5:(x.kind == 5) = false:=nbeq h5
  simp only [e5,cond_false,some_cond,bor,Option.bind_some]
theorem okE_op {x:Node} (h:okE x):x.kind = 5→levelI x.name≠0:=fun h5=>by
 have:=(okT_parts h.1).1
 simp [fieldsB,fldGood,h5] at this
 exact this.1
theorem F130_of {x:Node} {n:Nat} (hx:okE x) (h:F80 n x = some (bs (txt x))) (hl:(txt x).length≤100000) (r:Int):F130 (n + 1) x r = some (bs (opd (levI x,txt x) r)):=by
 show F130_step (F130 n) (F80 n) n x r = _
 unfold F130_step
 rw [F188_eq (okE_op hx),h]
 simp only [Option.bind_some,opd]
 cases decide (levI x < r)
 ·rfl
 ·simp only [cond_true]
  rw [cat_eq (by simp [tl_bs]; omega)]
  simp only [Option.bind_some]
  rw [cat_eq (by simp [tl_bs]; omega)]
  simp [tl_bs]
theorem F80_eq:∀ x,okE x→sz x≤200→∀ n,30 + 2 * sz x≤n→F80 n x = some (bs (txt x)):=by
 have len:∀ y,okE y→sz y≤200→(txt y).length≤16000:=fun y hy hs=>by have:=txt_len y hy; omega
 have opl:∀ y (r:Int),okE y→sz y≤200→(opd (levI y,txt y) r).length≤16002:=fun y r hy hs=>by
  have h1:=len y hy hs
  have h2:=opd_len (levI y,txt y) r
  simp at h2
  omega
 have opn:∀ y (r:Int),okE y→opd (levI y,txt y) r≠[]:=fun y r hy=>(opd_GX r (txt_GX y hy)).ne
 apply okE_ind
 ·intro x h hk hn hs n hf
  obtain ⟨n,rfl⟩:∃ m,n = m + 1:=⟨n - 1,by omega⟩
  show F80_step (F130 n) (F80 n) n x = _
  unfold F80_step
  rw [txt_eq]
  simp [h,itoa_eq hn,txtOf]
 ·intro x h hk hn hs n hf
  obtain ⟨n,rfl⟩:∃ m,n = m + 1:=⟨n - 1,by omega⟩
  show F80_step (F130 n) (F80 n) n x = _
  unfold F80_step
  rw [txt_eq]
  simp [h,hk,txtOf,txts,bs_tl]
 ·intro x a h hk hn ha ih hs n hf
  have hsz:sz x = 1 + sz a:=by rw [sz_eq,hk]; simp [szs]
  obtain ⟨n,rfl⟩:∃ m,n = m + 2:=⟨n - 2,by omega⟩
  have ea:=F130_of (n:=n) ha (ih (by omega) n (by omega)) (by have:=len a ha (by omega); omega) 0
  have h1:=opl a 0 ha (by omega)
  have h2:=pathB_len hn
  have i0:idxL x.kids 0 = some a:=idx0 (by simp [hk])
  have c0:((x.kids.length:Int) == 0) = false:=by simp [hk]
  show F80_step (F130 (n + 1)) (F80 (n + 1)) (n + 1) x = _
  unfold F80_step
  rw [txt_eq]
  simp only [h,c0,i0,ea,Int.reduceBEq,cond_true,cond_false,Option.bind_some]
  simp (disch:=(simp only [tl_bs,List.length_append,List.length_cons,List.length_nil]; omega)) only [cat_eq,tl_bs,Option.bind_some]
  simp [txtOf,txts,nth,hk]
 ·intro x a h hk ha ih hs n hf
  have hsz:sz x = 1 + sz a:=by rw [sz_eq,hk]; simp [szs]
  obtain ⟨n,rfl⟩:∃ m,n = m + 2:=⟨n - 2,by omega⟩
  have ea:=F130_of (n:=n) ha (ih (by omega) n (by omega)) (by have:=len a ha (by omega); omega) 0
  have h1:=opl a 0 ha (by omega)
  have i0:idxL x.kids 0 = some a:=idx0 (by simp [hk])
  show F80_step (F130 (n + 1)) (F80 (n + 1)) (n + 1) x = _
  unfold F80_step
  rw [txt_eq]
  simp only [h,i0,ea,Int.reduceBEq,cond_true,cond_false,Option.bind_some]
  simp (disch:=(simp only [tl_bs,List.length_append,List.length_cons,List.length_nil]; omega)) only [cat_eq,tl_bs,Option.bind_some]
  simp [txtOf,txts,nth,hk]
 ·intro x a h hk ha ih hs n hf
  have hsz:sz x = 1 + sz a:=by rw [sz_eq,hk]; simp [szs]
  obtain ⟨n,rfl⟩:∃ m,n = m + 2:=⟨n - 2,by omega⟩
  have ea:=F130_of (n:=n) ha (ih (by omega) n (by omega)) (by have:=len a ha (by omega); omega) 11
  have h1:=opl a 11 ha (by omega)
  have i0:idxL x.kids 0 = some a:=idx0 (by simp [hk])
  show F80_step (F130 (n + 1)) (F80 (n + 1)) (n + 1) x = _
  unfold F80_step
  rw [txt_eq]
  simp only [h,i0,ea,Int.reduceBEq,cond_true,cond_false,Option.bind_some]
  simp (disch:=(simp only [tl_bs,List.length_append,List.length_cons,List.length_nil]; omega)) only [cat_eq,tl_bs,Option.bind_some]
  simp [txtOf,txts,nth,hk]
 ·intro x a b h hk hl ha iha hb ihb hs n hf
  have hsz:sz x = 1 + (sz a + sz b):=by rw [sz_eq,hk]; simp [szs]
  obtain ⟨n,rfl⟩:∃ m,n = m + 2:=⟨n - 2,by omega⟩
  have ea:=F130_of (n:=n) ha (iha (by omega) n (by omega)) (by have:=len a ha (by omega); omega) (ruleI x.name).2.2.1
  have eb:=F130_of (n:=n) hb (ihb (by omega) n (by omega)) (by have:=len b hb (by omega); omega) (ruleI x.name).2.2.2
  have h1:=opl a (ruleI x.name).2.2.1 ha (by omega)
  have h2:=opl b (ruleI x.name).2.2.2 hb (by omega)
  have h3:=level_len hl
  have i0:idxL x.kids 0 = some a:=idx0 (by simp [hk])
  have i1:idxL x.kids 1 = some b:=idx1 (by simp [hk])
  have hw:=words_ne (l:=[opd (levI a,txt a) (ruleI x.name).2.2.1,tl x.name,opd (levI b,txt b) (ruleI x.name).2.2.2]) (by
   simp only [List.mem_cons,List.not_mem_nil,or_false,forall_eq_or_imp,forall_eq]
   exact ⟨opn a _ ha,(op_GX hl).ne,opn b _ hb⟩)
  show F80_step (F130 (n + 1)) (F80 (n + 1)) (n + 1) x = _
  unfold F80_step
  rw [txt_eq]
  simp only [h,i0,i1,(op_eq hl).2,ea,eb,Int.reduceBEq,cond_true,cond_false,Option.bind_some]
  simp (disch:=(simp only [tl_bs,List.length_append,List.length_cons,List.length_nil]; omega)) only [cat_eq,tl_bs,Option.bind_some]
  simp [txtOf,txts,nth,hk,hw,joinL]
 ·intro x a b c h hk ha iha hb ihb hc ihc hs n hf
  have hsz:sz x = 1 + (sz a + (sz b + sz c)):=by rw [sz_eq,hk]; simp [szs]
  obtain ⟨n,rfl⟩:∃ m,n = m + 2:=⟨n - 2,by omega⟩
  have ea:=F130_of (n:=n) ha (iha (by omega) n (by omega)) (by have:=len a ha (by omega); omega) 2
  have eb:=F130_of (n:=n) hb (ihb (by omega) n (by omega)) (by have:=len b hb (by omega); omega) 1
  have ec:=F130_of (n:=n) hc (ihc (by omega) n (by omega)) (by have:=len c hc (by omega); omega) 1
  have h1:=opl a 2 ha (by omega)
  have h2:=opl b 1 hb (by omega)
  have h3:=opl c 1 hc (by omega)
  have i0:idxL x.kids 0 = some a:=idx0 (by simp [hk])
  have i1:idxL x.kids 1 = some b:=idx1 (by simp [hk])
  have i2:idxL x.kids 2 = some c:=idx2 (by simp [hk])
  have hw:=words_ne (l:=[opd (levI a,txt a) 2,[63],opd (levI b,txt b) 1,[58],opd (levI c,txt c) 1]) (by
   simp only [List.mem_cons,List.not_mem_nil,or_false,forall_eq_or_imp,forall_eq]
   exact ⟨opn a _ ha,by simp,opn b _ hb,by simp,opn c _ hc⟩)
  show F80_step (F130 (n + 1)) (F80 (n + 1)) (n + 1) x = _
  unfold F80_step
  rw [txt_eq]
  simp only [h,i0,i1,i2,ea,eb,ec,Int.reduceBEq,cond_true,cond_false,Option.bind_some]
  simp (disch:=(simp only [tl_bs,List.length_append,List.length_cons,List.length_nil]; omega)) only [cat_eq,tl_bs,Option.bind_some]
  simp [txtOf,txts,nth,hk,hw,joinL]
 ·intro x a h hk hnm hn ha ih hs n hf
  have hsz:sz x = 1 + sz a:=by rw [sz_eq,hk]; simp [szs]
  obtain ⟨n,rfl⟩:∃ m,n = m + 2:=⟨n - 2,by omega⟩
  have ea:=F130_of (n:=n) ha (ih (by omega) n (by omega)) (by have:=len a ha (by omega); omega) 0
  have h1:=opl a 0 ha (by omega)
  have h2:=nameB_len hnm
  have h3:=numL_len x.n
  have i0:idxL x.kids 0 = some a:=idx0 (by simp [hk])
  have hw:∀ w:Bytes,w≠[]→wordsL [w,tl x.name,[60],numL x.n,[58],opd (levI a,txt a) 0] = joinL [32] [w,tl x.name,[60],numL x.n,[58],opd (levI a,txt a) 0]:=fun w hw=>words_ne (by
   simp only [List.mem_cons,List.not_mem_nil,or_false,forall_eq_or_imp,forall_eq]
   exact ⟨hw,(name_GX hnm).ne,by simp,(num_GX _).ne,by simp,opn a _ ha⟩)
  show F80_step (F130 (n + 1)) (F80 (n + 1)) (n + 1) x = _
  unfold F80_step
  rw [txt_eq]
  rcases h with h | h
  ·simp only [h,i0,ea,itoa_eq hn,Int.reduceBEq,cond_false,Option.bind_some]
   simp (disch:=(simp only [tl_bs,List.length_append,List.length_cons,List.length_nil]; omega)) only [cat_eq,tl_bs,Option.bind_some]
   simp [txtOf,txts,nth,hk,hw,joinL]
  ·simp only [h,i0,ea,itoa_eq hn,Int.reduceBEq,cond_true,cond_false,Option.bind_some]
   simp (disch:=(simp only [tl_bs,List.length_append,List.length_cons,List.length_nil]; omega)) only [cat_eq,tl_bs,Option.bind_some]
   simp [txtOf,txts,nth,hk,hw,joinL]
theorem joinL_snoc (sep:Bytes):∀ (l:List Bytes) (x:Bytes),l≠[]→joinL sep (l ++ [x]) = joinL sep l ++ (sep ++ x)
 | [],_,h=>absurd rfl h
 | [a],x,_=>by simp [joinL]
 | a :: b :: r,x,_=>by
  have:=joinL_snoc sep (b :: r) x (by simp)
  simp only [List.cons_append] at this
  simp only [List.cons_append,joinL,this,List.append_assoc]
theorem join_loop {α:Type} {step:ByteArray × Int→Option ((ByteArray × Int) ⊕ ByteArray)} (l:List α) (f:α→Bytes) (ix:Nat→Int) (h0:ix 0 = 0)
  (hB:∀ k,(commasL ((l.take k).map f)).length≤100000000)
  (hin:∀ (k:Nat) (y:α) (acc:Bytes),l[k]? = some y→acc.length≤100000000→step (bs acc,ix k) = some (.inl (bs ((if k = 0 then acc else acc ++ [44,32]) ++ f y),ix (k + 1))))
  (hend:∀ acc,step (bs acc,ix l.length) = some (.inr (bs acc))) {n:Nat} (hn:l.length < n):iter step n (bs [],0) = some (bs (commasL (l.map f))):=by
 obtain ⟨r,hr,rfl⟩:=iter_inv (step:=step) l (fun (k:Nat) (a:Bytes)=>(bs a,ix k)) (fun k a=>a = commasL ((l.take k).map f)) (fun r=>r = bs (commasL (l.map f)))
  (fun k a y hy ha=>by
   have hb:=hB k
   rw [← ha] at hb
   refine .inl ⟨_,hin k y a hy hb,?_⟩
   have hlt:=lt_of_get hy
   have ht:l.take (k + 1) = l.take k ++ [y]:=by rw [List.take_add_one,hy]; rfl
   rw [ht,List.map_append]
   subst ha
   by_cases hk:k = 0
   ·subst hk
    simp [commasL,joinL]
   ·rw [if_neg hk]
    unfold commasL
    simp only [List.map_cons,List.map_nil]
    rw [joinL_snoc _ _ _ (by simp; exact ⟨hk,by intro e; simp [e] at hlt⟩)]
    simp)
  (fun a ha=>⟨bs a,hend a,by rw [ha]; simp⟩) n [] hn (by simp [commasL,joinL])
 rw [← h0]
 exact hr
theorem F179_eq {l:List Node} (h1:∀ y ∈ l,okE y) (hs:szs l≤200) {n:Nat} (hn:500≤n):F179 n l = some (bs (commasL (tx l))):=by
 have hlen:=szs_len l
 unfold F179
 rw [join_loop l txt (fun k=>(k:Int)) rfl (fun k=>by
  have:=commas_tx_len (l:=l.take k) (fun y hy=>h1 y (List.mem_of_mem_take hy)) (by have:=szs_take_le l k; omega)
  unfold tx at this
  omega) (fun k y acc hy hacc=>by
   have hlt:=lt_of_get hy
   have hm:=List.mem_of_getElem? hy
   have hsy:=szs_mem l y hm
   have ht:=txt_len y (h1 y hm)
   have c1:decide ((k:Int) < (l.length:Int)) = true:=by simpa using hlt
   have c2:w64 ((k:Int) + 1) = ((k + 1:Nat):Int):=w64_nat (by omega)
   simp only [c1,c2,cond_true,idxL_some hy,F80_eq y (h1 y hm) (by omega) n (by omega),Option.bind_some]
   by_cases hk:k = 0
   ·subst hk
    have c3:decide (0 < ((0:Nat):Int)) = false:=by simp
    simp only [c3,cond_false,Option.bind_some]
    rw [cat_eq (by rw [tl_bs,tl_bs]; omega)]
    simp [tl_bs]
   ·have c3:decide (0 < (k:Int)) = true:=by simp; omega
    simp only [c3,cond_true,if_neg hk]
    simp (disch:=(simp only [tl_bs,List.length_append,List.length_cons,List.length_nil]; omega)) only [cat_eq,tl_bs,Option.bind_some]) (fun acc=>by
   have c1:decide ((l.length:Int) < (l.length:Int)) = false:=by simp
   simp only [c1,cond_false]) (by omega)]
 rfl
theorem F183_eq {l:List Node} (h1:∀ y ∈ l,nameB (tl y.name) = true∧inR y.n = true) (hl:l.length≤200) {n:Nat} (hn:300≤n):F183 n l = some (bs (commasL (l.map sizedL))):=by
 unfold F183
 rw [join_loop l sizedL (fun k=>(k:Int)) rfl (fun k=>by
  have h3:=joinL_len [44,32] ((l.take k).map sizedL)
  have h2:=sum_le ((l.take k).map sizedL) 60 (fun s hs=>by
   simp only [List.mem_map] at hs
   obtain ⟨y,hy,rfl⟩:=hs
   exact sized_len (h1 y (List.mem_of_mem_take hy)).1)
  simp only [List.length_map,List.length_take,List.length_cons,List.length_nil] at h3 h2
  unfold commasL
  omega) (fun k y acc hy hacc=>by
   have hlt:=lt_of_get hy
   obtain ⟨hnm,hnn⟩:=h1 y (List.mem_of_getElem? hy)
   have l1:=nameB_len hnm
   have l2:=numL_len y.n
   have c1:decide ((k:Int) < (l.length:Int)) = true:=by simpa using hlt
   have c2:w64 ((k:Int) + 1) = ((k + 1:Nat):Int):=w64_nat (by omega)
   have hw:sizedL y = joinL [32] [tl y.name,[58],numL y.n]:=words_ne (by
    simp only [List.mem_cons,List.not_mem_nil,or_false,forall_eq_or_imp,forall_eq]
    exact ⟨(name_GX hnm).ne,by simp,(num_GX _).ne⟩)
   simp only [c1,c2,cond_true,idxL_some hy,itoa_eq hnn,Option.bind_some]
   by_cases hk:k = 0
   ·subst hk
    have c3:decide (0 < ((0:Nat):Int)) = false:=by simp
    simp only [c3,cond_false,Option.bind_some]
    simp (disch:=(simp only [tl_bs,List.length_append,List.length_cons,List.length_nil]; omega)) only [cat_eq,tl_bs,Option.bind_some]
    simp [hw,joinL]
   ·have c3:decide (0 < (k:Int)) = true:=by simp; omega
    simp only [c3,cond_true,if_neg hk]
    simp (disch:=(simp only [tl_bs,List.length_append,List.length_cons,List.length_nil]; omega)) only [cat_eq,tl_bs,Option.bind_some]
    simp [hw,joinL]) (fun acc=>by
   have c1:decide ((l.length:Int) < (l.length:Int)) = false:=by simp
   simp only [c1,cond_false]) (by omega)]
 rfl
theorem F176_eq {l:List Node} (hp:pairsB l = true) (h1:∀ y ∈ l,okE y) (hs:szs l≤200) {n:Nat} (hn:500≤n):F176 n l = some (bs (assignsL (tx l))):=by
 have hlen:=szs_len l
 have hpl:=prs_len l hp
 have hok:∀ p ∈ prs l,(okE p.1∧sz p.1≤200)∧(okE p.2∧sz p.2≤200):=by
  intro p hp
  obtain ⟨k,hk,rfl⟩:=List.mem_iff_getElem.1 hp
  obtain ⟨g1,g2⟩:=prs_get l k _ (List.getElem?_eq_getElem hk)
  have m1:=List.mem_of_getElem? g1
  have m2:=List.mem_of_getElem? g2
  have:=szs_mem l _ m1
  have:=szs_mem l _ m2
  exact ⟨⟨h1 _ m1,by omega⟩,⟨h1 _ m2,by omega⟩⟩
 have hpr:∀ p ∈ prs l,(prT p).length≤40000∧prT p = joinL [32] [txt p.1,[58,61],txt p.2]:=fun p hp=>by
  obtain ⟨o1,o2⟩:=hok p hp
  have t1:=txt_len _ o1.1
  have t2:=txt_len _ o2.1
  have:=wordsL_len [txt p.1,[58,61],txt p.2]
  refine ⟨by unfold prT; simp at this; omega,words_ne ?_⟩
  simp only [List.mem_cons,List.not_mem_nil,or_false,forall_eq_or_imp,forall_eq]
  exact ⟨(txt_GX _ o1.1).ne,by simp,(txt_GX _ o2.1).ne⟩
 unfold F176 assignsL
 rw [prs_pairL,join_loop (prs l) prT (fun k=>((2 * k:Nat):Int)) rfl (fun k=>by
  have h1:=joinL_len [44,32] (((prs l).take k).map prT)
  have h2:=sum_le (((prs l).take k).map prT) 40000 (fun s hs=>by
   simp only [List.mem_map] at hs
   obtain ⟨y,hy,rfl⟩:=hs
   exact (hpr y (List.mem_of_mem_take hy)).1)
  simp only [List.length_map,List.length_take,List.length_cons,List.length_nil] at h1 h2
  unfold commasL
  have h3:min k (prs l).length≤100:=by omega
  generalize min k (prs l).length = q at *
  have h4:q * 40000≤4000000:=by omega
  omega) (fun k p acc hx hacc=>by
   have hlt:=lt_of_get hx
   obtain ⟨g1,g2⟩:=prs_get l k p hx
   obtain ⟨o1,o2⟩:=hok p (List.mem_of_getElem? hx)
   have t1:=txt_len _ o1.1
   have t2:=txt_len _ o2.1
   have hw:=(hpr p (List.mem_of_getElem? hx)).2
   have e1:w64 (((2 * k:Nat):Int) + 1) = ((2 * k + 1:Nat):Int):=w64_nat (by omega)
   have e2:w64 (((2 * k:Nat):Int) + 2) = ((2 * (k + 1):Nat):Int):=by rw [w64_id (by omega) (by omega)]; omega
   have c1:decide (((2 * k + 1:Nat):Int) < (l.length:Int)) = true:=by simp; omega
   simp only [e1,e2,c1,cond_true,idxL_some g1,idxL_some g2,Option.bind_some,F80_eq p.1 o1.1 o1.2 n (by omega),F80_eq p.2 o2.1 o2.2 n (by omega)]
   by_cases hk:k = 0
   ·subst hk
    have c3:decide (0 < ((2 * 0:Nat):Int)) = false:=by simp
    simp only [c3,cond_false,Option.bind_some]
    simp (disch:=(simp only [tl_bs,List.length_append,List.length_cons,List.length_nil]; omega)) only [cat_eq,tl_bs,Option.bind_some]
    simp [hw,joinL]
   ·have c3:decide (0 < ((2 * k:Nat):Int)) = true:=by simp; omega
    simp only [c3,cond_true,if_neg hk]
    simp (disch:=(simp only [tl_bs,List.length_append,List.length_cons,List.length_nil]; omega)) only [cat_eq,tl_bs,Option.bind_some]
    simp [hw,joinL]) (fun acc=>by
   have e1:w64 (((2 * (prs l).length:Nat):Int) + 1) = ((2 * (prs l).length + 1:Nat):Int):=w64_nat (by omega)
   have c1:decide (((2 * (prs l).length + 1:Nat):Int) < (l.length:Int)) = false:=by simp; omega
   simp only [e1,c1,cond_false]) (by omega)]
 rfl
theorem F120_eq {d:Nat} (hd:d≤300) {n:Nat} (hn:400≤n):F120 n (d:Int) = some (bs (repL [32,32] d)):=by
 unfold F120
 obtain ⟨r,hr,rfl⟩:=iter_inv (step:=fun s1:ByteArray × Int=>bif decide (s1.2 < (d:Int)) then
   ((catS s1.1 (bs [32,32])).bind fun x3 =>
   some (.inl (x3,w64 (s1.2 + 1))))
  else
   (some (.inr s1.1))) (List.replicate d ()) (fun (k:Nat) (a:Bytes)=>(bs a,(k:Int))) (fun k a=>a = repL [32,32] k) (fun r=>r = bs (repL [32,32] d))
  (fun k a y hy ha=>by
   have hlt:=lt_of_get hy
   simp only [List.length_replicate] at hlt
   have c1:decide ((k:Int) < (d:Int)) = true:=by simpa using hlt
   have c2:w64 ((k:Int) + 1) = ((k + 1:Nat):Int):=w64_nat (by omega)
   have hl:=repL_len [32,32] k
   simp only [List.length_cons,List.length_nil] at hl
   simp only [c1,c2,cond_true]
   rw [cat_eq (by rw [tl_bs,tl_bs,ha]; simp; omega)]
   refine .inl ⟨a ++ [32,32],rfl,?_⟩
   subst ha
   rw [rep_rep,rep_rep,show 2 * (k + 1) = 2 * k + 2 by omega,show ([32,32]:Bytes) = List.replicate 2 32 from rfl,List.replicate_append_replicate])
  (fun a ha=>⟨bs a,by
   simp only [List.length_replicate]
   have c1:decide ((d:Int) < (d:Int)) = false:=by simp
   simp only [c1,cond_false],by rw [ha]; simp⟩) n [] (by simp; omega) rfl
 erw [hr]
 rfl
end Go.Proofs.YtbecjgckobhmpaaGreatDoor
end
section
namespace Go.Proofs.YtbecjgckobhmpaaGreatDoor
open Go Go.AM Go.Proofs
theorem wd1 {a:Bytes} (h:a≠[]):wordsL [a] = a:=words_one h
theorem wdn (l:List Bytes):wordsL ([] :: l) = wordsL l:=by simp [wordsL]
theorem wdcn (a:Bytes) (l:List Bytes):wordsL (a :: [] :: l) = wordsL (a :: l):=by simp [wordsL,List.filter_cons]
theorem wdcc {a b:Bytes} (l:List Bytes) (ha:a≠[]) (hb:b≠[]):wordsL (a :: b :: l) = a ++ (32 :: wordsL (b :: l)):=by
 have e1:(!a.isEmpty) = true:=by simpa using ha
 have e2:(!b.isEmpty) = true:=by simpa using hb
 simp [wordsL,e1,e2,joinL]
theorem F175_eq {s:Bytes} {c:Bool} (hs:s.length≤1000):F175 (bs s) c = some (bs (bif c then s ++ [32] else [])):=by
 unfold F175
 cases c
 ·rfl
 ·simp only [cond_true]
  rw [cat_eq (by rw [tl_bs,tl_bs]; simp; omega)]
  rfl
theorem assigns_ne {a b:Node} {r:List Node} (h:∀ y ∈ a :: b :: r,okE y):assignsL (tx (a :: b :: r))≠[]:=by
 unfold assignsL commasL
 exact (joinL_comma _ (pairL_GX _ (tx_GX h)) (by simp [tx,pairL])).ne
theorem commas_ne {a:Node} {r:List Node} (h:∀ y ∈ a :: r,okE y):commasL (tx (a :: r))≠[]:=by
 unfold commasL
 exact (joinL_comma _ (tx_GX h) (by simp [tx])).ne
theorem F177_nil {n:Nat}:F177 n [] = some (bs []):=rfl
theorem F177_cons {l:List Node} (hne:l≠[]) (hp:pairsB l = true) (h1:∀ y ∈ l,okE y) (hs:szs l≤200) {n:Nat} (hn:500≤n):F177 n l = some (bs ([32,119,105,116,104,32] ++ assignsL (tx l))):=by
 unfold F177
 have c:((l.length:Int) == 0) = false:=nbeq (by
  have:=List.length_pos_iff.2 hne
  omega)
 have a2:=assigns_len h1 hs
 rw [c,F176_eq hp h1 hs hn]
 simp only [cond_false,Option.bind_some]
 rw [cat_eq (by simp [tl_bs]; omega)]
 rfl
section
variable {x:Node}
theorem F182_eq (h1:nameB (tl x.name) = true) (h2:inR x.n = true) (h3:inR x.len = true) (h4:inR x.init = true) (h5:strEq x.other (bs []) = true∨nameB (tl x.other) = true) :
  F182 x = some (bs (sharedL x ++ [59])):=by
 have ln:=nameB_len h1
 have n0:=(name_GX h1).ne
 have l2:=numL_len x.n
 have l3:=numL_len x.len
 have l4:=numL_len x.init
 have m2:=(num_GX x.n).ne
 have m3:=(num_GX x.len).ne
 have m4:=(num_GX x.init).ne
 unfold F182
 rw [F175_eq (by simp),itoa_eq h2,itoa_eq h3,itoa_eq h4]
 have lO:(tl x.other).length≤16∧(strEq x.other (bs []) = false→tl x.other≠[]):=by
  rcases h5 with h | h
  ·have:tl x.other = []:=str_nil.1 h
   exact ⟨by rw [this]; simp,fun e=>by rw [h] at e; cases e⟩
  ·have:=nameB_len h
   exact ⟨by omega,fun _=>(name_GX h).ne⟩
 obtain ⟨lO,nO⟩:=lO
 cases hg:x.ghost <;> cases hl:x.len != 0 <;> cases hi:x.init != 0 <;> cases ho:strEq x.other (bs []) <;>
  simp only [cond_true,cond_false,Option.bind_some,Bool.not_true,Bool.not_false] <;>
  simp (disch:=(simp only [tl_bs,List.length_append,List.length_cons,List.length_nil]; omega)) only [cat_eq,tl_bs,Option.bind_some] <;>
  first
  | simp [sharedL,onlyL,hg,hl,hi,ho,wd1,wdn,wdcn,wdcc,n0,m4,nO ho]
  | simp [sharedL,onlyL,hg,hl,hi,ho,wd1,wdn,wdcn,wdcc,n0,m2,m4]
theorem stm_eq (hT:okT x = true) (hk:x.kind = 20∨x.kind = 29∨x.kind = 26∨x.kind = 30∨x.kind = 21∨x.kind = 22∨x.kind = 23∨x.kind = 24∨x.kind = 25∨x.kind = 27∨x.kind = 28∨x.kind = 33∨x.kind = 35) (hs:sz x≤200) {n:Nat} (hn:600≤n) (d:Int) :
  F121 (n + 1) x d = some (bs (simpL x ++ [59])):=by
 obtain ⟨hf,hkd,hks⟩:=okT_parts hT
 have hsz:=sz_eq x
 have kE:∀ y ∈ x.kids,isE y.kind = true→okE y:=fun y hy he=>⟨hks y hy,he⟩
 have kS:∀ y ∈ x.kids,sz y≤200:=fun y hy=>by have:=szs_mem x.kids y hy; omega
 have one:ex1 eX x.kids = true→∃ a,x.kids[0]? = some a∧okE a∧sz a≤200:=fun h=>by
  obtain ⟨a,ha,he⟩:=ex1_iff h
  exact ⟨a,by simp [ha],kE a (by simp [ha]) he,kS a (by simp [ha])⟩
 have F80k:∀ a,okE a→sz a≤200→F80 n a = some (bs (txt a)):=fun a h1 h2=>F80_eq a h1 h2 n (by omega)
 show F121_step (F122 n) (F181 n) (F180 n) (F121 n) (F77 n) n x d = _
 unfold F121_step
 rcases hk with h | h | h | h | h | h | h | h | h | h | h | h | h
 ·simp [kidsB,leafK,oneK,h] at hkd
  obtain ⟨a,ha,hE,hS⟩:=one hkd
  have ht:=ln_txt hE hS
  have hne:=(txt_GX a hE).ne
  simp only [simpL,stmtL,h,Int.reduceBEq,cond_true,cond_false,idx0 ha,tnth_eq ha,Option.bind_some,F80k a hE hS]
  simp (disch:=(simp only [tl_bs,List.length_append,List.length_cons,List.length_nil]; omega)) only [cat_eq,tl_bs,Option.bind_some]
  simp [wd1,wdcc,hne]
 ·simp [kidsB,leafK,oneK,h] at hkd
  obtain ⟨a,ha,hE,hS⟩:=one hkd
  have ht:=ln_txt hE hS
  have hne:=(txt_GX a hE).ne
  simp only [simpL,stmtL,h,Int.reduceBEq,cond_true,cond_false,idx0 ha,tnth_eq ha,Option.bind_some,F80k a hE hS]
  simp (disch:=(simp only [tl_bs,List.length_append,List.length_cons,List.length_nil]; omega)) only [cat_eq,tl_bs,Option.bind_some]
  simp [wd1,wdcc,hne]
 ·simp only [simpL,stmtL,h,Int.reduceBEq,cond_true,cond_false]
  rfl
 ·simp only [simpL,stmtL,h,Int.reduceBEq,cond_true,cond_false]
  rfl
 ·simp [kidsB,leafK,oneK,h] at hkd
  match hx:x.kids,hkd with
  | [],hkd=>simp at hkd
  | [a],hkd=>simp [pairsB] at hkd
  | a :: b :: r,hkd =>
   have hp:=hkd.2
   have hE:∀ y ∈ a :: b :: r,okE y:=fun y hy=>kE y (by rw [hx]; exact hy) (pairs_E _ hp y hy)
   simp only [pairsB,Bool.and_eq_true] at hp
   have hz:szs [a,b] + szs r≤200:=by rw [hx] at hsz; simp only [szs] at *; omega
   have s1:subL (a :: b :: r) 0 2 = some [a,b]:=by
    have:=subL_eq (l:=a :: b :: r) (a:=0) (b:=2) (by simp) (by simp)
    rw [show ((0:Nat):Int) = 0 from rfl,show ((2:Nat):Int) = 2 from rfl] at this
    rw [this]; simp
   have s2:subL (a :: b :: r) 2 ((a :: b :: r).length:Int) = some r:=by
    have:=subL_eq (l:=a :: b :: r) (a:=2) (b:=(a :: b :: r).length) (by simp) (by simp)
    rw [show ((2:Nat):Int) = 2 from rfl] at this
    rw [this]; simp
   have hE1:∀ y ∈ [a,b],okE y:=fun y hy=>hE y (by simp at hy; rcases hy with rfl | rfl <;> simp)
   have hE2:∀ y ∈ r,okE y:=fun y hy=>hE y (by simp [hy])
   have g1:=F176_eq (l:=[a,b]) (by simp [pairsB,hp.1,hp.2.1]) hE1 (by omega) (show 500≤n by omega)
   have a1:=assigns_len hE1 (by omega)
   have a2:=assigns_len hE2 (by omega)
   have e1:=assigns_ne hE1
   simp only [simpL,stmtL,h,hx,Int.reduceBEq,cond_true,cond_false,s1,s2,g1,Option.bind_some]
   rw [F175_eq (by simp)]
   cases r with
   | nil =>
    rw [F177_nil]
    have c2:decide (2 < (([a,b]:List Node).length:Int)) = false:=by simp
    cases x.n == 1 <;> simp only [cond_true,cond_false,Option.bind_some,onlyL,c2] <;>
     simp (disch:=(simp only [tl_bs,List.length_append,List.length_cons,List.length_nil]; omega)) only [cat_eq,tl_bs,Option.bind_some] <;>
     simp [wd1,wdn,wdcn,wdcc,e1]
   | cons q qs =>
    match qs,hp.2.2 with
    | [],hp=>simp [pairsB] at hp
    | q2 :: qs,hp2 =>
     have e2:=assigns_ne hE2
     rw [F177_cons (by simp) hp2 hE2 (by omega) (by omega)]
     have c2:decide (2 < ((a :: b :: q :: q2 :: qs).length:Int)) = true:=by simp; omega
     cases x.n == 1 <;> simp only [cond_true,cond_false,Option.bind_some,onlyL,c2] <;>
      simp (disch:=(simp only [tl_bs,List.length_append,List.length_cons,List.length_nil]; omega)) only [cat_eq,tl_bs,Option.bind_some] <;>
      simp [wd1,wdn,wdcc,e1,e2]
 ·simp [kidsB,leafK,oneK,h] at hkd
  match hx:x.kids,hkd with
  | a :: r,hkd =>
   simp only [atomK,enX,Bool.and_eq_true,Bool.or_eq_true,beq_iff_eq] at hkd
   rw [hx] at kE hsz
   have er:∀ y ∈ r,okE y:=fun y hy=>kE y (by simp [hy]) (pairs_E _ hkd.2 y hy)
   have hz:sz a + szs r≤200:=by simp only [szs] at *; omega
   have g2:=F176_eq (l:=r) hkd.2 er (by omega) (show 500≤n by omega)
   have a2:=assigns_len er (by omega)
   have i0:idxL (a :: r) 0 = some a:=idx0 rfl
   have t0:tnth (a :: r) 0 = txt a:=tnth_eq rfl
   have hA:(a.kind = 63)∨(¬ a.kind = 63∧F80 n a = some (bs (txt a))∧(txt a).length≤30000∧txt a≠[]):=by
    rcases hkd.1 with h1 | h1
    ·have ea:=kE a (by simp) h1
     refine .inr ⟨?_,F80k a ea (by omega),ln_txt ea (by omega),(txt_GX a ea).ne⟩
     intro e; rw [e] at h1; simp [isE] at h1
    ·exact .inl h1
   simp only [simpL,stmtL,h,hx,Int.reduceBEq,cond_true,cond_false,F178,subL_tail,g2,i0,t0,Option.bind_some]
   cases r with
   | nil =>
    have c1:decide (1 < (([a]:List Node).length:Int)) = false:=by simp
    have e0:assignsL (tx ([]:List Node)) = []:=rfl
    rcases hA with hA | ⟨hA,f1,f2,f3⟩
    ·simp only [c1,hA,cond_false,Option.bind_some,onlyL]
     simp (disch:=(simp only [tl_bs,List.length_append,List.length_cons,List.length_nil]; omega)) only [cat_eq,tl_bs,Option.bind_some]
     simp [hA,e0,wd1,wdcn,wdcc]
    ·have c2:(a.kind != 63) = true:=by simpa using hA
     simp only [c1,c2,f1,cond_true,cond_false,Option.bind_some,onlyL]
     simp (disch:=(simp only [tl_bs,List.length_append,List.length_cons,List.length_nil]; omega)) only [cat_eq,tl_bs,Option.bind_some]
     simp [c2,e0,wd1,wdcn,wdcc,f3]
   | cons q qs =>
    match qs,hkd.2 with
    | [],hp=>simp [pairsB] at hp
    | q2 :: qs,hp2 =>
     have e1:=assigns_ne er
     have c1:decide (1 < ((a :: q :: q2 :: qs).length:Int)) = true:=by simp; omega
     rcases hA with hA | ⟨hA,f1,f2,f3⟩
     ·simp only [c1,hA,cond_true,onlyL]
      simp (disch:=(simp only [tl_bs,List.length_append,List.length_cons,List.length_nil]; omega)) only [cat_eq,tl_bs,Option.bind_some]
      simp [hA,wd1,wdcn,wdcc,e1]
     ·have c2:(a.kind != 63) = true:=by simpa using hA
      simp only [c1,c2,f1,cond_true,Option.bind_some,onlyL]
      simp (disch:=(simp only [tl_bs,List.length_append,List.length_cons,List.length_nil]; omega)) only [cat_eq,tl_bs,Option.bind_some]
      simp [c2,wd1,wdcc,f3,e1]
 ·simp [kidsB,leafK,oneK,h] at hkd
  match hx:x.kids,hkd with
  | a :: b :: c :: d :: r,hkd =>
   simp only [casK,Bool.and_eq_true,kX,eX,beq_iff_eq] at hkd
   rw [hx] at kE hsz
   have ea:okE a:=kE a (by simp) (by rw [hkd.1.1]; rfl)
   have eb:okE b:=kE b (by simp) hkd.1.2.1
   have ec:okE c:=kE c (by simp) hkd.1.2.2.1
   have ed:okE d:=kE d (by simp) (by rw [hkd.1.2.2.2]; rfl)
   have er:∀ y ∈ r,okE y:=fun y hy=>kE y (by simp [hy]) (pairs_E _ hkd.2 y hy)
   have hE3:∀ y ∈ [a,b,c],okE y:=fun y hy=>by
    simp at hy
    rcases hy with rfl | rfl | rfl <;> assumption
   have hz:szs [a,b,c] + sz d + szs r≤200:=by simp only [szs] at *; omega
   have s1:subL (a :: b :: c :: d :: r) 0 3 = some [a,b,c]:=by
    have:=subL_eq (l:=a :: b :: c :: d :: r) (a:=0) (b:=3) (by simp) (by simp)
    rw [show ((0:Nat):Int) = 0 from rfl,show ((3:Nat):Int) = 3 from rfl] at this
    rw [this]; simp
   have s2:subL (a :: b :: c :: d :: r) 4 ((a :: b :: c :: d :: r).length:Int) = some r:=by
    have:=subL_eq (l:=a :: b :: c :: d :: r) (a:=4) (b:=(a :: b :: c :: d :: r).length) (by simp) (by simp)
    rw [show ((4:Nat):Int) = 4 from rfl] at this
    rw [this]; simp
   have g1:=F179_eq (l:=[a,b,c]) hE3 (by omega) (show 500≤n by omega)
   have a1:=commas_tx_len hE3 (by omega)
   have a2:=assigns_len er (by omega)
   have e1:=commas_ne hE3
   have ld:=ln_txt ed (by omega)
   have nd':=(txt_GX d ed).ne
   have i3:idxL (a :: b :: c :: d :: r) 3 = some d:=idx3 rfl
   have t3:tnth (a :: b :: c :: d :: r) 3 = txt d:=tnth_eq rfl
   simp only [simpL,stmtL,h,hx,Int.reduceBEq,cond_true,cond_false,s1,s2,g1,i3,t3,Option.bind_some,F80k d ed (by omega)]
   cases r with
   | nil =>
    rw [F177_nil]
    have c2:decide (4 < (([a,b,c,d]:List Node).length:Int)) = false:=by simp
    simp only [cond_false,Option.bind_some,onlyL,c2]
    simp (disch:=(simp only [tl_bs,List.length_append,List.length_cons,List.length_nil]; omega)) only [cat_eq,tl_bs,Option.bind_some]
    simp [wd1,wdcn,wdcc,e1,nd']
   | cons q qs =>
    match qs,hkd.2 with
    | [],hp=>simp [pairsB] at hp
    | q2 :: qs,hp2 =>
     have e2:=assigns_ne er
     rw [F177_cons (by simp) hp2 er (by omega) (by omega)]
     have c2:decide (4 < ((a :: b :: c :: d :: q :: q2 :: qs).length:Int)) = true:=by simp; omega
     simp only [cond_true,Option.bind_some,onlyL,c2]
     simp (disch:=(simp only [tl_bs,List.length_append,List.length_cons,List.length_nil]; omega)) only [cat_eq,tl_bs,Option.bind_some]
     simp [wd1,wdcc,e1,nd',e2]
 ·simp [fieldsB,fldGood,h] at hf
  have l1:=ln_path hf.1
  have n1:=(path_GX 3 hf.1).ne
  simp only [simpL,stmtL,h,Int.reduceBEq,cond_true,cond_false]
  simp (disch:=(simp only [tl_bs,List.length_append,List.length_cons,List.length_nil]; omega)) only [cat_eq,tl_bs,Option.bind_some]
  simp [wd1,wdcc,n1]
 ·simp [fieldsB,fldGood,h] at hf
  have l1:=ln_path hf.1
  have n1:=(path_GX 3 hf.1).ne
  simp only [simpL,stmtL,h,Int.reduceBEq,cond_true,cond_false]
  simp (disch:=(simp only [tl_bs,List.length_append,List.length_cons,List.length_nil]; omega)) only [cat_eq,tl_bs,Option.bind_some]
  simp [wd1,wdcc,n1]
 ·simp [fieldsB,fldGood,h] at hf
  have l1:=ln_name hf.1
  have n1:=(name_GX hf.1).ne
  simp only [simpL,stmtL,h,Int.reduceBEq,cond_true,cond_false]
  simp (disch:=(simp only [tl_bs,List.length_append,List.length_cons,List.length_nil]; omega)) only [cat_eq,tl_bs,Option.bind_some]
  simp [wd1,wdcc,n1]
 ·simp [fieldsB,fldGood,h] at hf
  have l1:=ln_name hf.1
  have n1:=(name_GX hf.1).ne
  simp only [simpL,stmtL,h,Int.reduceBEq,cond_true,cond_false]
  simp (disch:=(simp only [tl_bs,List.length_append,List.length_cons,List.length_nil]; omega)) only [cat_eq,tl_bs,Option.bind_some]
  simp [wd1,wdcc,n1]
 ·simp [fieldsB,fldGood,h] at hf
  simp [kidsB,leafK,oneK,h] at hkd
  have hE:∀ y ∈ x.kids,okE y:=fun y hy=>kE y hy (hkd y hy)
  have hc:=commas_tx_len hE (by omega)
  have l1:=ln_path hf.1
  have n1:=(path_GX 3 hf.1).ne
  simp only [simpL,stmtL,h,Int.reduceBEq,cond_true,cond_false]
  rw [F179_eq hE (by omega) (by omega)]
  simp only [Option.bind_some]
  simp (disch:=(simp only [tl_bs,List.length_append,List.length_cons,List.length_nil]; omega)) only [cat_eq,tl_bs,Option.bind_some]
  simp [wd1,wdcc,n1]
 ·simp [fieldsB,fldGood,h] at hf
  have l1:=ln_name hf.1.1
  have n1:=(name_GX hf.1.1).ne
  have l2:=numL_len x.n
  have n2:=(num_GX x.n).ne
  simp only [simpL,stmtL,h,Int.reduceBEq,cond_true,cond_false]
  rw [F175_eq (by simp),itoa_eq hf.1.2]
  cases x.ghost <;> simp only [cond_true,cond_false,Option.bind_some,onlyL] <;>
   simp (disch:=(simp only [tl_bs,List.length_append,List.length_cons,List.length_nil]; omega)) only [cat_eq,tl_bs,Option.bind_some] <;>
   simp [sizedL,wd1,wdn,wdcc,n1,n2]
theorem dec_eq (hT:okT x = true) (hk:x.kind = 61∨x.kind = 52∨x.kind = 50∨x.kind = 53∨x.kind = 54∨x.kind = 55∨x.kind = 56) (hs:sz x≤200) {n:Nat} (hn:600≤n) (d:Int) :
  F122 (n + 1) x d = some (bs (simpL x ++ [59])):=by
 obtain ⟨hf,hkd,hks⟩:=okT_parts hT
 have hsz:=sz_eq x
 have kE:∀ y ∈ x.kids,isE y.kind = true→okE y:=fun y hy he=>⟨hks y hy,he⟩
 have kS:∀ y ∈ x.kids,sz y≤200:=fun y hy=>by have:=szs_mem x.kids y hy; omega
 have one:ex1 eX x.kids = true→∃ a,x.kids[0]? = some a∧okE a∧sz a≤200:=fun h=>by
  obtain ⟨a,ha,he⟩:=ex1_iff h
  exact ⟨a,by simp [ha],kE a (by simp [ha]) he,kS a (by simp [ha])⟩
 have F80k:∀ a,okE a→sz a≤200→F80 n a = some (bs (txt a)):=fun a h1 h2=>F80_eq a h1 h2 n (by omega)
 show F122_step (F122 n) (F181 n) (F180 n) (F121 n) (F77 n) n x d = _
 unfold F122_step
 rcases hk with h | h | h | h | h | h | h
 ·simp [fieldsB,fldGood,h] at hf
  simp [kidsB,leafK,oneK,h] at hkd
  have hE:∀ y ∈ x.kids,okE y:=fun y hy=>kE y hy (by
   have:=hkd y hy
   simp [kX] at this
   rw [this]; rfl)
  have hc:=commas_tx_len hE (by omega)
  have l1:=ln_name hf.1.1
  have n1:=(name_GX hf.1.1).ne
  have l2:=ln_path hf.1.2.1
  have n2:=(path_GX 3 hf.1.2.1).ne
  simp only [simpL,h,Int.reduceBEq,cond_true,cond_false]
  rw [F179_eq hE (by omega) (by omega),F175_eq (by simp)]
  cases x.n == 1 <;> simp only [cond_true,cond_false,Option.bind_some,onlyL] <;>
   simp (disch:=(simp only [tl_bs,List.length_append,List.length_cons,List.length_nil]; omega)) only [cat_eq,tl_bs,Option.bind_some] <;>
   simp [wd1,wdn,wdcc,n1,n2]
 ·simp [fieldsB,fldGood,h] at hf
  have l1:=ln_name hf.1.1
  have n1:=(name_GX hf.1.1).ne
  have l2:=numL_len x.n
  have n2:=(num_GX x.n).ne
  simp only [simpL,h,Int.reduceBEq,cond_true,cond_false,itoa_eq hf.1.2]
  simp (disch:=(simp only [tl_bs,List.length_append,List.length_cons,List.length_nil]; omega)) only [cat_eq,tl_bs,Option.bind_some]
  simp [sizedL,wd1,wdcc,n1,n2]
 ·simp [fieldsB,fldGood,h] at hf
  simp only [simpL,h,Int.reduceBEq,cond_true,cond_false]
  rw [F182_eq hf.1.1 hf.1.2.1 hf.1.2.2.1 hf.1.2.2.2.1 (hf.1.2.2.2.2.imp id And.right)]
  rfl
 ·simp [fieldsB,fldGood,h] at hf
  simp [kidsB,leafK,oneK,h] at hkd
  obtain ⟨a,ha,hE,hS⟩:=one hkd
  have l1:=ln_name hf.1
  have n1:=(name_GX hf.1).ne
  have ht:=ln_txt hE hS
  have hne:=(txt_GX a hE).ne
  simp only [simpL,h,Int.reduceBEq,cond_true,cond_false,idx0 ha,tnth_eq ha,Option.bind_some,F80k a hE hS]
  simp (disch:=(simp only [tl_bs,List.length_append,List.length_cons,List.length_nil]; omega)) only [cat_eq,tl_bs,Option.bind_some]
  simp [wd1,wdcc,n1,hne]
 ·simp [kidsB,leafK,oneK,h] at hkd
  obtain ⟨a,ha,hE,hS⟩:=one hkd
  have ht:=ln_txt hE hS
  have hne:=(txt_GX a hE).ne
  simp only [simpL,h,Int.reduceBEq,cond_true,cond_false,idx0 ha,tnth_eq ha,Option.bind_some,F80k a hE hS]
  simp (disch:=(simp only [tl_bs,List.length_append,List.length_cons,List.length_nil]; omega)) only [cat_eq,tl_bs,Option.bind_some]
  simp [wd1,wdcc,hne]
 ·simp [kidsB,leafK,oneK,h] at hkd
  obtain ⟨a,ha,hE,hS⟩:=one hkd
  have ht:=ln_txt hE hS
  have hne:=(txt_GX a hE).ne
  simp only [simpL,h,Int.reduceBEq,cond_true,cond_false,idx0 ha,tnth_eq ha,Option.bind_some,F80k a hE hS]
  simp (disch:=(simp only [tl_bs,List.length_append,List.length_cons,List.length_nil]; omega)) only [cat_eq,tl_bs,Option.bind_some]
  simp [wd1,wdcc,hne]
 ·simp [kidsB,leafK,oneK,h] at hkd
  have hE:∀ y ∈ x.kids,okE y:=fun y hy=>kE y hy (by
   have:=hkd.2 y hy
   simp [plainX] at this
   rw [this.1]; rfl)
  have hc:=commas_tx_len hE (by omega)
  have hne:commasL (tx x.kids)≠[]:=by
   match hx:x.kids with
   | []=>simp [hx] at hkd
   | a :: r=>rw [hx] at hE; exact commas_ne hE
  simp only [simpL,h,Int.reduceBEq,cond_true,cond_false]
  rw [F179_eq hE (by omega) (by omega)]
  simp only [Option.bind_some]
  simp (disch:=(simp only [tl_bs,List.length_append,List.length_cons,List.length_nil]; omega)) only [cat_eq,tl_bs,Option.bind_some]
  simp [wd1,wdcc,hne]
end
end Go.Proofs.YtbecjgckobhmpaaGreatDoor
end
section
namespace Go.Proofs.YtbecjgckobhmpaaGreatDoor
open Go Go.AM Go.Proofs
def ItemR (m:Nat):Prop:=∀ x,sz x≤m→okT x = true→itemK x.kind = true→∀ d:Nat,d + sz x≤200→∀ n,700 + 6 * sz x≤n→F77 n x (d:Int) = some (bs (linesT (itm d x)))
theorem itm_len {x:Node} (hT:okT x = true) (hk:itemK x.kind = true) {d:Nat} (hd:d + sz x≤200):(linesT (itm d x)).length≤1000000000:=by
 have:=(itemW 200 x (by omega) hT hk d hd).1
 omega
theorem itms_len {l:List Node} (hl:∀ y ∈ l,okT y = true∧itemK y.kind = true) {d:Nat} (hd:d + szs l≤200):(linesT (itms d l)).length≤1000000000:=by
 have:=itms_W (itemW 200) l (fun y hy=>⟨by have:=szs_mem l y hy; omega,hl y hy⟩) d hd
 omega
theorem item_loop {m:Nat} (ih:ItemR m) (l:List Node) (hl:∀ y ∈ l,sz y≤m∧okT y = true∧itemK y.kind = true) (d:Nat) (d':Int) (hd':d' = (d:Int)) (hd:d + szs l≤200) (n n':Nat) (hn:700 + 6 * szs l≤n) (hn':700≤n') (pre:Bytes) (hp:pre.length≤1000) :
  iter (σ:=ByteArray × Int) (ρ:=ByteArray) (fun s1=>bif decide (s1.2 < (l.length:Int)) then
   ((idxL l s1.2).bind fun x3 =>
   (F77 n x3 d').bind fun x4 =>
   (catS s1.1 x4).bind fun x5 =>
   some (.inl (x5,w64 (s1.2 + 1))))
  else
   (some (.inr s1.1))) n' (bs pre,(0:Int)) = some (bs (pre ++ linesT (itms d l))):=by
 have hlen:=szs_len l
 subst hd'
 obtain ⟨r,hr,rfl⟩:=iter_inv (step:=fun s1:ByteArray × Int=>bif decide (s1.2 < (l.length:Int)) then
   ((idxL l s1.2).bind fun x3 =>
   (F77 n x3 (d:Int)).bind fun x4 =>
   (catS s1.1 x4).bind fun x5 =>
   some (.inl (x5,w64 (s1.2 + 1))))
  else
   (some (.inr s1.1))) l (fun (k:Nat) (a:Bytes)=>(bs a,(k:Int))) (fun k a=>a = pre ++ linesT (itms d (l.take k))) (fun r=>r = bs (pre ++ linesT (itms d l)))
  (fun k a y hy ha=>by
   have hlt:=lt_of_get hy
   have hm:=List.mem_of_getElem? hy
   have hsy:=szs_mem l y hm
   have htk:=szs_take_le l k
   have hq:=hl y hm
   have l1:=itms_len (l:=l.take k) (fun z hz=>(hl z (List.mem_of_mem_take hz)).2) (d:=d) (by omega)
   have l2:=itm_len hq.2.1 hq.2.2 (d:=d) (by omega)
   have c1:decide ((k:Int) < (l.length:Int)) = true:=by simpa using hlt
   have c2:w64 ((k:Int) + 1) = ((k + 1:Nat):Int):=w64_nat (by omega)
   have ht:l.take (k + 1) = l.take k ++ [y]:=by rw [List.take_add_one,hy]; rfl
   simp only [c1,c2,cond_true,idxL_some hy,ih y hq.1 hq.2.1 hq.2.2 d (by omega) n (by omega),Option.bind_some]
   rw [cat_eq (by rw [tl_bs,tl_bs,ha]; simp; omega)]
   refine .inl ⟨_,rfl,?_⟩
   rw [tl_bs,tl_bs,ha,ht,itms_snoc,linesT_append,List.append_assoc])
  (fun a ha=>⟨bs a,by
   have c1:decide ((l.length:Int) < (l.length:Int)) = false:=by simp
   simp only [c1,cond_false],by rw [ha]; simp⟩) n' pre (by omega) (by simp [itms,linesT])
 exact hr
def bodyT (d:Nat) (l:List Node):Bytes:=[123,10] ++ (linesT (itms (d + 1) l) ++ (repL [32,32] d ++ [125]))
theorem F181_eq {m:Nat} (ih:ItemR m) (l:List Node) (hl:∀ y ∈ l,sz y≤m∧okT y = true∧itemK y.kind = true) (d:Nat) (hd:d + 1 + szs l≤200) (n:Nat) (hn:701 + 6 * szs l≤n) :
  F181 n l (d:Int) = some (bs (bodyT d l))∧(bodyT d l).length≤2000000000:=by
 obtain ⟨n,rfl⟩:∃ k,n = k + 1:=⟨n - 1,by omega⟩
 have l1:=itms_len (l:=l) (fun z hz=>(hl z hz).2) (d:=d + 1) (by omega)
 have l2:=repL_len [32,32] d
 simp only [List.length_cons,List.length_nil] at l2
 refine ⟨?_,by simp only [bodyT,List.length_append,List.length_cons,List.length_nil]; omega⟩
 show F181_step (F122 n) (F181 n) (F180 n) (F121 n) (F77 n) n l (d:Int) = _
 unfold F181_step
 rw [item_loop ih l hl (d + 1) (w64 ((d:Int) + 1)) (w64_nat (by omega)) hd n n (by omega) (by omega) [123,10] (by simp),F120_eq (by omega) (by omega)]
 simp only [Option.bind_some]
 simp (disch:=(simp only [tl_bs,List.length_append,List.length_cons,List.length_nil]; omega)) only [cat_eq,tl_bs,Option.bind_some]
 simp [bodyT]
theorem F77_stm {x:Node} {n d:Nat} {t:Bytes} (hk:x.kind < 50) (hd:d≤300) (hn:600≤n) (h:F121 n x (d:Int) = some (bs t)) (ht:t.length≤10000000000):F77 (n + 1) x (d:Int) = some (bs (lineT (d,t))):=by
 have l2:=repL_len [32,32] d
 simp only [List.length_cons,List.length_nil] at l2
 show F77_step (F122 n) (F181 n) (F180 n) (F121 n) (F77 n) n x (d:Int) = _
 unfold F77_step
 have c:decide (x.kind < 50) = true:=by simpa using hk
 simp only [c,cond_true,F120_eq hd (show 400≤n by omega),h,Option.bind_some]
 simp (disch:=(simp only [tl_bs,List.length_append,List.length_cons,List.length_nil]; omega)) only [cat_eq,tl_bs,Option.bind_some]
 simp [lineT]
theorem F77_dec {x:Node} {n d:Nat} {t:Bytes} (hk:¬ x.kind < 50) (hd:d≤300) (hn:600≤n) (h:F122 n x (d:Int) = some (bs t)) (ht:t.length≤10000000000):F77 (n + 1) x (d:Int) = some (bs (lineT (d,t))):=by
 have l2:=repL_len [32,32] d
 simp only [List.length_cons,List.length_nil] at l2
 show F77_step (F122 n) (F181 n) (F180 n) (F121 n) (F77 n) n x (d:Int) = _
 unfold F77_step
 have c:decide (x.kind < 50) = false:=by simpa using hk
 simp only [c,cond_false,F120_eq hd (show 400≤n by omega),h,Option.bind_some]
 simp (disch:=(simp only [tl_bs,List.length_append,List.length_cons,List.length_nil]; omega)) only [cat_eq,tl_bs,Option.bind_some]
 simp [lineT]
theorem block_text {d:Nat} {h:Bytes} {l:List Node} (hh:h≠[]):lineT (d,h ++ (32 :: bodyT d l)) = linesT (openL d h :: (itms (d + 1) l ++ [(d,[125])])):=by
 simp [lineT,linesT_cons,linesT_append,linesT_nil,openL,bodyT,wd1,wdcc,hh]
theorem one_line {x:Node} (hT:okT x = true) (hk:oneLine x.kind = true∨x.kind = 22) {d:Nat} (hd:d + sz x≤200) {n:Nat} (hn:700≤n):F77 n x (d:Int) = some (bs (linesT (itm d x))):=by
 have hp:=sz_pos x
 obtain ⟨n,rfl⟩:∃ k,n = k + 2:=⟨n - 2,by omega⟩
 have hkk:¬ x.kind = 60∧¬ x.kind = 51∧¬ x.kind = 57∧¬ x.kind = 31∧¬ x.kind = 32:=by
  simp only [oneLine,Bool.or_eq_true,beq_iff_eq] at hk
  omega
 have e:itm d x = [(d,simpL x ++ [59])]:=by
  rw [itm_eq]
  simp only [nbeq hkk.1,nbeq hkk.2.1,nbeq hkk.2.2.1,nbeq hkk.2.2.2.1,nbeq hkk.2.2.2.2,cond_false,Bool.or_false]
 obtain ⟨_,hl⟩:=F129_eq hT hk (by omega) (n:=600) (by omega)
 rw [e,linesT_cons,linesT_nil,List.append_nil]
 have hk':(x.kind = 61∨x.kind = 52∨x.kind = 50∨x.kind = 53∨x.kind = 54∨x.kind = 55∨x.kind = 56)∨(x.kind = 20∨x.kind = 29∨x.kind = 26∨x.kind = 30∨x.kind = 21∨x.kind = 22∨x.kind = 23∨x.kind = 24∨x.kind = 25∨x.kind = 27∨x.kind = 28∨x.kind = 33∨x.kind = 35):=by
  simp only [oneLine,Bool.or_eq_true,beq_iff_eq] at hk
  omega
 rcases hk' with hk' | hk'
 ·exact F77_dec (by omega) (by omega) (by omega) (dec_eq hT hk' (by omega) (n:=n) (by omega) d) (by simp; omega)
 ·exact F77_stm (by omega) (by omega) (by omega) (stm_eq hT hk' (by omega) (n:=n) (by omega) d) (by simp; omega)
theorem itemR:∀ m,ItemR m:=by
 intro m
 induction m with
 | zero=>intro x hx; have:=sz_pos x; omega
 | succ m ih =>
  intro x hx hT hk d hd n hn
  have hsz:=sz_eq x
  obtain ⟨hf,hkd,hks⟩:=okT_parts hT
  have inner:∀ y ∈ x.kids,y.kind = 34→∀ z ∈ y.kids,sz z≤m∧okT z = true∧itemK z.kind = true:=by
   intro y hy hy34 z hz
   obtain ⟨_,hkd',hks'⟩:=okT_parts (hks y hy)
   simp [kidsB,leafK,oneK,hy34] at hkd'
   have h1:=szs_mem x.kids y hy
   have h2:=sz_eq y
   have h3:=szs_mem y.kids z hz
   exact ⟨by omega,hks' z hz,by simp [itemK,hkd' z hz]⟩
  have innerS:∀ y ∈ x.kids,szs y.kids + 1≤szs x.kids:=by
   intro y hy
   have h1:=szs_mem x.kids y hy
   have h2:=sz_eq y
   omega
  have direct:(∀ y ∈ x.kids,itemK y.kind = true)→∀ y ∈ x.kids,sz y≤m∧okT y = true∧itemK y.kind = true:=fun h y hy=>by
   have h1:=szs_mem x.kids y hy
   exact ⟨by omega,hks y hy,h y hy⟩
  have kE:∀ y ∈ x.kids,isE y.kind = true→okE y:=fun y hy he=>⟨hks y hy,he⟩
  have kS:∀ y ∈ x.kids,sz y≤200:=fun y hy=>by have:=szs_mem x.kids y hy; omega
  have F80k:∀ n,600≤n→∀ a,okE a→sz a≤200→F80 n a = some (bs (txt a)):=fun n hn a h1 h2=>F80_eq a h1 h2 n (by omega)
  rcases item_kinds hk with h | h | h | h | h | h | h
  ·exact one_line hT (.inl h) hd (by omega)
  ·exact one_line hT (.inr h) hd (by omega)
  ·simp [fieldsB,fldGood,h] at hf
   simp [kidsB,leafK,oneK,h] at hkd
   have hl:=direct (fun y hy=>by simp [itemK,hkd y hy])
   have e:itm d x = openL d (headL x) :: (itms (d + 1) x.kids ++ [(d,[125])]):=by
    rw [itm_eq]; simp only [h,Int.reduceBEq,cond_true,Bool.true_or]
   have hg:=(head_GX hT (.inl h)).ne
   rw [e,← block_text hg]
   obtain ⟨n,rfl⟩:∃ k,n = k + 2:=⟨n - 2,by omega⟩
   obtain ⟨f1,f2⟩:=F181_eq ih x.kids hl d (by omega) n (by omega)
   have l1:=ln_name hf.1.1
   have n1:=(name_GX hf.1.1).ne
   have l2:=ln_name hf.1.2
   have n2:=(name_GX hf.1.2).ne
   have eh:headL x = [109,111,100,117,108,101,32] ++ (tl x.name ++ ([32,111,119,110,101,114,32] ++ tl x.other)):=by
    simp [headL,h,wd1,wdcc,n1,n2]
   refine F77_dec (by omega) (by omega) (by omega) ?_ (by rw [eh]; simp only [List.length_append,List.length_cons,List.length_nil]; omega)
   show F122_step (F122 n) (F181 n) (F180 n) (F121 n) (F77 n) n x (d:Int) = _
   unfold F122_step
   simp only [h,Int.reduceBEq,cond_true,cond_false,f1]
   simp (disch:=(simp only [tl_bs,List.length_append,List.length_cons,List.length_nil]; omega)) only [cat_eq,tl_bs,Option.bind_some]
   rw [eh]
   simp
  ·simp [fieldsB,fldGood,h] at hf
   simp [kidsB,leafK,oneK,h] at hkd
   have hl:=direct (fun y hy=>by have:=hkd y hy; simp [kX] at this; simp [itemK,this])
   have e:itm d x = openL d (headL x) :: (itms (d + 1) x.kids ++ [(d,[125])]):=by
    rw [itm_eq]; simp only [h,Int.reduceBEq,cond_true,Bool.or_true]
   have hg:=(head_GX hT (.inr (.inl h))).ne
   rw [e,← block_text hg]
   obtain ⟨n,rfl⟩:∃ k,n = k + 2:=⟨n - 2,by omega⟩
   obtain ⟨f1,f2⟩:=F181_eq ih x.kids hl d (by omega) n (by omega)
   have l1:=ln_name hf.1
   have n1:=(name_GX hf.1).ne
   have eh:headL x = [114,101,99,111,114,100,32] ++ tl x.name:=by
    simp [headL,h,wd1,wdcc,n1]
   refine F77_dec (by omega) (by omega) (by omega) ?_ (by rw [eh]; simp only [List.length_append,List.length_cons,List.length_nil]; omega)
   show F122_step (F122 n) (F181 n) (F180 n) (F121 n) (F77 n) n x (d:Int) = _
   unfold F122_step
   simp only [h,Int.reduceBEq,cond_true,cond_false,f1]
   simp (disch:=(simp only [tl_bs,List.length_append,List.length_cons,List.length_nil]; omega)) only [cat_eq,tl_bs,Option.bind_some]
   rw [eh]
   simp
  ·simp [fieldsB,fldGood,h] at hf
   simp [kidsB,leafK,oneK,h] at hkd
   simp only [procK] at hkd
   split at hkd
   ·rename_i z hz
    simp only [Bool.and_eq_true,beq_iff_eq,List.all_eq_true] at hkd
    have hne:x.kids≠[]:=by intro e; rw [e] at hz; cases hz
    have hzl:x.kids.getLast hne = z:=by rw [List.getLast?_eq_some_getLast hne] at hz; exact Option.some.inj hz
    have hzm:z ∈ x.kids:=List.mem_of_getLast? hz
    have hl:=inner z hzm hkd.1
    have hlen:=szs_len x.kids
    have hs:=innerS z hzm
    have hp:∀ y ∈ x.kids.dropLast,nameB (tl y.name) = true∧inR y.n = true:=by
     intro y hy
     have hk58:y.kind = 58:=by simpa [kX] using hkd.2 y hy
     have:=(okT_parts (hks y (List.dropLast_subset _ hy))).1
     simp [fieldsB,fldGood,hk58] at this
     exact this.1
    have hcl:(commasL (x.kids.dropLast.map sizedL)).length≤30000:=by
     have h1:=joinL_len [44,32] (x.kids.dropLast.map sizedL)
     have h2:=sum_le (x.kids.dropLast.map sizedL) 60 (fun s hs=>by
      simp only [List.mem_map] at hs
      obtain ⟨y,hy,rfl⟩:=hs
      exact sized_len (hp y hy).1)
     simp only [List.length_map,List.length_dropLast,List.length_cons,List.length_nil] at h1 h2
     unfold commasL
     omega
    have e:itm d x = openL d (headL x) :: (itms (d + 1) z.kids ++ [(d,[125])]):=by
     have e1:nthI (inns (d + 1) x.kids) (x.kids.length - 1) = itms (d + 1) z.kids:=by
      rw [inns_map,nthI]
      rw [List.getLast?_eq_getElem?] at hz
      simp [hz]
     rw [itm_eq]
     simp only [h,e1,Int.reduceBEq,cond_true,cond_false,Bool.or_false]
    have hg:=(head_GX hT (.inr (.inr (.inl h)))).ne
    rw [e,← block_text hg]
    obtain ⟨n,rfl⟩:∃ k,n = k + 2:=⟨n - 2,by omega⟩
    obtain ⟨f1,f2⟩:=F181_eq ih z.kids hl d (by omega) n (by omega)
    have hdl:x.kids.dropLast.length≤200:=by simp; omega
    have l1:=ln_name hf.1.1
    have n1:=(name_GX hf.1.1).ne
    cases ho:strEq x.other (bs []) with
    | true =>
     have eh:headL x = [112,114,111,99,32] ++ (tl x.name ++ ([40] ++ (commasL (x.kids.dropLast.map sizedL) ++ [41]))):=by
      simp [headL,h,ho,onlyL,wd1,wdcn,wdcc,n1]
     refine F77_dec (by omega) (by omega) (by omega) ?_ (by rw [eh]; simp only [List.length_append,List.length_cons,List.length_nil]; omega)
     show F122_step (F122 n) (F181 n) (F180 n) (F121 n) (F77 n) n x (d:Int) = _
     unfold F122_step
     simp only [h,ho,Int.reduceBEq,Bool.not_true,cond_false]
     rw [sub_last hne (by omega),idx_last hne (by omega),hzl]
     simp only [Option.bind_some,F183_eq hp hdl (show 300≤n by omega),f1]
     simp (disch:=(simp only [tl_bs,List.length_append,List.length_cons,List.length_nil]; omega)) only [cat_eq,tl_bs,Option.bind_some]
     rw [eh]
     simp
    | false =>
     have hO:nameB (tl x.other) = true:=by
      rcases hf.1.2 with h | h
      ·rw [h] at ho; cases ho
      ·exact h
     have l2:=ln_name hO
     have n2:=(name_GX hO).ne
     have eh:headL x = [112,114,111,99,32] ++ (tl x.name ++ ([40] ++ (commasL (x.kids.dropLast.map sizedL) ++ ([41,32] ++ ([108,111,99,107,101,100,32] ++ tl x.other))))):=by
      simp [headL,h,ho,onlyL,wd1,wdcc,n1,n2]
     refine F77_dec (by omega) (by omega) (by omega) ?_ (by rw [eh]; simp only [List.length_append,List.length_cons,List.length_nil]; omega)
     show F122_step (F122 n) (F181 n) (F180 n) (F121 n) (F77 n) n x (d:Int) = _
     unfold F122_step
     simp only [h,ho,Int.reduceBEq,Bool.not_false,cond_true,cond_false]
     rw [sub_last hne (by omega),idx_last hne (by omega),hzl]
     simp only [Option.bind_some,F183_eq hp hdl (show 300≤n by omega),f1]
     simp (disch:=(simp only [tl_bs,List.length_append,List.length_cons,List.length_nil]; omega)) only [cat_eq,tl_bs,Option.bind_some]
     rw [eh]
     simp
   ·cases hkd
  ·simp [kidsB,leafK,oneK,h] at hkd
   obtain ⟨a,y,z,hx3,ha,hy,hz⟩:=ex3_iff hkd
   have hy':y.kind = 34:=by simpa [kX] using hy
   have hz':z.kind = 34:=by simpa [kX] using hz
   have ea:=kE a (by simp [hx3]) ha
   have sa:=kS a (by simp [hx3])
   have hly:=inner y (by simp [hx3]) hy'
   have hlz:=inner z (by simp [hx3]) hz'
   have hsum:sz x = 1 + (sz a + (sz y + sz z)):=by rw [hsz,hx3]; simp [szs]
   have hsy:=sz_eq y
   have hsz2:=sz_eq z
   have t0:tnth x.kids 0 = txt a:=tnth_eq (by simp [hx3])
   have hne:=(txt_GX a ea).ne
   have lt:=ln_txt ea sa
   have e1:nthI (inns (d + 1) x.kids) 1 = itms (d + 1) y.kids:=by simp [inns_map,nthI,hx3]
   have e2:nthI (inns (d + 1) x.kids) 2 = itms (d + 1) z.kids:=by simp [inns_map,nthI,hx3]
   have e3:elseE x.kids = z.kids.isEmpty:=by simp [elseE,hx3]
   have eh:headL x = [105,102,32] ++ txt a:=by simp [headL,h,t0,wd1,wdcc,hne]
   have e:itm d x = openL d (headL x) :: (itms (d + 1) y.kids ++ ((bif z.kids.isEmpty then [] else (d,[125,32,101,108,115,101,32,123]) :: itms (d + 1) z.kids) ++ [(d,[125])])):=by
    rw [itm_eq]; simp only [h,e1,e2,e3,Int.reduceBEq,cond_true,cond_false,Bool.or_false]
   obtain ⟨n,rfl⟩:∃ k,n = k + 3:=⟨n - 3,by omega⟩
   obtain ⟨f1,f2⟩:=F181_eq ih y.kids hly d (by omega) n (by omega)
   obtain ⟨g1,g2⟩:=F181_eq ih z.kids hlz d (by omega) n (by omega)
   have i0:idxL x.kids 0 = some a:=idx0 (by simp [hx3])
   have i1:idxL x.kids 1 = some y:=idx1 (by simp [hx3])
   have i2:idxL x.kids 2 = some z:=idx2 (by simp [hx3])
   have key:∀ t:Bytes,t.length≤10000000000→F180 (n + 1) x (d:Int) = some (bs t)→F77 (n + 3) x (d:Int) = some (bs (lineT (d,t))):=fun t ht hF=>by
    refine F77_stm (by omega) (by omega) (by omega) ?_ ht
    show F121_step (F122 (n + 1)) (F181 (n + 1)) (F180 (n + 1)) (F121 (n + 1)) (F77 (n + 1)) (n + 1) x (d:Int) = _
    unfold F121_step
    simp only [h,Int.reduceBEq,cond_false,hF,Option.bind_some]
   cases hze:z.kids with
   | nil =>
    have c1:decide (0 < (z.kids.length:Int)) = false:=by simp [hze]
    have et:linesT (itm d x) = lineT (d,headL x ++ (32 :: bodyT d y.kids)):=by
     rw [e,hze]
     rw [block_text (by rw [eh]; simp)]
     simp
    rw [et]
    refine key _ (by rw [eh]; simp only [List.length_append,List.length_cons,List.length_nil]; omega) ?_
    show F180_step (F122 n) (F181 n) (F180 n) (F121 n) (F77 n) n x (d:Int) = _
    unfold F180_step
    simp only [h,Int.reduceBEq,cond_true,cond_false,i0,i1,i2,F80k n (by omega) a ea sa,f1,c1,Option.bind_some]
    simp (disch:=(simp only [tl_bs,List.length_append,List.length_cons,List.length_nil]; omega)) only [cat_eq,tl_bs,Option.bind_some]
    rw [eh]
    simp
   | cons q qs =>
    have c1:decide (0 < (z.kids.length:Int)) = true:=by simp [hze]
    have et:linesT (itm d x) = lineT (d,headL x ++ (32 :: (bodyT d y.kids ++ ([32,101,108,115,101,32] ++ bodyT d z.kids)))):=by
     rw [e,hze]
     simp [lineT,linesT_cons,linesT_append,linesT_nil,openL,bodyT,wd1,wdcc,eh]
    rw [et]
    refine key _ (by rw [eh]; simp only [List.length_append,List.length_cons,List.length_nil]; omega) ?_
    show F180_step (F122 n) (F181 n) (F180 n) (F121 n) (F77 n) n x (d:Int) = _
    unfold F180_step
    simp only [h,Int.reduceBEq,cond_true,i0,i1,i2,F80k n (by omega) a ea sa,f1,g1,c1,Option.bind_some]
    simp (disch:=(simp only [tl_bs,List.length_append,List.length_cons,List.length_nil]; omega)) only [cat_eq,tl_bs,Option.bind_some]
    rw [eh]
    simp
  ·simp [kidsB,leafK,oneK,h] at hkd
   obtain ⟨a,y,z,hx3,ha,hy,hz⟩:=ex3_iff hkd
   have hz':z.kind = 34:=by simpa [kX] using hz
   have ea:=kE a (by simp [hx3]) ha
   have sa:=kS a (by simp [hx3])
   have sy:=kS y (by simp [hx3])
   have hlz:=inner z (by simp [hx3]) hz'
   have hs:=innerS z (by simp [hx3])
   have t0:tnth x.kids 0 = txt a:=tnth_eq (by simp [hx3])
   have t1:tnth x.kids 1 = txt y:=tnth_eq (by simp [hx3])
   have k1:(x.kids[1]?.map Node.kind).getD 0 = y.kind:=by simp [hx3]
   have hne:=(txt_GX a ea).ne
   have lt:=ln_txt ea sa
   have e2:nthI (inns (d + 1) x.kids) 2 = itms (d + 1) z.kids:=by simp [inns_map,nthI,hx3]
   have e:itm d x = openL d (headL x) :: (itms (d + 1) z.kids ++ [(d,[125])]):=by
    rw [itm_eq]; simp only [h,e2,Int.reduceBEq,cond_true,cond_false,Bool.or_false]
   have hg:=(head_GX hT (.inr (.inr (.inr (.inr h))))).ne
   rw [e,← block_text hg]
   obtain ⟨n,rfl⟩:∃ k,n = k + 3:=⟨n - 3,by omega⟩
   obtain ⟨f1,f2⟩:=F181_eq ih z.kids hlz d (by omega) n (by omega)
   have i0:idxL x.kids 0 = some a:=idx0 (by simp [hx3])
   have i1:idxL x.kids 1 = some y:=idx1 (by simp [hx3])
   have i2:idxL x.kids 2 = some z:=idx2 (by simp [hx3])
   have key:∀ t:Bytes,t.length≤10000000000→F180 (n + 1) x (d:Int) = some (bs t)→F77 (n + 3) x (d:Int) = some (bs (lineT (d,t))):=fun t ht hF=>by
    refine F77_stm (by omega) (by omega) (by omega) ?_ ht
    show F121_step (F122 (n + 1)) (F181 (n + 1)) (F180 (n + 1)) (F121 (n + 1)) (F77 (n + 1)) (n + 1) x (d:Int) = _
    unfold F121_step
    simp only [h,Int.reduceBEq,cond_false,hF,Option.bind_some]
   by_cases hy63:y.kind = 63
   ·have c1:(y.kind != 63) = false:=by simp [hy63]
    have eh:headL x = [119,104,105,108,101,32] ++ txt a:=by
     simp only [headL,h,t0,t1,k1,c1,Int.reduceBEq,cond_false,onlyL]
     simp [wd1,wdcn,wdcc,hne]
    refine key _ (by rw [eh]; simp only [List.length_append,List.length_cons,List.length_nil]; omega) ?_
    show F180_step (F122 n) (F181 n) (F180 n) (F121 n) (F77 n) n x (d:Int) = _
    unfold F180_step
    simp only [h,Int.reduceBEq,cond_false,i0,i1,i2,F80k n (by omega) a ea sa,f1,c1,Option.bind_some]
    simp (disch:=(simp only [tl_bs,List.length_append,List.length_cons,List.length_nil]; omega)) only [cat_eq,tl_bs,Option.bind_some]
    rw [eh]
    simp
   ·have c1:(y.kind != 63) = true:=by simpa using hy63
    have ey:okE y:=by
     simp only [enX,Bool.or_eq_true,beq_iff_eq] at hy
     rcases hy with h1 | h1
     ·exact kE y (by simp [hx3]) h1
     ·exact absurd h1 hy63
    have ny:=(txt_GX y ey).ne
    have ly:=ln_txt ey sy
    have eh:headL x = [119,104,105,108,101,32] ++ (txt a ++ ([32,118,97,114,105,97,110,116,32] ++ txt y)):=by
     simp only [headL,h,t0,t1,k1,c1,Int.reduceBEq,cond_false,cond_true,onlyL]
     simp [wd1,wdcc,hne,ny]
    refine key _ (by rw [eh]; simp only [List.length_append,List.length_cons,List.length_nil]; omega) ?_
    show F180_step (F122 n) (F181 n) (F180 n) (F121 n) (F77 n) n x (d:Int) = _
    unfold F180_step
    simp only [h,Int.reduceBEq,cond_true,cond_false,i0,i1,i2,F80k n (by omega) a ea sa,F80k n (by omega) y ey sy,f1,c1,Option.bind_some]
    simp (disch:=(simp only [tl_bs,List.length_append,List.length_cons,List.length_nil]; omega)) only [cat_eq,tl_bs,Option.bind_some]
    rw [eh]
    simp
end Go.Proofs.YtbecjgckobhmpaaGreatDoor
end
section
namespace Go.Proofs.YtbecjgckobhmpaaGreatDoor
open Go Go.AM Go.Proofs
set_option maxRecDepth 100000
theorem F17_all:(fun n=>F17 (n + 120)) = (fun _=>some true):=by kernel_rfl
theorem F17_eq {n:Nat} (hn:120≤n):F17 n = some true:=by
 obtain ⟨m,rfl⟩:∃ m,n = m + 120:=⟨n - 120,by omega⟩
 exact congrFun F17_all m
end Go.Proofs.YtbecjgckobhmpaaGreatDoor
end
section
namespace Go.Proofs.YtbecjgckobhmpaaGreatDoor
open Go Go.AM Go.Proofs
theorem F61_T:∀ (m:Nat) (x:Node),sz x≤m→∀ (lim D:Nat),sz x≤lim→lim≤1500→D≤100→∀ n,2000 + sz x≤n →
  T (F61 n x (lim:Int) (D:Int)) (fun r=>r.2 = decide (dp x≤D)∧(r.2 = true→r.1 = (sz x:Int))):=by
 intro m
 induction m with
 | zero=>intro x hx; have:=sz_pos x; omega
 | succ m ih =>
  intro x hx lim D hlim hl hD n hn
  obtain ⟨n,rfl⟩:∃ k,n = k + 1:=⟨n - 1,by omega⟩
  have hsz:=sz_eq x
  have hdp:=dp_eq x
  have hlen:=szs_len x.kids
  have hpos:=sz_pos x
  show T (F61_step (F61 n) n x (lim:Int) (D:Int)) _
  unfold F61_step
  refine T.cond (fun hc=>T.some ⟨?_,fun h=>by simp at h⟩) (fun hc=>?_)
  ·have hc:D = 0:=by simp at hc; omega
   have:=dp_pos x
   simp
   omega
  have hc:1≤D:=by simp at hc; omega
  refine T.bind (P:=fun r=>match r with | .inl _=>¬ (dp x≤D) | .inr v=>dp x≤D∧v = (sz x:Int)) ?_ (fun r h=>by
   cases r with
   | inl v=>exact T.some ⟨by simpa using h,fun h=>by simp at h⟩
   | inr v=>exact T.some ⟨by simpa using h.1,fun _=>h.2⟩)
  refine iter_inv x.kids (fun (k:Nat) (a:Nat)=>((a:Int),(k:Int))) (fun k a=>a = 1 + szs (x.kids.take k)∧∀ y ∈ x.kids.take k,dp y + 1≤D) _ (fun k a y hy ha=>?_) (fun a ha=>?_) n 1 (by omega) ⟨by simp [szs],by simp⟩
  ·have hlt:=lt_of_get hy
   have hm:=List.mem_of_getElem? hy
   have hys:=szs_mem x.kids y hm
   have htk:=szs_take hy
   have c2:(decide ((k:Int) < (x.kids.length:Int)) && decide ((a:Int)≤(lim:Int))) = true:=by simp; omega
   have e1:w64 ((lim:Int) - (a:Int)) = ((lim - a:Nat):Int):=by rw [w64_id (by omega) (by omega)]; omega
   have e2:w64 ((D:Int) - 1) = ((D - 1:Nat):Int):=by rw [w64_id (by omega) (by omega)]; omega
   obtain ⟨r,hr,hr1,hr2⟩:=ih y (by omega) (lim - a) (D - 1) (by omega) (by omega) (by omega) n (by omega)
   simp only [c2,cond_true,idxL_some hy,Option.bind_some,e1,e2,hr,w64_nat (k:=k) (by omega)]
   cases hb:r.2
   ·right
    refine ⟨_,rfl,?_⟩
    rw [hb] at hr1
    have hr1':¬ (dp y≤D - 1):=by
     have:=hr1.symm
     simpa using this
    have:dp y≤dps x.kids:=(dps_le x.kids (dps x.kids)).1 (Nat.le_refl _) y hm
    show ¬ (dp x≤D)
    omega
   ·left
    have e3:w64 ((a:Int) + r.1) = ((a + sz y:Nat):Int):=by rw [hr2 hb,w64_id (by omega) (by omega)]; omega
    refine ⟨a + sz y,?_,?_,?_⟩
    ·simp only [Bool.not_true,cond_false,e3]
    ·rw [szs_take_succ hy]; omega
    ·intro z hz
     rw [List.take_add_one,hy] at hz
     simp only [List.mem_append,Option.toList_some,List.mem_singleton] at hz
     rcases hz with hz | rfl
     ·exact ha.2 z hz
     ·rw [hb] at hr1
      have:dp z≤D - 1:=by simpa using hr1.symm
      omega
  ·have c2:(decide ((x.kids.length:Int) < (x.kids.length:Int)) && decide ((a:Int)≤(lim:Int))) = false:=by simp
   simp only [c2,cond_false]
   refine ⟨_,rfl,?_,?_⟩
   ·have:dps x.kids≤D - 1:=(dps_le _ _).2 (fun y hy=>by have:=ha.2 y (by simpa using hy); omega)
    omega
   ·rw [ha.1]
    simp only [List.take_length]
    omega
theorem F27_eq (x:Node) (hs:sz x≤200) {n:Nat} (hn:3000≤n):F27 n x = some (decide (dp x≤40)):=by
 obtain ⟨r,hr,h1,h2⟩:=F61_T (sz x) x (Nat.le_refl _) 1500 40 (by omega) (by omega) (by omega) n (by omega)
 unfold F27
 erw [hr]
 simp only [Option.bind_some]
 congr 1
 cases hb:r.2
 ·rw [hb] at h1
  rw [← h1]
  rfl
 ·rw [h2 hb,← h1,hb]
  simp
  omega
theorem F31_T {b:Nat} (hb:b≤9223372036854775807) (x:Node) (hlim:Lim b x) (hs:sz x≤200) {n:Nat} (hn:b + 5000≤n):T (F31 n x) (fun v=>v = true→validB x = true):=by
 unfold F31
 rw [F27_eq x hs (by omega)]
 simp only [Option.bind_some]
 refine T.cond (fun hd=>?_) (fun _=>T.some no)
 refine T.bind (P:=fun v=>v = true→(x.kind == 62 || isE x.kind) = true∧okT x = true) ?_ (fun v hv=>T.some fun h=>?_)
 ·unfold F69
  refine T.cond (fun h=>?_) (fun _=>?_)
  ·have h:x.kind = 62:=by simpa using h
   refine (F104_T x [] (by simp) (by omega)).bind fun v o=>T.cond (fun hv=>?_) (fun _=>T.some no)
   obtain ⟨n,rfl⟩:∃ k,n = k + 2:=⟨n - 2,by omega⟩
   have hlen:=szs_len x.kids
   have hsz:=sz_eq x
   obtain ⟨_,h1,h2,h3,h4⟩:=hlim
   refine (F105_T (N:=b) hb (n:=n) (by omega) x 5 (fun y hy=>?_) (by omega)).bind fun w hw=>T.some fun hb'=>?_
   ·have hys:=szs_mem x.kids y hy
    have hl:=h4 y hy
    refine ⟨?_,cl_all hb (sz y) y (Nat.le_refl _) (by omega) hl n (by omega)⟩
    cases hl with
    | mk _ a1 a2 _ _=>exact ⟨a1,a2⟩
   ·have hE:∀ y ∈ x.kids,okT y = true∧isItm y.kind = true:=fun y hy=>by simpa [Cls] using hw hb' y hy
    refine ⟨by simp [h],okT_mk (fields_of (o hv) (by simp [fldGood,h]) (by simp) (by simp) (by simp) (by simp) (by simp) (by simp)) ?_ (fun y hy=>(hE y hy).1)⟩
    simp [kidsB,leafK,oneK,h]
    exact fun y hy=>(hE y hy).2
  ·refine ((cl_all hb (sz x) x (Nat.le_refl _) hs hlim n (by omega)).e).bind fun v hv=>T.some fun h=>?_
   obtain ⟨h1,h2⟩:=hv h
   exact ⟨by simp [h2],h1⟩
 ·obtain ⟨h1,h2⟩:=hv h
  simp [validB,h2,hd]
  simpa using h1
theorem F78_T2 {s:ByteArray} {n:Nat} (hn:5000≤n):T (F78 n s) (fun r=>r.2 = 0→r.1 = s∧∃ q,F39 n s = some q∧q.2.1 = 0):=by
 unfold F78
 obtain ⟨q,hq,_⟩:=F39_T (s:=s) hn
 rw [hq]
 simp only [Option.bind_some]
 refine T.cond (fun _=>T.some (fun h=>by simp at h)) (fun h=>T.some fun _=>⟨rfl,q,rfl,by simpa using h⟩)
theorem F49_T {b:Nat} (hb:b≤9223372036854775807) (x:Node) (hlim:Lim b x) (hs:sz x≤190) {n:Nat} (hn:b + 5000≤n) :
  T (F49 n x) (fun r=>r.2 = 0→x.kind = 62∧validB x = true∧r.1 = bs (srcT x)∧∃ q,F39 n (bs (srcT x)) = some q∧q.2.1 = 0):=by
 unfold F49
 refine (F31_T hb x hlim (by omega) hn).bind fun v hv=>?_
 refine T.cond (fun _=>T.some (fun h=>by simp at h)) (fun hc=>?_)
 have hc':v = true∧x.kind = 62:=by simpa using hc
 have hval:=hv hc'.1
 have h:=hc'.2
 have hT:okT x = true:=by simp only [validB,Bool.and_eq_true] at hval; exact hval.2.2
 obtain ⟨hf,hkd,hks⟩:=okT_parts hT
 simp [kidsB,leafK,oneK,h] at hkd
 have hsz:=sz_eq x
 rw [item_loop (itemR 200) x.kids (fun y hy=>by
  have:=szs_mem x.kids y hy
  exact ⟨by omega,hks y hy,by simp [itemK,hkd y hy]⟩) 0 0 rfl (by omega) n n (by omega) (by omega) [] (by simp)]
 simp only [Option.bind_some,List.nil_append]
 refine (F78_T2 (s:=bs (linesT (itms 0 x.kids))) (by omega)).bind fun r hr=>T.some fun h0=>?_
 obtain ⟨h1,h2⟩:=hr h0
 exact ⟨h,hval,h1,h2⟩
theorem F18_T {b:Nat} (hb:b≤9223372036854775807) (x:Node) (hlim:Lim b x) {n:Nat} (hn:b + 5000≤n) :
  T (F18 n x) (fun v=>v = true→sz x≤120∧x.kind = 62∧validB x = true∧∃ q,F39 n (bs (srcT x)) = some q∧q.2.1 = 0):=by
 unfold F18
 refine (F45_T x (by omega)).bind fun v hv=>T.cond (fun _=>T.some no) (fun hc=>?_)
 have hs:=hv (by simpa using hc)
 refine (F49_T hb x hlim (by omega) hn).bind fun r hr=>T.some fun h=>?_
 obtain ⟨h1,h2,_,h4⟩:=hr (by simpa using h)
 exact ⟨hs,h1,h2,h4⟩
end Go.Proofs.YtbecjgckobhmpaaGreatDoor
end
section
namespace Go.Proofs.YtbecjgckobhmpaaGreatDoor
open Go Go.AM Go.Proofs
theorem WfN.lim {x:Node} (h:WfN x):Lim maxLen x:=by
 induction h with
 | mk x h1 h2 h3 h4 h5 h6 h7 h8 h9 ih=>exact .mk x (by rw [← size_tl]; exact h2) (by rw [← size_tl]; exact h3) h7 ih
theorem law3 (x:Node) (h:WfN x):∃ n,F3 n x = some true:=by
 have hb:maxLen≤9223372036854775807:=by decide
 obtain ⟨v,hv,h1⟩:=F18_T hb x h.lim (n:=maxLen + 5000) (Nat.le_refl _)
 exact ⟨maxLen + 5000,F3_of (by omega) (F17_eq (by omega)) ⟨v,hv,fun e=>(h1 e).1⟩ hb h.lim⟩
end Go.Proofs.YtbecjgckobhmpaaGreatDoor
end
section
namespace Go.Proofs.YtbecjgckobhmpaaGreatDoor
open Go Go.AM Go.Proofs
set_option maxRecDepth 100000
theorem printerLayout_said:Rows.PrinterLayoutSaid:=holds3 law3
theorem hl3:∀ f fn,Tryz.pinned.checked.prog.funcNamed Rows.printerLayoutRow.func = some f→Tryz.pinned.checked.prog.funcs[f]? = some fn →
  true = Tryz.pinned.checked.prog.looks []∧∀ (j:Nat) t,fn.params[j]? = some t→Tryz.pinned.checked.prog.wantsStandIn t = false:=fun f fn hf hfn=>by
 obtain rfl:f = 3:=Option.some.inj (named3.symm.trans hf) |>.symm
 obtain rfl:fn = Tryz.f3:=(Option.some.inj (Tryz.func3.symm.trans hfn)).symm
 refine ⟨looks_ok,fun j t ht=>?_⟩
 rw [Tryz.params3] at ht
 have h3:t = 24:=by
  rcases j with _ | j
  ·simpa using ht.symm
  ·simp at ht
 subst h3
 exact noStand24
theorem printerLayout_card:Rows.PrinterLayoutCardSaid :=
 Claim7.holds_tied_plain_at .later [] [.data, .data, .data, .data, .data] true (true, "2c71bd9c32cec8dbcba7c163806e698ca6c65506520b8081d9b2cc6a0913ebf0") true
  printerLayout_said (fun _ h=>by cases h) wf3 (fun _ h=>by cases h) printerLayout_row_tie rfl ⟨rfl,rfl⟩ harness_ok rfl hl3 goes3
#print axioms printerLayout_card
end Go.Proofs.YtbecjgckobhmpaaGreatDoor
end
