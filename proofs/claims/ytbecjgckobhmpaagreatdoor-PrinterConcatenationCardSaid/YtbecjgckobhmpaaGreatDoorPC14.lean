/-
  The card of PrinterConcatenation is proved: for every tree the law returns true and leaves the tree as it was; the package-level variables start as the program's text lays them.
-/
import Derived.Test.YtbecjgckobhmpaaGreatDoorPC13
section
namespace Go.Proofs.YtbecjgckobhmpaaGreatDoor
open Go Go.AM Go.Proofs
def ItemR (m:Nat):Prop:=∀ x,sz x≤m→okT x = true→itemK x.kind = true→∀ d:Nat,d + sz x≤200→∀ n,700 + 6 * sz x≤n→F77 n x (d:Int) = some (bs (linesT (itm d x)))
theorem itm_len {x:Node} (hT:okT x = true) (hk:itemK x.kind = true) {d:Nat} (hd:d + sz x≤200):(linesT (itm d x)).length≤1000000000:=by
 have:=(itemW 200 x (by omega) hT hk d hd).1
 omega
theorem itms_len {l:List Node} (hl:∀ y ∈ l,okT y = true∧itemK y.kind = true) {d:Nat} (hd:d + szs l≤200):(linesT (itms d l)).length≤1000000000:=by
 have:=itms_W (itemW 200) l (fun y hy=>⟨by have:=szs_mem l y hy; omega,hl y hy⟩) d hd
 omega
theorem item_loop {m:Nat} (ih:ItemR m) (l:List Node) (hl:∀ y ∈ l,sz y≤m∧okT y = true∧itemK y.kind = true) (d:Nat) (d':Int) (hd':d' = (d:Int)) (hd:d + szs l≤200) (n n':Nat) (hn:700 + 6 * szs l≤n) (hn':700≤n') (pre:Bytes) (hp:pre.length≤1000) :
  iter (σ:=ByteArray × Int) (ρ:=ByteArray) (fun s1=>bif decide (s1.2 < (l.length:Int)) then
   ((idxL l s1.2).bind fun x3 =>
   (F77 n x3 d').bind fun x4 =>
   (catS s1.1 x4).bind fun x5 =>
   some (.inl (x5,w64 (s1.2 + 1))))
  else
   (some (.inr s1.1))) n' (bs pre,(0:Int)) = some (bs (pre ++ linesT (itms d l))):=by
 have hlen:=szs_len l
 subst hd'
 obtain ⟨r,hr,rfl⟩:=iter_inv (step:=fun s1:ByteArray × Int=>bif decide (s1.2 < (l.length:Int)) then
   ((idxL l s1.2).bind fun x3 =>
   (F77 n x3 (d:Int)).bind fun x4 =>
   (catS s1.1 x4).bind fun x5 =>
   some (.inl (x5,w64 (s1.2 + 1))))
  else
   (some (.inr s1.1))) l (fun (k:Nat) (a:Bytes)=>(bs a,(k:Int))) (fun k a=>a = pre ++ linesT (itms d (l.take k))) (fun r=>r = bs (pre ++ linesT (itms d l)))
  (fun k a y hy ha=>by
   have hlt:=lt_of_get hy
   have hm:=List.mem_of_getElem? hy
   have hsy:=szs_mem l y hm
   have htk:=szs_take_le l k
   have hq:=hl y hm
   have l1:=itms_len (l:=l.take k) (fun z hz=>(hl z (List.mem_of_mem_take hz)).2) (d:=d) (by omega)
   have l2:=itm_len hq.2.1 hq.2.2 (d:=d) (by omega)
   have c1:decide ((k:Int) < (l.length:Int)) = true:=by simpa using hlt
   have c2:w64 ((k:Int) + 1) = ((k + 1:Nat):Int):=w64_nat (by omega)
   have ht:l.take (k + 1) = l.take k ++ [y]:=by rw [List.take_add_one,hy]; rfl
   simp only [c1,c2,cond_true,idxL_some hy,ih y hq.1 hq.2.1 hq.2.2 d (by omega) n (by omega),Option.bind_some]
   rw [cat_eq (by rw [tl_bs,tl_bs,ha]; simp; omega)]
   refine .inl ⟨_,rfl,?_⟩
   rw [tl_bs,tl_bs,ha,ht,itms_snoc,linesT_append,List.append_assoc])
  (fun a ha=>⟨bs a,by
   have c1:decide ((l.length:Int) < (l.length:Int)) = false:=by simp
   simp only [c1,cond_false],by rw [ha]; simp⟩) n' pre (by omega) (by simp [itms,linesT])
 exact hr
def bodyT (d:Nat) (l:List Node):Bytes:=[123,10] ++ (linesT (itms (d + 1) l) ++ (repL [32,32] d ++ [125]))
theorem F181_eq {m:Nat} (ih:ItemR m) (l:List Node) (hl:∀ y ∈ l,sz y≤m∧okT y = true∧itemK y.kind = true) (d:Nat) (hd:d + 1 + szs l≤200) (n:Nat) (hn:701 + 6 * szs l≤n) :
  F181 n l (d:Int) = some (bs (bodyT d l))∧(bodyT d l).length≤2000000000:=by
 obtain ⟨n,rfl⟩:∃ k,n = k + 1:=⟨n - 1,by omega⟩
 have l1:=itms_len (l:=l) (fun z hz=>(hl z hz).2) (d:=d + 1) (by omega)
 have l2:=repL_len [32,32] d
 simp only [List.length_cons,List.length_nil] at l2
 refine ⟨?_,by simp only [bodyT,List.length_append,List.length_cons,List.length_nil]; omega⟩
 show F181_step (F122 n) (F181 n) (F180 n) (F121 n) (F77 n) n l (d:Int) = _
 unfold F181_step
 rw [item_loop ih l hl (d + 1) (w64 ((d:Int) + 1)) (w64_nat (by omega)) hd n n (by omega) (by omega) [123,10] (by simp),F120_eq (by omega) (by omega)]
 simp only [Option.bind_some]
 simp (disch:=(simp only [tl_bs,List.length_append,List.length_cons,List.length_nil]; omega)) only [cat_eq,tl_bs,Option.bind_some]
 simp [bodyT]
theorem F77_stm {x:Node} {n d:Nat} {t:Bytes} (hk:x.kind < 50) (hd:d≤300) (hn:600≤n) (h:F121 n x (d:Int) = some (bs t)) (ht:t.length≤10000000000):F77 (n + 1) x (d:Int) = some (bs (lineT (d,t))):=by
 have l2:=repL_len [32,32] d
 simp only [List.length_cons,List.length_nil] at l2
 show F77_step (F122 n) (F181 n) (F180 n) (F121 n) (F77 n) n x (d:Int) = _
 unfold F77_step
 have c:decide (x.kind < 50) = true:=by simpa using hk
 simp only [c,cond_true,F120_eq hd (show 400≤n by omega),h,Option.bind_some]
 simp (disch:=(simp only [tl_bs,List.length_append,List.length_cons,List.length_nil]; omega)) only [cat_eq,tl_bs,Option.bind_some]
 simp [lineT]
theorem F77_dec {x:Node} {n d:Nat} {t:Bytes} (hk:¬ x.kind < 50) (hd:d≤300) (hn:600≤n) (h:F122 n x (d:Int) = some (bs t)) (ht:t.length≤10000000000):F77 (n + 1) x (d:Int) = some (bs (lineT (d,t))):=by
 have l2:=repL_len [32,32] d
 simp only [List.length_cons,List.length_nil] at l2
 show F77_step (F122 n) (F181 n) (F180 n) (F121 n) (F77 n) n x (d:Int) = _
 unfold F77_step
 have c:decide (x.kind < 50) = false:=by simpa using hk
 simp only [c,cond_false,F120_eq hd (show 400≤n by omega),h,Option.bind_some]
 simp (disch:=(simp only [tl_bs,List.length_append,List.length_cons,List.length_nil]; omega)) only [cat_eq,tl_bs,Option.bind_some]
 simp [lineT]
theorem block_text {d:Nat} {h:Bytes} {l:List Node} (hh:h≠[]):lineT (d,h ++ (32 :: bodyT d l)) = linesT (openL d h :: (itms (d + 1) l ++ [(d,[125])])):=by
 simp [lineT,linesT_cons,linesT_append,linesT_nil,openL,bodyT,wd1,wdcc,hh]
theorem one_line {x:Node} (hT:okT x = true) (hk:oneLine x.kind = true∨x.kind = 22) {d:Nat} (hd:d + sz x≤200) {n:Nat} (hn:700≤n):F77 n x (d:Int) = some (bs (linesT (itm d x))):=by
 have hp:=sz_pos x
 obtain ⟨n,rfl⟩:∃ k,n = k + 2:=⟨n - 2,by omega⟩
 have hkk:¬ x.kind = 60∧¬ x.kind = 51∧¬ x.kind = 57∧¬ x.kind = 31∧¬ x.kind = 32:=by
  simp only [oneLine,Bool.or_eq_true,beq_iff_eq] at hk
  omega
 have e:itm d x = [(d,simpL x ++ [59])]:=by
  rw [itm_eq]
  simp only [nbeq hkk.1,nbeq hkk.2.1,nbeq hkk.2.2.1,nbeq hkk.2.2.2.1,nbeq hkk.2.2.2.2,cond_false,Bool.or_false]
 obtain ⟨_,hl⟩:=F129_eq hT hk (by omega) (n:=600) (by omega)
 rw [e,linesT_cons,linesT_nil,List.append_nil]
 have hk':(x.kind = 61∨x.kind = 52∨x.kind = 50∨x.kind = 53∨x.kind = 54∨x.kind = 55∨x.kind = 56)∨(x.kind = 20∨x.kind = 29∨x.kind = 26∨x.kind = 30∨x.kind = 21∨x.kind = 22∨x.kind = 23∨x.kind = 24∨x.kind = 25∨x.kind = 27∨x.kind = 28∨x.kind = 33∨x.kind = 35):=by
  simp only [oneLine,Bool.or_eq_true,beq_iff_eq] at hk
  omega
 rcases hk' with hk' | hk'
 ·exact F77_dec (by omega) (by omega) (by omega) (dec_eq hT hk' (by omega) (n:=n) (by omega) d) (by simp; omega)
 ·exact F77_stm (by omega) (by omega) (by omega) (stm_eq hT hk' (by omega) (n:=n) (by omega) d) (by simp; omega)
theorem itemR:∀ m,ItemR m:=by
 intro m
 induction m with
 | zero=>intro x hx; have:=sz_pos x; omega
 | succ m ih =>
  intro x hx hT hk d hd n hn
  have hsz:=sz_eq x
  obtain ⟨hf,hkd,hks⟩:=okT_parts hT
  have inner:∀ y ∈ x.kids,y.kind = 34→∀ z ∈ y.kids,sz z≤m∧okT z = true∧itemK z.kind = true:=by
   intro y hy hy34 z hz
   obtain ⟨_,hkd',hks'⟩:=okT_parts (hks y hy)
   simp [kidsB,leafK,oneK,hy34] at hkd'
   have h1:=szs_mem x.kids y hy
   have h2:=sz_eq y
   have h3:=szs_mem y.kids z hz
   exact ⟨by omega,hks' z hz,by simp [itemK,hkd' z hz]⟩
  have innerS:∀ y ∈ x.kids,szs y.kids + 1≤szs x.kids:=by
   intro y hy
   have h1:=szs_mem x.kids y hy
   have h2:=sz_eq y
   omega
  have direct:(∀ y ∈ x.kids,itemK y.kind = true)→∀ y ∈ x.kids,sz y≤m∧okT y = true∧itemK y.kind = true:=fun h y hy=>by
   have h1:=szs_mem x.kids y hy
   exact ⟨by omega,hks y hy,h y hy⟩
  have kE:∀ y ∈ x.kids,isE y.kind = true→okE y:=fun y hy he=>⟨hks y hy,he⟩
  have kS:∀ y ∈ x.kids,sz y≤200:=fun y hy=>by have:=szs_mem x.kids y hy; omega
  have F80k:∀ n,600≤n→∀ a,okE a→sz a≤200→F80 n a = some (bs (txt a)):=fun n hn a h1 h2=>F80_eq a h1 h2 n (by omega)
  rcases item_kinds hk with h | h | h | h | h | h | h
  ·exact one_line hT (.inl h) hd (by omega)
  ·exact one_line hT (.inr h) hd (by omega)
  ·simp [fieldsB,fldGood,h] at hf
   simp [kidsB,leafK,oneK,h] at hkd
   have hl:=direct (fun y hy=>by simp [itemK,hkd y hy])
   have e:itm d x = openL d (headL x) :: (itms (d + 1) x.kids ++ [(d,[125])]):=by
    rw [itm_eq]; simp only [h,Int.reduceBEq,cond_true,Bool.true_or]
   have hg:=(head_GX hT (.inl h)).ne
   rw [e,← block_text hg]
   obtain ⟨n,rfl⟩:∃ k,n = k + 2:=⟨n - 2,by omega⟩
   obtain ⟨f1,f2⟩:=F181_eq ih x.kids hl d (by omega) n (by omega)
   have l1:=ln_name hf.1.1
   have n1:=(name_GX hf.1.1).ne
   have l2:=ln_name hf.1.2
   have n2:=(name_GX hf.1.2).ne
   have eh:headL x = [109,111,100,117,108,101,32] ++ (tl x.name ++ ([32,111,119,110,101,114,32] ++ tl x.other)):=by
    simp [headL,h,wd1,wdcc,n1,n2]
   refine F77_dec (by omega) (by omega) (by omega) ?_ (by rw [eh]; simp only [List.length_append,List.length_cons,List.length_nil]; omega)
   show F122_step (F122 n) (F181 n) (F180 n) (F121 n) (F77 n) n x (d:Int) = _
   unfold F122_step
   simp only [h,Int.reduceBEq,cond_true,cond_false,f1]
   simp (disch:=(simp only [tl_bs,List.length_append,List.length_cons,List.length_nil]; omega)) only [cat_eq,tl_bs,Option.bind_some]
   rw [eh]
   simp
  ·simp [fieldsB,fldGood,h] at hf
   simp [kidsB,leafK,oneK,h] at hkd
   have hl:=direct (fun y hy=>by have:=hkd y hy; simp [kX] at this; simp [itemK,this])
   have e:itm d x = openL d (headL x) :: (itms (d + 1) x.kids ++ [(d,[125])]):=by
    rw [itm_eq]; simp only [h,Int.reduceBEq,cond_true,Bool.or_true]
   have hg:=(head_GX hT (.inr (.inl h))).ne
   rw [e,← block_text hg]
   obtain ⟨n,rfl⟩:∃ k,n = k + 2:=⟨n - 2,by omega⟩
   obtain ⟨f1,f2⟩:=F181_eq ih x.kids hl d (by omega) n (by omega)
   have l1:=ln_name hf.1
   have n1:=(name_GX hf.1).ne
   have eh:headL x = [114,101,99,111,114,100,32] ++ tl x.name:=by
    simp [headL,h,wd1,wdcc,n1]
   refine F77_dec (by omega) (by omega) (by omega) ?_ (by rw [eh]; simp only [List.length_append,List.length_cons,List.length_nil]; omega)
   show F122_step (F122 n) (F181 n) (F180 n) (F121 n) (F77 n) n x (d:Int) = _
   unfold F122_step
   simp only [h,Int.reduceBEq,cond_true,cond_false,f1]
   simp (disch:=(simp only [tl_bs,List.length_append,List.length_cons,List.length_nil]; omega)) only [cat_eq,tl_bs,Option.bind_some]
   rw [eh]
   simp
  ·simp [fieldsB,fldGood,h] at hf
   simp [kidsB,leafK,oneK,h] at hkd
   simp only [procK] at hkd
   split at hkd
   ·rename_i z hz
    simp only [Bool.and_eq_true,beq_iff_eq,List.all_eq_true] at hkd
    have hne:x.kids≠[]:=by intro e; rw [e] at hz; cases hz
    have hzl:x.kids.getLast hne = z:=by rw [List.getLast?_eq_some_getLast hne] at hz; exact Option.some.inj hz
    have hzm:z ∈ x.kids:=List.mem_of_getLast? hz
    have hl:=inner z hzm hkd.1
    have hlen:=szs_len x.kids
    have hs:=innerS z hzm
    have hp:∀ y ∈ x.kids.dropLast,nameB (tl y.name) = true∧inR y.n = true:=by
     intro y hy
     have hk58:y.kind = 58:=by simpa [kX] using hkd.2 y hy
     have:=(okT_parts (hks y (List.dropLast_subset _ hy))).1
     simp [fieldsB,fldGood,hk58] at this
     exact this.1
    have hcl:(commasL (x.kids.dropLast.map sizedL)).length≤30000:=by
     have h1:=joinL_len [44,32] (x.kids.dropLast.map sizedL)
     have h2:=sum_le (x.kids.dropLast.map sizedL) 60 (fun s hs=>by
      simp only [List.mem_map] at hs
      obtain ⟨y,hy,rfl⟩:=hs
      exact sized_len (hp y hy).1)
     simp only [List.length_map,List.length_dropLast,List.length_cons,List.length_nil] at h1 h2
     unfold commasL
     omega
    have e:itm d x = openL d (headL x) :: (itms (d + 1) z.kids ++ [(d,[125])]):=by
     have e1:nthI (inns (d + 1) x.kids) (x.kids.length - 1) = itms (d + 1) z.kids:=by
      rw [inns_map,nthI]
      rw [List.getLast?_eq_getElem?] at hz
      simp [hz]
     rw [itm_eq]
     simp only [h,e1,Int.reduceBEq,cond_true,cond_false,Bool.or_false]
    have hg:=(head_GX hT (.inr (.inr (.inl h)))).ne
    rw [e,← block_text hg]
    obtain ⟨n,rfl⟩:∃ k,n = k + 2:=⟨n - 2,by omega⟩
    obtain ⟨f1,f2⟩:=F181_eq ih z.kids hl d (by omega) n (by omega)
    have hdl:x.kids.dropLast.length≤200:=by simp; omega
    have l1:=ln_name hf.1.1
    have n1:=(name_GX hf.1.1).ne
    cases ho:strEq x.other (bs []) with
    | true =>
     have eh:headL x = [112,114,111,99,32] ++ (tl x.name ++ ([40] ++ (commasL (x.kids.dropLast.map sizedL) ++ [41]))):=by
      simp [headL,h,ho,onlyL,wd1,wdcn,wdcc,n1]
     refine F77_dec (by omega) (by omega) (by omega) ?_ (by rw [eh]; simp only [List.length_append,List.length_cons,List.length_nil]; omega)
     show F122_step (F122 n) (F181 n) (F180 n) (F121 n) (F77 n) n x (d:Int) = _
     unfold F122_step
     simp only [h,ho,Int.reduceBEq,Bool.not_true,cond_false]
     rw [sub_last hne (by omega),idx_last hne (by omega),hzl]
     simp only [Option.bind_some,F183_eq hp hdl (show 300≤n by omega),f1]
     simp (disch:=(simp only [tl_bs,List.length_append,List.length_cons,List.length_nil]; omega)) only [cat_eq,tl_bs,Option.bind_some]
     rw [eh]
     simp
    | false =>
     have hO:nameB (tl x.other) = true:=by
      rcases hf.1.2 with h | h
      ·rw [h] at ho; cases ho
      ·exact h
     have l2:=ln_name hO
     have n2:=(name_GX hO).ne
     have eh:headL x = [112,114,111,99,32] ++ (tl x.name ++ ([40] ++ (commasL (x.kids.dropLast.map sizedL) ++ ([41,32] ++ ([108,111,99,107,101,100,32] ++ tl x.other))))):=by
      simp [headL,h,ho,onlyL,wd1,wdcc,n1,n2]
     refine F77_dec (by omega) (by omega) (by omega) ?_ (by rw [eh]; simp only [List.length_append,List.length_cons,List.length_nil]; omega)
     show F122_step (F122 n) (F181 n) (F180 n) (F121 n) (F77 n) n x (d:Int) = _
     unfold F122_step
     simp only [h,ho,Int.reduceBEq,Bool.not_false,cond_true,cond_false]
     rw [sub_last hne (by omega),idx_last hne (by omega),hzl]
     simp only [Option.bind_some,F183_eq hp hdl (show 300≤n by omega),f1]
     simp (disch:=(simp only [tl_bs,List.length_append,List.length_cons,List.length_nil]; omega)) only [cat_eq,tl_bs,Option.bind_some]
     rw [eh]
     simp
   ·cases hkd
  ·simp [kidsB,leafK,oneK,h] at hkd
   obtain ⟨a,y,z,hx3,ha,hy,hz⟩:=ex3_iff hkd
   have hy':y.kind = 34:=by simpa [kX] using hy
   have hz':z.kind = 34:=by simpa [kX] using hz
   have ea:=kE a (by simp [hx3]) ha
   have sa:=kS a (by simp [hx3])
   have hly:=inner y (by simp [hx3]) hy'
   have hlz:=inner z (by simp [hx3]) hz'
   have hsum:sz x = 1 + (sz a + (sz y + sz z)):=by rw [hsz,hx3]; simp [szs]
   have hsy:=sz_eq y
   have hsz2:=sz_eq z
   have t0:tnth x.kids 0 = txt a:=tnth_eq (by simp [hx3])
   have hne:=(txt_GX a ea).ne
   have lt:=ln_txt ea sa
   have e1:nthI (inns (d + 1) x.kids) 1 = itms (d + 1) y.kids:=by simp [inns_map,nthI,hx3]
   have e2:nthI (inns (d + 1) x.kids) 2 = itms (d + 1) z.kids:=by simp [inns_map,nthI,hx3]
   have e3:elseE x.kids = z.kids.isEmpty:=by simp [elseE,hx3]
   have eh:headL x = [105,102,32] ++ txt a:=by simp [headL,h,t0,wd1,wdcc,hne]
   have e:itm d x = openL d (headL x) :: (itms (d + 1) y.kids ++ ((bif z.kids.isEmpty then [] else (d,[125,32,101,108,115,101,32,123]) :: itms (d + 1) z.kids) ++ [(d,[125])])):=by
    rw [itm_eq]; simp only [h,e1,e2,e3,Int.reduceBEq,cond_true,cond_false,Bool.or_false]
   obtain ⟨n,rfl⟩:∃ k,n = k + 3:=⟨n - 3,by omega⟩
   obtain ⟨f1,f2⟩:=F181_eq ih y.kids hly d (by omega) n (by omega)
   obtain ⟨g1,g2⟩:=F181_eq ih z.kids hlz d (by omega) n (by omega)
   have i0:idxL x.kids 0 = some a:=idx0 (by simp [hx3])
   have i1:idxL x.kids 1 = some y:=idx1 (by simp [hx3])
   have i2:idxL x.kids 2 = some z:=idx2 (by simp [hx3])
   have key:∀ t:Bytes,t.length≤10000000000→F180 (n + 1) x (d:Int) = some (bs t)→F77 (n + 3) x (d:Int) = some (bs (lineT (d,t))):=fun t ht hF=>by
    refine F77_stm (by omega) (by omega) (by omega) ?_ ht
    show F121_step (F122 (n + 1)) (F181 (n + 1)) (F180 (n + 1)) (F121 (n + 1)) (F77 (n + 1)) (n + 1) x (d:Int) = _
    unfold F121_step
    simp only [h,Int.reduceBEq,cond_false,hF,Option.bind_some]
   cases hze:z.kids with
   | nil =>
    have c1:decide (0 < (z.kids.length:Int)) = false:=by simp [hze]
    have et:linesT (itm d x) = lineT (d,headL x ++ (32 :: bodyT d y.kids)):=by
     rw [e,hze]
     rw [block_text (by rw [eh]; simp)]
     simp
    rw [et]
    refine key _ (by rw [eh]; simp only [List.length_append,List.length_cons,List.length_nil]; omega) ?_
    show F180_step (F122 n) (F181 n) (F180 n) (F121 n) (F77 n) n x (d:Int) = _
    unfold F180_step
    simp only [h,Int.reduceBEq,cond_true,cond_false,i0,i1,i2,F80k n (by omega) a ea sa,f1,c1,Option.bind_some]
    simp (disch:=(simp only [tl_bs,List.length_append,List.length_cons,List.length_nil]; omega)) only [cat_eq,tl_bs,Option.bind_some]
    rw [eh]
    simp
   | cons q qs =>
    have c1:decide (0 < (z.kids.length:Int)) = true:=by simp [hze]
    have et:linesT (itm d x) = lineT (d,headL x ++ (32 :: (bodyT d y.kids ++ ([32,101,108,115,101,32] ++ bodyT d z.kids)))):=by
     rw [e,hze]
     simp [lineT,linesT_cons,linesT_append,linesT_nil,openL,bodyT,wd1,wdcc,eh]
    rw [et]
    refine key _ (by rw [eh]; simp only [List.length_append,List.length_cons,List.length_nil]; omega) ?_
    show F180_step (F122 n) (F181 n) (F180 n) (F121 n) (F77 n) n x (d:Int) = _
    unfold F180_step
    simp only [h,Int.reduceBEq,cond_true,i0,i1,i2,F80k n (by omega) a ea sa,f1,g1,c1,Option.bind_some]
    simp (disch:=(simp only [tl_bs,List.length_append,List.length_cons,List.length_nil]; omega)) only [cat_eq,tl_bs,Option.bind_some]
    rw [eh]
    simp
  ·simp [kidsB,leafK,oneK,h] at hkd
   obtain ⟨a,y,z,hx3,ha,hy,hz⟩:=ex3_iff hkd
   have hz':z.kind = 34:=by simpa [kX] using hz
   have ea:=kE a (by simp [hx3]) ha
   have sa:=kS a (by simp [hx3])
   have sy:=kS y (by simp [hx3])
   have hlz:=inner z (by simp [hx3]) hz'
   have hs:=innerS z (by simp [hx3])
   have t0:tnth x.kids 0 = txt a:=tnth_eq (by simp [hx3])
   have t1:tnth x.kids 1 = txt y:=tnth_eq (by simp [hx3])
   have k1:(x.kids[1]?.map Node.kind).getD 0 = y.kind:=by simp [hx3]
   have hne:=(txt_GX a ea).ne
   have lt:=ln_txt ea sa
   have e2:nthI (inns (d + 1) x.kids) 2 = itms (d + 1) z.kids:=by simp [inns_map,nthI,hx3]
   have e:itm d x = openL d (headL x) :: (itms (d + 1) z.kids ++ [(d,[125])]):=by
    rw [itm_eq]; simp only [h,e2,Int.reduceBEq,cond_true,cond_false,Bool.or_false]
   have hg:=(head_GX hT (.inr (.inr (.inr (.inr h))))).ne
   rw [e,← block_text hg]
   obtain ⟨n,rfl⟩:∃ k,n = k + 3:=⟨n - 3,by omega⟩
   obtain ⟨f1,f2⟩:=F181_eq ih z.kids hlz d (by omega) n (by omega)
   have i0:idxL x.kids 0 = some a:=idx0 (by simp [hx3])
   have i1:idxL x.kids 1 = some y:=idx1 (by simp [hx3])
   have i2:idxL x.kids 2 = some z:=idx2 (by simp [hx3])
   have key:∀ t:Bytes,t.length≤10000000000→F180 (n + 1) x (d:Int) = some (bs t)→F77 (n + 3) x (d:Int) = some (bs (lineT (d,t))):=fun t ht hF=>by
    refine F77_stm (by omega) (by omega) (by omega) ?_ ht
    show F121_step (F122 (n + 1)) (F181 (n + 1)) (F180 (n + 1)) (F121 (n + 1)) (F77 (n + 1)) (n + 1) x (d:Int) = _
    unfold F121_step
    simp only [h,Int.reduceBEq,cond_false,hF,Option.bind_some]
   by_cases hy63:y.kind = 63
   ·have c1:(y.kind != 63) = false:=by simp [hy63]
    have eh:headL x = [119,104,105,108,101,32] ++ txt a:=by
     simp only [headL,h,t0,t1,k1,c1,Int.reduceBEq,cond_false,onlyL]
     simp [wd1,wdcn,wdcc,hne]
    refine key _ (by rw [eh]; simp only [List.length_append,List.length_cons,List.length_nil]; omega) ?_
    show F180_step (F122 n) (F181 n) (F180 n) (F121 n) (F77 n) n x (d:Int) = _
    unfold F180_step
    simp only [h,Int.reduceBEq,cond_false,i0,i1,i2,F80k n (by omega) a ea sa,f1,c1,Option.bind_some]
    simp (disch:=(simp only [tl_bs,List.length_append,List.length_cons,List.length_nil]; omega)) only [cat_eq,tl_bs,Option.bind_some]
    rw [eh]
    simp
   ·have c1:(y.kind != 63) = true:=by simpa using hy63
    have ey:okE y:=by
     simp only [enX,Bool.or_eq_true,beq_iff_eq] at hy
     rcases hy with h1 | h1
     ·exact kE y (by simp [hx3]) h1
     ·exact absurd h1 hy63
    have ny:=(txt_GX y ey).ne
    have ly:=ln_txt ey sy
    have eh:headL x = [119,104,105,108,101,32] ++ (txt a ++ ([32,118,97,114,105,97,110,116,32] ++ txt y)):=by
     simp only [headL,h,t0,t1,k1,c1,Int.reduceBEq,cond_false,cond_true,onlyL]
     simp [wd1,wdcc,hne,ny]
    refine key _ (by rw [eh]; simp only [List.length_append,List.length_cons,List.length_nil]; omega) ?_
    show F180_step (F122 n) (F181 n) (F180 n) (F121 n) (F77 n) n x (d:Int) = _
    unfold F180_step
    simp only [h,Int.reduceBEq,cond_true,cond_false,i0,i1,i2,F80k n (by omega) a ea sa,F80k n (by omega) y ey sy,f1,c1,Option.bind_some]
    simp (disch:=(simp only [tl_bs,List.length_append,List.length_cons,List.length_nil]; omega)) only [cat_eq,tl_bs,Option.bind_some]
    rw [eh]
    simp
end Go.Proofs.YtbecjgckobhmpaaGreatDoor
end
section
namespace Go.Proofs.YtbecjgckobhmpaaGreatDoor
open Go Go.AM Go.Proofs
set_option maxRecDepth 100000
theorem F17_all:(fun n=>F17 (n + 120)) = (fun _=>some true):=by kernel_rfl
theorem F17_eq {n:Nat} (hn:120≤n):F17 n = some true:=by
 obtain ⟨m,rfl⟩:∃ m,n = m + 120:=⟨n - 120,by omega⟩
 exact congrFun F17_all m
end Go.Proofs.YtbecjgckobhmpaaGreatDoor
end
section
namespace Go.Proofs.YtbecjgckobhmpaaGreatDoor
open Go Go.AM Go.Proofs
theorem F61_T:∀ (m:Nat) (x:Node),sz x≤m→∀ (lim D:Nat),sz x≤lim→lim≤1500→D≤100→∀ n,2000 + sz x≤n →
  T (F61 n x (lim:Int) (D:Int)) (fun r=>r.2 = decide (dp x≤D)∧(r.2 = true→r.1 = (sz x:Int))):=by
 intro m
 induction m with
 | zero=>intro x hx; have:=sz_pos x; omega
 | succ m ih =>
  intro x hx lim D hlim hl hD n hn
  obtain ⟨n,rfl⟩:∃ k,n = k + 1:=⟨n - 1,by omega⟩
  have hsz:=sz_eq x
  have hdp:=dp_eq x
  have hlen:=szs_len x.kids
  have hpos:=sz_pos x
  show T (F61_step (F61 n) n x (lim:Int) (D:Int)) _
  unfold F61_step
  refine T.cond (fun hc=>T.some ⟨?_,fun h=>by simp at h⟩) (fun hc=>?_)
  ·have hc:D = 0:=by simp at hc; omega
   have:=dp_pos x
   simp
   omega
  have hc:1≤D:=by simp at hc; omega
  refine T.bind (P:=fun r=>match r with | .inl _=>¬ (dp x≤D) | .inr v=>dp x≤D∧v = (sz x:Int)) ?_ (fun r h=>by
   cases r with
   | inl v=>exact T.some ⟨by simpa using h,fun h=>by simp at h⟩
   | inr v=>exact T.some ⟨by simpa using h.1,fun _=>h.2⟩)
  refine iter_inv x.kids (fun (k:Nat) (a:Nat)=>((a:Int),(k:Int))) (fun k a=>a = 1 + szs (x.kids.take k)∧∀ y ∈ x.kids.take k,dp y + 1≤D) _ (fun k a y hy ha=>?_) (fun a ha=>?_) n 1 (by omega) ⟨by simp [szs],by simp⟩
  ·have hlt:=lt_of_get hy
   have hm:=List.mem_of_getElem? hy
   have hys:=szs_mem x.kids y hm
   have htk:=szs_take hy
   have c2:(decide ((k:Int) < (x.kids.length:Int)) && decide ((a:Int)≤(lim:Int))) = true:=by simp; omega
   have e1:w64 ((lim:Int) - (a:Int)) = ((lim - a:Nat):Int):=by rw [w64_id (by omega) (by omega)]; omega
   have e2:w64 ((D:Int) - 1) = ((D - 1:Nat):Int):=by rw [w64_id (by omega) (by omega)]; omega
   obtain ⟨r,hr,hr1,hr2⟩:=ih y (by omega) (lim - a) (D - 1) (by omega) (by omega) (by omega) n (by omega)
   simp only [c2,cond_true,idxL_some hy,Option.bind_some,e1,e2,hr,w64_nat (k:=k) (by omega)]
   cases hb:r.2
   ·right
    refine ⟨_,rfl,?_⟩
    rw [hb] at hr1
    have hr1':¬ (dp y≤D - 1):=by
     have:=hr1.symm
     simpa using this
    have:dp y≤dps x.kids:=(dps_le x.kids (dps x.kids)).1 (Nat.le_refl _) y hm
    show ¬ (dp x≤D)
    omega
   ·left
    have e3:w64 ((a:Int) + r.1) = ((a + sz y:Nat):Int):=by rw [hr2 hb,w64_id (by omega) (by omega)]; omega
    refine ⟨a + sz y,?_,?_,?_⟩
    ·simp only [Bool.not_true,cond_false,e3]
    ·rw [szs_take_succ hy]; omega
    ·intro z hz
     rw [List.take_add_one,hy] at hz
     simp only [List.mem_append,Option.toList_some,List.mem_singleton] at hz
     rcases hz with hz | rfl
     ·exact ha.2 z hz
     ·rw [hb] at hr1
      have:dp z≤D - 1:=by simpa using hr1.symm
      omega
  ·have c2:(decide ((x.kids.length:Int) < (x.kids.length:Int)) && decide ((a:Int)≤(lim:Int))) = false:=by simp
   simp only [c2,cond_false]
   refine ⟨_,rfl,?_,?_⟩
   ·have:dps x.kids≤D - 1:=(dps_le _ _).2 (fun y hy=>by have:=ha.2 y (by simpa using hy); omega)
    omega
   ·rw [ha.1]
    simp only [List.take_length]
    omega
theorem F27_eq (x:Node) (hs:sz x≤200) {n:Nat} (hn:3000≤n):F27 n x = some (decide (dp x≤40)):=by
 obtain ⟨r,hr,h1,h2⟩:=F61_T (sz x) x (Nat.le_refl _) 1500 40 (by omega) (by omega) (by omega) n (by omega)
 unfold F27
 erw [hr]
 simp only [Option.bind_some]
 congr 1
 cases hb:r.2
 ·rw [hb] at h1
  rw [← h1]
  rfl
 ·rw [h2 hb,← h1,hb]
  simp
  omega
theorem F31_T {b:Nat} (hb:b≤9223372036854775807) (x:Node) (hlim:Lim b x) (hs:sz x≤200) {n:Nat} (hn:b + 5000≤n):T (F31 n x) (fun v=>v = true→validB x = true):=by
 unfold F31
 rw [F27_eq x hs (by omega)]
 simp only [Option.bind_some]
 refine T.cond (fun hd=>?_) (fun _=>T.some no)
 refine T.bind (P:=fun v=>v = true→(x.kind == 62 || isE x.kind) = true∧okT x = true) ?_ (fun v hv=>T.some fun h=>?_)
 ·unfold F69
  refine T.cond (fun h=>?_) (fun _=>?_)
  ·have h:x.kind = 62:=by simpa using h
   refine (F104_T x [] (by simp) (by omega)).bind fun v o=>T.cond (fun hv=>?_) (fun _=>T.some no)
   obtain ⟨n,rfl⟩:∃ k,n = k + 2:=⟨n - 2,by omega⟩
   have hlen:=szs_len x.kids
   have hsz:=sz_eq x
   obtain ⟨_,h1,h2,h3,h4⟩:=hlim
   refine (F105_T (N:=b) hb (n:=n) (by omega) x 5 (fun y hy=>?_) (by omega)).bind fun w hw=>T.some fun hb'=>?_
   ·have hys:=szs_mem x.kids y hy
    have hl:=h4 y hy
    refine ⟨?_,cl_all hb (sz y) y (Nat.le_refl _) (by omega) hl n (by omega)⟩
    cases hl with
    | mk _ a1 a2 _ _=>exact ⟨a1,a2⟩
   ·have hE:∀ y ∈ x.kids,okT y = true∧isItm y.kind = true:=fun y hy=>by simpa [Cls] using hw hb' y hy
    refine ⟨by simp [h],okT_mk (fields_of (o hv) (by simp [fldGood,h]) (by simp) (by simp) (by simp) (by simp) (by simp) (by simp)) ?_ (fun y hy=>(hE y hy).1)⟩
    simp [kidsB,leafK,oneK,h]
    exact fun y hy=>(hE y hy).2
  ·refine ((cl_all hb (sz x) x (Nat.le_refl _) hs hlim n (by omega)).e).bind fun v hv=>T.some fun h=>?_
   obtain ⟨h1,h2⟩:=hv h
   exact ⟨by simp [h2],h1⟩
 ·obtain ⟨h1,h2⟩:=hv h
  simp [validB,h2,hd]
  simpa using h1
theorem F78_T2 {s:ByteArray} {n:Nat} (hn:5000≤n):T (F78 n s) (fun r=>r.2 = 0→r.1 = s∧∃ q,F39 n s = some q∧q.2.1 = 0):=by
 unfold F78
 obtain ⟨q,hq,_⟩:=F39_T (s:=s) hn
 rw [hq]
 simp only [Option.bind_some]
 refine T.cond (fun _=>T.some (fun h=>by simp at h)) (fun h=>T.some fun _=>⟨rfl,q,rfl,by simpa using h⟩)
theorem F49_T {b:Nat} (hb:b≤9223372036854775807) (x:Node) (hlim:Lim b x) (hs:sz x≤190) {n:Nat} (hn:b + 5000≤n) :
  T (F49 n x) (fun r=>r.2 = 0→x.kind = 62∧validB x = true∧r.1 = bs (srcT x)∧∃ q,F39 n (bs (srcT x)) = some q∧q.2.1 = 0):=by
 unfold F49
 refine (F31_T hb x hlim (by omega) hn).bind fun v hv=>?_
 refine T.cond (fun _=>T.some (fun h=>by simp at h)) (fun hc=>?_)
 have hc':v = true∧x.kind = 62:=by simpa using hc
 have hval:=hv hc'.1
 have h:=hc'.2
 have hT:okT x = true:=by simp only [validB,Bool.and_eq_true] at hval; exact hval.2.2
 obtain ⟨hf,hkd,hks⟩:=okT_parts hT
 simp [kidsB,leafK,oneK,h] at hkd
 have hsz:=sz_eq x
 rw [item_loop (itemR 200) x.kids (fun y hy=>by
  have:=szs_mem x.kids y hy
  exact ⟨by omega,hks y hy,by simp [itemK,hkd y hy]⟩) 0 0 rfl (by omega) n n (by omega) (by omega) [] (by simp)]
 simp only [Option.bind_some,List.nil_append]
 refine (F78_T2 (s:=bs (linesT (itms 0 x.kids))) (by omega)).bind fun r hr=>T.some fun h0=>?_
 obtain ⟨h1,h2⟩:=hr h0
 exact ⟨h,hval,h1,h2⟩
theorem F18_T {b:Nat} (hb:b≤9223372036854775807) (x:Node) (hlim:Lim b x) {n:Nat} (hn:b + 5000≤n) :
  T (F18 n x) (fun v=>v = true→sz x≤120∧x.kind = 62∧validB x = true∧∃ q,F39 n (bs (srcT x)) = some q∧q.2.1 = 0):=by
 unfold F18
 refine (F45_T x (by omega)).bind fun v hv=>T.cond (fun _=>T.some no) (fun hc=>?_)
 have hs:=hv (by simpa using hc)
 refine (F49_T hb x hlim (by omega) hn).bind fun r hr=>T.some fun h=>?_
 obtain ⟨h1,h2,_,h4⟩:=hr (by simpa using h)
 exact ⟨hs,h1,h2,h4⟩
end Go.Proofs.YtbecjgckobhmpaaGreatDoor
end
section
namespace Go.Proofs.YtbecjgckobhmpaaGreatDoor
open Go Go.AM Go.Proofs
def ltr (b:UInt8):Bool:=(decide (65≤b.toNat) && decide (b.toNat≤90)) || (decide (97≤b.toNat) && decide (b.toNat≤122))
def dgt (b:UInt8):Bool:=decide (48≤b.toNat) && decide (b.toNat≤57)
def wrd (b:UInt8):Bool:=ltr b || (dgt b || b.toNat == 95)
def wht (b:UInt8):Bool:=b.toNat == 32 || (b.toNat == 9 || (b.toNat == 10 || b.toNat == 13))
def nol (b:UInt8):Bool:=b.toNat != 10
def two (l:List UInt8):Bool:=([47,47]:List UInt8).isPrefixOf l
def skp:Bool→List UInt8→List UInt8
 | _,[]=>[]
 | true,b :: l=>if nol b then skp true l else skp false l
 | false,b :: l=>if wht b then skp false l else if two (b :: l) then skp true l else b :: l
theorem skp_nil (c:Bool):skp c [] = []:=by cases c <;> rfl
theorem skp_wht:∀ l,skp false l = skp false (l.dropWhile wht)
 | []=>rfl
 | b :: l=>by
  rw [List.dropWhile_cons]
  split
  ·rename_i h
   simp only [skp,h,if_true]
   exact skp_wht l
  ·rfl
theorem wht_nol {b:UInt8} (h:¬ nol b = true):wht b = true:=by
 simp [nol] at h
 simp [wht,h]
theorem skp_cmt:∀ l,skp true l = skp false (l.dropWhile nol)
 | []=>rfl
 | b :: l=>by
  rw [List.dropWhile_cons]
  split
  ·rename_i h
   simp only [skp,h,if_true]
   exact skp_cmt l
  ·rename_i h
   simp only [skp,wht_nol h,if_true]
   rw [if_neg h]
theorem two_cons {b:UInt8} {l:List UInt8} (h:two (b :: l) = true):b = 47:=by
 simp [two,List.isPrefixOf] at h
 exact h.1.symm
theorem skp_two:∀ l,two l = true→skp false l = skp false (l.dropWhile nol)
 | [],h=>by simp [two] at h
 | b :: l,h=>by
  have hb:=two_cons h
  subst hb
  have h1:wht 47 = false:=by decide
  have h2:nol 47 = true:=by decide
  rw [List.dropWhile_cons,if_pos h2,← skp_cmt]
  simp [skp,h1,h]
theorem skp_fix:∀ l,l.takeWhile wht = []→two l = false→skp false l = l
 | [],_,_=>rfl
 | b :: l,h1,h2=>by
  rw [List.takeWhile_cons] at h1
  split at h1
  ·cases h1
  ·rename_i h
   simp only [skp,h2]
   rw [if_neg h]
   rfl
theorem skp_suf:∀ (l:List UInt8) (c:Bool),∃ p,l = p ++ skp c l
 | [],c=>⟨[],by rw [skp_nil]; rfl⟩
 | b :: l,true=>by
  simp only [skp]
  split
  ·obtain ⟨p,hp⟩:=skp_suf l true
   exact ⟨b :: p,by rw [List.cons_append,← hp]⟩
  ·obtain ⟨p,hp⟩:=skp_suf l false
   exact ⟨b :: p,by rw [List.cons_append,← hp]⟩
 | b :: l,false=>by
  simp only [skp]
  split
  ·obtain ⟨p,hp⟩:=skp_suf l false
   exact ⟨b :: p,by rw [List.cons_append,← hp]⟩
  ·split
   ·obtain ⟨p,hp⟩:=skp_suf l true
    exact ⟨b :: p,by rw [List.cons_append,← hp]⟩
   ·exact ⟨[],rfl⟩
theorem skp_len (c:Bool) (l:List UInt8):(skp c l).length≤l.length:=by
 obtain ⟨p,hp⟩:=skp_suf l c
 have:=congrArg List.length hp
 rw [List.length_append] at this
 omega
theorem take_tw {α:Type} (p:α→Bool):∀ l:List α,l.take (l.takeWhile p).length = l.takeWhile p
 | []=>rfl
 | b :: l=>by
  rw [List.takeWhile_cons]
  split
  ·rw [List.length_cons,List.take_succ_cons,take_tw p l]
  ·rfl
theorem drop_tw {α:Type} (p:α→Bool):∀ l:List α,l.drop (l.takeWhile p).length = l.dropWhile p
 | []=>rfl
 | b :: l=>by
  rw [List.takeWhile_cons,List.dropWhile_cons]
  split
  ·rw [List.length_cons,List.drop_succ_cons,drop_tw p l]
  ·rfl
theorem mem_tw {α:Type} {p:α→Bool} {y:α}:∀ {l:List α},y ∈ l.takeWhile p→p y = true
 | [],h=>by cases h
 | b :: l,h=>by
  rw [List.takeWhile_cons] at h
  split at h
  ·rename_i hb
   rcases List.mem_cons.1 h with rfl | h
   ·exact hb
   ·exact mem_tw h
  ·cases h
theorem len_tw {α:Type} (p:α→Bool) (l:List α):(l.takeWhile p).length≤l.length:=by
 have:=congrArg List.length (List.takeWhile_append_dropWhile (p:=p) (l:=l))
 rw [List.length_append] at this
 omega
theorem tw_app {α:Type} {p:α→Bool} {b:List α}:∀ {l:List α},(∃ y ∈ l,p y = false)→(l ++ b).takeWhile p = l.takeWhile p∧(l ++ b).dropWhile p = l.dropWhile p ++ b∧l.dropWhile p≠[]
 | [],h=>by obtain ⟨y,hy,_⟩:=h; cases hy
 | x :: l,h=>by
  rw [List.cons_append,List.takeWhile_cons,List.takeWhile_cons,List.dropWhile_cons,List.dropWhile_cons]
  split
  ·rename_i hx
   obtain ⟨y,hy,h1⟩:=h
   rcases List.mem_cons.1 hy with rfl | hy
   ·rw [hx] at h1; cases h1
   ·obtain ⟨e1,e2,e3⟩:=tw_app (b:=b) ⟨y,hy,h1⟩
    exact ⟨by rw [e1],e2,e3⟩
  ·exact ⟨rfl,rfl,by simp⟩
def symL:List (List UInt8):=[[61,61,62],[61,61],[58,61],[33,61],[60,61],[38,38],[124,124],[123],[125],[40],[41],[91],[93],[59],[58],[44],[46],[63],[61],[33],[60],[38],[124],[94],[43],[45],[42]]
theorem symL_ok:∀ t ∈ symL,1≤t.length∧t.length≤3∧∀ y ∈ t,y≠10:=by decide
def numOk (b:UInt8) (l:List UInt8):Bool :=
 decide ((l.takeWhile dgt).length≤9) && (((b.toNat != 48) || (l.takeWhile dgt).length == 1) && (l.dropWhile dgt).head?.all (fun c=>!wrd c))
def tokL:List UInt8→Option (Nat × Nat)
 | []=>none
 | b :: l =>
  bif ltr b then (bif decide (((b :: l).takeWhile wrd).length≤16) then some (1,((b :: l).takeWhile wrd).length) else none)
  else bif dgt b then (bif numOk b (b :: l) then some (2,((b :: l).takeWhile dgt).length) else none)
  else (symL.find? (fun t=>t.isPrefixOf (b :: l))).map fun t=>(3,t.length)
theorem tokL_cons (b:UInt8) (l:List UInt8):tokL (b :: l) =
  (bif ltr b then (bif decide (((b :: l).takeWhile wrd).length≤16) then some (1,((b :: l).takeWhile wrd).length) else none)
  else bif dgt b then (bif numOk b (b :: l) then some (2,((b :: l).takeWhile dgt).length) else none)
  else (symL.find? (fun t=>t.isPrefixOf (b :: l))).map fun t=>(3,t.length)):=rfl
theorem tokL_spec {l:List UInt8} {k m:Nat} (h:tokL l = some (k,m)):1≤m∧m≤l.length∧(∀ y ∈ l.take m,y≠10)∧1≤k∧k≤3:=by
 cases l with
 | nil=>cases h
 | cons b l =>
  rw [tokL_cons] at h
  cases h1:ltr b
  ·rw [h1,cond_false] at h
   cases h2:dgt b
   ·rw [h2,cond_false] at h
    cases h3:symL.find? (fun t=>t.isPrefixOf (b :: l)) with
    | none=>rw [h3] at h; cases h
    | some t =>
     rw [h3] at h
     simp only [Option.map_some,Option.some.injEq,Prod.mk.injEq] at h
     obtain ⟨rfl,rfl⟩:=h
     have hm:=List.mem_of_find?_eq_some h3
     have hp:=List.find?_some h3
     obtain ⟨r,hr⟩:=List.isPrefixOf_iff_prefix.1 hp
     have hs:=symL_ok t hm
     rw [← hr]
     refine ⟨hs.1,by rw [List.length_append]; omega,?_,by omega,by omega⟩
     rw [List.take_left]
     exact hs.2.2
   ·rw [h2,cond_true] at h
    cases h3:numOk b (b :: l)
    ·rw [h3] at h; cases h
    ·rw [h3,cond_true] at h
     simp only [Option.some.injEq,Prod.mk.injEq] at h
     obtain ⟨rfl,rfl⟩:=h
     refine ⟨?_,len_tw _ _,?_,by omega,by omega⟩
     ·rw [List.takeWhile_cons,if_pos h2]; simp
     ·rw [take_tw]
      intro y hy e
      subst e
      have:=mem_tw hy
      revert this
      decide
  ·rw [h1,cond_true] at h
   cases h3:decide (((b :: l).takeWhile wrd).length≤16)
   ·rw [h3] at h; cases h
   ·rw [h3,cond_true] at h
    simp only [Option.some.injEq,Prod.mk.injEq] at h
    obtain ⟨rfl,rfl⟩:=h
    refine ⟨?_,len_tw _ _,?_,by omega,by omega⟩
    ·rw [List.takeWhile_cons,if_pos (by simp [wrd,h1])]; simp
    ·rw [take_tw]
     intro y hy e
     subst e
     have:=mem_tw hy
     revert this
     decide
theorem find_congr {α:Type} {p q:α→Bool}:∀ {S:List α},(∀ t ∈ S,p t = q t)→S.find? p = S.find? q
 | [],_=>rfl
 | x :: S,h=>by
  rw [List.find?_cons,List.find?_cons,h x (List.mem_cons_self ..),find_congr fun t ht=>h t (List.mem_cons_of_mem _ ht)]
theorem pre_app {t l b:List UInt8} (h10:(10:UInt8) ∈ l) (ht:∀ y ∈ t,y≠10):t.isPrefixOf (l ++ b) = t.isPrefixOf l:=by
 rw [Bool.eq_iff_iff,List.isPrefixOf_iff_prefix,List.isPrefixOf_iff_prefix]
 constructor
 ·intro h
  by_cases hl:t.length≤l.length
  ·exact List.prefix_of_prefix_length_le h (List.prefix_append l b) hl
  ·have h2:l <+: t:=List.prefix_of_prefix_length_le (List.prefix_append l b) h (by omega)
   exact absurd rfl (ht 10 (h2.subset h10))
 ·exact fun h=>h.trans (List.prefix_append l b)
theorem tokL_app {l b:List UInt8} (h10:(10:UInt8) ∈ l):tokL (l ++ b) = tokL l:=by
 cases l with
 | nil=>cases h10
 | cons x r =>
  have e1:=tw_app (p:=wrd) (b:=b) (l:=x :: r) ⟨10,h10,by decide⟩
  have e2:=tw_app (p:=dgt) (b:=b) (l:=x :: r) ⟨10,h10,by decide⟩
  have e3:symL.find? (fun t=>t.isPrefixOf (x :: r ++ b)) = symL.find? (fun t=>t.isPrefixOf (x :: r)) :=
   find_congr fun t ht=>pre_app h10 (symL_ok t ht).2.2
  have e4:numOk x (x :: r ++ b) = numOk x (x :: r):=by
   unfold numOk
   rw [e2.1,e2.2.1]
   cases hd:(x :: r).dropWhile dgt with
   | nil=>exact absurd hd e2.2.2
   | cons y z=>rfl
  show (bif ltr x then (bif decide (((x :: r ++ b).takeWhile wrd).length≤16) then some (1,((x :: r ++ b).takeWhile wrd).length) else none)
   else bif dgt x then (bif numOk x (x :: r ++ b) then some (2,((x :: r ++ b).takeWhile dgt).length) else none)
   else (symL.find? (fun t=>t.isPrefixOf (x :: r ++ b))).map fun t=>(3,t.length)) = _
  rw [e1.1,e2.1,e3,e4]
  rfl
theorem skp_app:∀ (l:List UInt8) (c:Bool) (b:List UInt8),(l.getLast? = some 10∨(l = []∧c = false))→skp c (l ++ b) = bif (skp c l).isEmpty then skp false b else skp c l ++ b
 | [],c,b,h=>by
  rcases h with h | ⟨_,rfl⟩
  ·cases h
  ·rfl
 | x :: l,c,b,h=>by
  have hx:(x :: l).getLast? = some 10:=by
   rcases h with h | ⟨h,_⟩
   ·exact h
   ·cases h
  rw [List.cons_append]
  cases l with
  | nil =>
   have:x = 10:=by simpa using hx
   subst this
   have h1:wht 10 = true:=by decide
   have h2:nol 10 = false:=by decide
   cases c <;> simp [skp,h1,h2]
  | cons y l =>
   have hl:(y :: l).getLast? = some 10:=by rw [List.getLast?_cons_cons] at hx; exact hx
   have i1:=skp_app (y :: l) true b (.inl hl)
   have i2:=skp_app (y :: l) false b (.inl hl)
   have h2:two (x :: (y :: l ++ b)) = two (x :: y :: l):=by simp [two,List.isPrefixOf]
   cases c
   ·rw [skp,skp,h2]
    split
    ·exact i2
    ·split
     ·exact i1
     ·rfl
   ·rw [skp,skp]
    split
    ·exact i1
    ·exact i2
def consT (t:Token):List Token ⊕ (Int × Int)→List Token ⊕ (Int × Int)
 | .inl ts=>.inl (t :: ts)
 | .inr e=>.inr e
def appT (t:List Token):List Token ⊕ (Int × Int)→List Token ⊕ (Int × Int)
 | .inl ts=>.inl (t ++ ts)
 | .inr e=>.inr e
def lexS (N:Nat) (g:List UInt8→List Token ⊕ (Int × Int)) (c:Nat):List UInt8→List Token ⊕ (Int × Int)
 | []=>.inl []
 | b :: r=>if c = 1500 then .inr (2,((N - (b :: r).length:Nat):Int)) else
  match tokL (b :: r) with
  | none=>.inr (10,((N - (b :: r).length:Nat):Int))
  | some km=>consT ⟨(km.1:Int),bs ((b :: r).take km.2),((N - (b :: r).length:Nat):Int)⟩ (g ((b :: r).drop km.2))
def lexG (N:Nat):Nat→Nat→List UInt8→List Token ⊕ (Int × Int)
 | 0,_,_=>.inl []
 | f + 1,c,l=>lexS N (lexG N f (c + 1)) c (skp false l)
theorem lexG_fuel (N:Nat):∀ (f f' c:Nat) (l:List UInt8),l.length < f→l.length < f'→lexG N f c l = lexG N f' c l:=by
 intro f
 induction f with
 | zero=>intro f' c l h; omega
 | succ f ih =>
  intro f' c l h h'
  cases f' with
  | zero=>omega
  | succ f' =>
   simp only [lexG]
   have hk:=skp_len false l
   cases hs:skp false l with
   | nil=>rfl
   | cons b r =>
    rw [hs] at hk
    simp only [lexS]
    split
    ·rfl
    ·cases ht:tokL (b :: r) with
     | none=>rfl
     | some km =>
      have hm:=tokL_spec ht
      simp only
      have hd:=List.length_drop (i:=km.2) (l:=b :: r)
      rw [ih f' (c + 1) _ (by omega) (by omega)]
theorem last_drop {l:List UInt8} {m:Nat} (h:l.getLast? = some 10) (hm:m < l.length):(l.drop m).getLast? = some 10:=by
 rw [List.getLast?_drop,if_neg (by omega)]
 exact h
theorem mem_of_last {l:List UInt8} (h:l.getLast? = some 10):(10:UInt8) ∈ l:=List.mem_of_getLast? h
theorem lexG_app (N:Nat) (b:List UInt8) {f2:Nat} (hf2:b.length < f2):∀ (f f0 c:Nat) (l:List UInt8),(l = []∨l.getLast? = some 10)→l.length < f→(l ++ b).length < f0 →
  lexG N f0 c (l ++ b) = match lexG (N - b.length) f c l with
   | .inr e=>.inr e
   | .inl ts=>appT ts (lexG N f2 (c + ts.length) b):=by
 intro f
 induction f with
 | zero=>intro f0 c l _ h; omega
 | succ f ih =>
  intro f0 c l hl h h0
  cases f0 with
  | zero=>omega
  | succ f0 =>
   rw [List.length_append] at h0
   have hk:=skp_len false l
   have ha:=skp_app l false b (by
    rcases hl with h | h
    ·exact .inr ⟨h,rfl⟩
    ·exact .inl h)
   cases hs:skp false l with
   | nil =>
    rw [hs] at ha
    have ha':skp false (l ++ b) = skp false b:=ha
    have e1:lexG N (f0 + 1) c (l ++ b) = lexG N f2 c b:=by
     rw [← lexG_fuel N (f0 + 1) f2 c b (by omega) hf2]
     simp only [lexG,ha']
    rw [e1]
    simp only [lexG,hs,lexS,List.length_nil,Nat.add_zero]
    cases lexG N f2 c b <;> rfl
   | cons x r =>
    rw [hs] at ha hk
    have ha':skp false (l ++ b) = x :: (r ++ b):=ha
    have hlast:(x :: r).getLast? = some 10:=by
     obtain ⟨p,hp⟩:=skp_suf l false
     rw [hs] at hp
     rcases hl with rfl | hl
     ·rw [skp_nil] at hs; cases hs
     ·rw [hp,List.getLast?_append] at hl
      cases hg:(x :: r).getLast? with
      | none=>simp at hg
      | some v=>rw [hg] at hl; exact hl
    have ht:=tokL_app (b:=b) (mem_of_last hlast)
    rw [List.cons_append] at ht
    have hpos:N - (x :: (r ++ b)).length = N - b.length - (x :: r).length:=by
     simp only [List.length_cons,List.length_append]; omega
    simp only [lexG,ha',hs,lexS,ht,hpos]
    by_cases hc:c = 1500
    ·simp only [if_pos hc]
    ·simp only [if_neg hc]
     cases htk:tokL (x :: r) with
     | none=>rfl
     | some km =>
      have hm:=tokL_spec htk
      have hlt:km.2 < (x :: r).length:=by
       rcases Nat.lt_or_ge km.2 (x :: r).length with h | h
       ·exact h
       ·exact absurd rfl (hm.2.2.1 10 (by rw [List.take_of_length_le h]; exact mem_of_last hlast))
      have ed:(x :: (r ++ b)).drop km.2 = (x :: r).drop km.2 ++ b:=by
       rw [← List.cons_append,List.drop_append_of_le_length (by omega)]
      have et:(x :: (r ++ b)).take km.2 = (x :: r).take km.2:=by
       rw [← List.cons_append,List.take_append_of_le_length (by omega)]
      have hd:=List.length_drop (i:=km.2) (l:=x :: r)
      have i:=ih f0 (c + 1) ((x :: r).drop km.2) (.inr (last_drop hlast hlt)) (by omega) (by rw [List.length_append]; omega)
      simp only [ed,et,i]
      cases lexG (N - b.length) f (c + 1) ((x :: r).drop km.2) with
      | inr e=>rfl
      | inl ts =>
       simp only [consT,List.length_cons]
       rw [show c + 1 + ts.length = c + (ts.length + 1) by omega]
       cases lexG N f2 (c + (ts.length + 1)) b <;> rfl
theorem lexG_low {N N':Nat}:∀ {f c c':Nat} {l:List UInt8} {ts:List Token},lexG N f c l = .inl ts→c'≤c→c≤1500→∃ ts',lexG N' f c' l = .inl ts'
 | 0,_,_,_,_,_,_,_=>⟨[],rfl⟩
 | f + 1,c,c',l,ts,h,h1,h2=>by
  simp only [lexG] at h ⊢
  cases hs:skp false l with
  | nil=>exact ⟨[],rfl⟩
  | cons b r =>
   rw [hs] at h
   simp only [lexS] at h ⊢
   by_cases hc:c = 1500
   ·rw [if_pos hc] at h; cases h
   ·rw [if_neg hc] at h
    rw [if_neg (by omega)]
    cases ht:tokL (b :: r) with
    | none=>rw [ht] at h; cases h
    | some km =>
     rw [ht] at h
     simp only at h ⊢
     cases hg:lexG N f (c + 1) ((b :: r).drop km.2) with
     | inr e=>rw [hg] at h; cases h
     | inl us =>
      obtain ⟨vs,hv⟩:=lexG_low (N':=N') hg (show c' + 1≤c + 1 by omega) (by omega)
      rw [hv]
      exact ⟨_,rfl⟩
end Go.Proofs.YtbecjgckobhmpaaGreatDoor
end
section
namespace Go.Proofs.YtbecjgckobhmpaaGreatDoor
open Go Go.AM Go.Proofs
theorem iter_T {ρ σ:Type} {step:σ→Option (σ ⊕ ρ)} (I:σ→Prop) (m:σ→Nat) (Q:ρ→Prop)
  (h:∀ s,I s→T (step s) (fun r=>match r with | .inl s'=>I s'∧m s' < m s | .inr r=>Q r))
  (n:Nat) (s:σ) (hn:m s < n) (hi:I s):T (iter step n s) Q :=
 iter_meas I m Q (fun s hs=>by
  obtain ⟨r,hr,hq⟩:=h s hs
  cases r with
  | inl s'=>exact .inl ⟨s',hr,hq.1,hq.2⟩
  | inr r=>exact .inr ⟨r,hr,hq⟩) n s hn hi
theorem T.eq {α:Type} {o:Option α} {v:α} (h:T o (fun e=>e = v)):o = Option.some v:=by
 obtain ⟨r,hr,rfl⟩:=h
 exact hr
theorem get_drop {α:Type} {L:List α} {k:Nat} {b:α} (h:L[k]? = some b):L.drop k = b :: L.drop (k + 1):=by
 obtain ⟨hk,rfl⟩:=List.getElem?_eq_some_iff.1 h
 exact List.drop_eq_getElem_cons hk
theorem get_of_drop {α:Type} {L r:List α} {k:Nat} {b:α} (h:L.drop k = b :: r):L[k]? = some b:=by
 rw [← List.head?_drop,h]
 rfl
theorem take_T {L:List UInt8} {step:Int→Option (Int ⊕ Int)} (q:UInt8→Bool)
  (h1:∀ (k:Nat) b,L[k]? = some b→step (k:Int) = some (if q b = true then .inl ((k + 1:Nat):Int) else .inr (k:Int)))
  (h2:step (L.length:Int) = some (.inr (L.length:Int))) {n a:Nat} (ha:a≤L.length) (hn:L.length < n) :
  T (iter step n (a:Int)) (fun e=>e = ((a + ((L.drop a).takeWhile q).length:Nat):Int)):=by
 have key:∀ (j a n:Nat),a + j = L.length→j < n→iter step n (a:Int) = some (((a + ((L.drop a).takeWhile q).length:Nat):Int)):=by
  intro j
  induction j with
  | zero =>
   intro a n h hn
   have:a = L.length:=by omega
   subst this
   cases n with
   | zero=>omega
   | succ n=>simp only [iter,h2,List.drop_length,List.takeWhile_nil,List.length_nil,Nat.add_zero]
  | succ j ih =>
   intro a n h hn
   have hlt:a < L.length:=by omega
   have hg:=List.getElem?_eq_getElem hlt
   cases n with
   | zero=>omega
   | succ n =>
    rw [get_drop hg,List.takeWhile_cons]
    cases hq:q L[a]
    ·simp [iter,h1 a _ hg,hq]
    ·simp only [iter,h1 a _ hg,hq,if_true]
     rw [ih (a + 1) n (by omega) (by omega)]
     have:a + 1 + ((L.drop (a + 1)).takeWhile q).length = a + (L[a] :: (L.drop (a + 1)).takeWhile q).length:=by
      simp only [List.length_cons]; omega
     rw [this]
 exact ⟨_,key (L.length - a) a n (by omega) (by omega),rfl⟩
variable {s:ByteArray} {n:Nat}
theorem i_eq (m c:Nat):((m:Int) == (c:Int)) = (m == c):=by
 rw [Bool.eq_iff_iff]
 simp only [beq_iff_eq]
 omega
theorem i_le (m c:Nat):decide ((m:Int)≤(c:Int)) = decide (m≤c):=by rw [decide_eq_decide]; omega
theorem F136_eq {k:Nat} {b:UInt8} (hb:(tl s)[k]? = some b):F136 s k = some (wht b):=by
 unfold F136
 rw [idxS_some hb]
 have e1:((b.toNat:Int) == 32) = (b.toNat == 32):=i_eq _ 32
 have e2:((b.toNat:Int) == 9) = (b.toNat == 9):=i_eq _ 9
 have e3:((b.toNat:Int) == 10) = (b.toNat == 10):=i_eq _ 10
 have e4:((b.toNat:Int) == 13) = (b.toNat == 13):=i_eq _ 13
 simp only [Option.bind_some,e1,e2,e3,e4]
 unfold wht
 cases b.toNat == 32 <;> cases b.toNat == 9 <;> cases b.toNat == 10 <;> cases b.toNat == 13 <;> rfl
theorem F138_eq {k:Nat} {b:UInt8} (hb:(tl s)[k]? = some b):F138 s k = some (nol b):=by
 unfold F138
 rw [idxS_some hb]
 have e3:((b.toNat:Int) == 10) = (b.toNat == 10):=i_eq _ 10
 simp only [Option.bind_some,bne,e3,nol]
theorem F139_eq (b:UInt8):F139 (b.toNat:Int) = some (ltr b):=by
 unfold F139 ltr
 have e1:decide (65≤(b.toNat:Int)) = decide (65≤b.toNat):=i_le 65 _
 have e2:decide ((b.toNat:Int)≤90) = decide (b.toNat≤90):=i_le _ 90
 have e3:decide (97≤(b.toNat:Int)) = decide (97≤b.toNat):=i_le 97 _
 have e4:decide ((b.toNat:Int)≤122) = decide (b.toNat≤122):=i_le _ 122
 rw [e1,e2,e3,e4]
theorem F141_eq {k:Nat} {b:UInt8} (hb:(tl s)[k]? = some b):F141 s k = some (dgt b):=by
 unfold F141 dgt
 rw [idxS_some hb]
 have e1:decide (48≤(b.toNat:Int)) = decide (48≤b.toNat):=i_le 48 _
 have e2:decide ((b.toNat:Int)≤57) = decide (b.toNat≤57):=i_le _ 57
 simp only [Option.bind_some,e1,e2]
 cases decide (48≤b.toNat) <;> rfl
theorem F140_eq {k:Nat} {b:UInt8} (hb:(tl s)[k]? = some b):F140 s k = some (wrd b):=by
 unfold F140 wrd
 have e1:((b.toNat:Int) == 95) = (b.toNat == 95):=i_eq _ 95
 rw [idxS_some hb]
 simp only [Option.bind_some,F139_eq,F141_eq hb,e1]
 cases ltr b <;> cases dgt b <;> rfl
theorem run_eq {p:Int→Option Bool} {q:UInt8→Bool} (hp:∀ (k:Nat) b,(tl s)[k]? = some b→p (k:Int) = some (q b)) (hs:s.size≤4000) (hn:5000≤n) {a:Nat} (ha:a≤(tl s).length) :
  ((iter (σ:=Int) (ρ:=Int) (fun s1=>bif decide (s1 < (s.size:Int)) then ((p s1).bind fun x3=>bif x3 then (some (.inl (w64 (s1 + 1)))) else (some (.inr s1))) else (some (.inr s1))) n (a:Int)).bind fun r5=>some r5)
   = some ((a + (((tl s).drop a).takeWhile q).length:Nat):Int):=by
 have hz:=size_tl s
 apply T.eq
 refine T.bind (take_T (L:=tl s) q (fun k b hb=>?_) ?_ ha (by omega)) fun e he=>T.some he
 ·have hk:=lt_of_get hb
  have c:decide ((k:Int) < (s.size:Int)) = true:=by rw [hz]; simp; omega
  rw [c,hp k b hb,w64_nat (by omega)]
  cases q b <;> rfl
 ·have c:decide (((tl s).length:Int) < (s.size:Int)) = false:=by rw [hz]; simp
  rw [c]
  rfl
theorem F135_eq (hs:s.size≤4000) (hn:5000≤n) {a:Nat} (ha:a≤(tl s).length):F135 n s a s = some ((a + (((tl s).drop a).takeWhile wrd).length:Nat):Int):=by
 unfold F135
 exact run_eq (fun k b h=>F140_eq h) hs hn ha
theorem F135_1_eq (hs:s.size≤4000) (hn:5000≤n) {a:Nat} (ha:a≤(tl s).length):F135_1 n s a s = some ((a + (((tl s).drop a).takeWhile dgt).length:Nat):Int):=by
 unfold F135_1
 exact run_eq (fun k b h=>F141_eq h) hs hn ha
theorem F135_2_eq (hs:s.size≤4000) (hn:5000≤n) {a:Nat} (ha:a≤(tl s).length):F135_2 n s a s = some ((a + (((tl s).drop a).takeWhile wht).length:Nat):Int):=by
 unfold F135_2
 exact run_eq (fun k b h=>F136_eq h) hs hn ha
theorem F135_3_eq (hs:s.size≤4000) (hn:5000≤n) {a:Nat} (ha:a≤(tl s).length):F135_3 n s a s = some ((a + (((tl s).drop a).takeWhile nol).length:Nat):Int):=by
 unfold F135_3
 exact run_eq (fun k b h=>F138_eq h) hs hn ha
theorem pre_take (t l:List UInt8):(l.take t.length == t) = t.isPrefixOf l:=by
 rw [Bool.eq_iff_iff,List.isPrefixOf_iff_prefix,List.prefix_iff_eq_take,beq_iff_eq]
 exact eq_comm
theorem F137_eq (l:List UInt8):F137 (bs l) (bs [47,47]) = some (two l):=by
 unfold F137 F192
 have e0:((bs [47,47]).size:Int) = ((2:Nat):Int):=rfl
 have e1:((bs l).size:Int) = (l.length:Int):=rfl
 rw [e0,e1]
 by_cases h:2≤l.length
 ·have c:decide (((2:Nat):Int)≤(l.length:Int)) = true:=by simp; omega
  have e:=subS_eq (s:=bs l) (a:=0) (b:=2) (by omega) (by rw [tl_bs]; exact h)
  rw [c,cond_true]
  erw [e]
  simp only [Option.bind_some,tl_bs,List.drop_zero]
  exact congrArg some (pre_take [47,47] l)
 ·have c:decide (((2:Nat):Int)≤(l.length:Int)) = false:=by simp; omega
  rw [c]
  have:two l = false:=by
   rw [two,← pre_take]
   rw [beq_eq_false_iff_ne]
   intro e
   have:=congrArg List.length e
   rw [List.length_take] at this
   simp at this
   omega
  rw [this]
  rfl
theorem drop_step {L:List UInt8} {k:Nat} (q:UInt8→Bool) (hk:k≤L.length):k + ((L.drop k).takeWhile q).length≤L.length∧L.drop (k + ((L.drop k).takeWhile q).length) = (L.drop k).dropWhile q:=by
 constructor
 ·have:=len_tw q (L.drop k)
  rw [List.length_drop] at this
  omega
 ·rw [← List.drop_drop,drop_tw]
theorem F86_eq (hs:s.size≤4000) (hn:5000≤n) {a:Nat} (ha:a≤(tl s).length):F86 n s a = some (((tl s).length - (skp false ((tl s).drop a)).length:Nat):Int):=by
 have hz:=size_tl s
 apply T.eq
 unfold F86
 refine T.bind (P:=fun e=>e = (((tl s).length - (skp false ((tl s).drop a)).length:Nat):Int)) ?_ (fun _ h=>T.some h)
 refine iter_T (fun e=>∃ k:Nat,e = (k:Int)∧k≤(tl s).length∧skp false ((tl s).drop k) = skp false ((tl s).drop a)) (fun e=>((tl s).length - e.toNat)) _ (fun e he=>?_) n a (by omega) ⟨a,rfl,ha,rfl⟩
 obtain ⟨k,rfl,hk,hsk⟩:=he
 obtain ⟨hk2l,hd2⟩:=drop_step wht hk
 have h0:((tl s).drop k).takeWhile wht = [] ↔ (((tl s).drop k).takeWhile wht).length = 0:=List.length_eq_zero_iff.symm
 rw [F135_2_eq hs hn hk]
 simp only [Option.bind_some]
 generalize hk2:k + (((tl s).drop k).takeWhile wht).length = k2 at hk2l hd2
 have es:subS s (k2:Int) (s.size:Int) = some (bs ((tl s).drop k2)):=by
  rw [hz,subS_eq hk2l (Nat.le_refl _),List.take_of_length_le (by rw [List.length_drop]; omega)]
 rw [es]
 simp only [Option.bind_some,F137_eq]
 cases h2:two ((tl s).drop k2)
 ·simp only [cond_false,Option.bind_some]
  cases he:((k2:Int) == (k:Int))
  ·have ne:k2≠k:=by rw [i_eq] at he; simpa using he
   refine T.some ⟨⟨k2,rfl,hk2l,by rw [hd2,← skp_wht,hsk]⟩,?_⟩
   show (tl s).length - k2 < (tl s).length - k
   omega
  ·have eq:k2 = k:=by rw [i_eq] at he; simpa using he
   refine T.some ?_
   have h3:=skp_fix _ (h0.2 (by omega)) (by rw [← eq]; exact h2)
   rw [← hsk,h3,List.length_drop]
   show (k:Int) = _
   omega
 ·simp only [cond_true]
  obtain ⟨hk3l,hd3⟩:=drop_step nol hk2l
  have hpos:1≤(((tl s).drop k2).takeWhile nol).length:=by
   cases hd:(tl s).drop k2 with
   | nil=>rw [hd] at h2; simp [two] at h2
   | cons b r =>
    rw [hd] at h2
    have hb:=two_cons h2
    subst hb
    rw [List.takeWhile_cons,if_pos (by decide)]
    simp
  rw [F135_3_eq hs hn hk2l]
  simp only [Option.bind_some]
  generalize hk3:k2 + (((tl s).drop k2).takeWhile nol).length = k3 at hk3l hd3
  have he:((k3:Int) == (k:Int)) = false:=by rw [i_eq]; simp; omega
  rw [he]
  refine T.some ⟨⟨k3,rfl,hk3l,by rw [hd3,← skp_two _ h2,hd2,← skp_wht,hsk]⟩,?_⟩
  show (tl s).length - k3 < (tl s).length - k
  omega
theorem find_T {S:List ByteArray} {step:Int→Option (Int ⊕ (ByteArray ⊕ Unit))} (p:ByteArray→Bool)
  (h1:∀ (k:Nat) x,S[k]? = some x→T (step (k:Int)) (fun r=>r = if p x = true then .inr (.inl x) else .inl ((k + 1:Nat):Int)))
  (h2:step (S.length:Int) = some (.inr (.inr ()))) (hn:S.length < n) :
  T (iter step n (0:Int)) (fun r=>r = match S.find? p with | some x=>.inl x | none=>.inr ()):=by
 have key:∀ (l:List ByteArray) (k:Nat),runF (A:=Unit) (ρ:=ByteArray ⊕ Unit) (fun _ _ x=>if p x = true then .inr (.inl x) else .inl ()) (fun _=>.inr ()) k l () = match l.find? p with | some x=>.inl x | none=>.inr ():=by
  intro l
  induction l with
  | nil=>intro k; rfl
  | cons x l ih =>
   intro k
   rw [List.find?_cons,runF]
   cases hp:p x
   ·simpa [hp] using ih (k + 1)
   ·simp
 have e:=iter_runF S (fun (k:Nat) (_:Unit)=>(k:Int)) (fun _ _ x=>if p x = true then .inr (.inl x) else .inl ()) (fun _=>.inr ()) (step:=step)
  (fun k a x hx=>by
   rw [T.eq (h1 k x hx)]
   cases p x <;> rfl)
  (fun _=>h2) n () hn
 rw [key] at e
 exact ⟨_,e,rfl⟩
theorem allI_pre {L:List UInt8} {a:Nat}:∀ (t:List UInt8) (k:Nat),allI (fun j c=>L[a + j]? == some c) k t = t.isPrefixOf (L.drop (a + k))
 | [],_=>by simp [allI]
 | c :: t,k=>by
  rw [allI,allI_pre t (k + 1)]
  cases hd:L[a + k]? with
  | none =>
   have:L.drop (a + k) = []:=List.drop_eq_nil_iff.2 (List.getElem?_eq_none_iff.1 hd)
   rw [this]
   rfl
  | some d =>
   rw [get_drop hd,show a + (k + 1) = a + k + 1 by omega]
   show ((some d == some c) && _) = ((c == d) && _)
   congr 1
   rw [Bool.eq_iff_iff]
   simp
   exact eq_comm
theorem symTab_map:symTab.map tl = symL:=by rfl
theorem find_tl {p:List UInt8→Bool}:∀ (S:List ByteArray),(S.find? (fun x=>p (tl x))) = ((S.map tl).find? p).map bs
 | []=>rfl
 | x :: S=>by
  rw [List.find?_cons,List.map_cons,List.find?_cons]
  cases p (tl x)
  ·exact find_tl S
  ·rfl
theorem F142_eq (hs:s.size≤4000) (hn:5000≤n) {a:Nat} (ha:a≤(tl s).length):F142 n s a = some (bs ((symL.find? (fun t=>t.isPrefixOf ((tl s).drop a))).getD [])):=by
 have hz:=size_tl s
 apply T.eq
 unfold F142
 refine T.bind (find_T (S:=symTab) (fun x=>(tl x).isPrefixOf ((tl s).drop a)) (fun k x hx=>?_) ?_ (by simp [symTab]; omega)) fun r hr=>?_
 ·have hk:k < 27:=lt_of_get hx
  have c1:decide ((k:Int) < 27) = true:=by simp; omega
  have hm:=symTab_sz x (List.mem_of_getElem? hx)
  have hxz:=size_tl x
  rw [c1,idxL_some hx,w64_id (x:=(s.size:Int) - (a:Int)) (by omega) (by omega),w64_nat (k:=k) (by omega)]
  simp only [cond_true,Option.bind_some]
  refine T.cond (fun hc=>T.some ?_) (fun hc=>?_)
  ·have hc':(s.size:Int) - (a:Int) < (x.size:Int):=by simpa using hc
   have:(tl x).isPrefixOf ((tl s).drop a) = false:=by
    rw [← pre_take,beq_eq_false_iff_ne]
    intro e
    have:=congrArg List.length e
    rw [List.length_take,List.length_drop] at this
    omega
   simp [this]
  ·have hc':¬ (s.size:Int) - (a:Int) < (x.size:Int):=by simpa using hc
   refine T.bind (T.of_eq (iter_allI (tl x) (fun j c=>(tl s)[a + j]? == some c) (by omega) (fun j c hj=>?_) ?_ (n:=n) (by omega))) fun r hr=>?_
   ·have hjl:=lt_of_get hj
    have c2:decide ((j:Int) < (x.size:Int)) = true:=by simp; omega
    have hlt:a + j < (tl s).length:=by omega
    have hg:=List.getElem?_eq_getElem hlt
    have ew:w64 ((a:Int) + (j:Int)) = ((a + j:Nat):Int):=by rw [w64_id (by omega) (by omega)]; rfl
    rw [c2,ew,idxS_some hg,idxS_some hj,hg]
    simp only [cond_true,Option.bind_some]
    by_cases hcc:(tl s)[a + j] = c
    ·rw [hcc]; simp
    ·have:((((tl s)[a + j]).toNat:Int) != (c.toNat:Int)) = true:=by
      simp only [bne,i_eq,Bool.not_eq_true',beq_eq_false_iff_ne]
      exact fun e=>hcc (UInt8.toNat_inj.1 e)
     rw [this]
     simp [hcc]
   ·have c2:decide (((tl x).length:Int) < (x.size:Int)) = false:=by simp; omega
    rw [c2]
    rfl
   ·rw [hr,allI_pre]
    simp only [Nat.add_zero]
    cases (tl x).isPrefixOf ((tl s).drop a)
    ·exact T.some rfl
    ·exact T.some rfl
 ·have c1:decide (((symTab.length:Nat):Int) < 27) = false:=by simp [symTab]
  rw [c1]
  rfl
 ·rw [hr,find_tl (p:=fun t=>t.isPrefixOf ((tl s).drop a)),symTab_map]
  cases symL.find? (fun t=>t.isPrefixOf ((tl s).drop a)) with
  | none=>exact T.some rfl
  | some t=>exact T.some rfl
theorem F87_eq (hs:s.size≤4000) (hn:5000≤n) {a:Nat} {b:UInt8} {r:List UInt8} (hd:(tl s).drop a = b :: r) :
  F87 n s a = some (match tokL ((tl s).drop a) with | some km=>((km.1:Int),((a + km.2:Nat):Int)) | none=>((0:Int),(a:Int))):=by
 have hz:=size_tl s
 have hb:=get_of_drop hd
 have ha:=lt_of_get hb
 have hw:∀ k:Nat,k≤5000→w64 (((a + k:Nat):Int) - (a:Int)) = (k:Int):=fun k hk=>by
  rw [w64_id (by omega) (by omega)]; omega
 unfold F87
 rw [idxS_some hb]
 simp only [Option.bind_some,F139_eq]
 rw [hd,tokL_cons]
 cases h1:ltr b
 ·simp only [cond_false,F141_eq hb,Option.bind_some]
  cases h2:dgt b
  ·simp only [cond_false,F142_eq hs hn (Nat.le_of_lt ha),hd,Option.bind_some]
   cases hf:symL.find? (fun t=>t.isPrefixOf (b :: r)) with
   | none=>rfl
   | some t =>
    have hm:=symL_ok t (List.mem_of_find?_eq_some hf)
    have hne:strEq (bs t) (bs []) = false:=by
     cases t with
     | nil=>simp at hm
     | cons x y=>rfl
    have ew:w64 ((a:Int) + ((bs t).size:Int)) = ((a + t.length:Nat):Int):=by
     rw [size_bs,w64_id (by omega) (by omega)]; rfl
    simp only [Option.getD_some,hne,Bool.not_false,cond_true,ew,Option.map_some]
    rfl
  ·simp only [cond_true,F135_1_eq hs hn (Nat.le_of_lt ha),Option.bind_some]
   obtain ⟨hkl,hkd⟩:=drop_step dgt (Nat.le_of_lt ha)
   rw [hd] at hkl hkd ⊢
   unfold numOk
   rw [← hkd]
   generalize hk:((b :: r).takeWhile dgt).length = k at hkl hkd ⊢
   have hk1:1≤k:=by rw [← hk,List.takeWhile_cons,if_pos h2]; simp
   rw [hw k (by omega)]
   by_cases h9:9 < k
   ·have c1:decide (9 < (k:Int)) = true:=by simp; omega
    have c2:decide (k≤9) = false:=by simp; omega
    rw [c1,c2]
    rfl
   ·have c1:decide (9 < (k:Int)) = false:=by simp; omega
    have c2:decide (k≤9) = true:=by simp; omega
    rw [c1,c2]
    have e48:((b.toNat:Int) == 48) = (b.toNat == 48):=i_eq _ 48
    have e1:decide (1 < (k:Int)) = !(k == 1):=by rw [Bool.eq_iff_iff]; simp; omega
    simp only [cond_false,Option.bind_some,e48,e1,Bool.true_and]
    have e3:((b.toNat != 48) || (k == 1)) = !((b.toNat == 48) && !(k == 1)):=by
     simp only [bne]; cases b.toNat == 48 <;> cases k == 1 <;> rfl
    rw [e3]
    cases (b.toNat == 48) && !(k == 1)
    ·simp only [cond_false,Bool.not_false,Bool.true_and]
     rw [List.head?_drop]
     by_cases hlt:a + k < (tl s).length
     ·have hg:=List.getElem?_eq_getElem hlt
      have c3:decide (((a + k:Nat):Int) < (s.size:Int)) = true:=by simp; omega
      rw [c3,F140_eq hg,hg]
      simp only [cond_true,Option.bind_some,Option.all_some]
      cases wrd (tl s)[a + k] <;> rfl
     ·have c3:decide (((a + k:Nat):Int) < (s.size:Int)) = false:=by simp; omega
      rw [c3,List.getElem?_eq_none (by omega)]
      rfl
    ·rfl
 ·simp only [cond_true,F135_eq hs hn (Nat.le_of_lt ha),Option.bind_some]
  obtain ⟨hkl,_⟩:=drop_step wrd (Nat.le_of_lt ha)
  rw [hd] at hkl ⊢
  generalize hk:((b :: r).takeWhile wrd).length = k at hkl ⊢
  rw [hw k (by omega)]
  by_cases h16:16 < k
  ·have c1:decide (16 < (k:Int)) = true:=by simp; omega
   have c2:decide (k≤16) = false:=by simp; omega
   rw [c1,c2]
   rfl
  ·have c1:decide (16 < (k:Int)) = false:=by simp; omega
   have c2:decide (k≤16) = true:=by simp; omega
   rw [c1,c2]
   rfl
def outT (acc:List Token):List Token ⊕ (Int × Int)→List Token × Int × Int
 | .inl ts=>(acc ++ ts,0,0)
 | .inr e=>([],e.1,e.2)
def lexR (s:ByteArray):List Token × Int × Int :=
 if 4000 < s.size then ([],2,0) else outT [] (lexG s.size (s.size + 1) 0 (tl s))
theorem out_cons (acc:List Token) (t:Token) (r:List Token ⊕ (Int × Int)):outT acc (consT t r) = outT (acc ++ [t]) r:=by
 cases r with
 | inl ts=>simp [outT,consT]
 | inr e=>rfl
theorem F55_eq (hn:5000≤n):F55 n s = some (lexR s):=by
 have hz:=size_tl s
 apply T.eq
 unfold F55 lexR
 by_cases h4:4000 < s.size
 ·have c:decide ((4000:Int) < (s.size:Int)) = true:=by simp; omega
  rw [c,if_pos h4]
  exact T.some rfl
 have c:decide ((4000:Int) < (s.size:Int)) = false:=by simp; omega
 have hs:s.size≤4000:=by omega
 rw [c,if_neg h4]
 simp only [cond_false]
 refine T.bind (P:=fun r=>r = outT [] (lexG s.size (s.size + 1) 0 (tl s))) ?_ (fun r h=>T.some h)
 refine iter_T (fun st=>∃ (k f:Nat),st.2 = (k:Int)∧k≤(tl s).length∧st.1.length≤1500∧((tl s).drop k).length < f∧outT st.1 (lexG s.size f st.1.length ((tl s).drop k)) = outT [] (lexG s.size (s.size + 1) 0 (tl s))) (fun st=>(tl s).length - st.2.toNat) _ (fun st hst=>?_) n _ (by simp; omega) ⟨0,s.size + 1,rfl,by omega,by simp,by simp; omega,by simp⟩
 obtain ⟨k,f,hk,hkl,h15,hf,hout⟩:=hst
 rw [hk,F86_eq hs hn hkl]
 simp only [Option.bind_some]
 obtain ⟨f,rfl⟩:∃ g,f = g + 1:=⟨f - 1,by omega⟩
 simp only [lexG] at hout
 have hlen:=skp_len false ((tl s).drop k)
 rw [List.length_drop] at hlen
 obtain ⟨p,hp⟩:=skp_suf ((tl s).drop k) false
 have hp1:=congrArg List.length hp
 rw [List.length_append,List.length_drop] at hp1
 have hdr:(tl s).drop ((tl s).length - (skp false ((tl s).drop k)).length) = skp false ((tl s).drop k):=by
  have:(tl s).length - (skp false ((tl s).drop k)).length = k + p.length:=by omega
  rw [this,← List.drop_drop]
  conv=>lhs; rw [hp]
  exact List.drop_left
 cases hsk:skp false ((tl s).drop k) with
 | nil =>
  rw [hsk] at hout
  have c1:((((tl s).length - ([]:List UInt8).length:Nat):Int) == (s.size:Int)) = true:=by simp; omega
  rw [c1]
  simp only [lexS,outT,List.append_nil] at hout
  exact T.some hout
 | cons b r =>
  rw [hsk] at hout hdr hlen
  have hbl:1≤(b :: r).length:=by simp
  generalize hj:(tl s).length - (b :: r).length = j at hdr ⊢
  have hjl:j + (b :: r).length = (tl s).length:=by omega
  have c1:((j:Int) == (s.size:Int)) = false:=by rw [i_eq]; simp; omega
  rw [c1]
  simp only [cond_false]
  have hpos:s.size - (b :: r).length = j:=by omega
  simp only [lexS,hpos] at hout
  by_cases h1500:st.1.length = 1500
  ·have c2:((st.1.length:Int) == 1500) = true:=by simp; omega
   rw [c2]
   rw [if_pos h1500] at hout
   exact T.some hout
  have c2:((st.1.length:Int) == 1500) = false:=by simp; omega
  rw [c2,F87_eq hs hn hdr,hdr]
  rw [if_neg h1500] at hout
  simp only [cond_false,Option.bind_some]
  cases htk:tokL (b :: r) with
  | none =>
   rw [htk] at hout
   exact T.some hout
  | some km =>
   rw [htk] at hout
   have hm:=tokL_spec htk
   simp only at hout ⊢
   have c3:((km.1:Int) == 0) = false:=by simp; omega
   rw [c3,subS_eq (by omega) (by omega),hdr]
   simp only [cond_false,Option.bind_some,appL]
   rw [if_pos (by simp; omega)]
   rw [out_cons] at hout
   refine T.some ⟨⟨j + km.2,f,rfl,by omega,by simp; omega,?_,?_⟩,?_⟩
   ·rw [← List.drop_drop,hdr,List.length_drop]
    rw [List.length_drop] at hf
    omega
   ·rw [← List.drop_drop,hdr]
    have e1:j + km.2 - j = km.2:=by omega
    rw [e1,List.length_append]
    exact hout
   ·show (tl s).length - (((j + km.2:Nat):Int)).toNat < (tl s).length - ((k:Int)).toNat
    simp only [Int.toNat_natCast]
    omega
end Go.Proofs.YtbecjgckobhmpaaGreatDoor
end
section
namespace Go.Proofs.YtbecjgckobhmpaaGreatDoor
open Go Go.AM Go.Proofs
variable {s:ByteArray} {n:Nat}
theorem F113_eq {t:ByteArray} {a:Nat} (ha:a≤(tl s).length) (hs:s.size≤4000) (ht:t.size≤3):F113 s a t = some ((tl t).isPrefixOf ((tl s).drop a)):=by
 have hz:=size_tl s
 have htz:=size_tl t
 unfold F113
 have ew:w64 ((a:Int) + (t.size:Int)) = ((a + (tl t).length:Nat):Int):=by rw [w64_id (by omega) (by omega)]; omega
 rw [ew]
 by_cases h:a + (tl t).length≤(tl s).length
 ·have c:decide (((a + (tl t).length:Nat):Int)≤(s.size:Int)) = true:=by simp; omega
  rw [c,subS_eq (by omega) h]
  simp only [cond_true,Option.bind_some]
  rw [show a + (tl t).length - a = (tl t).length by omega]
  exact congrArg some (pre_take (tl t) _)
 ·have c:decide (((a + (tl t).length:Nat):Int)≤(s.size:Int)) = false:=by simp; omega
  rw [c]
  have:(tl t).isPrefixOf ((tl s).drop a) = false:=by
   rw [← pre_take,beq_eq_false_iff_ne]
   intro e
   have:=congrArg List.length e
   rw [List.length_take,List.length_drop] at this
   omega
  rw [this]
  rfl
theorem F114_eq (b:UInt8):F114 (b.toNat:Int) = some (wht b):=by
 unfold F114 wht
 have e1:((b.toNat:Int) == 32) = (b.toNat == 32):=i_eq _ 32
 have e2:((b.toNat:Int) == 9) = (b.toNat == 9):=i_eq _ 9
 have e3:((b.toNat:Int) == 10) = (b.toNat == 10):=i_eq _ 10
 have e4:((b.toNat:Int) == 13) = (b.toNat == 13):=i_eq _ 13
 rw [e1,e2,e3,e4]
 simp only [Bool.or_assoc]
theorem F115_eq (b:UInt8):F115 (b.toNat:Int) = some (ltr b):=by
 unfold F115 ltr
 have e1:decide (65≤(b.toNat:Int)) = decide (65≤b.toNat):=i_le 65 _
 have e2:decide ((b.toNat:Int)≤90) = decide (b.toNat≤90):=i_le _ 90
 have e3:decide (97≤(b.toNat:Int)) = decide (97≤b.toNat):=i_le 97 _
 have e4:decide ((b.toNat:Int)≤122) = decide (b.toNat≤122):=i_le _ 122
 rw [e1,e2,e3,e4,Bool.or_comm]
theorem F117_eq (b:UInt8):F117 (b.toNat:Int) = some (dgt b):=by
 unfold F117 dgt
 have e1:decide (48≤(b.toNat:Int)) = decide (48≤b.toNat):=i_le 48 _
 have e2:decide ((b.toNat:Int)≤57) = decide (b.toNat≤57):=i_le _ 57
 rw [e1,e2]
theorem F74_eq (hs:s.size≤4000) (hn:5000≤n) {a:Nat} (ha:a≤(tl s).length):F74 n s a = some (((tl s).length - (skp false ((tl s).drop a)).length:Nat):Int):=by
 have hz:=size_tl s
 apply T.eq
 unfold F74
 refine T.bind (P:=fun r=>match r with | .inl e=>e = (((tl s).length - (skp false ((tl s).drop a)).length:Nat):Int) | .inr e=>e = (((tl s).length - (skp false ((tl s).drop a)).length:Nat):Int)) ?_ (fun r h=>by
  cases r with
  | inl r=>exact T.some h
  | inr r=>exact T.some h)
 refine iter_T (fun e=>∃ k:Nat,e = (k:Int)∧k≤(tl s).length∧skp false ((tl s).drop k) = skp false ((tl s).drop a)) (fun e=>((tl s).length - e.toNat)) _ (fun e he=>?_) n a (by omega) ⟨a,rfl,ha,rfl⟩
 obtain ⟨k,rfl,hk,hsk⟩:=he
 by_cases hlt:k < (tl s).length
 ·have hg:=List.getElem?_eq_getElem hlt
  have hd:=get_drop hg
  have c1:decide ((k:Int) < (s.size:Int)) = true:=by simp; omega
  rw [c1,F113_eq hk hs (by simp [size_bs])]
  have e2:(tl (bs [47,47])).isPrefixOf ((tl s).drop k) = two ((tl s).drop k):=rfl
  rw [e2]
  simp only [cond_true,Option.bind_some]
  cases h2:two ((tl s).drop k)
  ·rw [idxS_some hg]
   simp only [cond_false,Option.bind_some,F114_eq,w64_nat (k:=k) (by omega)]
   cases hw:wht (tl s)[k]
   ·refine T.some ?_
    have h3:=skp_fix ((tl s).drop k) (by rw [hd,List.takeWhile_cons,if_neg (by simp [hw])]) h2
    show (k:Int) = _
    rw [← hsk,h3,List.length_drop]
    omega
   ·refine T.some ⟨⟨k + 1,rfl,by omega,?_⟩,?_⟩
    ·rw [← hsk,hd]
     simp only [skp,hw,if_true]
    ·show (tl s).length - (k + 1) < (tl s).length - k
     omega
  ·simp only [cond_true]
   obtain ⟨hk3l,hd3⟩:=drop_step nol hk
   have hpos:1≤(((tl s).drop k).takeWhile nol).length:=by
    rw [hd] at h2 ⊢
    have hb:=two_cons h2
    rw [hb,List.takeWhile_cons,if_pos (by decide)]
    simp
   refine T.bind (take_T (L:=tl s) nol (fun j b hb=>?_) ?_ hk (by omega)) fun e he=>?_
   ·have hjl:=lt_of_get hb
    have c:decide ((j:Int) < (s.size:Int)) = true:=by simp; omega
    have e3:((b.toNat:Int) == 10) = (b.toNat == 10):=i_eq _ 10
    rw [c,idxS_some hb,w64_nat (by omega)]
    simp only [cond_true,Option.bind_some,bne,e3]
    have:nol b = !(b.toNat == 10):=rfl
    rw [this]
    cases b.toNat == 10 <;> rfl
   ·have c:decide (((tl s).length:Int) < (s.size:Int)) = false:=by simp; omega
    rw [c]
    rfl
   ·subst he
    generalize hk3:k + (((tl s).drop k).takeWhile nol).length = k3 at hk3l hd3
    refine T.some ⟨⟨k3,rfl,hk3l,by rw [hd3,← skp_two _ h2,hsk]⟩,?_⟩
    show (tl s).length - k3 < (tl s).length - k
    omega
 ·have c1:decide ((k:Int) < (s.size:Int)) = false:=by simp; omega
  rw [c1]
  refine T.some ?_
  have:(tl s).drop k = []:=List.drop_eq_nil_iff.2 (by omega)
  show (k:Int) = _
  rw [← hsk,this,skp_nil]
  simp
  omega
theorem F116_eq (hs:s.size≤4000) (hn:5000≤n) {a:Nat} (ha:a≤(tl s).length) :
  F116 n s a = some (⟨1,bs (((tl s).drop a).takeWhile wrd),(a:Int)⟩,decide ((((tl s).drop a).takeWhile wrd).length≤16)):=by
 have hz:=size_tl s
 apply T.eq
 unfold F116
 refine T.bind (take_T (L:=tl s) wrd (fun j b hb=>?_) ?_ ha (by omega)) fun e he=>?_
 ·have hjl:=lt_of_get hb
  have c:decide ((j:Int) < (s.size:Int)) = true:=by simp; omega
  have e3:((b.toNat:Int) == 95) = (b.toNat == 95):=i_eq _ 95
  rw [c,idxS_some hb,w64_nat (by omega)]
  simp only [cond_true,Option.bind_some,F115_eq,F117_eq,e3]
  have hw:wrd b = (ltr b || (dgt b || b.toNat == 95)):=rfl
  rw [hw]
  cases ltr b <;> cases dgt b <;> cases b.toNat == 95 <;> rfl
 ·have c:decide (((tl s).length:Int) < (s.size:Int)) = false:=by simp; omega
  rw [c]
  rfl
 ·subst he
  obtain ⟨hkl,_⟩:=drop_step wrd ha
  rw [subS_eq (by omega) hkl]
  simp only [Option.bind_some]
  rw [w64_id (by omega) (by omega),Nat.add_sub_cancel_left,take_tw]
  refine T.some ?_
  congr 1
  rw [decide_eq_decide]
  omega
theorem F118_eq (hs:s.size≤4000) (hn:5000≤n) {a:Nat} {b:UInt8} {r:List UInt8} (hd:(tl s).drop a = b :: r) (hb2:dgt b = true) :
  F118 n s a = some (⟨2,bs (((tl s).drop a).takeWhile dgt),(a:Int)⟩,numOk b ((tl s).drop a)):=by
 have hz:=size_tl s
 have hb:=get_of_drop hd
 have ha:=lt_of_get hb
 apply T.eq
 unfold F118
 refine T.bind (take_T (L:=tl s) dgt (fun j b hb=>?_) ?_ (Nat.le_of_lt ha) (by omega)) fun e he=>?_
 ·have hjl:=lt_of_get hb
  have c:decide ((j:Int) < (s.size:Int)) = true:=by simp; omega
  rw [c,idxS_some hb,w64_nat (by omega)]
  simp only [cond_true,Option.bind_some,F117_eq]
  cases dgt b <;> rfl
 ·have c:decide (((tl s).length:Int) < (s.size:Int)) = false:=by simp; omega
  rw [c]
  rfl
 ·subst he
  obtain ⟨hkl,hkd⟩:=drop_step dgt (Nat.le_of_lt ha)
  have htk:=take_tw dgt ((tl s).drop a)
  have hnd:∀ c,(((tl s).drop a).dropWhile dgt).head? = some c→dgt c = false:=by
   intro c hc
   have:=List.head?_dropWhile_not dgt ((tl s).drop a)
   rw [hc] at this
   simpa using this
  unfold numOk
  rw [← hkd] at hnd ⊢
  have hk1:1≤(((tl s).drop a).takeWhile dgt).length:=by rw [hd,List.takeWhile_cons,if_pos hb2]; simp
  rw [subS_eq (by omega) hkl,Nat.add_sub_cancel_left,htk,idxS_some hb]
  generalize hk:(((tl s).drop a).takeWhile dgt).length = k at hkl hkd hk1 hnd ⊢
  have ew:w64 (((a + k:Nat):Int) - (a:Int)) = (k:Int):=by rw [w64_id (by omega) (by omega)]; omega
  have ew2:w64 ((a:Int) + 1) = ((a + 1:Nat):Int):=w64_nat (by omega)
  rw [ew,ew2]
  have e9:decide ((k:Int)≤9) = decide (k≤9):=i_le k 9
  have e48:((b.toNat:Int) == 48) = (b.toNat == 48):=i_eq _ 48
  have e1:(((a + k:Nat):Int) == ((a + 1:Nat):Int)) = (k == 1):=by
   rw [i_eq,Bool.eq_iff_iff]; simp only [beq_iff_eq]; omega
  simp only [Option.bind_some,e9,bne,e48,e1]
  have ej:(bif decide (k≤9) then some ((!(b.toNat == 48)) || (k == 1)) else some false) = some (decide (k≤9) && ((!(b.toNat == 48)) || (k == 1))):=by
   cases decide (k≤9) <;> rfl
  rw [ej]
  simp only [Option.bind_some]
  rw [List.head?_drop] at hnd ⊢
  by_cases hlt:a + k < (tl s).length
  ·have hg:=List.getElem?_eq_getElem hlt
   have hdg:=hnd _ hg
   have c3:decide (((a + k:Nat):Int) < (s.size:Int)) = true:=by simp; omega
   have e95:((((tl s)[a + k]).toNat:Int) == 95) = (((tl s)[a + k]).toNat == 95):=i_eq _ 95
   rw [c3,idxS_some hg,hg]
   simp only [cond_true,Option.bind_some,F115_eq,e95,Option.all_some,wrd,hdg,Bool.false_or]
   cases ltr (tl s)[a + k] <;> cases ((tl s)[a + k]).toNat == 95 <;> cases decide (k≤9) <;> cases b.toNat == 48 <;> cases k == 1 <;> exact T.some rfl
  ·have c3:decide (((a + k:Nat):Int) < (s.size:Int)) = false:=by simp; omega
   rw [c3,List.getElem?_eq_none (by omega)]
   simp only [cond_false,Option.bind_some,Option.all_none,Bool.and_true]
   exact T.some rfl
def symR:List ByteArray:=[(bs [61,61,62]),(bs [58,61]),(bs [61,61]),(bs [33,61]),(bs [60,61]),(bs [38,38]),(bs [124,124]),(bs [123]),(bs [125]),(bs [40]),(bs [41]),(bs [91]),(bs [93]),(bs [59]),(bs [58]),(bs [44]),(bs [46]),(bs [63]),(bs [61]),(bs [33]),(bs [60]),(bs [38]),(bs [124]),(bs [94]),(bs [43]),(bs [45]),(bs [42])]
theorem symR_sz:∀ x ∈ symR,1≤x.size∧x.size≤3:=by
 have:symR.all (fun x=>decide (1≤x.size∧x.size≤3)) = true:=by rfl
 intro x hx
 simpa using List.all_eq_true.1 this x hx
theorem symR_find (l:List UInt8):(symR.map tl).find? (fun t=>t.isPrefixOf l) = symL.find? (fun t=>t.isPrefixOf l):=by
 show ([61,61,62] :: [58,61] :: [61,61] :: symL.drop 3:List (List UInt8)).find? _ = ([61,61,62] :: [61,61] :: [58,61] :: symL.drop 3:List (List UInt8)).find? _
 simp only [List.find?_cons]
 cases h1:([61,61,62]:List UInt8).isPrefixOf l
 ·cases h2:([58,61]:List UInt8).isPrefixOf l
  ·cases h3:([61,61]:List UInt8).isPrefixOf l <;> rfl
  ·cases h3:([61,61]:List UInt8).isPrefixOf l
   ·rfl
   ·cases l with
    | nil=>simp at h2
    | cons x l =>
     simp [List.isPrefixOf] at h2 h3
     exact absurd (h2.1.trans h3.1.symm) (by decide)
 ·rfl
theorem F75_eq (hs:s.size≤4000) (hn:5000≤n) {a:Nat} {b:UInt8} {r:List UInt8} (hd:(tl s).drop a = b :: r) :
  T (F75 n s a) (fun q=>match tokL ((tl s).drop a) with | some km=>q = (⟨(km.1:Int),bs (((tl s).drop a).take km.2),(a:Int)⟩,true) | none=>q.2 = false):=by
 have hz:=size_tl s
 have hb:=get_of_drop hd
 have ha:=lt_of_get hb
 unfold F75
 rw [idxS_some hb]
 simp only [Option.bind_some,F115_eq,F117_eq]
 rw [hd,tokL_cons]
 cases h1:ltr b
 ·simp only [cond_false]
  cases h2:dgt b
  ·simp only [cond_false,F119,Option.bind_some]
   refine T.bind (find_T (S:=symR) (fun x=>(tl x).isPrefixOf ((tl s).drop a)) (fun k x hx=>?_) ?_ (by simp [symR]; omega)) fun q hq=>?_
   ·have hk:=lt_of_get hx
    have hk27:k < 27:=hk
    have c1:decide ((k:Int) < (symR.length:Int)) = true:=by simp; omega
    have hm:=symR_sz x (List.mem_of_getElem? hx)
    show T (bif decide ((k:Int) < (symR.length:Int)) then ((idxL symR (k:Int)).bind fun x13 =>
     (F113 s (a:Int) x13).bind fun x14 =>
     bif x14 then
      ((idxL symR (k:Int)).bind fun x16 =>
      some (.inr (.inl x16)))
     else
      (some (.inl (w64 ((k:Int) + 1))))) else some (.inr (.inr ())):Option (Int ⊕ (ByteArray ⊕ Unit))) _
    rw [c1,idxL_some hx,w64_nat (k:=k) (by omega)]
    simp only [cond_true,Option.bind_some]
    rw [F113_eq (Nat.le_of_lt ha) hs hm.2]
    simp only [Option.bind_some]
    cases (tl x).isPrefixOf ((tl s).drop a)
    ·exact T.some rfl
    ·exact T.some rfl
   ·rfl
   ·rw [hq,find_tl (p:=fun t=>t.isPrefixOf ((tl s).drop a)),symR_find,hd]
    cases hf:symL.find? (fun t=>t.isPrefixOf (b :: r)) with
    | none=>exact T.some rfl
    | some t =>
     have hp:=List.find?_some hf
     have ht:=List.prefix_iff_eq_take.1 (List.isPrefixOf_iff_prefix.1 hp)
     refine T.some ?_
     simp only [Option.map_some]
     rw [← ht]
     rfl
  ·simp only [cond_true]
   rw [F118_eq hs hn hd h2,hd]
   simp only [Option.bind_some]
   cases numOk b (b :: r)
   ·exact T.some rfl
   ·refine T.some ?_
    simp only [cond_true]
    rw [take_tw]
    rfl
 ·simp only [cond_true]
  rw [F116_eq hs hn (Nat.le_of_lt ha),hd]
  simp only [Option.bind_some]
  cases decide (((b :: r).takeWhile wrd).length≤16)
  ·exact T.some rfl
  ·refine T.some ?_
   simp only [cond_true]
   rw [take_tw]
   rfl
theorem F39_eq (hn:5000≤n):F39 n s = some (lexR s):=by
 have hz:=size_tl s
 apply T.eq
 unfold F39 lexR
 by_cases h4:4000 < s.size
 ·have c:decide ((4000:Int) < (s.size:Int)) = true:=by simp; omega
  rw [c,if_pos h4]
  exact T.some rfl
 have c:decide ((4000:Int) < (s.size:Int)) = false:=by simp; omega
 have hs:s.size≤4000:=by omega
 rw [c,if_neg h4]
 simp only [cond_false]
 have e0:F74 n s (0:Int) = some (((tl s).length - (skp false ((tl s).drop 0)).length:Nat):Int):=F74_eq (a:=0) hs hn (by omega)
 rw [e0]
 simp only [Option.bind_some]
 have hdr:∀ k,k≤(tl s).length→(tl s).drop ((tl s).length - (skp false ((tl s).drop k)).length) = skp false ((tl s).drop k)∧k≤(tl s).length - (skp false ((tl s).drop k)).length:=by
  intro k hk
  obtain ⟨p,hp⟩:=skp_suf ((tl s).drop k) false
  have hp1:=congrArg List.length hp
  rw [List.length_append,List.length_drop] at hp1
  have e:(tl s).length - (skp false ((tl s).drop k)).length = k + p.length:=by omega
  constructor
  ·rw [e,← List.drop_drop]
   conv=>lhs; rw [hp]
   exact List.drop_left
  ·omega
 refine T.bind (P:=fun r=>(match r with | .inl e=>(([]:List Token),e.1,e.2) | .inr l=>(l,(0:Int),(0:Int))) = outT [] (lexG s.size (s.size + 1) 0 (tl s))) ?_ (fun r h=>by
  cases r with
  | inl e=>exact T.some h
  | inr l=>exact T.some h)
 refine iter_T (fun st=>∃ (k f:Nat),st.2 = (k:Int)∧k≤(tl s).length∧st.1.length≤1500∧((tl s).drop k).length≤f∧outT st.1 (lexS s.size (lexG s.size f (st.1.length + 1)) st.1.length ((tl s).drop k)) = outT [] (lexG s.size (s.size + 1) 0 (tl s))) (fun st=>(tl s).length - st.2.toNat) _ (fun st hst=>?_) n _ ?_ ⟨(tl s).length - (skp false ((tl s).drop 0)).length,s.size,rfl,by omega,by simp,?_,?_⟩
 ·obtain ⟨k,f,hk,hkl,h15,hf,hout⟩:=hst
  rw [hk]
  cases hd:(tl s).drop k with
  | nil =>
   have hk2:k = (tl s).length:=by
    have:=List.drop_eq_nil_iff.1 hd
    omega
   have c1:decide ((k:Int) < (s.size:Int)) = false:=by simp; omega
   rw [c1]
   rw [hd] at hout
   simp only [lexS,outT,List.append_nil] at hout
   exact T.some hout
  | cons b r =>
   have hlt:k < (tl s).length:=lt_of_get (get_of_drop hd)
   have hlen:=List.length_drop (i:=k) (l:=tl s)
   have c1:decide ((k:Int) < (s.size:Int)) = true:=by simp; omega
   have hpos:s.size - ((tl s).drop k).length = k:=by omega
   rw [c1]
   rw [hd] at hpos
   rw [hd] at hout
   simp only [lexS,hpos] at hout
   simp only [cond_true]
   by_cases h1500:st.1.length = 1500
   ·have c2:decide ((1500:Int)≤(st.1.length:Int)) = true:=by simp; omega
    rw [c2]
    rw [if_pos h1500] at hout
    exact T.some hout
   have c2:decide ((1500:Int)≤(st.1.length:Int)) = false:=by simp; omega
   rw [c2]
   simp only [cond_false]
   rw [if_neg h1500] at hout
   obtain ⟨q,hq,hq2⟩:=F75_eq hs hn hd
   rw [hq]
   simp only [Option.bind_some]
   rw [hd] at hq2
   cases htk:tokL (b :: r) with
   | none =>
    rw [htk] at hout hq2
    have hq2':q.2 = false:=hq2
    rw [hq2']
    exact T.some hout
   | some km =>
    rw [htk] at hout hq2
    have hq2':q = (⟨(km.1:Int),bs ((b :: r).take km.2),(k:Int)⟩,true):=hq2
    have hm:=tokL_spec htk
    subst hq2'
    simp only [Bool.not_true,cond_false,appL] at hout ⊢
    rw [if_pos (by simp; omega)]
    have hlen2:(tl s).length - k = (b :: r).length:=by rw [← hlen,hd]
    have etz:((bs ((b :: r).take km.2)).size:Int) = (km.2:Int):=by
     rw [size_bs,List.length_take]; omega
    have ew:w64 ((k:Int) + ((bs ((b :: r).take km.2)).size:Int)) = ((k + km.2:Nat):Int):=by
     rw [etz,w64_id (by omega) (by omega)]; rfl
    rw [ew,F74_eq hs hn (a:=k + km.2) (by omega)]
    simp only [Option.bind_some]
    obtain ⟨h5,h6⟩:=hdr (k + km.2) (by omega)
    rw [out_cons] at hout
    have hdk:(tl s).drop (k + km.2) = (b :: r).drop km.2:=by rw [← List.drop_drop,hd]
    have hsl:=skp_len false ((tl s).drop (k + km.2))
    rw [List.length_drop] at hsl
    obtain ⟨f,rfl⟩:∃ g,f = g + 1:=⟨f - 1,by rw [List.length_drop] at hf; omega⟩
    refine T.some ⟨⟨_,f,rfl,by omega,by simp; omega,?_,?_⟩,?_⟩
    ·rw [h5]
     rw [List.length_drop] at hf
     omega
    ·rw [h5,hdk]
     simp only [List.length_append,List.length_cons,List.length_nil]
     simp only [lexG] at hout
     exact hout
    ·show (tl s).length - ((((tl s).length - (skp false ((tl s).drop (k + km.2))).length:Nat):Int)).toNat < (tl s).length - ((k:Int)).toNat
     simp only [Int.toNat_natCast]
     omega
 ·simp only [Int.toNat_natCast]
  omega
 ·rw [(hdr 0 (by omega)).1]
  have:=skp_len false ((tl s).drop 0)
  rw [List.length_drop] at this
  omega
 ·rw [(hdr 0 (by omega)).1]
  simp only [List.drop_zero,List.length_nil]
  rfl
end Go.Proofs.YtbecjgckobhmpaaGreatDoor
end
section
namespace Go.Proofs.YtbecjgckobhmpaaGreatDoor
open Go Go.AM Go.Proofs
theorem WfN.lim4 {x:Node} (h:WfN x):Lim maxLen x:=by
 induction h with
 | mk x h1 h2 h3 h4 h5 h6 h7 h8 h9 ih=>exact .mk x (by rw [← size_tl]; exact h2) (by rw [← size_tl]; exact h3) h7 ih
theorem lexG_err {N:Nat}:∀ {f c:Nat} {l:List UInt8} {e:Int × Int},lexG N f c l = .inr e→e.1 = 2∨e.1 = 10
 | 0,_,_,_,h=>by cases h
 | f + 1,c,l,e,h=>by
  simp only [lexG] at h
  cases hs:skp false l with
  | nil=>rw [hs] at h; cases h
  | cons b r =>
   rw [hs] at h
   simp only [lexS] at h
   by_cases hc:c = 1500
   ·rw [if_pos hc] at h; cases h; exact .inl rfl
   ·rw [if_neg hc] at h
    cases ht:tokL (b :: r) with
    | none=>rw [ht] at h; cases h; exact .inr rfl
    | some km =>
     rw [ht] at h
     simp only at h
     cases hg:lexG N f (c + 1) ((b :: r).drop km.2) with
     | inl e=>rw [hg] at h; cases h
     | inr e' =>
      rw [hg] at h
      cases h
      exact lexG_err hg
theorem lexG_cnt {N:Nat}:∀ {f c:Nat} {l:List UInt8} {ts:List Token},lexG N f c l = .inl ts→c≤1500→c + ts.length≤1500
 | 0,_,_,_,h,hc=>by cases h; simpa using hc
 | f + 1,c,l,ts,h,hc0=>by
  simp only [lexG] at h
  cases hs:skp false l with
  | nil=>rw [hs] at h; cases h; simpa using hc0
  | cons b r =>
   rw [hs] at h
   simp only [lexS] at h
   by_cases hc:c = 1500
   ·rw [if_pos hc] at h; cases h
   ·rw [if_neg hc] at h
    cases ht:tokL (b :: r) with
    | none=>rw [ht] at h; cases h
    | some km =>
     rw [ht] at h
     simp only at h
     cases hg:lexG N f (c + 1) ((b :: r).drop km.2) with
     | inr e=>rw [hg] at h; cases h
     | inl us =>
      rw [hg] at h
      cases h
      have:=lexG_cnt hg (by omega)
      simp only [List.length_cons]
      omega
def Acc (l:List UInt8):Prop:=l.length≤4000∧∃ ts,lexG l.length (l.length + 1) 0 l = .inl ts
theorem acc_iff (l:List UInt8):(lexR (bs l)).2.1 = 0 ↔ Acc l:=by
 unfold lexR Acc
 rw [tl_bs,size_bs]
 by_cases h:4000 < l.length
 ·rw [if_pos h]
  constructor
  ·intro e; cases e
  ·intro e; omega
 ·rw [if_neg h]
  cases hg:lexG l.length (l.length + 1) 0 l with
  | inl ts=>exact ⟨fun _=>⟨by omega,ts,rfl⟩,fun _=>rfl⟩
  | inr e =>
   constructor
   ·intro h0
    have h0':e.1 = 0:=h0
    rcases lexG_err hg with h | h <;> rw [h] at h0' <;> cases h0'
   ·rintro ⟨_,ts,h⟩
    cases h
theorem Acc.part {A B C:List UInt8} (h:Acc (A ++ (B ++ C))) (hA:A = []∨A.getLast? = some 10) (hB:B = []∨B.getLast? = some 10):Acc B:=by
 obtain ⟨hl,ts,h⟩:=h
 simp only [List.length_append] at hl
 rw [lexG_app _ (B ++ C) (f2:=(B ++ C).length + 1) (by omega) (A.length + 1) _ 0 A hA (by omega) (by omega)] at h
 cases h1:lexG ((A ++ (B ++ C)).length - (B ++ C).length) (A.length + 1) 0 A with
 | inr e=>rw [h1] at h; cases h
 | inl t1 =>
  rw [h1] at h
  have hc:=lexG_cnt h1 (by omega)
  simp only at h
  rw [lexG_app _ C (f2:=C.length + 1) (by omega) (B.length + 1) _ _ B hB (by omega) (by omega)] at h
  cases h2:lexG ((A ++ (B ++ C)).length - C.length) (B.length + 1) (0 + t1.length) B with
  | inr e=>rw [h2] at h; cases h
  | inl t2 =>
   exact ⟨by omega,lexG_low h2 (by omega) (by omega)⟩
theorem F51_acc {l:List UInt8} {n:Nat} (hn:5000≤n) (h:Acc l):F51 n (bs l) = some (bs l,0):=by
 unfold F51
 rw [F55_eq hn]
 simp only [Option.bind_some,(acc_iff l).2 h]
 rfl
theorem F19_acc {b:Nat} (hb:b≤9223372036854775807) (x:Node) (hlim:Lim b x) (hs:sz x≤200) {n:Nat} (hn:5000≤n) (h62:x.kind = 62) (hv:validB x = true) (ha:Acc (srcT x)) :
  F19 n x = some (bs (srcT x),0):=by
 unfold F19
 have hT:okT x = true:=by simp only [validB,Bool.and_eq_true] at hv; exact hv.2.2
 obtain ⟨b',e⟩:=F50_src hT h62 hs (n:=n) (by omega)
 have c:(x.kind != 62) = false:=by simp [h62]
 rw [c,F28_eq hb x hlim hs (by omega),hv,e]
 simp only [Option.bind_some,cond_false,Bool.not_true]
 rw [F51_acc hn ha]
 rfl
theorem lin_last:∀ l:Lines,linesT l = []∨(linesT l).getLast? = some 10
 | []=>.inl rfl
 | p :: r=>by
  right
  rw [linesT_cons]
  rcases lin_last r with h | h
  ·rw [h,List.append_nil,lineT,← List.append_assoc,List.getLast?_append]
   rfl
  ·rw [List.getLast?_append,h]
   rfl
theorem itms_app (d:Nat):∀ a b:List Node,itms d (a ++ b) = itms d a ++ itms d b
 | [],b=>by simp [itms]
 | x :: a,b=>by simp [itms,itms_app d a b]
theorem kid_valid {x:Node} (h62:x.kind = 62) (hv:validB x = true) {y:Node} (hy:y ∈ x.kids):validB (Node.mk 62 (bs []) (bs []) 0 0 0 false [y] 0) = true:=by
 simp only [validB,Bool.and_eq_true,decide_eq_true_eq] at hv ⊢
 obtain ⟨_,hd,hT⟩:=hv
 obtain ⟨hf,hkd,hks⟩:=okT_parts hT
 simp [kidsB,leafK,oneK,h62] at hkd
 refine ⟨rfl,?_,okT_mk ?_ ?_ ?_⟩
 ·rw [dp_eq] at hd ⊢
  have h1:dp y≤dps x.kids:=(dps_le x.kids (dps x.kids)).1 (Nat.le_refl _) y hy
  have h2:dps [y]≤dp y:=(dps_le [y] (dp y)).2 (by simp)
  show 1 + dps [y]≤40
  omega
 ·simp [fieldsB,fldGood,hasName,hasOther,hasN,strEq_self]
 ·simp [kidsB,leafK,oneK,hkd y hy]
 ·intro z hz
  have:z = y:=by simpa using hz
  subst this
  exact hks z hy
theorem law4 (x:Node) (h:WfN x):∃ n,F4 n x = some true:=by
 have hb:maxLen≤9223372036854775807:=by decide
 obtain ⟨n,hn0⟩:∃ n,n = maxLen + 5000:=⟨_,rfl⟩
 have hn:maxLen + 5000≤n:=Nat.le_of_eq hn0.symm
 have hn5:5000≤n:=Nat.le_trans (Nat.le_add_left _ _) hn
 clear hn0
 obtain ⟨v,hv,h1⟩:=F18_T hb x h.lim4 hn
 refine ⟨n,?_⟩
 unfold F4
 rw [F17_eq (Nat.le_trans (by decide) hn5),hv]
 simp only [Option.bind_some]
 cases v
 ·rfl
 simp only [Bool.not_true,cond_false]
 obtain ⟨hsz,h62,hval,q,hq,hq0⟩:=h1 rfl
 rw [F39_eq hn5] at hq
 obtain rfl:=Option.some.inj hq
 have ha:=(acc_iff _).1 hq0
 rw [F19_acc hb x h.lim4 (by omega) hn5 h62 hval ha]
 simp only [Option.bind_some]
 have hlim:=h.lim4
 obtain ⟨_,l1,l2,l3,l4⟩:=hlim
 have hlen:=szs_len x.kids
 have hszx:=sz_eq x
 have key:=iter_inv (step:=(fun s5:ByteArray × Int=>bif decide (s5.2 < (x.kids.length:Int)) then
    ((subL x.kids s5.2 (w64 (s5.2 + 1))).bind fun x7 =>
    (F19 n (Node.mk 62 (bs []) (bs []) 0 0 0 false x7 0)).bind fun x8 =>
    bif x8.2 != 0 then
     (some (.inr (.inl ())))
    else
     ((catS s5.1 x8.1).bind fun x10 =>
     some (.inl (x10,w64 (s5.2 + 1)))))
   else
    (some (.inr (.inr s5.1))):ByteArray × Int→Option ((ByteArray × Int) ⊕ (Unit ⊕ ByteArray))))
  x.kids (fun (k:Nat) (a:ByteArray)=>(a,(k:Int))) (fun k a=>a = bs (linesT (itms 0 (x.kids.take k)))) (fun r=>r = .inr (bs (srcT x))) (fun k a y hy ha'=>by
   left
   have hlt:=lt_of_get hy
   have hm:=List.mem_of_getElem? hy
   have hys:=szs_mem x.kids y hm
   have c1:decide ((k:Int) < (x.kids.length:Int)) = true:=by simpa using hlt
   have es:subL x.kids (k:Int) (w64 ((k:Int) + 1)) = some [y]:=by
    rw [w64_nat (by omega),subL_eq (by omega) (by omega),get_drop hy,Nat.add_sub_cancel_left]
    rfl
   have hsplit:srcT x = linesT (itms 0 (x.kids.take k)) ++ (linesT (itms 0 [y]) ++ linesT (itms 0 (x.kids.drop (k + 1)))):=by
    have e:x.kids = x.kids.take k ++ ([y] ++ x.kids.drop (k + 1)):=by
     conv=>lhs; rw [← List.take_append_drop k x.kids,get_drop hy]
     rfl
    unfold srcT
    conv=>lhs; rw [e]
    rw [itms_app,itms_app,linesT_append,linesT_append]
   rw [hsplit] at ha
   have hacc:Acc (srcT (Node.mk 62 (bs []) (bs []) 0 0 0 false [y] 0)):=ha.part (lin_last _) (lin_last _)
   have e19:=F19_acc hb (Node.mk 62 (bs []) (bs []) 0 0 0 false [y] 0) (.mk _ (Nat.zero_le _) (Nat.zero_le _) (by show 1≤_; exact Nat.le_trans (by decide) (Nat.le_refl maxLen)) (fun z hz=>by
    have:z = y:=by simpa using hz
    subst this
    exact l4 z hm)) (by rw [sz_eq]; simp only [szs]; omega) (n:=n) hn5 rfl (kid_valid h62 hval hm) hacc
   have hl4:=ha.1
   simp only [List.length_append] at hl4
   refine ⟨bs (linesT (itms 0 (x.kids.take (k + 1)))),?_,rfl⟩
   simp only [c1,cond_true,es,Option.bind_some,e19,ha']
   have hne:((0:Int) != 0) = false:=rfl
   simp only [hne,cond_false]
   have ec:catS (bs (linesT (itms 0 (x.kids.take k)))) (bs (srcT (Node.mk 62 (bs []) (bs []) 0 0 0 false [y] 0))) = some (bs (linesT (itms 0 (x.kids.take (k + 1))))):=by
    unfold catS
    rw [if_pos (by
     rw [size_bs,size_bs]
     show (linesT (itms 0 (x.kids.take k))).length + (linesT (itms 0 [y])).length≤_
     omega)]
    have e2:x.kids.take (k + 1) = x.kids.take k ++ [y]:=by rw [List.take_add_one,hy]; rfl
    rw [e2,itms_app,linesT_append]
    rfl
   rw [ec]
   simp only [Option.bind_some,w64_nat (k:=k) (by omega)])
  (fun a ha'=>by
   have c1:decide ((x.kids.length:Int) < (x.kids.length:Int)) = false:=by simp
   refine ⟨_,?_,rfl⟩
   simp only [c1,cond_false,ha',List.take_length]
   rfl) n (bs []) (by omega) (by simp [itms,linesT])
 obtain ⟨r,hr,rfl⟩:=key
 have hr':=hr
 erw [hr]
 simp only [Option.bind_some,strEq_self]
 rfl
end Go.Proofs.YtbecjgckobhmpaaGreatDoor
end
section
namespace Go.Proofs.YtbecjgckobhmpaaGreatDoor
open Go Go.AM Go.Proofs
set_option maxRecDepth 100000
theorem named4:Tryz.prog.funcNamed Rows.printerConcatenationRow.func = some 4:=by kernel_rfl
theorem goes4:false = Rows.printerConcatenationRow.goesBy Tryz.prog:=by kernel_rfl
theorem wf4:Rows.printerConcatenationRow.wfByText (OpenSpec.ofChange Rows.printerConcatenationSpec) = true:=by kernel_rfl
theorem printerConcatenation_said:Rows.PrinterConcatenationSaid:=holds4 law4
theorem hl4:∀ f fn,Tryz.pinned.checked.prog.funcNamed Rows.printerConcatenationRow.func = some f→Tryz.pinned.checked.prog.funcs[f]? = some fn →
  true = Tryz.pinned.checked.prog.looks []∧∀ (j:Nat) t,fn.params[j]? = some t→Tryz.pinned.checked.prog.wantsStandIn t = false:=fun f fn hf hfn=>by
 obtain rfl:f = 4:=Option.some.inj (named4.symm.trans hf) |>.symm
 obtain rfl:fn = Tryz.f4:=(Option.some.inj (Tryz.func4.symm.trans hfn)).symm
 refine ⟨looks_ok,fun j t ht=>?_⟩
 rw [Tryz.params4] at ht
 have h3:t = 24:=by
  rcases j with _ | j
  ·simpa using ht.symm
  ·simp at ht
 subst h3
 exact noStand24
theorem printerConcatenation_card:Rows.PrinterConcatenationCardSaid :=
 Claim7.holds_tied_plain_at .later [] [.data, .data, .data, .data, .data] true (true, "2c71bd9c32cec8dbcba7c163806e698ca6c65506520b8081d9b2cc6a0913ebf0") true
  printerConcatenation_said (fun _ h=>by cases h) wf4 (fun _ h=>by cases h) printerConcatenation_row_tie rfl ⟨rfl,rfl⟩ harness_ok rfl hl4 goes4
#print axioms printerConcatenation_card
end Go.Proofs.YtbecjgckobhmpaaGreatDoor
end
