/-
  The card of PrinterSubstitution is proved: for every tree and every path into it the law returns true and leaves the tree as it was; the package-level variables start as the program's text lays them.
-/
import Derived.Test.YtbecjgckobhmpaaGreatDoorPS15
section
namespace Go.Proofs.YtbecjgckobhmpaaGreatDoor
open Go Go.AM Go.Proofs
theorem okE_kind {x:Node} (h:okE x):x.kind≠62:=fun e=>by
 have:=h.2
 rw [e] at this
 exact absurd this (by decide)
theorem F23_acc {b:Nat} (hb:b≤9223372036854775807) {x:Node} (hx:okE x) (hlim:Lim b x) (hs:sz x≤200) {n:Nat} (hn:5000≤n) (hv:validB x = true) (ha:Acc (txt x)) :
  F23 n x = some (bs (txt x),0):=by
 unfold F23
 have c:(x.kind == 62) = false:=nbeq (okE_kind hx)
 rw [c,F28_eq hb x hlim hs (by omega),hv,F54_eq x hx hs n (by omega)]
 simp only [Option.bind_some,cond_false,Bool.not_true]
 rw [F51_acc hn ha]
 rfl
theorem F21_T {b:Nat} (hb:b≤9223372036854775807) (x:Node) (hlim:Lim b x) {n:Nat} (hn:b + 5000≤n) (hn5:5000≤n) :
  T (F21 n x) (fun v=>v = true→sz x≤120∧okE x∧validB x = true∧Acc (txt x)):=by
 unfold F21
 refine (F45_T x (by omega)).bind fun v hv=>T.cond (fun _=>T.some no) (fun hc=>?_)
 have hs:=hv (by simpa using hc)
 refine T.bind (P:=fun r=>r.2 = 0→okE x∧validB x = true∧Acc (txt x)) ?_ (fun r hr=>T.some fun h=>⟨hs,hr (by simpa using h)⟩)
 unfold F53
 refine (F31_T hb x hlim (by omega) hn).bind fun v hv=>?_
 refine T.cond (fun _=>T.some (fun h=>by simp at h)) (fun hc=>?_)
 have hc':v = true∧¬ x.kind = 62:=by simpa using hc
 have hval:=hv hc'.1
 have hE:okE x:=by
  simp only [validB,Bool.and_eq_true,Bool.or_eq_true,beq_iff_eq] at hval
  refine ⟨hval.2.2,?_⟩
  rcases hval.1 with h | h
  ·exact absurd h hc'.2
  ·exact h
 rw [F80_eq x hE (by omega) n (by omega)]
 simp only [Option.bind_some]
 refine (F78_T2 (s:=bs (txt x)) hn5).bind fun r hr=>T.some fun h0=>?_
 obtain ⟨_,q,hq,hq0⟩:=hr h0
 rw [F39_eq hn5] at hq
 obtain rfl:=Option.some.inj hq
 exact ⟨hE,hval,(acc_iff _).1 hq0⟩
def numN:Node:=Node.mk 1 (bs []) (bs []) 987654321 0 0 false [] 0
def dig9:Bytes:=[57,56,55,54,53,52,51,50,49]
theorem numN_txt:txt numN = dig9:=by kernel_rfl
theorem numN_lev:levI numN = 12:=rfl
def withK (x:Node) (ks:List Node):Node:=Node.mk x.kind x.name x.other x.n x.len x.init x.ghost ks x.pos
theorem withK_self (x:Node):withK x x.kids = x:=by cases x; rfl
theorem opd_ne {y:Node} (h:txt y≠[]) (req:Int):opd (levI y,txt y) req≠[]:=by
 unfold opd
 cases decide (levI y < req)
 ·exact h
 ·simp
theorem rule_le:([[61,61,62],[124,124],[38,38],[61,61],[33,61],[60],[60,61],[124],[94],[38],[43],[45],[42]]:List Bytes).all (fun l=>decide ((ruleI (bs l)).2.2.1≤12) && decide ((ruleI (bs l)).2.2.2≤12)) = true:=by kernel_rfl
theorem rule_12 {s:ByteArray} (h:levelI s≠0):(ruleI s).2.2.1≤12∧(ruleI s).2.2.2≤12:=by
 have:=List.all_eq_true.1 rule_le _ (level_cases h)
 rw [bs_tl] at this
 simpa using this
def Ctx (x:Node) (i:Nat):Prop:=∃ A B req,req≤12∧∀ y,txt y≠[]→txt (withK x (x.kids.set i y)) = A ++ (opd (levI y,txt y) req ++ B)
theorem w3 {a b c:Bytes} (ha:a≠[]) (hb:b≠[]) (hc:c≠[]):wordsL [a,b,c] = a ++ 32 :: (b ++ 32 :: c):=by
 rw [words_ne (by simp; exact ⟨ha,hb,hc⟩),join2]
theorem w5 {a b c d e:Bytes} (ha:a≠[]) (hb:b≠[]) (hc:c≠[]) (hd:d≠[]) (he:e≠[]):wordsL [a,b,c,d,e] = a ++ 32 :: (b ++ 32 :: (c ++ 32 :: (d ++ 32 :: e))):=by
 rw [words_ne (by simp; exact ⟨ha,hb,hc,hd,he⟩),join5]
theorem w6 {a b c d e f:Bytes} (ha:a≠[]) (hb:b≠[]) (hc:c≠[]) (hd:d≠[]) (he:e≠[]) (hf:f≠[]):wordsL [a,b,c,d,e,f] = a ++ 32 :: (b ++ 32 :: (c ++ 32 :: (d ++ 32 :: (e ++ 32 :: f)))):=by
 rw [words_ne (by simp; exact ⟨ha,hb,hc,hd,he,hf⟩),join6]
theorem ctx:∀ x,okE x→x.kind≠3→∀ i,i < x.kids.length→Ctx x i:=by
 refine okE_ind ?_ ?_ ?_ ?_ ?_ ?_ ?_ ?_
 ·intro x h hk _ _ i hi; rw [hk] at hi; simp at hi
 ·intro x h hk _ _ i hi; rw [hk] at hi; simp at hi
 ·intro x a h hk hp _ _ _ i hi
  rw [hk] at hi
  obtain rfl:i = 0:=by simpa using hi
  refine ⟨tl x.name ++ [91],[93],0,by decide,fun y _=>?_⟩
  rw [hk,txt_eq]
  simp [withK,txtOf,h,txts,nth]
 ·intro x a h hk _ _ h3; exact absurd h h3
 ·intro x a h hk _ _ _ i hi
  rw [hk] at hi
  obtain rfl:i = 0:=by simpa using hi
  refine ⟨[33],[],11,by decide,fun y _=>?_⟩
  rw [hk,txt_eq]
  simp [withK,txtOf,h,txts,nth]
 ·intro x a b h hk hl ha _ hb _ _ i hi
  rw [hk] at hi
  have na:=(txt_hd a ha).ne
  have nb:=(txt_hd b hb).ne
  have hr:=rule_12 hl
  have hop:=op_ne hl
  have hi2:i = 0∨i = 1:=by simp at hi; omega
  rcases hi2 with rfl | rfl
  ·refine ⟨[],32 :: (tl x.name ++ 32 :: opd (levI b,txt b) (ruleI x.name).2.2.2),_,hr.1,fun y hy=>?_⟩
   rw [hk,txt_eq]
   simp only [withK,txtOf,h,List.set_cons_zero,txts,nth]
   exact w3 (opd_ne hy _) hop (opd_ne nb _)
  ·refine ⟨opd (levI a,txt a) (ruleI x.name).2.2.1 ++ 32 :: (tl x.name ++ [32]),[],_,hr.2,fun y hy=>?_⟩
   rw [hk,txt_eq]
   simp only [withK,txtOf,h,List.set_cons_zero,List.set_cons_succ,txts,nth]
   refine (w3 (opd_ne na _) hop (opd_ne hy _)).trans ?_
   simp
 ·intro x a b c h hk ha _ hb _ hc _ _ i hi
  rw [hk] at hi
  have na:=(txt_hd a ha).ne
  have nb:=(txt_hd b hb).ne
  have nc:=(txt_hd c hc).ne
  have hi2:i = 0∨i = 1∨i = 2:=by simp at hi; omega
  rcases hi2 with rfl | rfl | rfl
  ·refine ⟨[],32 :: ([63] ++ 32 :: (opd (levI b,txt b) 1 ++ 32 :: ([58] ++ 32 :: opd (levI c,txt c) 1))),2,by decide,fun y hy=>?_⟩
   rw [hk,txt_eq]
   simp only [withK,txtOf,h,List.set_cons_zero,txts,nth]
   exact w5 (opd_ne hy _) (by simp) (opd_ne nb _) (by simp) (opd_ne nc _)
  ·refine ⟨opd (levI a,txt a) 2 ++ 32 :: ([63] ++ [32]),32 :: ([58] ++ 32 :: opd (levI c,txt c) 1),1,by decide,fun y hy=>?_⟩
   rw [hk,txt_eq]
   simp only [withK,txtOf,h,List.set_cons_zero,List.set_cons_succ,txts,nth]
   refine (w5 (opd_ne na _) (by simp) (opd_ne hy _) (by simp) (opd_ne nc _)).trans ?_
   simp
  ·refine ⟨opd (levI a,txt a) 2 ++ 32 :: ([63] ++ 32 :: (opd (levI b,txt b) 1 ++ 32 :: ([58] ++ [32]))),[],1,by decide,fun y hy=>?_⟩
   rw [hk,txt_eq]
   simp only [withK,txtOf,h,List.set_cons_zero,List.set_cons_succ,txts,nth]
   refine (w5 (opd_ne na _) (by simp) (opd_ne nb _) (by simp) (opd_ne hy _)).trans ?_
   simp
 ·intro x a h hk hn _ ha _ _ i hi
  rw [hk] at hi
  obtain rfl:i = 0:=by simpa using hi
  have nn:=(name_hd hn).ne
  have nm:=(num_hd x.n).ne
  rcases h with h | h
  ·refine ⟨[97,108,108] ++ 32 :: (tl x.name ++ 32 :: ([60] ++ 32 :: (numL x.n ++ 32 :: ([58] ++ [32])))),[],0,by decide,fun y hy=>?_⟩
   rw [hk,txt_eq]
   simp only [withK,txtOf,h,List.set_cons_zero,txts,nth]
   refine (w6 (by simp) nn (by simp) nm (by simp) (opd_ne hy 0)).trans ?_
   simp
  ·refine ⟨[115,111,109,101] ++ 32 :: (tl x.name ++ 32 :: ([60] ++ 32 :: (numL x.n ++ 32 :: ([58] ++ [32])))),[],0,by decide,fun y hy=>?_⟩
   rw [hk,txt_eq]
   simp only [withK,txtOf,h,List.set_cons_zero,txts,nth]
   refine (w6 (by simp) nn (by simp) nm (by simp) (opd_ne hy 0)).trans ?_
   simp
theorem opT_len (a:Int × List Tk) (req:Int):a.2.length≤(opT a req).length:=by
 unfold opT
 cases decide (a.1 < req)
 ·exact Nat.le_refl _
 ·simp; omega
theorem kidsE:∀ x,okE x→∀ y ∈ x.kids,okE y∧(tkx y).length≤(tkx x).length:=by
 refine okE_ind ?_ ?_ ?_ ?_ ?_ ?_ ?_ ?_
 ·intro x h hk _ y hy; rw [hk] at hy; cases hy
 ·intro x h hk _ y hy; rw [hk] at hy; cases hy
 ·intro x a h hk _ ha _ y hy
  obtain rfl:y = a:=by rw [hk] at hy; simpa using hy
  have:=opT_len (levI y,tkx y) 0
  refine ⟨ha,?_⟩
  rw [tkx_eq x,hk]
  simp [tkOf,h,tkxs,nthT] at this ⊢
  omega
 ·intro x a h hk ha _ y hy
  obtain rfl:y = a:=by rw [hk] at hy; simpa using hy
  have:=opT_len (levI y,tkx y) 0
  refine ⟨ha,?_⟩
  rw [tkx_eq x,hk]
  simp [tkOf,h,tkxs,nthT] at this ⊢
  omega
 ·intro x a h hk ha _ y hy
  obtain rfl:y = a:=by rw [hk] at hy; simpa using hy
  have:=opT_len (levI y,tkx y) 11
  refine ⟨ha,?_⟩
  rw [tkx_eq x,hk]
  simp [tkOf,h,tkxs,nthT] at this ⊢
  omega
 ·intro x a b h hk _ ha _ hb _ y hy
  have h1:=opT_len (levI a,tkx a) (ruleI x.name).2.2.1
  have h2:=opT_len (levI b,tkx b) (ruleI x.name).2.2.2
  rw [tkx_eq x,hk]
  rw [hk] at hy
  simp [tkOf,h,tkxs,nthT] at h1 h2 hy ⊢
  rcases hy with rfl | rfl
  ·exact ⟨ha,by omega⟩
  ·exact ⟨hb,by omega⟩
 ·intro x a b c h hk ha _ hb _ hc _ y hy
  have h1:=opT_len (levI a,tkx a) 2
  have h2:=opT_len (levI b,tkx b) 1
  have h3:=opT_len (levI c,tkx c) 1
  rw [tkx_eq x,hk]
  rw [hk] at hy
  simp [tkOf,h,tkxs,nthT] at h1 h2 h3 hy ⊢
  rcases hy with rfl | rfl | rfl
  ·exact ⟨ha,by omega⟩
  ·exact ⟨hb,by omega⟩
  ·exact ⟨hc,by omega⟩
 ·intro x a h hk _ _ ha _ y hy
  obtain rfl:y = a:=by rw [hk] at hy; simpa using hy
  have:=opT_len (levI y,tkx y) 0
  refine ⟨ha,?_⟩
  rw [tkx_eq x,hk]
  rcases h with h | h <;> simp [tkOf,h,tkxs,nthT] at this ⊢ <;> omega
def Sub (x m was:Node):Prop :=
 (m = numN∧was = x)∨(levI m = levI x∧∃ pre post,txt m = pre ++ (dig9 ++ post)∧(txt x = pre ++ (txt was ++ post)∨txt x = pre ++ (40 :: (txt was ++ (41 :: post)))))
theorem Sub.ne {x m was:Node} (h:Sub x m was):txt m≠[]:=by
 rcases h with ⟨rfl,_⟩ | ⟨_,pre,post,e,_⟩
 ·rw [numN_txt]; simp [dig9]
 ·rw [e]; simp [dig9]
theorem Sub.up {x y m was:Node} (hx:okE x) (h3:x.kind≠3) {i:Nat} (hi:x.kids[i]? = some y) (h:Sub y m was):Sub x (withK x (x.kids.set i m)) was:=by
 have hlt:=lt_of_get hi
 obtain ⟨A,B,req,hreq,hc⟩:=ctx x hx h3 i hlt
 have hy:=(kidsE x hx y (List.mem_of_getElem? hi)).1
 have hset:x.kids.set i y = x.kids:=by
  obtain ⟨_,rfl⟩:=List.getElem?_eq_some_iff.1 hi
  exact List.set_getElem_self hlt
 have ex:txt x = A ++ (opd (levI y,txt y) req ++ B):=by
  have:=hc y (txt_hd y hy).ne
  rwa [hset,withK_self] at this
 have em:=hc m h.ne
 right
 refine ⟨rfl,?_⟩
 rcases h with ⟨rfl,rfl⟩ | ⟨hlev,pre,post,e,he⟩
 ·refine ⟨A,B,?_,?_⟩
  ·rw [em,numN_lev,numN_txt]
   unfold opd
   have:decide ((12:Int) < req) = false:=by simp; omega
   simp only [this,cond_false]
  ·rw [ex]
   unfold opd
   cases decide (levI was < req)
   ·exact .inl rfl
   ·right; simp
 ·rw [hlev] at em
  rw [em,ex]
  unfold opd
  cases decide (levI y < req)
  ·refine ⟨A ++ pre,post ++ B,?_,?_⟩
   ·simp only [cond_false]; rw [e]; simp
   ·simp only [cond_false]
    rcases he with he | he
    ·left; rw [he]; simp
    ·right; rw [he]; simp
  ·refine ⟨A ++ (40 :: pre),post ++ (41 :: B),?_,?_⟩
   ·simp only [cond_true]; rw [e]; simp
   ·simp only [cond_true]
    rcases he with he | he
    ·left; rw [he]; simp
    ·right; rw [he]; simp
theorem wrap16 {a:Int} (h0:0≤a) (h1:a < 65536):IntKind.u16.wrap a = a:=by
 show (if (false && decide (a % 65536 ≥ 32768)) = true then a % 65536 - 65536 else a % 65536) = a
 simp
 omega
theorem Lim.kid {b:Nat} {x y:Node} (h:Lim b x) (hy:y ∈ x.kids):Lim b y:=by
 cases h with
 | mk _ _ _ _ h4=>exact h4 y hy
theorem F22_T {b:Nat} (_:1≤b):∀ (s:Nat) (x:Node),sz x≤s→sz x≤200→okE x→Lim b x→∀ (w:Nat),w < 65536→∀ n,sz x + 1≤n →
  ∃ m was,F22 n x (w:Int) 987654321 = some (m,was)∧okE was∧sz was≤sz x∧dp was≤dp x∧(tkx was).length≤(tkx x).length∧Lim b was∧Lim b m∧Sub x m was:=by
 intro s
 induction s with
 | zero=>intro x hx; have:=sz_pos x; omega
 | succ s ih =>
  intro x hs h200 hx hlim w hw n hn
  obtain ⟨n,rfl⟩:∃ k,n = k + 1:=⟨n - 1,by omega⟩
  show ∃ m was,F22_step (F22 n) n x (w:Int) 987654321 = some (m,was)∧_
  unfold F22_step
  cases hc:(((x.kind == 3) || ((x.kids.length:Int) == 0)) || ((Int.tmod (w:Int) 4) == 0))
  ·simp only [cond_false]
   simp only [Bool.or_eq_false_iff] at hc
   obtain ⟨⟨h3,h0⟩,_⟩:=hc
   have h3:x.kind≠3:=by simpa using h3
   have hlen:0 < x.kids.length:=by
    have:¬ (x.kids.length:Int) = 0:=by simpa using h0
    omega
   have hsz:=sz_eq x
   have hkl:=szs_len x.kids
   have e1:IntKind.u16.wrap (Int.tdiv (w:Int) 4) = ((w / 4:Nat):Int):=by
    have:Int.tdiv (w:Int) 4 = ((w / 4:Nat):Int):=rfl
    rw [this,wrap16 (by omega) (by omega)]
   have e2:IntKind.u16.wrap (Int.tdiv (w:Int) 8) = ((w / 8:Nat):Int):=by
    have:Int.tdiv (w:Int) 8 = ((w / 8:Nat):Int):=rfl
    rw [this,wrap16 (by omega) (by omega)]
   have e3:remI (w64 ((w / 4:Nat):Int)) (x.kids.length:Int) = some ((w / 4 % x.kids.length:Nat):Int):=by
    rw [w64_id (by omega) (by omega),remI,if_neg (by omega)]
    rfl
   have hilt:w / 4 % x.kids.length < x.kids.length:=Nat.mod_lt _ hlen
   have hi:=List.getElem?_eq_getElem hilt
   generalize w / 4 % x.kids.length = i at e3 hilt hi
   have hmem:=List.mem_of_getElem? hi
   generalize x.kids[i] = y at hi hmem
   obtain ⟨hy,htk⟩:=kidsE x hx y hmem
   have hys:=szs_mem x.kids y hmem
   obtain ⟨m,was,hF,k1,k2,k3,k4,k5,k6,k7⟩:=ih y (by omega) (by omega) hy (hlim.kid hmem) (w / 8) (by omega) n (by omega)
   have hdp:dp y≤dps x.kids:=(dps_le x.kids (dps x.kids)).1 (Nat.le_refl _) y hmem
   have hdx:=dp_eq x
   have e4:newL 104 x.kids = some x.kids:=by
    unfold newL
    rw [if_pos ⟨by cases hk:x.kids with | nil=>rw [hk] at hlen; simp at hlen | cons _ _=>rfl,by omega⟩]
   have e5:setL x.kids (i:Int) m = some (x.kids.set i m):=by
    unfold setL
    rw [if_pos ⟨by omega,by omega⟩]
    rfl
   rw [e1,e2,e3]
   simp only [Option.bind_some,idxL_some hi,hF,e4,e5]
   refine ⟨withK x (x.kids.set i m),was,rfl,k1,by omega,by omega,by omega,k5,?_,k7.up hx h3 hi⟩
   cases hlim with
   | mk _ l1 l2 l3 l4 =>
    refine .mk _ l1 l2 (by show (x.kids.set i m).length≤b; rw [List.length_set]; exact l3) (fun z hz=>?_)
    have hz':z ∈ x.kids.set i m:=hz
    rcases List.mem_or_eq_of_mem_set hz' with h | rfl
    ·exact l4 z h
    ·exact k6
  ·simp only [cond_true]
   refine ⟨numN,x,rfl,hx,Nat.le_refl _,Nat.le_refl _,Nat.le_refl _,hlim,?_,.inl ⟨rfl,rfl⟩⟩
   exact .mk _ (Nat.zero_le _) (Nat.zero_le _) (Nat.zero_le _) (fun z hz=>by cases hz)
theorem catS_T {a b:ByteArray} (h:a.size + b.size≤1000000):T (catS a b) (fun r=>r = bs (tl a ++ tl b)):=by
 unfold catS
 rw [if_pos (by omega)]
 exact T.some rfl
def findS (t old s:ByteArray) (s14:Int):Option (Int ⊕ (Unit ⊕ Unit)) :=
 bif decide ((w64 (s14 + 9))≤(t.size:Int)) then
  ((subS t s14 (w64 (s14 + 9))).bind fun x16 =>
  bif strEq x16 (bs [57,56,55,54,53,52,51,50,49]) then
   ((subS t 0 s14).bind fun x18 =>
   (catS x18 old).bind fun x19 =>
   (subS t (w64 (s14 + 9)) (t.size:Int)).bind fun x20 =>
   (catS x19 x20).bind fun x21 =>
   bif strEq x21 s then
    (some (.inr (.inl ())))
   else
    ((subS t 0 s14).bind fun x23 =>
    (catS x23 (bs [40])).bind fun x24 =>
    (catS x24 old).bind fun x25 =>
    (catS x25 (bs [41])).bind fun x26 =>
    (subS t (w64 (s14 + 9)) (t.size:Int)).bind fun x27 =>
    (catS x26 x27).bind fun x28 =>
    bif strEq x28 s then
     (some (.inr (.inl ())))
    else
     (some (.inl (w64 (s14 + 1))))))
  else
   (some (.inl (w64 (s14 + 1)))))
 else
  (some (.inr (.inr ())))
theorem findS_T {t old s:Bytes} (ht:t.length≤4000) (ho:old.length≤4000) {i:Nat} (hi:i + 9≤t.length) :
  T (findS (bs t) (bs old) (bs s) (i:Int)) (fun r=>r = .inr (.inl ())∨(r = .inl ((i + 1:Nat):Int)∧¬ ((t.drop i).take 9 = dig9∧(s = t.take i ++ (old ++ t.drop (i + 9))∨s = t.take i ++ (40 :: (old ++ (41 :: t.drop (i + 9)))))))):=by
 unfold findS
 have ew:w64 ((i:Int) + 9) = ((i + 9:Nat):Int):=by rw [w64_id (by omega) (by omega)]; rfl
 have ew1:w64 ((i:Int) + 1) = ((i + 1:Nat):Int):=w64_nat (by omega)
 have c:decide (((i + 9:Nat):Int)≤((bs t).size:Int)) = true:=by rw [size_bs]; simp; omega
 have s1:subS (bs t) (i:Int) ((i + 9:Nat):Int) = some (bs ((t.drop i).take 9)):=by
  rw [subS_eq (by omega) (by rw [tl_bs]; omega),tl_bs,Nat.add_sub_cancel_left]
 have s2:subS (bs t) 0 (i:Int) = some (bs (t.take i)):=by
  have:=subS_eq (s:=bs t) (a:=0) (b:=i) (by omega) (by rw [tl_bs]; omega)
  simpa [tl_bs] using this
 have s3:subS (bs t) ((i + 9:Nat):Int) ((bs t).size:Int) = some (bs (t.drop (i + 9))):=by
  rw [size_bs,subS_eq hi (by rw [tl_bs]; omega),tl_bs,List.take_of_length_le (by rw [List.length_drop]; omega)]
 have hl1:(t.take i).length≤4000:=by rw [List.length_take]; omega
 have hl2:(t.drop (i + 9)).length≤4000:=by rw [List.length_drop]; omega
 rw [ew,ew1,c,s1,s2,s3]
 simp only [cond_true,Option.bind_some]
 refine T.cond (fun h1=>?_) (fun h1=>T.some (.inr ⟨rfl,fun h=>?_⟩))
 ·refine (catS_T (by rw [size_bs,size_bs]; omega)).bind fun x19 h19=>?_
  subst h19
  refine (catS_T (by simp only [size_bs,tl_bs,List.length_append]; omega)).bind fun x21 h21=>?_
  subst h21
  refine T.cond (fun _=>T.some (.inl rfl)) (fun h2=>?_)
  refine (catS_T (by simp only [size_bs,List.length_cons,List.length_nil]; omega)).bind fun x24 h24=>?_
  subst h24
  refine (catS_T (by simp only [size_bs,tl_bs,List.length_append,List.length_cons,List.length_nil]; omega)).bind fun x25 h25=>?_
  subst h25
  refine (catS_T (by simp only [size_bs,tl_bs,List.length_append,List.length_cons,List.length_nil]; omega)).bind fun x26 h26=>?_
  subst h26
  refine (catS_T (by simp only [size_bs,tl_bs,List.length_append,List.length_cons,List.length_nil]; omega)).bind fun x28 h28=>?_
  subst h28
  refine T.cond (fun _=>T.some (.inl rfl)) (fun h3=>T.some (.inr ⟨rfl,fun h=>?_⟩))
  have h2':¬ (t.take i ++ old ++ t.drop (i + 9)) = s:=by simpa [strEq,bs,tl] using h2
  have h3':¬ (t.take i ++ [40] ++ old ++ [41] ++ t.drop (i + 9)) = s:=by simpa [strEq,bs,tl] using h3
  rcases h.2 with h | h
  ·exact h2' (by rw [h]; simp)
  ·exact h3' (by rw [h]; simp)
 ·have h1':¬ (t.drop i).take 9 = [57,56,55,54,53,52,51,50,49]:=by simpa [strEq,bs] using h1
  exact h1' h.1
theorem find_ok {pre post old s:Bytes} (ht:(pre ++ (dig9 ++ post)).length≤4000) (ho:old.length≤4000) (hs:s = pre ++ (old ++ post)∨s = pre ++ (40 :: (old ++ (41 :: post)))) {n:Nat} (hn:5000≤n) :
  iter (findS (bs (pre ++ (dig9 ++ post))) (bs old) (bs s)) n 0 = some (.inl ()):=by
 apply T.eq
 have hlen:(pre ++ (dig9 ++ post)).length = pre.length + (9 + post.length):=by simp [dig9]; omega
 refine iter_T (fun e=>∃ k:Nat,e = (k:Int)∧k≤pre.length) (fun e=>(pre.length - e.toNat)) _ (fun e he=>?_) n 0 (by simp; omega) ⟨0,rfl,by omega⟩
 obtain ⟨k,rfl,hk⟩:=he
 obtain ⟨r,hr,hq⟩:=findS_T (t:=pre ++ (dig9 ++ post)) (s:=s) ht ho (i:=k) (by omega)
 refine ⟨r,hr,?_⟩
 rcases hq with rfl | ⟨rfl,hq⟩
 ·rfl
 ·have hne:k≠pre.length:=by
   rintro rfl
   apply hq
   have e9:(pre ++ (dig9 ++ post)).drop (pre.length + 9) = post:=by
    rw [← List.drop_drop,List.drop_left]
    rfl
   rw [e9,List.take_left,List.drop_left]
   exact ⟨rfl,hs⟩
  refine ⟨⟨k + 1,rfl,by omega⟩,?_⟩
  show pre.length - (k + 1) < pre.length - k
  omega
theorem F5_def (n:Nat) (a0:Node) (a1:Int):F5 n a0 a1 = ((F17 n).bind fun x1 =>
  (F21 n a0).bind fun x4 =>
  bif !x4 then (some x1)
  else ((F22 n a0 a1 (987654321:Int)).bind fun x6 =>
   (F21 n x6.1).bind fun x7 =>
   bif !x7 then (some x1)
   else ((F23 n a0).bind fun x9 =>
    (F23 n x6.1).bind fun x10 =>
    bif x10.2 != 0 then (some false)
    else ((F23 n x6.2).bind fun x12 =>
     bif x12.2 != 0 then (some false)
     else ((iter (findS x10.1 x12.1 x9.1) n (0:Int)).bind fun r30=>match r30 with
      | .inl _=>some x1
      | .inr _=>some false))))):=rfl
theorem law5 (x:Node) (h:WfN x) (w:Nat) (hw:w < 65536):∃ n,F5 n x (w:Int) = some true:=by
 have hb:maxLen≤9223372036854775807:=by decide
 have hb1:1≤maxLen:=by decide
 obtain ⟨n,hn0⟩:∃ n,n = maxLen + 5000:=⟨_,rfl⟩
 have hn:maxLen + 5000≤n:=Nat.le_of_eq hn0.symm
 have hn5:5000≤n:=Nat.le_trans (Nat.le_add_left _ _) hn
 clear hn0
 have hlim:=h.lim4
 refine ⟨n,?_⟩
 rw [F5_def,F17_eq (Nat.le_trans (by decide) hn5)]
 obtain ⟨v,hv,h1⟩:=F21_T hb x hlim hn hn5
 rw [hv]
 simp only [Option.bind_some]
 cases v
 ·rfl
 obtain ⟨hs,hx,hval,hacc⟩:=h1 rfl
 obtain ⟨m,was,hF,k1,k2,k3,k4,k5,k6,k7⟩:=F22_T hb1 (sz x) x (Nat.le_refl _) (by omega) hx hlim w hw n (by omega)
 rw [hF]
 simp only [Bool.not_true,cond_false,Option.bind_some]
 obtain ⟨v2,hv2,h2⟩:=F21_T hb m k6 hn hn5
 rw [hv2]
 simp only [Option.bind_some]
 cases v2
 ·rfl
 obtain ⟨hsm,hxm,hvalm,haccm⟩:=h2 rfl
 have hvalw:validB was = true:=by
  simp only [validB,Bool.and_eq_true,Bool.or_eq_true,decide_eq_true_eq] at hval ⊢
  exact ⟨.inr k1.2,by omega,k1.1⟩
 obtain ⟨pre,post,e1,e2⟩:∃ pre post,txt m = pre ++ (dig9 ++ post)∧(txt x = pre ++ (txt was ++ post)∨txt x = pre ++ (40 :: (txt was ++ (41 :: post)))):=by
  rcases k7 with ⟨rfl,rfl⟩ | ⟨_,h⟩
  ·exact ⟨[],[],by rw [numN_txt]; simp,.inl (by simp)⟩
  ·exact h
 have hax:=(acc_txt hx).1 hacc
 have hwl:(txt was).length≤(txt x).length:=by
  rcases e2 with e2 | e2 <;> rw [e2] <;> simp <;> omega
 have haccw:Acc (txt was):=(acc_txt k1).2 ⟨by omega,by omega⟩
 rw [F23_acc hb hx hlim (by omega) hn5 hval hacc,F23_acc hb hxm k6 (by omega) hn5 hvalm haccm,F23_acc hb k1 k5 (by omega) hn5 hvalw haccw]
 simp only [Bool.not_true,cond_false,Option.bind_some]
 have hml:=haccm.1
 rw [e1] at hml
 have:=find_ok (s:=txt x) hml (show (txt was).length≤4000 by omega) e2 hn5
 rw [e1,this]
 rfl
end Go.Proofs.YtbecjgckobhmpaaGreatDoor
end
section
namespace Go.Proofs.YtbecjgckobhmpaaGreatDoor
open Go Go.AM Go.Proofs
set_option maxRecDepth 100000
theorem named5:Tryz.prog.funcNamed Rows.printerSubstitutionRow.func = some 5:=by kernel_rfl
theorem goes5:false = Rows.printerSubstitutionRow.goesBy Tryz.prog:=by kernel_rfl
theorem wf5:Rows.printerSubstitutionRow.wfByText (OpenSpec.ofChange Rows.printerSubstitutionSpec) = true:=by kernel_rfl
theorem noStand33:Tryz.prog.wantsStandIn 33 = false:=by kernel_rfl
theorem printerSubstitution_said:Rows.PrinterSubstitutionSaid:=holds5 law5
theorem hl5:∀ f fn,Tryz.pinned.checked.prog.funcNamed Rows.printerSubstitutionRow.func = some f→Tryz.pinned.checked.prog.funcs[f]? = some fn →
  true = Tryz.pinned.checked.prog.looks []∧∀ (j:Nat) t,fn.params[j]? = some t→Tryz.pinned.checked.prog.wantsStandIn t = false:=fun f fn hf hfn=>by
 obtain rfl:f = 5:=Option.some.inj (named5.symm.trans hf) |>.symm
 obtain rfl:fn = Tryz.f5:=(Option.some.inj (Tryz.func5.symm.trans hfn)).symm
 refine ⟨looks_ok,fun j t ht=>?_⟩
 rw [Tryz.params5] at ht
 have h3:t = 24∨t = 33:=by
  rcases j with _ | _ | j
  ·exact .inl (by simpa using ht.symm)
  ·exact .inr (by simpa using ht.symm)
  ·simp at ht
 rcases h3 with rfl | rfl
 ·exact noStand24
 ·exact noStand33
theorem printerSubstitution_card:Rows.PrinterSubstitutionCardSaid :=
 Claim7.holds_tied_plain_at .later [] [.data, .data, .data, .data, .data] true (true, "2c71bd9c32cec8dbcba7c163806e698ca6c65506520b8081d9b2cc6a0913ebf0") true
  printerSubstitution_said (fun _ h=>by cases h) wf5 (fun _ h=>by cases h) printerSubstitution_row_tie rfl ⟨rfl,rfl⟩ harness_ok rfl hl5 goes5
#print axioms printerSubstitution_card
end Go.Proofs.YtbecjgckobhmpaaGreatDoor
end
