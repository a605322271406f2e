/-
  Proved here: a part of what the claim needs (texts PTX PL6 ZLC PL13 ZR ZUE PL7 PL7b of the prover's own).
-/
import Derived.Test.YtbecjgckobhmpaaGreatDoorPP11
section
namespace Go.Proofs.YtbecjgckobhmpaaGreatDoor
open Go Go.AM Go.Proofs
def parB (e:Bytes):Bytes:=40 :: (e ++ [41])
def fst' (ks:List Bytes) (i:Nat):Bytes:=ks.getD i []
def ptxtOf (k:Int) (nm:ByteArray) (n:Int) (ks:List Bytes):Bytes :=
 bif k == 1 then numL n
 else bif k == 2 then (bif ks.isEmpty then tl nm else tl nm ++ 91 :: (fst' ks 0 ++ [93]))
 else bif k == 3 then [111,108,100] ++ 40 :: (fst' ks 0 ++ [41])
 else bif k == 4 then 33 :: parB (fst' ks 0)
 else bif k == 5 then parB (fst' ks 0) ++ 32 :: (tl nm ++ 32 :: parB (fst' ks 1))
 else bif k == 6 then parB (fst' ks 0) ++ 32 :: 63 :: 32 :: (parB (fst' ks 1) ++ 32 :: 58 :: 32 :: parB (fst' ks 2))
 else (bif k == 7 then [97,108,108] else [115,111,109,101]) ++ 32 :: (tl nm ++ 32 :: 60 :: 32 :: (numL n ++ 32 :: 58 :: 32 :: parB (fst' ks 0)))
mutual
def ptxt:Node→Bytes
 | ⟨k,nm,_,n,_,_,_,ks,_⟩=>ptxtOf k nm n (ptxts ks)
def ptxts:List Node→List Bytes
 | []=>[]
 | x :: r=>ptxt x :: ptxts r
end
theorem ptxt_eq (x:Node):ptxt x = ptxtOf x.kind x.name x.n (x.kids.map ptxt):=by
 have:∀ l:List Node,ptxts l = l.map ptxt:=by
  intro l
  induction l with
  | nil=>rfl
  | cons y r ih=>simp [ptxts,ih]
 cases x
 simp [ptxt,this]
def parK (e:List Tk):List Tk:=(3,[40]) :: (e ++ [(3,[41])])
def fstK (ks:List (List Tk)) (i:Nat):List Tk:=ks.getD i []
def ptkOf (k:Int) (nm:ByteArray) (n:Int) (ks:List (List Tk)):List Tk :=
 bif k == 1 then [(2,numL n)]
 else bif k == 2 then (bif ks.isEmpty then pathT 3 (tl nm) else pathT 3 (tl nm) ++ (3,[91]) :: (fstK ks 0 ++ [(3,[93])]))
 else bif k == 3 then (1,[111,108,100]) :: (3,[40]) :: (fstK ks 0 ++ [(3,[41])])
 else bif k == 4 then (3,[33]) :: parK (fstK ks 0)
 else bif k == 5 then parK (fstK ks 0) ++ (3,tl nm) :: parK (fstK ks 1)
 else bif k == 6 then parK (fstK ks 0) ++ (3,[63]) :: (parK (fstK ks 1) ++ (3,[58]) :: parK (fstK ks 2))
 else (1,bif k == 7 then [97,108,108] else [115,111,109,101]) :: (1,tl nm) :: (3,[60]) :: (2,numL n) :: (3,[58]) :: parK (fstK ks 0)
mutual
def ptk:Node→List Tk
 | ⟨k,nm,_,n,_,_,_,ks,_⟩=>ptkOf k nm n (ptks ks)
def ptks:List Node→List (List Tk)
 | []=>[]
 | x :: r=>ptk x :: ptks r
end
theorem ptk_eq (x:Node):ptk x = ptkOf x.kind x.name x.n (x.kids.map ptk):=by
 have:∀ l:List Node,ptks l = l.map ptk:=by
  intro l
  induction l with
  | nil=>rfl
  | cons y r ih=>simp [ptks,ih]
 cases x
 simp [ptk,this]
theorem tk_s1 (b:UInt8) (r:Bytes) (h:tokL (b :: r) = some (3,1)) (hb:wht b = false) (h2:b≠47):tk (b :: r) = (tk r).map ((3,[b]) :: ·) :=
 tk_step (w:=[b]) (r:=r) (skp_head hb h2) h
theorem tk40 (r:Bytes):tk (40 :: r) = (tk r).map ((3,[40]) :: ·):=tk_s1 40 r rfl (by decide) (by decide)
theorem tk41 (r:Bytes):tk (41 :: r) = (tk r).map ((3,[41]) :: ·):=tk_s1 41 r rfl (by decide) (by decide)
theorem tk91 (r:Bytes):tk (91 :: r) = (tk r).map ((3,[91]) :: ·):=tk_s1 91 r rfl (by decide) (by decide)
theorem tk93 (r:Bytes):tk (93 :: r) = (tk r).map ((3,[93]) :: ·):=tk_s1 93 r rfl (by decide) (by decide)
theorem tk63 (r:Bytes):tk (63 :: r) = (tk r).map ((3,[63]) :: ·):=tk_s1 63 r rfl (by decide) (by decide)
theorem tk58 (r:Bytes):tk (58 :: 32 :: r) = (tk (32 :: r)).map ((3,[58]) :: ·):=tk_s1 58 (32 :: r) rfl (by decide) (by decide)
theorem tk60 (r:Bytes):tk (60 :: 32 :: r) = (tk (32 :: r)).map ((3,[60]) :: ·):=tk_s1 60 (32 :: r) rfl (by decide) (by decide)
theorem tk33 (r:Bytes):tk (33 :: 40 :: r) = (tk (40 :: r)).map ((3,[33]) :: ·):=tk_s1 33 (40 :: r) rfl (by decide) (by decide)
theorem omap {α:Type} {o:Option (List α)} {f g:List α→List α}:(o.map f).map g = o.map (fun x=>g (f x)):=by cases o <;> rfl
theorem omap_congr {α:Type} {o:Option (List α)} {f g:List α→List α} (h:∀ x,f x = g x):o.map f = o.map g:=by
 have:f = g:=funext h
 rw [this]
theorem tk_par {e:Bytes} {te:List Tk} (h:∀ r,nw r→tk (e ++ r) = (tk r).map (te ++ ·)) (r:Bytes):tk (parB e ++ r) = (tk r).map (parK te ++ ·):=by
 have e0:parB e ++ r = 40 :: (e ++ 41 :: r):=by simp [parB]
 rw [e0,tk40,h _ (nw_cons (by decide)),tk41,omap,omap]
 exact omap_congr fun x=>by simp [parK]
theorem tk_w {w:Bytes} (h:nameCs w = true) (h1:1≤w.length) (h2:w.length≤16) (r:Bytes) (hr:nw r):tk (w ++ r) = (tk r).map ((1,w) :: ·):=tk_word h h1 h2 hr
theorem tk_ptxt:∀ x,okE x→∀ r,nw r→tk (ptxt x ++ r) = (tk r).map (ptk x ++ ·):=by
 refine okE_ind ?_ ?_ ?_ ?_ ?_ ?_ ?_ ?_
 ·intro x hk _ hn r hr
  rw [ptxt_eq,ptk_eq]
  simp only [ptxtOf,ptkOf,hk]
  exact tk_num hn hr
 ·intro x hk hks hp r hr
  rw [ptxt_eq,ptk_eq]
  simp only [ptxtOf,ptkOf,hk,hks]
  exact tk_path 3 hp hr
 ·intro x a hk hks hp _ ih r hr
  rw [ptxt_eq,ptk_eq]
  simp only [ptxtOf,ptkOf,hk,hks]
  show tk ((tl x.name ++ 91 :: (ptxt a ++ [93])) ++ r) = (tk r).map ((pathT 3 (tl x.name) ++ (3,[91]) :: (ptk a ++ [(3,[93])])) ++ ·)
  have e0:(tl x.name ++ 91 :: (ptxt a ++ [93])) ++ r = tl x.name ++ (91 :: (ptxt a ++ 93 :: r)):=by simp
  rw [e0,tk_path 3 hp (nw_cons (by decide)),tk91,ih _ (nw_cons (by decide)),tk93,omap,omap,omap]
  exact omap_congr fun y=>by simp
 ·intro x a hk hks _ ih r hr
  rw [ptxt_eq,ptk_eq]
  simp only [ptxtOf,ptkOf,hk,hks]
  show tk (([111,108,100] ++ 40 :: (ptxt a ++ [41])) ++ r) = (tk r).map (((1,[111,108,100]) :: (3,[40]) :: (ptk a ++ [(3,[41])])) ++ ·)
  have e0:([111,108,100] ++ 40 :: (ptxt a ++ [41])) ++ r = [111,108,100] ++ (40 :: (ptxt a ++ 41 :: r)):=by simp
  rw [e0,tk_w (by decide) (by decide) (by decide) _ (nw_cons (by decide)),tk40,ih _ (nw_cons (by decide)),tk41,omap,omap,omap]
  exact omap_congr fun y=>by simp
 ·intro x a hk hks _ ih r hr
  rw [ptxt_eq,ptk_eq]
  simp only [ptxtOf,ptkOf,hk,hks]
  show tk ((33 :: parB (ptxt a)) ++ r) = (tk r).map (((3,[33]) :: parK (ptk a)) ++ ·)
  have e0:(33 :: parB (ptxt a)) ++ r = 33 :: 40 :: (ptxt a ++ 41 :: r):=by simp [parB]
  have e1:40 :: (ptxt a ++ 41 :: r) = parB (ptxt a) ++ r:=by simp [parB]
  rw [e0,tk33,e1,tk_par ih,omap]
  exact omap_congr fun y=>by simp
 ·intro x a b hk hks hl _ iha _ ihb r hr
  rw [ptxt_eq,ptk_eq]
  simp only [ptxtOf,ptkOf,hk,hks]
  show tk ((parB (ptxt a) ++ 32 :: (tl x.name ++ 32 :: parB (ptxt b))) ++ r) = (tk r).map ((parK (ptk a) ++ (3,tl x.name) :: parK (ptk b)) ++ ·)
  have e0:(parB (ptxt a) ++ 32 :: (tl x.name ++ 32 :: parB (ptxt b))) ++ r = parB (ptxt a) ++ (32 :: (tl x.name ++ 32 :: (parB (ptxt b) ++ r))):=by simp
  rw [e0,tk_par iha,tk_blank,tk_op hl,tk_blank,tk_par ihb,omap,omap]
  exact omap_congr fun y=>by simp
 ·intro x a b c hk hks _ iha _ ihb _ ihc r hr
  rw [ptxt_eq,ptk_eq]
  simp only [ptxtOf,ptkOf,hk,hks]
  show tk ((parB (ptxt a) ++ 32 :: 63 :: 32 :: (parB (ptxt b) ++ 32 :: 58 :: 32 :: parB (ptxt c))) ++ r) = (tk r).map ((parK (ptk a) ++ (3,[63]) :: (parK (ptk b) ++ (3,[58]) :: parK (ptk c))) ++ ·)
  have e0:(parB (ptxt a) ++ 32 :: 63 :: 32 :: (parB (ptxt b) ++ 32 :: 58 :: 32 :: parB (ptxt c))) ++ r = parB (ptxt a) ++ (32 :: 63 :: 32 :: (parB (ptxt b) ++ (32 :: 58 :: 32 :: (parB (ptxt c) ++ r)))):=by simp
  rw [e0,tk_par iha,tk_blank,tk63,tk_blank,tk_par ihb,tk_blank,tk58,tk_blank,tk_par ihc,omap,omap,omap,omap]
  exact omap_congr fun y=>by simp
 ·intro x a hk hks hnm hn _ ih r hr
  have hw:∃ w:Bytes,w = (bif x.kind == 7 then [97,108,108] else [115,111,109,101])∧nameCs w = true∧1≤w.length∧w.length≤16:=by
   rcases hk with hk | hk <;> rw [hk]
   ·exact ⟨_,rfl,by decide,by decide,by decide⟩
   ·exact ⟨_,rfl,by decide,by decide,by decide⟩
  obtain ⟨w,hw,hw1,hw2,hw3⟩:=hw
  have e1:ptxt x = w ++ 32 :: (tl x.name ++ 32 :: 60 :: 32 :: (numL x.n ++ 32 :: 58 :: 32 :: parB (ptxt a))):=by
   rw [ptxt_eq,hw,hks]
   rcases hk with hk | hk <;> rw [hk] <;> rfl
  have e2:ptk x = (1,w) :: (1,tl x.name) :: (3,[60]) :: (2,numL x.n) :: (3,[58]) :: parK (ptk a):=by
   rw [ptk_eq,hw,hks]
   rcases hk with hk | hk <;> rw [hk] <;> rfl
  have e0:(w ++ 32 :: (tl x.name ++ 32 :: 60 :: 32 :: (numL x.n ++ 32 :: 58 :: 32 :: parB (ptxt a)))) ++ r = w ++ (32 :: (tl x.name ++ (32 :: 60 :: 32 :: (numL x.n ++ (32 :: 58 :: 32 :: (parB (ptxt a) ++ r)))))):=by simp
  rw [e1,e2,e0,tk_w hw1 hw2 hw3 _ (nw_cons (by decide)),tk_blank,tk_name hnm (nw_cons (by decide)),tk_blank,tk60,tk_blank,tk_num hn (nw_cons (by decide)),tk_blank,tk58,tk_blank,tk_par ih,omap,omap,omap,omap,omap]
  exact omap_congr fun y=>by simp
def zOf (k:Tk):Token:=zt (k.1:Int) (bs k.2)
theorem path_T {x:ByteArray} (h:pathB (tl x) = true):PathT x ((pathT 3 (tl x)).map zOf):=by
 unfold pathB at h
 rw [pathN,Bool.and_eq_true] at h
 have hs:=cutB_spec (tl x)
 cases hc:(cutB (tl x)).2 with
 | none =>
  have e:=(hs.1 hc).1
  rw [e] at h
  have e2:pathT 3 (tl x) = [(1,tl x)]:=by simp only [pathT,hc,e]
  rw [e2]
  exact .one h.1
 | some q =>
  have e:=(hs.2 q hc).1
  have h2:=h.2
  rw [hc] at h2
  have h2':pathN 2 q = true:=h2
  rw [pathN,Bool.and_eq_true] at h2'
  have hs2:=cutB_spec q
  cases hc2:(cutB q).2 with
  | none =>
   have e3:=(hs2.1 hc2).1
   rw [e3] at h2'
   have e2:pathT 3 (tl x) = [(1,(cutB (tl x)).1),(3,[46]),(1,q)]:=by simp only [pathT,hc,hc2,e3]
   rw [e2]
   have:=PathT.two (a:=bs (cutB (tl x)).1) (b:=bs q) h.1 h2'.1
   simp only [tl_bs] at this
   rw [← e,bs_tl] at this
   exact this
  | some q2 =>
   have e3:=(hs2.2 q2 hc2).1
   have h3:=h2'.2
   rw [hc2] at h3
   have h3':pathN 1 q2 = true:=h3
   rw [pathN,Bool.and_eq_true] at h3'
   have hs3:=cutB_spec q2
   cases hc3:(cutB q2).2 with
   | none =>
    have e4:=(hs3.1 hc3).1
    rw [e4] at h3'
    have e2:pathT 3 (tl x) = [(1,(cutB (tl x)).1),(3,[46]),(1,(cutB q).1),(3,[46]),(1,q2)]:=by simp only [pathT,hc,hc2,hc3,e4]
    rw [e2]
    have:=PathT.three (a:=bs (cutB (tl x)).1) (b:=bs (cutB q).1) (c:=bs q2) h.1 h2'.1 h3'.1
    simp only [tl_bs] at this
    have e5:((cutB (tl x)).1 ++ 46 :: (cutB q).1) ++ 46 :: q2 = tl x:=by
     rw [List.append_assoc,List.cons_append,← e3,← e]
    rw [e5,bs_tl] at this
    exact this
   | some q3 =>
    have h4:=h3'.2
    rw [hc3] at h4
    cases h4
theorem decL_digs:∀ (f u:Nat),u < 10 ^ f→1≤f→∀ r,decL (digs f u ++ r) 0 = decL r u
 | 0,u,h,h1,r=>by omega
 | f + 1,u,h,_,r=>by
  have hd:∀ k:Nat,k < 10→48≤(UInt8.ofNat (48 + k)).toNat∧(UInt8.ofNat (48 + k)).toNat≤57∧(UInt8.ofNat (48 + k)).toNat - 48 = k:=by decide
  rw [digs]
  split
  ·rename_i hu
   have:=hd u hu
   rw [List.singleton_append,decL,if_pos ⟨this.1,this.2.1⟩,this.2.2]
   simp
  ·rename_i hu
   have h10:u / 10 < 10 ^ f:=by
    rw [Nat.div_lt_iff_lt_mul (by omega)]
    rw [Nat.pow_succ] at h
    omega
   have hf:1≤f:=by
    cases f with
    | zero=>simp at h; omega
    | succ f=>omega
   have:=hd (u % 10) (Nat.mod_lt _ (by omega))
   rw [List.append_assoc,decL_digs f (u / 10) h10 hf,List.singleton_append,decL,if_pos ⟨this.1,this.2.1⟩,this.2.2]
   congr 1
   omega
theorem numV_numL {n:Int} (h:inR n = true):numV (bs (numL n)) = n∧(∀ b ∈ tl (bs (numL n)),48≤b.toNat∧b.toNat≤57)∧tl (bs (numL n))≠[]:=by
 simp only [inR,Bool.and_eq_true,decide_eq_true_eq] at h
 have hu:n.toNat < 10 ^ (8 + 1):=by omega
 have hlen:=digs_le 20 n.toNat 8 hu
 have hpos:1≤(digs 20 n.toNat).length:=digs_pos 19 n.toNat
 have hall:=digs_all 20 n.toNat
 have hd:=decL_digs 20 n.toNat (by omega) (by omega) []
 rw [List.append_nil] at hd
 refine ⟨?_,fun b hb=>?_,fun e=>?_⟩
 ·unfold numV atoiF
  have e1:(bs (numL n)).data.toList = digs 20 n.toNat:=rfl
  have e2:(bs (numL n)).size = (digs 20 n.toNat).length:=rfl
  rw [e1,e2,if_neg (by omega),hd]
  simp only [decL,Option.map_some,Option.getD_some]
  omega
 ·have:=hall b hb
  simpa [dgt] using this
 ·have e2:(digs 20 n.toNat).length = 0:=by rw [show digs 20 n.toNat = tl (bs (numL n)) from rfl,e]; rfl
  omega
theorem kid_ref {x a:Node} (h:okE x) (hk:x.kind = 3) (hks:x.kids = [a]):a.kind = 2:=by
 have:=(okT_parts h.1).2.1
 simp only [kidsB,leafK,hk,hks] at this
 simpa [ex1,kX] using this
theorem okE_rest {x:Node} (h:okE x):x.other = bs []∧x.len = 0∧x.init = 0∧x.ghost = false∧(x.kind = 3∨x.kind = 4∨x.kind = 6→x.name = bs []∧x.n = 0)∧(x.kind = 1→x.name = bs [])∧(x.kind = 2∨x.kind = 5→x.n = 0):=by
 have hf:=(okT_parts h.1).1
 have he:=h.2
 simp only [isE,Bool.and_eq_true,decide_eq_true_eq] at he
 simp only [fieldsB,Bool.and_eq_true,Bool.or_eq_true] at hf
 obtain ⟨_,h1,h2,h3,h4,h5,h6⟩:=hf
 have k50:(x.kind == 50) = false:=nbeq (by omega)
 have k35:(x.kind == 35) = false:=nbeq (by omega)
 have k57:(x.kind == 57) = false:=nbeq (by omega)
 have k60:(x.kind == 60) = false:=nbeq (by omega)
 have k61:(x.kind == 61) = false:=nbeq (by omega)
 simp only [hasOther,k50,k57,k60,k61,Bool.or_self,Bool.false_eq_true,false_or] at h2
 simp only [k50,Bool.false_eq_true,false_or,beq_iff_eq] at h4 h5
 simp only [k50,k35,Bool.false_eq_true,false_or,beq_iff_eq] at h6
 refine ⟨strEq_iff.1 h2,h4,h5,h6,fun hk=>?_,fun hk=>?_,fun hk=>?_⟩
 ·rcases hk with hk | hk | hk <;> simp [hasName,hasN,hk,strEq_iff] at h1 h3 <;> exact ⟨h1,h3⟩
 ·simp [hasName,hk,strEq_iff] at h1
  exact h1
 ·rcases hk with hk | hk <;> simp [hasN,hk] at h3 <;> exact h3
theorem pr_ptk:∀ x,okE x→okE x→(x.kind = 2→Pr (mapN (fun _=>0) x) 13 ((ptk x).map zOf))∧∃ l,0≤l∧Pr (mapN (fun _=>0) x) l ((ptk x).map zOf):=by
 refine okE_ind ?_ ?_ ?_ ?_ ?_ ?_ ?_ ?_
 ·intro x hk hks hn h
  have hr:=okE_rest h
  have hnum:=numV_numL hn
  have e:mapN (fun _=>0) x = Node.mk 1 (bs []) (bs []) x.n 0 0 false [] 0:=by
   rw [mapN_eq,hk,hks,hr.1,hr.2.1,hr.2.2.1,hr.2.2.2.1,hr.2.2.2.2.2.1 hk]; rfl
  have e2:(ptk x).map zOf = [zt 2 (bs (numL x.n))]:=by rw [ptk_eq]; simp only [ptkOf,hk]; rfl
  rw [e,e2]
  exact ⟨fun h2=>by omega,12,by omega,.num hnum.1 hnum.2.1 hnum.2.2⟩
 ·intro x hk hks hp h
  have hr:=okE_rest h
  have e:mapN (fun _=>0) x = Node.mk 2 x.name (bs []) 0 0 0 false [] 0:=by
   rw [mapN_eq,hk,hks,hr.1,hr.2.1,hr.2.2.1,hr.2.2.2.1,hr.2.2.2.2.2.2 (.inl hk)]; rfl
  have e2:(ptk x).map zOf = (pathT 3 (tl x.name)).map zOf:=by rw [ptk_eq]; simp only [ptkOf,hk,hks]; rfl
  rw [e,e2]
  exact ⟨fun _=>.ref0 (path_T hp),13,by omega,.ref0 (path_T hp)⟩
 ·intro x a hk hks hp ha ih h
  have hr:=okE_rest h
  obtain ⟨_,l,hl,hpr⟩:=ih ha
  have e:mapN (fun _=>0) x = Node.mk 2 x.name (bs []) 0 0 0 false [mapN (fun _=>0) a] 0:=by
   rw [mapN_eq,hk,hks,hr.1,hr.2.1,hr.2.2.1,hr.2.2.2.1,hr.2.2.2.2.2.2 (.inl hk)]; rfl
  have e2:(ptk x).map zOf = (pathT 3 (tl x.name)).map zOf ++ sy [91] :: ((ptk a).map zOf ++ [sy [93]]):=by
   rw [ptk_eq]
   simp only [ptkOf,hk,hks]
   show ((pathT 3 (tl x.name)) ++ (3,[91]) :: (ptk a ++ [(3,[93])])).map zOf = _
   simp only [List.map_append,List.map_cons,List.map_nil]
   rfl
  rw [e,e2]
  exact ⟨fun _=>.ref1 (path_T hp) hl hpr,13,by omega,.ref1 (path_T hp) hl hpr⟩
 ·intro x a hk hks ha ih h
  have hr:=okE_rest h
  have hpr:=(ih ha).1 (kid_ref h hk hks)
  have hn:=hr.2.2.2.2.1 (.inl hk)
  have e:mapN (fun _=>0) x = Node.mk 3 (bs []) (bs []) 0 0 0 false [mapN (fun _=>0) a] 0:=by
   rw [mapN_eq,hk,hks,hr.1,hr.2.1,hr.2.2.1,hr.2.2.2.1,hn.1,hn.2]; rfl
  have e2:(ptk x).map zOf = zt 1 (bs [111,108,100]) :: sy [40] :: ((ptk a).map zOf ++ [sy [41]]):=by
   rw [ptk_eq]
   simp only [ptkOf,hk,hks]
   show ((1,[111,108,100]) :: (3,[40]) :: (ptk a ++ [(3,[41])])).map zOf = _
   simp only [List.map_append,List.map_cons,List.map_nil]
   rfl
  rw [e,e2]
  exact ⟨fun h2=>by omega,12,by omega,.old hpr⟩
 ·intro x a hk hks ha ih h
  have hr:=okE_rest h
  obtain ⟨_,l,hl,hpr⟩:=ih ha
  have hn:=hr.2.2.2.2.1 (.inr (.inl hk))
  have e:mapN (fun _=>0) x = Node.mk 4 (bs []) (bs []) 0 0 0 false [mapN (fun _=>0) a] 0:=by
   rw [mapN_eq,hk,hks,hr.1,hr.2.1,hr.2.2.1,hr.2.2.2.1,hn.1,hn.2]; rfl
  have e2:(ptk x).map zOf = sy [33] :: sy [40] :: ((ptk a).map zOf ++ [sy [41]]):=by
   rw [ptk_eq]
   simp only [ptkOf,hk,hks]
   show ((3,[33]) :: (3,[40]) :: (ptk a ++ [(3,[41])])).map zOf = _
   simp only [List.map_append,List.map_cons,List.map_nil]
   rfl
  rw [e,e2]
  exact ⟨fun h2=>by omega,11,by omega,.not (by omega:(11:Int)≤12) (.paren hl hpr)⟩
 ·intro x a b hk hks hop ha iha hb ihb h
  have hr:=okE_rest h
  obtain ⟨_,la,hla,hpa⟩:=iha ha
  obtain ⟨_,lb,hlb,hpb⟩:=ihb hb
  have hlv:=level_pos hop
  have e:mapN (fun _=>0) x = Node.mk 5 x.name (bs []) 0 0 0 false [mapN (fun _=>0) a,mapN (fun _=>0) b] 0:=by
   rw [mapN_eq,hk,hks,hr.1,hr.2.1,hr.2.2.1,hr.2.2.2.1,hr.2.2.2.2.2.2 (.inr hk)]; rfl
  have e2:(ptk x).map zOf = (sy [40] :: ((ptk a).map zOf ++ [sy [41]])) ++ zt 3 x.name :: (sy [40] :: ((ptk b).map zOf ++ [sy [41]])):=by
   rw [ptk_eq]
   simp only [ptkOf,hk,hks]
   show (parK (ptk a) ++ (3,tl x.name) :: parK (ptk b)).map zOf = _
   simp only [parK,List.map_append,List.map_cons,List.map_nil]
   rfl
  rw [e,e2]
  refine ⟨fun h2=>by omega,_,by omega,.bin (la:=12) (lb:=12) hop ?_ ?_ (.paren hla hpa) (.paren hlb hpb)⟩
  ·unfold reqL; split <;> (try split) <;> omega
  ·unfold reqR; split <;> omega
 ·intro x a b c hk hks ha iha hb ihb hc ihc h
  have hr:=okE_rest h
  obtain ⟨_,la,hla,hpa⟩:=iha ha
  obtain ⟨_,lb,hlb,hpb⟩:=ihb hb
  obtain ⟨_,lc,hlc,hpc⟩:=ihc hc
  have hn:=hr.2.2.2.2.1 (.inr (.inr hk))
  have e:mapN (fun _=>0) x = Node.mk 6 (bs []) (bs []) 0 0 0 false [mapN (fun _=>0) a,mapN (fun _=>0) b,mapN (fun _=>0) c] 0:=by
   rw [mapN_eq,hk,hks,hr.1,hr.2.1,hr.2.2.1,hr.2.2.2.1,hn.1,hn.2]; rfl
  have e2:(ptk x).map zOf = (sy [40] :: ((ptk a).map zOf ++ [sy [41]])) ++ sy [63] :: ((sy [40] :: ((ptk b).map zOf ++ [sy [41]])) ++ sy [58] :: (sy [40] :: ((ptk c).map zOf ++ [sy [41]]))):=by
   rw [ptk_eq]
   simp only [ptkOf,hk,hks]
   show (parK (ptk a) ++ (3,[63]) :: (parK (ptk b) ++ (3,[58]) :: parK (ptk c))).map zOf = _
   simp only [parK,List.map_append,List.map_cons,List.map_nil]
   rfl
  rw [e,e2]
  exact ⟨fun h2=>by omega,1,by omega,.cond (la:=12) (lb:=12) (lc:=12) (by omega) (by omega) (by omega) (.paren hla hpa) (.paren hlb hpb) (.paren hlc hpc)⟩
 ·intro x a hk hks hnm hnr ha ih h
  have hr:=okE_rest h
  obtain ⟨_,l,hl,hpr⟩:=ih ha
  have hnum:=numV_numL hnr
  have e:mapN (fun _=>0) x = Node.mk x.kind x.name (bs []) x.n 0 0 false [mapN (fun _=>0) a] 0:=by
   rw [mapN_eq,hks,hr.1,hr.2.1,hr.2.2.1,hr.2.2.2.1]; rfl
  obtain ⟨w,hw,hkw⟩:∃ w:Bytes,w = (bif x.kind == 7 then [97,108,108] else [115,111,109,101])∧(x.kind = 7∧bs w = bs [97,108,108]∨x.kind = 8∧bs w = bs [115,111,109,101]):=by
   rcases hk with hk | hk <;> rw [hk]
   ·exact ⟨_,rfl,.inl ⟨rfl,rfl⟩⟩
   ·exact ⟨_,rfl,.inr ⟨rfl,rfl⟩⟩
  have e3:ptk x = (1,w) :: (1,tl x.name) :: (3,[60]) :: (2,numL x.n) :: (3,[58]) :: parK (ptk a):=by
   rw [ptk_eq,hw,hks]
   rcases hk with hk | hk <;> rw [hk] <;> rfl
  have e2:(ptk x).map zOf = zt 1 (bs w) :: zt 1 x.name :: sy [60] :: zt 2 (bs (numL x.n)) :: sy [58] :: (sy [40] :: ((ptk a).map zOf ++ [sy [41]])):=by
   rw [e3]
   simp only [parK,List.map_append,List.map_cons,List.map_nil]
   rfl
  rw [e,e2]
  exact ⟨fun h2=>by omega,0,by omega,.quant hkw hnm hnum.1 (by omega:(0:Int)≤12) (.paren hl hpr)⟩
end Go.Proofs.YtbecjgckobhmpaaGreatDoor
end
section
namespace Go.Proofs.YtbecjgckobhmpaaGreatDoor
open Go Go.AM Go.Proofs
structure TreeOk (s:ByteArray) (x:Node) (d:List Diag):Prop where
 kids:∃ l,x = srcN l∧(∀ y ∈ l,okT y = true∧isItm y.kind = true)∧szs l≤1500
 small:d = []→smallP x
 len:d.length≤20
 inc:d.Pairwise (fun a b=>a.pos < b.pos)
 ok:∀ y ∈ d,y.err≠0∧0≤y.pos∧y.pos≤(s.size:Int)
end Go.Proofs.YtbecjgckobhmpaaGreatDoor
end
section
namespace Go.Proofs.YtbecjgckobhmpaaGreatDoor
open Go Go.AM Go.Proofs
variable {s:ByteArray} {n:Nat}
theorem F113_eq {t:ByteArray} {a:Nat} (ha:a≤(tl s).length) (hs:s.size≤4000) (ht:t.size≤3):F113 s a t = some ((tl t).isPrefixOf ((tl s).drop a)):=by
 have hz:=size_tl s
 have htz:=size_tl t
 unfold F113
 have ew:w64 ((a:Int) + (t.size:Int)) = ((a + (tl t).length:Nat):Int):=by rw [w64_id (by omega) (by omega)]; omega
 rw [ew]
 by_cases h:a + (tl t).length≤(tl s).length
 ·have c:decide (((a + (tl t).length:Nat):Int)≤(s.size:Int)) = true:=by simp; omega
  rw [c,subS_eq (by omega) h]
  simp only [cond_true,Option.bind_some]
  rw [show a + (tl t).length - a = (tl t).length by omega]
  exact congrArg some (pre_take (tl t) _)
 ·have c:decide (((a + (tl t).length:Nat):Int)≤(s.size:Int)) = false:=by simp; omega
  rw [c]
  have:(tl t).isPrefixOf ((tl s).drop a) = false:=by
   rw [← pre_take,beq_eq_false_iff_ne]
   intro e
   have:=congrArg List.length e
   rw [List.length_take,List.length_drop] at this
   omega
  rw [this]
  rfl
theorem F114_eq (b:UInt8):F114 (b.toNat:Int) = some (wht b):=by
 unfold F114 wht
 have e1:((b.toNat:Int) == 32) = (b.toNat == 32):=i_eq _ 32
 have e2:((b.toNat:Int) == 9) = (b.toNat == 9):=i_eq _ 9
 have e3:((b.toNat:Int) == 10) = (b.toNat == 10):=i_eq _ 10
 have e4:((b.toNat:Int) == 13) = (b.toNat == 13):=i_eq _ 13
 rw [e1,e2,e3,e4]
 simp only [Bool.or_assoc]
theorem F115_eq (b:UInt8):F115 (b.toNat:Int) = some (ltr b):=by
 unfold F115 ltr
 have e1:decide (65≤(b.toNat:Int)) = decide (65≤b.toNat):=i_le 65 _
 have e2:decide ((b.toNat:Int)≤90) = decide (b.toNat≤90):=i_le _ 90
 have e3:decide (97≤(b.toNat:Int)) = decide (97≤b.toNat):=i_le 97 _
 have e4:decide ((b.toNat:Int)≤122) = decide (b.toNat≤122):=i_le _ 122
 rw [e1,e2,e3,e4,Bool.or_comm]
theorem F117_eq (b:UInt8):F117 (b.toNat:Int) = some (dgt b):=by
 unfold F117 dgt
 have e1:decide (48≤(b.toNat:Int)) = decide (48≤b.toNat):=i_le 48 _
 have e2:decide ((b.toNat:Int)≤57) = decide (b.toNat≤57):=i_le _ 57
 rw [e1,e2]
theorem F74_eq (hs:s.size≤4000) (hn:5000≤n) {a:Nat} (ha:a≤(tl s).length):F74 n s a = some (((tl s).length - (skp false ((tl s).drop a)).length:Nat):Int):=by
 have hz:=size_tl s
 apply T.eq
 unfold F74
 refine T.bind (P:=fun r=>match r with | .inl e=>e = (((tl s).length - (skp false ((tl s).drop a)).length:Nat):Int) | .inr e=>e = (((tl s).length - (skp false ((tl s).drop a)).length:Nat):Int)) ?_ (fun r h=>by
  cases r with
  | inl r=>exact T.some h
  | inr r=>exact T.some h)
 refine iter_T (fun e=>∃ k:Nat,e = (k:Int)∧k≤(tl s).length∧skp false ((tl s).drop k) = skp false ((tl s).drop a)) (fun e=>((tl s).length - e.toNat)) _ (fun e he=>?_) n a (by omega) ⟨a,rfl,ha,rfl⟩
 obtain ⟨k,rfl,hk,hsk⟩:=he
 by_cases hlt:k < (tl s).length
 ·have hg:=List.getElem?_eq_getElem hlt
  have hd:=get_drop hg
  have c1:decide ((k:Int) < (s.size:Int)) = true:=by simp; omega
  rw [c1,F113_eq hk hs (by simp [size_bs])]
  have e2:(tl (bs [47,47])).isPrefixOf ((tl s).drop k) = two ((tl s).drop k):=rfl
  rw [e2]
  simp only [cond_true,Option.bind_some]
  cases h2:two ((tl s).drop k)
  ·rw [idxS_some hg]
   simp only [cond_false,Option.bind_some,F114_eq,w64_nat (k:=k) (by omega)]
   cases hw:wht (tl s)[k]
   ·refine T.some ?_
    have h3:=skp_fix ((tl s).drop k) (by rw [hd,List.takeWhile_cons,if_neg (by simp [hw])]) h2
    show (k:Int) = _
    rw [← hsk,h3,List.length_drop]
    omega
   ·refine T.some ⟨⟨k + 1,rfl,by omega,?_⟩,?_⟩
    ·rw [← hsk,hd]
     simp only [skp,hw,if_true]
    ·show (tl s).length - (k + 1) < (tl s).length - k
     omega
  ·simp only [cond_true]
   obtain ⟨hk3l,hd3⟩:=drop_step nol hk
   have hpos:1≤(((tl s).drop k).takeWhile nol).length:=by
    rw [hd] at h2 ⊢
    have hb:=two_cons h2
    rw [hb,List.takeWhile_cons,if_pos (by decide)]
    simp
   refine T.bind (take_T (L:=tl s) nol (fun j b hb=>?_) ?_ hk (by omega)) fun e he=>?_
   ·have hjl:=lt_of_get hb
    have c:decide ((j:Int) < (s.size:Int)) = true:=by simp; omega
    have e3:((b.toNat:Int) == 10) = (b.toNat == 10):=i_eq _ 10
    rw [c,idxS_some hb,w64_nat (by omega)]
    simp only [cond_true,Option.bind_some,bne,e3]
    have:nol b = !(b.toNat == 10):=rfl
    rw [this]
    cases b.toNat == 10 <;> rfl
   ·have c:decide (((tl s).length:Int) < (s.size:Int)) = false:=by simp; omega
    rw [c]
    rfl
   ·subst he
    generalize hk3:k + (((tl s).drop k).takeWhile nol).length = k3 at hk3l hd3
    refine T.some ⟨⟨k3,rfl,hk3l,by rw [hd3,← skp_two _ h2,hsk]⟩,?_⟩
    show (tl s).length - k3 < (tl s).length - k
    omega
 ·have c1:decide ((k:Int) < (s.size:Int)) = false:=by simp; omega
  rw [c1]
  refine T.some ?_
  have:(tl s).drop k = []:=List.drop_eq_nil_iff.2 (by omega)
  show (k:Int) = _
  rw [← hsk,this,skp_nil]
  simp
  omega
theorem F116_eq (hs:s.size≤4000) (hn:5000≤n) {a:Nat} (ha:a≤(tl s).length) :
  F116 n s a = some (⟨1,bs (((tl s).drop a).takeWhile wrd),(a:Int)⟩,decide ((((tl s).drop a).takeWhile wrd).length≤16)):=by
 have hz:=size_tl s
 apply T.eq
 unfold F116
 refine T.bind (take_T (L:=tl s) wrd (fun j b hb=>?_) ?_ ha (by omega)) fun e he=>?_
 ·have hjl:=lt_of_get hb
  have c:decide ((j:Int) < (s.size:Int)) = true:=by simp; omega
  have e3:((b.toNat:Int) == 95) = (b.toNat == 95):=i_eq _ 95
  rw [c,idxS_some hb,w64_nat (by omega)]
  simp only [cond_true,Option.bind_some,F115_eq,F117_eq,e3]
  have hw:wrd b = (ltr b || (dgt b || b.toNat == 95)):=rfl
  rw [hw]
  cases ltr b <;> cases dgt b <;> cases b.toNat == 95 <;> rfl
 ·have c:decide (((tl s).length:Int) < (s.size:Int)) = false:=by simp; omega
  rw [c]
  rfl
 ·subst he
  obtain ⟨hkl,_⟩:=drop_step wrd ha
  rw [subS_eq (by omega) hkl]
  simp only [Option.bind_some]
  rw [w64_id (by omega) (by omega),Nat.add_sub_cancel_left,take_tw]
  refine T.some ?_
  congr 1
  rw [decide_eq_decide]
  omega
theorem F118_eq (hs:s.size≤4000) (hn:5000≤n) {a:Nat} {b:UInt8} {r:List UInt8} (hd:(tl s).drop a = b :: r) (hb2:dgt b = true) :
  F118 n s a = some (⟨2,bs (((tl s).drop a).takeWhile dgt),(a:Int)⟩,numOk b ((tl s).drop a)):=by
 have hz:=size_tl s
 have hb:=get_of_drop hd
 have ha:=lt_of_get hb
 apply T.eq
 unfold F118
 refine T.bind (take_T (L:=tl s) dgt (fun j b hb=>?_) ?_ (Nat.le_of_lt ha) (by omega)) fun e he=>?_
 ·have hjl:=lt_of_get hb
  have c:decide ((j:Int) < (s.size:Int)) = true:=by simp; omega
  rw [c,idxS_some hb,w64_nat (by omega)]
  simp only [cond_true,Option.bind_some,F117_eq]
  cases dgt b <;> rfl
 ·have c:decide (((tl s).length:Int) < (s.size:Int)) = false:=by simp; omega
  rw [c]
  rfl
 ·subst he
  obtain ⟨hkl,hkd⟩:=drop_step dgt (Nat.le_of_lt ha)
  have htk:=take_tw dgt ((tl s).drop a)
  have hnd:∀ c,(((tl s).drop a).dropWhile dgt).head? = some c→dgt c = false:=by
   intro c hc
   have:=List.head?_dropWhile_not dgt ((tl s).drop a)
   rw [hc] at this
   simpa using this
  unfold numOk
  rw [← hkd] at hnd ⊢
  have hk1:1≤(((tl s).drop a).takeWhile dgt).length:=by rw [hd,List.takeWhile_cons,if_pos hb2]; simp
  rw [subS_eq (by omega) hkl,Nat.add_sub_cancel_left,htk,idxS_some hb]
  generalize hk:(((tl s).drop a).takeWhile dgt).length = k at hkl hkd hk1 hnd ⊢
  have ew:w64 (((a + k:Nat):Int) - (a:Int)) = (k:Int):=by rw [w64_id (by omega) (by omega)]; omega
  have ew2:w64 ((a:Int) + 1) = ((a + 1:Nat):Int):=w64_nat (by omega)
  rw [ew,ew2]
  have e9:decide ((k:Int)≤9) = decide (k≤9):=i_le k 9
  have e48:((b.toNat:Int) == 48) = (b.toNat == 48):=i_eq _ 48
  have e1:(((a + k:Nat):Int) == ((a + 1:Nat):Int)) = (k == 1):=by
   rw [i_eq,Bool.eq_iff_iff]; simp only [beq_iff_eq]; omega
  simp only [Option.bind_some,e9,bne,e48,e1]
  have ej:(bif decide (k≤9) then some ((!(b.toNat == 48)) || (k == 1)) else some false) = some (decide (k≤9) && ((!(b.toNat == 48)) || (k == 1))):=by
   cases decide (k≤9) <;> rfl
  rw [ej]
  simp only [Option.bind_some]
  rw [List.head?_drop] at hnd ⊢
  by_cases hlt:a + k < (tl s).length
  ·have hg:=List.getElem?_eq_getElem hlt
   have hdg:=hnd _ hg
   have c3:decide (((a + k:Nat):Int) < (s.size:Int)) = true:=by simp; omega
   have e95:((((tl s)[a + k]).toNat:Int) == 95) = (((tl s)[a + k]).toNat == 95):=i_eq _ 95
   rw [c3,idxS_some hg,hg]
   simp only [cond_true,Option.bind_some,F115_eq,e95,Option.all_some,wrd,hdg,Bool.false_or]
   cases ltr (tl s)[a + k] <;> cases ((tl s)[a + k]).toNat == 95 <;> cases decide (k≤9) <;> cases b.toNat == 48 <;> cases k == 1 <;> exact T.some rfl
  ·have c3:decide (((a + k:Nat):Int) < (s.size:Int)) = false:=by simp; omega
   rw [c3,List.getElem?_eq_none (by omega)]
   simp only [cond_false,Option.bind_some,Option.all_none,Bool.and_true]
   exact T.some rfl
def symR:List ByteArray:=[(bs [61,61,62]),(bs [58,61]),(bs [61,61]),(bs [33,61]),(bs [60,61]),(bs [38,38]),(bs [124,124]),(bs [123]),(bs [125]),(bs [40]),(bs [41]),(bs [91]),(bs [93]),(bs [59]),(bs [58]),(bs [44]),(bs [46]),(bs [63]),(bs [61]),(bs [33]),(bs [60]),(bs [38]),(bs [124]),(bs [94]),(bs [43]),(bs [45]),(bs [42])]
theorem symR_sz:∀ x ∈ symR,1≤x.size∧x.size≤3:=by
 have:symR.all (fun x=>decide (1≤x.size∧x.size≤3)) = true:=by rfl
 intro x hx
 simpa using List.all_eq_true.1 this x hx
theorem symR_find (l:List UInt8):(symR.map tl).find? (fun t=>t.isPrefixOf l) = symL.find? (fun t=>t.isPrefixOf l):=by
 show ([61,61,62] :: [58,61] :: [61,61] :: symL.drop 3:List (List UInt8)).find? _ = ([61,61,62] :: [61,61] :: [58,61] :: symL.drop 3:List (List UInt8)).find? _
 simp only [List.find?_cons]
 cases h1:([61,61,62]:List UInt8).isPrefixOf l
 ·cases h2:([58,61]:List UInt8).isPrefixOf l
  ·cases h3:([61,61]:List UInt8).isPrefixOf l <;> rfl
  ·cases h3:([61,61]:List UInt8).isPrefixOf l
   ·rfl
   ·cases l with
    | nil=>simp at h2
    | cons x l =>
     simp [List.isPrefixOf] at h2 h3
     exact absurd (h2.1.trans h3.1.symm) (by decide)
 ·rfl
theorem find_TF {β:Type} {S:List ByteArray} {step:Int→Option (Int ⊕ (β ⊕ Unit))} (p:ByteArray→Bool) (f:ByteArray→β)
  (h1:∀ (k:Nat) x,S[k]? = some x→T (step (k:Int)) (fun r=>r = if p x = true then .inr (.inl (f x)) else .inl ((k + 1:Nat):Int)))
  (h2:step (S.length:Int) = some (.inr (.inr ()))) {n:Nat} (hn:S.length < n) :
  T (iter step n (0:Int)) (fun r=>r = match S.find? p with | some x=>.inl (f x) | none=>.inr ()):=by
 have key:∀ (l:List ByteArray) (k:Nat),runF (A:=Unit) (ρ:=β ⊕ Unit) (fun _ _ x=>if p x = true then .inr (.inl (f x)) else .inl ()) (fun _=>.inr ()) k l () = match l.find? p with | some x=>.inl (f x) | none=>.inr ():=by
  intro l
  induction l with
  | nil=>intro k; rfl
  | cons x l ih =>
   intro k
   rw [List.find?_cons,runF]
   cases hp:p x
   ·simpa [hp] using ih (k + 1)
   ·simp
 have e:=iter_runF S (fun (k:Nat) (_:Unit)=>(k:Int)) (fun _ _ x=>if p x = true then .inr (.inl (f x)) else .inl ()) (fun _=>.inr ()) (step:=step)
  (fun k a x hx=>by
   rw [T.eq (h1 k x hx)]
   cases p x <;> rfl)
  (fun _=>h2) n () hn
 rw [key] at e
 exact ⟨_,e,rfl⟩
theorem F75_eq (hs:s.size≤4000) (hn:5000≤n) {a:Nat} {b:UInt8} {r:List UInt8} (hd:(tl s).drop a = b :: r) :
  T (F75 n s a) (fun q=>match tokL ((tl s).drop a) with | some km=>q = (⟨(km.1:Int),bs (((tl s).drop a).take km.2),(a:Int)⟩,true) | none=>q.2 = false):=by
 have hz:=size_tl s
 have hb:=get_of_drop hd
 have ha:=lt_of_get hb
 unfold F75
 rw [idxS_some hb]
 simp only [Option.bind_some,F115_eq,F117_eq]
 rw [hd,tokL_cons]
 cases h1:ltr b
 ·simp only [cond_false]
  cases h2:dgt b
  ·simp only [cond_false,F119,Option.bind_some]
   refine T.bind (find_TF (S:=symR) (fun x=>(tl x).isPrefixOf ((tl s).drop a)) (fun x=>Token.mk 3 x (a:Int)) (fun k x hx=>?_) ?_ (by simp [symR]; omega)) fun q hq=>?_
   ·have hk:=lt_of_get hx
    have hk27:k < 27:=hk
    have c1:decide ((k:Int) < (symR.length:Int)) = true:=by simp; omega
    have hm:=symR_sz x (List.mem_of_getElem? hx)
    show T (bif decide ((k:Int) < (symR.length:Int)) then ((idxL symR (k:Int)).bind fun x13 =>
     (F113 s (a:Int) x13).bind fun x14 =>
     bif x14 then
      ((idxL symR (k:Int)).bind fun x16 =>
      some (.inr (.inl (Token.mk 3 x16 (a:Int)))))
     else
      (some (.inl (w64 ((k:Int) + 1))))) else some (.inr (.inr ())):Option (Int ⊕ (Token ⊕ Unit))) _
    rw [c1,idxL_some hx,w64_nat (k:=k) (by omega)]
    simp only [cond_true,Option.bind_some]
    rw [F113_eq (Nat.le_of_lt ha) hs hm.2]
    simp only [Option.bind_some]
    cases (tl x).isPrefixOf ((tl s).drop a)
    ·exact T.some rfl
    ·exact T.some rfl
   ·rfl
   ·rw [hq,find_tl (p:=fun t=>t.isPrefixOf ((tl s).drop a)),symR_find,hd]
    cases hf:symL.find? (fun t=>t.isPrefixOf (b :: r)) with
    | none=>exact T.some rfl
    | some t =>
     have hp:=List.find?_some hf
     have ht:=List.prefix_iff_eq_take.1 (List.isPrefixOf_iff_prefix.1 hp)
     refine T.some ?_
     simp only [Option.map_some]
     rw [← ht]
     rfl
  ·simp only [cond_true]
   rw [F118_eq hs hn hd h2,hd]
   simp only [Option.bind_some]
   cases numOk b (b :: r)
   ·exact T.some rfl
   ·refine T.some ?_
    simp only [cond_true]
    rw [take_tw]
    rfl
 ·simp only [cond_true]
  rw [F116_eq hs hn (Nat.le_of_lt ha),hd]
  simp only [Option.bind_some]
  cases decide (((b :: r).takeWhile wrd).length≤16)
  ·exact T.some rfl
  ·refine T.some ?_
   simp only [cond_true]
   rw [take_tw]
   rfl
theorem F39_eq (hn:5000≤n):F39 n s = some (lexR s):=by
 have hz:=size_tl s
 apply T.eq
 unfold F39 lexR
 by_cases h4:4000 < s.size
 ·have c:decide ((4000:Int) < (s.size:Int)) = true:=by simp; omega
  rw [c,if_pos h4]
  exact T.some rfl
 have c:decide ((4000:Int) < (s.size:Int)) = false:=by simp; omega
 have hs:s.size≤4000:=by omega
 rw [c,if_neg h4]
 simp only [cond_false]
 have e0:F74 n s (0:Int) = some (((tl s).length - (skp false ((tl s).drop 0)).length:Nat):Int):=F74_eq (a:=0) hs hn (by omega)
 rw [e0]
 simp only [Option.bind_some]
 have hdr:∀ k,k≤(tl s).length→(tl s).drop ((tl s).length - (skp false ((tl s).drop k)).length) = skp false ((tl s).drop k)∧k≤(tl s).length - (skp false ((tl s).drop k)).length:=by
  intro k hk
  obtain ⟨p,hp⟩:=skp_suf ((tl s).drop k) false
  have hp1:=congrArg List.length hp
  rw [List.length_append,List.length_drop] at hp1
  have e:(tl s).length - (skp false ((tl s).drop k)).length = k + p.length:=by omega
  constructor
  ·rw [e,← List.drop_drop]
   conv=>lhs; rw [hp]
   exact List.drop_left
  ·omega
 refine T.bind (P:=fun r=>(match r with | .inl e=>(([]:List Token),e.1,e.2) | .inr l=>(l,(0:Int),(0:Int))) = outT [] (lexG s.size (s.size + 1) 0 (tl s))) ?_ (fun r h=>by
  cases r with
  | inl e=>exact T.some h
  | inr l=>exact T.some h)
 refine iter_T (fun st=>∃ (k f:Nat),st.2 = (k:Int)∧k≤(tl s).length∧st.1.length≤1500∧((tl s).drop k).length≤f∧outT st.1 (lexS s.size (lexG s.size f (st.1.length + 1)) st.1.length ((tl s).drop k)) = outT [] (lexG s.size (s.size + 1) 0 (tl s))) (fun st=>(tl s).length - st.2.toNat) _ (fun st hst=>?_) n _ ?_ ⟨(tl s).length - (skp false ((tl s).drop 0)).length,s.size,rfl,by omega,by simp,?_,?_⟩
 ·obtain ⟨k,f,hk,hkl,h15,hf,hout⟩:=hst
  rw [hk]
  cases hd:(tl s).drop k with
  | nil =>
   have hk2:k = (tl s).length:=by
    have:=List.drop_eq_nil_iff.1 hd
    omega
   have c1:decide ((k:Int) < (s.size:Int)) = false:=by simp; omega
   rw [c1]
   rw [hd] at hout
   simp only [lexS,outT,List.append_nil] at hout
   exact T.some hout
  | cons b r =>
   have hlt:k < (tl s).length:=lt_of_get (get_of_drop hd)
   have hlen:=List.length_drop (i:=k) (l:=tl s)
   have c1:decide ((k:Int) < (s.size:Int)) = true:=by simp; omega
   have hpos:s.size - ((tl s).drop k).length = k:=by omega
   rw [c1]
   rw [hd] at hpos
   rw [hd] at hout
   simp only [lexS,hpos] at hout
   simp only [cond_true]
   by_cases h1500:st.1.length = 1500
   ·have c2:decide ((1500:Int)≤(st.1.length:Int)) = true:=by simp; omega
    rw [c2]
    rw [if_pos h1500] at hout
    exact T.some hout
   have c2:decide ((1500:Int)≤(st.1.length:Int)) = false:=by simp; omega
   rw [c2]
   simp only [cond_false]
   rw [if_neg h1500] at hout
   obtain ⟨q,hq,hq2⟩:=F75_eq hs hn hd
   rw [hq]
   simp only [Option.bind_some]
   rw [hd] at hq2
   cases htk:tokL (b :: r) with
   | none =>
    rw [htk] at hout hq2
    have hq2':q.2 = false:=hq2
    rw [hq2']
    exact T.some hout
   | some km =>
    rw [htk] at hout hq2
    have hq2':q = (⟨(km.1:Int),bs ((b :: r).take km.2),(k:Int)⟩,true):=hq2
    have hm:=tokL_spec htk
    subst hq2'
    simp only [Bool.not_true,cond_false,appL] at hout ⊢
    rw [if_pos (by simp; omega)]
    have hlen2:(tl s).length - k = (b :: r).length:=by rw [← hlen,hd]
    have etz:((bs ((b :: r).take km.2)).size:Int) = (km.2:Int):=by
     rw [size_bs,List.length_take]; omega
    have ew:w64 ((k:Int) + ((bs ((b :: r).take km.2)).size:Int)) = ((k + km.2:Nat):Int):=by
     rw [etz,w64_id (by omega) (by omega)]; rfl
    rw [ew,F74_eq hs hn (a:=k + km.2) (by omega)]
    simp only [Option.bind_some]
    obtain ⟨h5,h6⟩:=hdr (k + km.2) (by omega)
    rw [out_cons] at hout
    have hdk:(tl s).drop (k + km.2) = (b :: r).drop km.2:=by rw [← List.drop_drop,hd]
    have hsl:=skp_len false ((tl s).drop (k + km.2))
    rw [List.length_drop] at hsl
    obtain ⟨f,rfl⟩:∃ g,f = g + 1:=⟨f - 1,by rw [List.length_drop] at hf; omega⟩
    refine T.some ⟨⟨_,f,rfl,by omega,by simp; omega,?_,?_⟩,?_⟩
    ·rw [h5]
     rw [List.length_drop] at hf
     omega
    ·rw [h5,hdk]
     simp only [List.length_append,List.length_cons,List.length_nil]
     simp only [lexG] at hout
     exact hout
    ·show (tl s).length - ((((tl s).length - (skp false ((tl s).drop (k + km.2))).length:Nat):Int)).toNat < (tl s).length - ((k:Int)).toNat
     simp only [Int.toNat_natCast]
     omega
 ·simp only [Int.toNat_natCast]
  omega
 ·rw [(hdr 0 (by omega)).1]
  have:=skp_len false ((tl s).drop 0)
  rw [List.length_drop] at this
  omega
 ·rw [(hdr 0 (by omega)).1]
  simp only [List.drop_zero,List.length_nil]
  rfl
end Go.Proofs.YtbecjgckobhmpaaGreatDoor
end
section
namespace Go.Proofs.YtbecjgckobhmpaaGreatDoor
open Go Go.AM Go.Proofs
namespace M
variable {α:Type}
end M
theorem Lexed.nodup {s:ByteArray} {ts:List Token} (h:Lexed s ts) {i j:Nat} {a b:Token} (ha:ts[i]? = some a) (hb:ts[j]? = some b) (e:a.pos = b.pos):i = j:=by
 have hp:=(h.lx.le (by rw [← size_tl]; exact Nat.le_refl _)).1
 obtain ⟨hi,rfl⟩:=List.getElem?_eq_some_iff.1 ha
 obtain ⟨hj,rfl⟩:=List.getElem?_eq_some_iff.1 hb
 rw [List.pairwise_iff_getElem] at hp
 rcases Nat.lt_trichotomy i j with h1 | h1 | h1
 ·have:=hp i j hi hj h1; omega
 ·exact h1
 ·have:=hp j i hj hi h1; omega
theorem F33_ok {s:ByteArray} {ts:List Token} (h:Lexed s ts) {n:Nat} (hn:5000≤n):F33 n s = some true:=by
 unfold F33
 rw [decide_eq_false (by have:=h.len; omega),F39_eq hn,lexR_ok h]
 rfl
theorem F33_cases (s:ByteArray) {n:Nat} (hn:5000≤n):(∃ ts,Lexed s ts∧F33 n s = some true∧F39 n s = some (ts,0,0))∨F33 n s = some false:=by
 rcases lexR_cases s with ⟨ts,h,h2⟩ | ⟨e,p,h,h2,_⟩
 ·exact .inl ⟨ts,h,F33_ok h hn,by rw [F39_eq hn,h2]⟩
 ·right
  unfold F33
  cases decide ((6000:Int) < (s.size:Int))
  ·simp only [cond_false]
   rw [F39_eq hn,h]
   rcases h2 with rfl | rfl <;> rfl
  ·rfl
end Go.Proofs.YtbecjgckobhmpaaGreatDoor
end
section
namespace Go.Proofs.YtbecjgckobhmpaaGreatDoor
open Go Go.AM Go.Proofs
theorem F232_eq:F232 = some (keyNames.map bs):=by kernel_rfl
theorem keys_len:keyNames.length = 37:=by kernel_rfl
theorem F206_eq (s:ByteArray) {n:Nat} (hn:50≤n):F206 n s = some (keyNames.any (tl s == ·)):=by
 unfold F206
 rw [F232_eq]
 simp only [Option.bind_some]
 have hl:(keyNames.map bs).length = 37:=by rw [List.length_map,keys_len]
 rw [iter_all (keyNames.map bs) (fun x=>!(strEq x s)) (by omega) (fun k x hx=>by
  have hlt:=lt_of_get hx
  have c1:decide ((k:Int) < ((keyNames.map bs).length:Int)) = true:=by simpa using hlt
  rw [c1,idxL_some hx]
  simp only [cond_true,Option.bind_some]
  exact cond_not_if _ _ _) (by simp) (by omega)]
 have e:(keyNames.map bs).all (fun x=>!(strEq x s)) = !(keyNames.any (tl s == ·)):=by
  rw [List.all_map,List.not_any_eq_all_not]
  congr 1
  funext l
  simp only [Function.comp,strEq]
  congr 1
  exact Bool.eq_iff_iff.2 (by
   simp only [beq_iff_eq]
   exact eq_comm)
 rw [e]
 cases keyNames.any (tl s == ·) <;> rfl
theorem nameP2 (k:Nat) (b:UInt8):(!((!isLetI b.toNat) && (((k:Int) == 0) || (bif decide ((b.toNat:Int) < 48) then ((b.toNat:Int) != 95) else ((decide (57 < (b.toNat:Int))) && ((b.toNat:Int) != 95)))))) = nameP k b:=by
 unfold nameP
 congr 2
 congr 1
 generalize (b.toNat:Int) = z
 cases decide (z < 48) <;> cases z != 95 <;> cases decide (57 < z) <;> rfl
theorem F174_eq (s:ByteArray) (hs:(tl s).length≤9223372036854775807) {n:Nat} (hn:50≤n) (hl:(tl s).length < n):F174 n s = some (nameB (tl s)):=by
 unfold F174
 rw [iter_allI (tl s) nameP hs (fun k b hb=>by
  have hlt:=lt_of_get hb
  have c1:decide ((k:Int) < (s.size:Int)) = true:=by rw [size_tl]; simpa using hlt
  rw [c1,idxS_some hb]
  simp only [cond_true,Option.bind_some]
  rw [← nameP2]
  exact cond_not_if _ _ _) (by rw [size_tl]; simp) hl,allI_name]
 rw [F206_eq s hn,size_tl]
 cases hc:nameCs (tl s)
 ·simp [nameB,hc]
 ·simp only [if_true,Option.bind_some]
  have e:(decide (1≤((tl s).length:Int)) && decide (((tl s).length:Int)≤16)) = (decide (1≤(tl s).length) && decide ((tl s).length≤16)):=by
   congr 1
   ·rw [decide_eq_decide]; omega
   ·rw [decide_eq_decide]; omega
  rw [e]
  unfold nameB
  rw [hc]
  cases decide (1≤(tl s).length) <;> cases decide ((tl s).length≤16) <;> simp
theorem cutB_none:∀ (a:Bytes),46 ∉ a→cutB a = (a,none)
 | [],_=>rfl
 | b :: r,h=>by
  simp only [List.mem_cons,not_or] at h
  have hb:(b == 46) = false:=by
   cases hbb:b == 46
   ·rfl
   ·exact absurd (by simpa using hbb:b = 46).symm h.1
  simp [cutB,hb,cutB_none r h.2]
theorem cutB_dot:∀ (a r:Bytes),46 ∉ a→cutB (a ++ 46 :: r) = (a,some r)
 | [],r,_=>by simp [cutB]
 | b :: a,r,h=>by
  simp only [List.mem_cons,not_or] at h
  have hb:(b == 46) = false:=by
   cases hbb:b == 46
   ·rfl
   ·exact absurd (by simpa using hbb:b = 46).symm h.1
  simp [cutB,hb,cutB_dot a r h.2]
theorem pathN_succ:∀ (k:Nat) (s:Bytes),pathN k s = true→pathN (k + 1) s = true
 | 0,s,h=>by simp [pathN] at h
 | k + 1,s,h=>by
  rw [pathN,Bool.and_eq_true] at h ⊢
  refine ⟨h.1,?_⟩
  have h2:=h.2
  cases hc:(cutB s).2 with
  | none=>rfl
  | some r =>
   rw [hc] at h2
   exact pathN_succ k r h2
theorem pathN_le {k j:Nat} (h:k≤j) {s:Bytes} (hs:pathN k s = true):pathN j s = true:=by
 induction h with
 | refl=>exact hs
 | step _ ih=>exact pathN_succ _ _ ih
theorem F205_T (s:ByteArray) (hs:(tl s).length≤9223372036854775807) {n:Nat} (hn:50≤n) (hl:(tl s).length < n):T (F205 n s) (fun b=>b = true→pathB (tl s) = true):=by
 unfold F205
 refine T.bind (P:=fun r=>match r with
  | .inl _=>True
  | .inr v=>∃ (c f:Nat),v = ((c:Int),(f:Int))∧f≤(tl s).length∧1≤c∧46 ∉ (tl s).drop f∧∀ j,pathN j ((tl s).drop f) = true→pathN (j + (c - 1)) (tl s) = true) ?_ (fun r h=>by
  cases r with
  | inl _=>exact T.some (fun h=>by cases h)
  | inr v =>
   obtain ⟨c,f,rfl,hf,hc,hd,hp⟩:=h
   refine T.cond (fun h3=>?_) (fun _=>T.some (fun h=>by cases h))
   have h3':c≤3:=by simp at h3; omega
   rw [size_tl,subS_eq hf (by omega)]
   simp only [Option.bind_some]
   have e:((tl s).drop f).take ((tl s).length - f) = (tl s).drop f:=List.take_of_length_le (by simp)
   rw [e,F174_eq _ (by rw [tl_bs]; simp; omega) hn (by rw [tl_bs]; simp; omega)]
   refine T.some (fun hb=>?_)
   rw [tl_bs] at hb
   have h1:pathN 1 ((tl s).drop f) = true:=by
    simp only [pathN]
    rw [cutB_none _ hd]
    simpa using hb
   exact pathN_le (show 1 + (c - 1)≤3 by omega) (hp 1 h1))
 refine iter_inv (tl s) (fun (k:Nat) (a:Nat × Nat)=>((a.1:Int),(a.2:Int),(k:Int))) (fun k a=>a.2≤k∧1≤a.1∧2 * a.1≤a.2 + 2∧46 ∉ ((tl s).take k).drop a.2∧∀ j,pathN j ((tl s).drop a.2) = true→pathN (j + (a.1 - 1)) (tl s) = true) _
  (fun k a b hb ha=>?_) (fun a ha=>?_) n (1,0) hl ⟨by simp,by simp,by simp,by simp,fun j h=>by simpa using h⟩
 ·have hlt:=lt_of_get hb
  have c1:decide ((k:Int) < (s.size:Int)) = true:=by rw [size_tl]; simpa using hlt
  have hi:idxS s (k:Int) = some (b.toNat:Int):=idxS_some hb
  have ht2:(tl s).take (k + 1) = (tl s).take k ++ [b]:=by rw [List.take_add_one,hb]; rfl
  have hlen:((tl s).take k).length = k:=by simp; omega
  have e1:w64 ((k:Int) + 1) = ((k + 1:Nat):Int):=w64_nat (by omega)
  have e2:w64 ((a.1:Int) + 1) = ((a.1 + 1:Nat):Int):=w64_nat (by omega)
  simp only [c1,cond_true,hi,Option.bind_some,e1,e2]
  by_cases h46:b = 46
  ·subst h46
   have c2:((((46:UInt8).toNat:Nat):Int) != 46) = false:=rfl
   rw [c2]
   simp only [cond_false]
   rw [subS_eq ha.1 (by omega)]
   simp only [Option.bind_some]
   rw [F174_eq _ (by rw [tl_bs]; simp; omega) hn (by rw [tl_bs]; simp; omega)]
   simp only [Option.bind_some,tl_bs]
   cases hnm:nameB (((tl s).drop a.2).take (k - a.2))
   ·exact .inr ⟨_,rfl,trivial⟩
   ·left
    have hnl:=(nameB_len hnm).1
    simp only [List.length_take,List.length_drop] at hnl
    refine ⟨(a.1 + 1,k + 1),rfl,by simp,by simp,by simp; omega,?_,fun j hj=>?_⟩
    ·rw [List.drop_eq_nil_of_le (by simp; omega)]
     simp
    ·have hcut:(tl s).drop a.2 = ((tl s).drop a.2).take (k - a.2) ++ 46 :: (tl s).drop (k + 1):=by
      have hx:(tl s)[k] = 46:=by
       have:=List.getElem?_eq_getElem hlt
       rw [hb] at this
       exact (Option.some.inj this).symm
      conv=>lhs; rw [← List.take_append_drop (k - a.2) ((tl s).drop a.2)]
      congr 1
      rw [List.drop_drop,show a.2 + (k - a.2) = k by omega,← List.getElem_cons_drop hlt,hx]
     have hno:46 ∉ ((tl s).drop a.2).take (k - a.2):=by
      have:=ha.2.2.2.1
      rwa [List.drop_take] at this
     have h5:pathN (j + 1) ((tl s).drop a.2) = true:=by
      rw [hcut]
      simp only [pathN]
      rw [cutB_dot _ _ hno]
      simp only [hnm,Bool.true_and]
      exact hj
     have h6:=ha.2.2.2.2 (j + 1) h5
     have h7:j + 1 + (a.1 - 1) = j + (a.1 + 1 - 1):=by omega
     rw [h7] at h6
     exact h6
  ·have c2:(((b.toNat:Nat):Int) != 46) = true:=by
    have:¬ ((b.toNat:Nat):Int) = 46:=by
     intro e
     apply h46
     apply UInt8.toNat.inj
     simp
     omega
    simpa using this
   rw [c2]
   simp only [cond_true]
   left
   refine ⟨(a.1,a.2),rfl,by simp; omega,by simp; omega,by simp; omega,?_,ha.2.2.2.2⟩
   rw [ht2,List.drop_append_of_le_length (by omega)]
   simp only [List.mem_append,List.mem_singleton,not_or]
   exact ⟨ha.2.2.2.1,fun e=>h46 e.symm⟩
 ·have c1:decide (((tl s).length:Int) < (s.size:Int)) = false:=by rw [size_tl]; simp
  simp only [c1,cond_false]
  have h4:=ha.2.2.2.1
  simp only [List.take_length] at h4
  exact ⟨_,rfl,a.1,a.2,rfl,ha.1,ha.2.1,h4,ha.2.2.2.2⟩
theorem F170_T (l:Bytes) (c:Int) (hl:l.length≤100) {n:Nat} (hn:200≤n):T (F170 n (bs l) c) (fun b=>b = true→∃ u ∈ l,((u.toNat:Nat):Int) = c):=by
 unfold F170
 refine T.bind (P:=fun r=>match r with | .inl _=>∃ u ∈ l,((u.toNat:Nat):Int) = c | .inr _=>True) ?_ (fun r h=>by
  cases r with
  | inl _=>exact T.some (fun _=>h)
  | inr _=>exact T.some (fun h=>by cases h))
 refine iter_inv l (fun (k:Nat) (_:Unit)=>(k:Int)) (fun _ _=>True) _ (fun k _ b hb _=>?_) (fun _ _=>?_) n () (by omega) trivial
 ·have hlt:=lt_of_get hb
  have c1:decide ((k:Int) < ((bs l).size:Int)) = true:=by rw [size_bs]; simpa using hlt
  have hi:idxS (bs l) (k:Int) = some (b.toNat:Int):=idxS_some hb
  simp only [c1,cond_true,hi,Option.bind_some,w64_nat (k:=k) (by omega)]
  cases hc:((b.toNat:Nat):Int) == c
  ·exact .inl ⟨(),rfl,trivial⟩
  ·exact .inr ⟨_,rfl,b,List.mem_of_getElem? hb,by simpa using hc⟩
 ·have c1:decide ((l.length:Int) < ((bs l).size:Int)) = false:=by rw [size_bs]; simp
  simp only [c1,cond_false]
  exact ⟨_,rfl,trivial⟩
structure Only (l:Bytes) (x:Node):Prop where
 nm:(∃ u ∈ l,((u.toNat:Nat):Int) = 110)∨strEq x.name (bs []) = true
 ot:(∃ u ∈ l,((u.toNat:Nat):Int) = 111)∨strEq x.other (bs []) = true
 gh:(∃ u ∈ l,((u.toNat:Nat):Int) = 103)∨x.ghost = false
 nn:(∃ u ∈ l,((u.toNat:Nat):Int) = 35)∨x.n = 0
 ln:(∃ u ∈ l,((u.toNat:Nat):Int) = 108)∨x.len = 0
 it:(∃ u ∈ l,((u.toNat:Nat):Int) = 105)∨x.init = 0
 r1:inR x.n = true
 r2:inR x.len = true
 r3:inR x.init = true
theorem F104_T (x:Node) (l:Bytes) (hl:l.length≤100) {n:Nat} (hn:200≤n):T (F104 n x (bs l)) (fun b=>b = true→Only l x):=by
 have no:∀ {P:Prop},(false = true→P):=fun h=>by cases h
 unfold F104
 refine (F170_T l 110 hl hn).bind fun v1 h1=>T.cond (fun _=>T.some no) (fun c1=>?_)
 refine (F170_T l 111 hl hn).bind fun v2 h2=>T.cond (fun _=>T.some no) (fun c2=>?_)
 refine (F170_T l 103 hl hn).bind fun v3 h3=>T.cond (fun _=>T.some no) (fun c3=>?_)
 refine (F170_T l 35 hl hn).bind fun v4 h4=>T.cond (fun _=>T.some no) (fun c4=>?_)
 refine (F170_T l 108 hl hn).bind fun v5 h5=>T.cond (fun _=>T.some no) (fun c5=>?_)
 refine (F170_T l 105 hl hn).bind fun v6 h6=>T.cond (fun _=>T.some no) (fun c6=>?_)
 have e:∀ i,F171 i = some (inR i):=fun _=>rfl
 simp only [e,Option.bind_some]
 refine T.cond (fun r1=>T.cond (fun r2=>T.some fun r3=>?_) (fun _=>T.some no)) (fun _=>T.some no)
 refine ⟨?_,?_,?_,?_,?_,?_,r1,r2,r3⟩
 ·cases v1
  ·right; simpa using c1
  ·exact .inl (h1 rfl)
 ·cases v2
  ·right; simpa using c2
  ·exact .inl (h2 rfl)
 ·cases v3
  ·right; simpa using c3
  ·exact .inl (h3 rfl)
 ·cases v4
  ·right; simpa using c4
  ·exact .inl (h4 rfl)
 ·cases v5
  ·right; simpa using c5
  ·exact .inl (h5 rfl)
 ·cases v6
  ·right; simpa using c6
  ·exact .inl (h6 rfl)
end Go.Proofs.YtbecjgckobhmpaaGreatDoor
end
section
namespace Go.Proofs.YtbecjgckobhmpaaGreatDoor
open Go Go.AM Go.Proofs
structure Cl (n:Nat) (x:Node):Prop where
 e:T (F106 n x) (fun b=>b = true→okE x)
 r:T (F173 n x) (fun b=>b = true→okT x = true∧x.kind = 2)
theorem okT_mk {x:Node} (hf:fieldsB x = true) (hk:kidsB x = true) (h:∀ y ∈ x.kids,okT y = true):okT x = true:=by
 rw [okT_eq,hf,hk]
 simpa using h
theorem no {P:Prop}:(false = true→P):=fun h=>by cases h
theorem fields_of {l:Bytes} {x:Node} (o:Only l x) (hg:fldGood x = true) (a1:(∃ u ∈ l,((u.toNat:Nat):Int) = 110)→hasName x.kind = true) (a2:(∃ u ∈ l,((u.toNat:Nat):Int) = 111)→hasOther x.kind = true)
  (a3:(∃ u ∈ l,((u.toNat:Nat):Int) = 35)→hasN x.kind = true) (a4:(∃ u ∈ l,((u.toNat:Nat):Int) = 108)→(x.kind == 50) = true) (a5:(∃ u ∈ l,((u.toNat:Nat):Int) = 105)→(x.kind == 50) = true)
  (a6:(∃ u ∈ l,((u.toNat:Nat):Int) = 103)→(x.kind == 50 || x.kind == 35) = true):fieldsB x = true:=by
 unfold fieldsB
 rw [hg]
 simp only [Bool.true_and,Bool.and_eq_true,Bool.or_eq_true]
 refine ⟨o.nm.imp a1 id,o.ot.imp a2 id,o.nn.imp a3 (fun h=>by simpa using h),o.ln.imp a4 (fun h=>by simpa using h),o.it.imp a5 (fun h=>by simpa using h),?_⟩
 rcases o.gh with h | h
 ·have:=a6 h
  simp only [Bool.or_eq_true] at this
  exact .inl this
 ·exact .inr (by simpa using h)
theorem kids0 {x:Node} (h:((x.kids.length:Int) == 0) = true):x.kids = []:=by
 rw [len0] at h
 simpa using h
theorem lenb {l:List Node} {k:Nat} (h:((l.length:Int) == (k:Int)) = true):l.length = k:=by
 simp at h
 omega
theorem list1 {l:List Node} (h:((l.length:Int) == 1) = true):∃ a,l = [a]:=by
 have:=lenb (k:=1) h
 match l,this with
 | [a],_=>exact ⟨a,rfl⟩
theorem list2 {l:List Node} (h:((l.length:Int) == 2) = true):∃ a b,l = [a,b]:=by
 have:=lenb (k:=2) h
 match l,this with
 | [a,b],_=>exact ⟨a,b,rfl⟩
theorem list3 {l:List Node} (h:((l.length:Int) == 3) = true):∃ a b c,l = [a,b,c]:=by
 have:=lenb (k:=3) h
 match l,this with
 | [a,b,c],_=>exact ⟨a,b,c,rfl⟩
theorem leaf_ok {x:Node} (hl:leafK x.kind = true) (hf:fieldsB x = true) (h0:x.kids = []):okT x = true :=
 okT_mk hf (by simp [kidsB,hl,h0]) (by simp [h0])
def Nm (N:Nat) (x:Node):Prop:=(tl x.name).length≤N∧(tl x.other).length≤N
theorem F174k {N n:Nat} (hN:N≤9223372036854775807) (hn:N + 1300≤n) {s:ByteArray} (h:(tl s).length≤N):F174 n s = some (nameB (tl s)):=F174_eq s (by omega) (by omega) (by omega)
theorem F205k {N n:Nat} (hN:N≤9223372036854775807) (hn:N + 1300≤n) {s:ByteArray} (h:(tl s).length≤N):T (F205 n s) (fun b=>b = true→pathB (tl s) = true):=F205_T s (by omega) (by omega) (by omega)
theorem F172_0 {n:Nat} {y:Node} (k:Cl n y):T (F172 (n + 1) 0 y) (fun b=>b = true→okE y):=by
 show T (F172_step (F173 n) (F106 n) (F172 n) (F105 n) n 0 y) _
 unfold F172_step
 exact k.e.bind fun b hb=>T.some hb
theorem F105_T {N n:Nat} (hN:N≤9223372036854775807) (hn:N + 1300≤n) (x:Node) (hk:∀ y ∈ x.kids,Nm N y∧Cl n y) (hl:x.kids.length≤1000) :
  T (F105 (n + 2) x 0) (fun b=>b = true→∀ y ∈ x.kids,okE y):=by
 show T (F105_step (F173 (n + 1)) (F106 (n + 1)) (F172 (n + 1)) (F105 (n + 1)) (n + 1) x 0) _
 unfold F105_step
 refine T.bind (P:=fun r=>match r with | .inl _=>True | .inr _=>∀ y ∈ x.kids,okE y) ?_ (fun r h=>by
  cases r with
  | inl _=>exact T.some no
  | inr _=>exact T.some (fun _=>h))
 refine iter_inv x.kids (fun (k:Nat) (_:Unit)=>(k:Int)) (fun k _=>∀ y ∈ x.kids.take k,okE y) _ (fun k _ y hy ih=>?_) (fun _ ih=>?_) (n + 1) () (by omega) (by simp)
 ·have hlt:=lt_of_get hy
  have c1:decide ((k:Int) < (x.kids.length:Int)) = true:=by simpa using hlt
  obtain ⟨_,h2⟩:=hk y (List.mem_of_getElem? hy)
  obtain ⟨v,hv,hq⟩:=F172_0 h2
  simp only [c1,cond_true,idxL_some hy,Option.bind_some,hv,w64_nat (k:=k) (by omega)]
  cases v
  ·exact .inr ⟨_,rfl,trivial⟩
  ·refine .inl ⟨(),rfl,fun z hz=>?_⟩
   rw [List.take_add_one,hy] at hz
   simp only [List.mem_append,Option.toList_some,List.mem_singleton] at hz
   rcases hz with hz | rfl
   ·exact ih z hz
   ·exact hq rfl
 ·have c1:decide ((x.kids.length:Int) < (x.kids.length:Int)) = false:=by simp
  simp only [c1,cond_false]
  refine ⟨_,rfl,?_⟩
  simpa using ih
theorem levels_ok:(F73.getD []).all (fun l=>l.all (fun e=>levelI e != 0)) = true:=by kernel_rfl
theorem strEq_eq {a b:ByteArray} (h:strEq a b = true):a = b:=by
 have h':tl a = tl b:=by simpa [strEq,tl] using h
 have:=congrArg bs h'
 rwa [bs_tl,bs_tl] at this
theorem op_T {n:Nat} (hn:300≤n) (s:ByteArray) (x15:List (List ByteArray)) (h15:F73 = some x15) :
  T (iter (σ:=Bool × Int) (ρ:=Bool) (fun s16=>bif decide (s16.2 < (x15.length:Int)) then
        ((iter (σ:=Bool × Int) (ρ:=Bool) (fun s18=>(idxL x15 s16.2).bind fun x19 =>
         bif decide (s18.2 < (x19.length:Int)) then
          (bif s18.1 then
           (some (.inl (true,w64 (s18.2 + 1))))
          else
           ((idxL x15 s16.2).bind fun x22 =>
           (idxL x22 s18.2).bind fun x23 =>
           some (.inl ((strEq x23 s),w64 (s18.2 + 1)))))
         else
          (some (.inr s18.1))) n (s16.1,(0:Int))).bind fun r24 =>
        some (.inl (r24,w64 (s16.2 + 1))))
       else
        (some (.inr s16.1))) n ((strEq s (bs [61,61,62])),(0:Int))) (fun b=>b = true→levelI s≠0):=by
 have hall:∀ l ∈ x15,∀ e ∈ l,strEq e s = true→levelI s≠0:=by
  intro l hl e he h
  have h1:=levels_ok
  rw [h15] at h1
  have h2:=List.all_eq_true.1 (List.all_eq_true.1 h1 l hl) e he
  rw [← strEq_eq h]
  simpa using h2
 have hl8:x15.length = 8:=by
  have:(F73.getD []).length = 8:=by kernel_rfl
  rw [h15] at this
  exact this
 have hl4:∀ l ∈ x15,l.length≤4:=by
  have:(F73.getD []).all (fun l=>decide (l.length≤4)) = true:=by kernel_rfl
  rw [h15] at this
  intro l hl
  simpa using List.all_eq_true.1 this l hl
 refine iter_inv x15 (fun (k:Nat) (a:Bool)=>(a,(k:Int))) (fun _ a=>a = true→levelI s≠0) _ (fun k a l hl ih=>?_) (fun a ih=>?_) n _ (by omega) ?_
 ·have hlt:=lt_of_get hl
  have hm:=List.mem_of_getElem? hl
  have c1:decide ((k:Int) < (x15.length:Int)) = true:=by simpa using hlt
  have t:=iter_inv (ρ:=Bool) (step:=fun s18:Bool × Int=>(idxL x15 (k:Int)).bind fun x19 =>
         bif decide (s18.2 < (x19.length:Int)) then
          (bif s18.1 then
           (some (.inl (true,w64 (s18.2 + 1))))
          else
           ((idxL x15 (k:Int)).bind fun x22 =>
           (idxL x22 s18.2).bind fun x23 =>
           some (.inl ((strEq x23 s),w64 (s18.2 + 1)))))
         else
          (some (.inr s18.1))) l (fun (j:Nat) (a:Bool)=>(a,(j:Int))) (fun _ a=>a = true→levelI s≠0) (fun a=>a = true→levelI s≠0)
   (fun j a e he ih2=>by
    have hlt2:=lt_of_get he
    have hll:=hl4 l hm
    have c2:decide ((j:Int) < (l.length:Int)) = true:=by simpa using hlt2
    simp only [idxL_some hl,Option.bind_some,c2,cond_true,idxL_some he,w64_nat (k:=j) (by omega)]
    left
    cases a
    ·exact ⟨strEq e s,rfl,fun h=>hall l hm e (List.mem_of_getElem? he) h⟩
    ·exact ⟨true,rfl,ih2⟩)
   (fun a ih2=>⟨a,by
    have c2:decide ((l.length:Int) < (l.length:Int)) = false:=by simp
    simp only [idxL_some hl,Option.bind_some,c2,cond_false],ih2⟩) n a (by have:=hl4 l hm; omega) ih
  obtain ⟨r,hr,hq⟩:=t
  left
  refine ⟨r,?_,hq⟩
  simp only [c1,cond_true,w64_nat (k:=k) (by omega)]
  refine Eq.trans (congrArg (fun z=>Option.bind z _) hr) rfl
 ·have c1:decide ((x15.length:Int) < (x15.length:Int)) = false:=by simp
  simp only [c1,cond_false]
  exact ⟨_,rfl,ih⟩
 ·intro h
  have:=strEq_eq h
  rw [this]
  have e:levelI (bs [61,61,62]) = 2:=by kernel_rfl
  rw [e]
  decide
variable {N:Nat} {x:Node}
theorem and_t {a b:Bool} (h:(a && b) = true):a = true∧b = true:=by simpa using h
structure Kids (N M:Nat) (x:Node):Prop where
 hN:N≤9223372036854775807
 hM:N + 1300≤M
 nm:Nm N x
 len:x.kids.length≤1000
 kids:∀ y ∈ x.kids,Nm N y∧∀ n,M≤n→Cl n y
theorem Kids.all {M:Nat} (K:Kids N M x) {n:Nat} (hn:M≤n):T (F105 (n + 2) x 0) (fun b=>b = true→∀ y ∈ x.kids,okE y) :=
 F105_T K.hN (by have:=K.hM; omega) x (fun y hy=>⟨(K.kids y hy).1,(K.kids y hy).2 n hn⟩) K.len
theorem ref_T {M:Nat} (K:Kids N M x) {n:Nat} (hn:M + 3≤n):T (F173 n x) (fun b=>b = true→okT x = true∧x.kind = 2):=by
 obtain ⟨n,rfl⟩:∃ k,n = k + 3:=⟨n - 3,by omega⟩
 have hM:=K.hM
 show T (F173_step (F173 (n + 2)) (F106 (n + 2)) (F172 (n + 2)) (F105 (n + 2)) (n + 2) x) _
 unfold F173_step
 refine T.cond (fun h=>?_) (fun _=>T.some no)
 have h:x.kind = 2:=by simpa using h
 refine (F104_T x [110] (by simp) (by omega)).bind fun v o=>T.cond (fun hv=>?_) (fun _=>T.some no)
 refine (F205k K.hN (by omega) K.nm.1).bind fun w hw=>T.cond (fun hw'=>?_) (fun _=>T.some no)
 refine T.cond (fun hl=>?_) (fun _=>T.some no)
 refine (K.all (by omega)).bind fun z hz=>T.some fun hz'=>?_
 have hE:=hz hz'
 have o:=o hv
 refine ⟨okT_mk (fields_of o (by simp [fldGood,h,hw hw']) (by simp [h,hasName]) (by simp) (by simp) (by simp) (by simp) (by simp)) ?_ (fun y hy=>(hE y hy).1),h⟩
 have hl':x.kids.length≤1:=by simp at hl; omega
 match hx:x.kids,hl' with
 | [],_=>simp [kidsB,leafK,h,hx]
 | [a],_ =>
  rw [hx] at hE
  have:=(hE a (by simp)).2
  simp [kidsB,leafK,h,hx,ex1,eX,this]
theorem expr_T {M:Nat} (K:Kids N M x) {n:Nat} (hn:M + 4≤n):T (F106 n x) (fun b=>b = true→okE x):=by
 obtain ⟨n,rfl⟩:∃ k,n = k + 3:=⟨n - 3,by omega⟩
 have hM:=K.hM
 have e1:∀ {k:Int},x.kind = k→(1≤k∧k≤8)→okT x = true→okE x:=fun h1 h2 h3=>⟨h3,by rw [h1]; simp [isE]; omega⟩
 have kid0:∀ {l:List Node},x.kids = l→(∀ y ∈ x.kids,okE y)→∀ y ∈ l,okE y:=fun h1 h2 y hy=>h2 y (by rw [h1]; exact hy)
 show T (F106_step (F173 (n + 2)) (F106 (n + 2)) (F172 (n + 2)) (F105 (n + 2)) (n + 2) x) _
 unfold F106_step
 refine T.cond (fun h=>?_) (fun _=>T.cond (fun h=>?_) (fun _=>T.cond (fun h=>?_) (fun _=>T.cond (fun h=>?_) (fun _=>T.cond (fun h=>?_) (fun _=>T.cond (fun h=>?_) (fun _=>?_))))))
 ·have h:x.kind = 1:=by simpa using h
  refine (F104_T x [35] (by simp) (by omega)).bind fun v o=>T.some fun hb=>?_
  obtain ⟨hv,h0⟩:=and_t hb
  have o:=o hv
  exact e1 h (by omega) (leaf_ok (by simp [leafK,h]) (fields_of o (by simp [fldGood,h,o.r1]) (by simp) (by simp) (by simp [h,hasN]) (by simp) (by simp) (by simp)) (kids0 h0))
 ·have h:x.kind = 2:=by simpa using h
  exact (ref_T K (by omega)).bind fun v hv=>T.some fun hb=>e1 h (by omega) (hv hb).1
 ·have h:x.kind = 3:=by simpa using h
  refine (F104_T x [] (by simp) (by omega)).bind fun v o=>T.cond (fun hv=>?_) (fun _=>T.some no)
  obtain ⟨hv,hl⟩:=and_t hv
  obtain ⟨a,ha⟩:=list1 hl
  have i0:idxL x.kids 0 = some a:=idxL_some (k:=0) (by simp [ha])
  rw [i0]
  simp only [Option.bind_some]
  refine (((K.kids a (by simp [ha])).2 (n + 2) (by omega)).r).bind fun w hw=>T.some fun hb=>?_
  obtain ⟨k1,k2⟩:=hw hb
  exact e1 h (by omega) (okT_mk (fields_of (o hv) (by simp [fldGood,h]) (by simp) (by simp) (by simp) (by simp) (by simp) (by simp)) (by simp [kidsB,leafK,h,ha,ex1,kX,k2]) (by rw [ha]; simpa using k1))
 ·have h:x.kind = 4:=by simpa using h
  refine (F104_T x [] (by simp) (by omega)).bind fun v o=>T.cond (fun hv=>?_) (fun _=>T.some no)
  obtain ⟨hv,hl⟩:=and_t hv
  obtain ⟨a,ha⟩:=list1 hl
  refine (K.all (by omega)).bind fun w hw=>T.some fun hb=>?_
  have hE:=kid0 ha (hw hb)
  have:=(hE a (by simp)).2
  exact e1 h (by omega) (okT_mk (fields_of (o hv) (by simp [fldGood,h]) (by simp) (by simp) (by simp) (by simp) (by simp) (by simp)) (by simp [kidsB,leafK,oneK,h,ha,ex1,eX,this]) (by rw [ha]; exact fun y hy=>(hE y hy).1))
 ·have h:x.kind = 5:=by simpa using h
  obtain ⟨x15,h15⟩:∃ l,F73 = some l:=⟨_,rfl⟩
  rw [h15]
  simp only [Option.bind_some]
  refine (op_T (by omega) x.name x15 h15).bind fun w hw=>T.cond (fun hw'=>?_) (fun _=>T.some no)
  refine (F104_T x [110] (by simp) (by omega)).bind fun v o=>T.cond (fun hv=>?_) (fun _=>T.some no)
  obtain ⟨hv,hl⟩:=and_t hv
  obtain ⟨a,b,ha⟩:=list2 hl
  refine (K.all (by omega)).bind fun w2 hw2=>T.some fun hb=>?_
  have hE:=kid0 ha (hw2 hb)
  have e2:=(hE a (by simp)).2
  have e3:=(hE b (by simp)).2
  exact e1 h (by omega) (okT_mk (fields_of (o hv) (by simp [fldGood,h,hw hw']) (by simp [h,hasName]) (by simp) (by simp) (by simp) (by simp) (by simp)) (by simp [kidsB,leafK,oneK,h,ha,ex2,eX,e2,e3]) (by rw [ha]; exact fun y hy=>(hE y hy).1))
 ·have h:x.kind = 6:=by simpa using h
  refine (F104_T x [] (by simp) (by omega)).bind fun v o=>T.cond (fun hv=>?_) (fun _=>T.some no)
  obtain ⟨hv,hl⟩:=and_t hv
  obtain ⟨a,b,c,ha⟩:=list3 hl
  refine (K.all (by omega)).bind fun w2 hw2=>T.some fun hb=>?_
  have hE:=kid0 ha (hw2 hb)
  have e2:=(hE a (by simp)).2
  have e3:=(hE b (by simp)).2
  have e4:=(hE c (by simp)).2
  exact e1 h (by omega) (okT_mk (fields_of (o hv) (by simp [fldGood,h]) (by simp) (by simp) (by simp) (by simp) (by simp) (by simp)) (by simp [kidsB,leafK,oneK,h,ha,ex3,eX,e2,e3,e4]) (by rw [ha]; exact fun y hy=>(hE y hy).1))
 ·simp only [some_cond,bor,Option.bind_some]
  refine T.cond (fun h=>?_) (fun _=>T.some no)
  have h:x.kind = 7∨x.kind = 8:=by simpa using h
  refine (F104_T x [110,35] (by simp) (by omega)).bind fun v o=>T.cond (fun hv=>?_) (fun _=>T.some no)
  rw [F174k K.hN (by omega) K.nm.1]
  simp only [Option.bind_some]
  refine T.cond (fun hnl=>?_) (fun _=>T.some no)
  obtain ⟨hnm,hl⟩:=and_t hnl
  obtain ⟨a,ha⟩:=list1 hl
  refine (K.all (by omega)).bind fun w hw=>T.some fun hb=>?_
  have hE:=kid0 ha (hw hb)
  have e2:=(hE a (by simp)).2
  have o:=o hv
  rcases h with h | h
  ·exact e1 h (by omega) (okT_mk (fields_of o (by simp [fldGood,h,hnm,o.r1]) (by simp [h,hasName]) (by simp) (by simp [h,hasN]) (by simp) (by simp) (by simp)) (by simp [kidsB,leafK,oneK,h,ha,ex1,eX,e2]) (by rw [ha]; exact fun y hy=>(hE y hy).1))
  ·exact e1 h (by omega) (okT_mk (fields_of o (by simp [fldGood,h,hnm,o.r1]) (by simp [h,hasName]) (by simp) (by simp [h,hasN]) (by simp) (by simp) (by simp)) (by simp [kidsB,leafK,oneK,h,ha,ex1,eX,e2]) (by rw [ha]; exact fun y hy=>(hE y hy).1))
theorem cl_all:∀ (m:Nat) (x:Node),sz x≤m→sz x≤1000→∀ b,b≤9223372036854775807→Lim b x→∀ n,b + 1300 + 8 * sz x≤n→Cl n x:=by
 intro m
 induction m with
 | zero=>intro x hx; have:=sz_pos x; omega
 | succ m ih =>
  intro x hx hs b hb hlim n hn
  obtain ⟨_,h1,h2,h3,h4⟩:=hlim
  have hsz:=sz_eq x
  have hlen:=szs_len x.kids
  have K:Kids b (b + 1300 + 8 * (sz x - 1)) x:=by
   refine ⟨hb,by omega,⟨h1,h2⟩,by omega,fun y hy=>⟨?_,fun k hk=>?_⟩⟩
   ·obtain ⟨_,g1,g2,_,_⟩:=h4 y hy
    exact ⟨g1,g2⟩
   ·have:=szs_mem x.kids y hy
    exact ih y (by omega) (by omega) b hb (h4 y hy) k (by omega)
  exact ⟨expr_T K (by have:=sz_pos x; omega),ref_T K (by have:=sz_pos x; omega)⟩
end Go.Proofs.YtbecjgckobhmpaaGreatDoor
end
section
namespace Go.Proofs.YtbecjgckobhmpaaGreatDoor
open Go Go.AM Go.Proofs
theorem catS_bs {a b:Bytes} (h:a.length + b.length≤10000000):catS (bs a) (bs b) = some (bs (a ++ b)):=by
 unfold catS
 rw [if_pos (by rw [size_bs,size_bs]; omega)]
 rfl
theorem digs_snoc (f u:Nat) (h:10≤u):digs (f + 1) u = digs f (u / 10) ++ [UInt8.ofNat (48 + u % 10)]:=by
 rw [digs,if_neg (by omega)]
def digStep (s1:ByteArray × Int):Option ((ByteArray × Int) ⊕ ByteArray):=bif (decide (0 < s1.2)) || (strEq s1.1 (bs [])) then
   ((convB ([IntKind.u8.wrap (w64 (48 + (Int.tmod s1.2 10)))]:List Int)).bind fun x3 =>
   (catS x3 s1.1).bind fun x4 =>
   some (.inl (x4,w64 (Int.tdiv s1.2 10))))
  else
   (some (.inr s1.1))
theorem dig_byte:∀ k:Nat,k < 10→convB ([IntKind.u8.wrap (w64 (48 + (k:Int)))]:List Int) = some (bs [UInt8.ofNat (48 + k)]):=by decide
theorem digStep_go (t:Bytes) (u:Nat) (h:0 < u∨t = []) (hu:u < 10000000000) (ht:t.length≤100):digStep (bs t,(u:Int)) = some (.inl (bs (UInt8.ofNat (48 + u % 10) :: t),((u / 10:Nat):Int))):=by
 have hc:((decide (0 < (u:Int))) || (strEq (bs t) (bs []))) = true:=by
  rcases h with h | rfl
  ·rw [decide_eq_true (by omega)]; rfl
  ·rw [strEq_self]; simp
 have e1:Int.tmod (u:Int) 10 = ((u % 10:Nat):Int):=rfl
 have e2:Int.tdiv (u:Int) 10 = ((u / 10:Nat):Int):=rfl
 unfold digStep
 simp only [hc,cond_true,e1,e2]
 rw [dig_byte _ (Nat.mod_lt _ (by omega))]
 simp only [Option.bind_some]
 rw [catS_bs (by simp; omega),w64_id (by omega) (by omega)]
 rfl
theorem dig_loop:∀ (f u:Nat) (t:Bytes) (n:Nat),u < 10 ^ f→u < 10000000000→t.length + f≤50→f + 1 < n→(0 < u∨t = [])→1≤f→iter digStep n (bs t,(u:Int)) = some (bs (digs f u ++ t))
 | 0,_,_,_,_,_,_,_,_,h=>by omega
 | f + 1,u,t,n,hu,hu2,ht,hn,h,_=>by
  obtain ⟨n,rfl⟩:∃ m,n = m + 1:=⟨n - 1,by omega⟩
  simp only [iter,digStep_go t u h hu2 (by omega)]
  by_cases h10:u < 10
  ·have e:u / 10 = 0:=by omega
   have e2:u % 10 = u:=by omega
   rw [e,e2,digs,if_pos h10]
   obtain ⟨n,rfl⟩:∃ m,n = m + 1:=⟨n - 1,by omega⟩
   have hc:strEq (bs (UInt8.ofNat (48 + u) :: t)) (bs []) = false:=by simp [strEq,bs]
   have:digStep (bs (UInt8.ofNat (48 + u) :: t),((0:Nat):Int)) = some (.inr (bs (UInt8.ofNat (48 + u) :: t))):=by
    unfold digStep
    simp only [hc]
    rfl
   simp only [iter,this]
   rfl
  ·have h10f:u / 10 < 10 ^ f:=by rw [Nat.div_lt_iff_lt_mul (by omega)]; rw [Nat.pow_succ] at hu; omega
   have f1:1≤f:=by cases f with | zero=>simp at hu; omega | succ f=>omega
   rw [dig_loop f (u / 10) (UInt8.ofNat (48 + u % 10) :: t) n h10f (by omega) (by simp; omega) (by omega) (.inl (by omega)) f1,digs_snoc f u (by omega)]
   simp
theorem F107_eq {a:Int} (h:inR a = true) {n:Nat} (hn:50≤n):F107 n a = some (bs (numL a)):=by
 simp only [inR,Bool.and_eq_true,decide_eq_true_eq] at h
 have:=dig_loop 20 a.toNat [] n (by omega) (by omega) (by simp) (by omega) (.inr rfl) (by omega)
 have e:((a.toNat:Nat):Int) = a:=by omega
 rw [e] at this
 unfold F107
 show (iter digStep n (bs [],a)).bind (fun r5=>some r5) = _
 rw [this,List.append_nil]
 rfl
theorem numL_le {a:Int} (h:inR a = true):(numL a).length≤9:=by
 simp only [inR,Bool.and_eq_true,decide_eq_true_eq] at h
 exact digs_le 20 a.toNat 8 (by omega)
theorem ptxt_len:∀ x,okE x→(ptxt x).length≤100 * sz x:=by
 refine okE_ind ?_ ?_ ?_ ?_ ?_ ?_ ?_ ?_
 ·intro x hk hks hn
  have:=numL_le hn
  have e:ptxt x = numL x.n:=by rw [ptxt_eq]; simp only [ptxtOf,hk]; rfl
  have:=sz_pos x
  rw [e]; omega
 ·intro x hk hks hp
  have:=ptLen 3 _ hp
  have e:ptxt x = tl x.name:=by rw [ptxt_eq]; simp only [ptxtOf,hk,hks]; rfl
  have:=sz_pos x
  rw [e]; omega
 ·intro x a hk hks hp _ ih
  have:=ptLen 3 _ hp
  have e:ptxt x = tl x.name ++ 91 :: (ptxt a ++ [93]):=by rw [ptxt_eq]; simp only [ptxtOf,hk,hks]; rfl
  have hs:=sz_eq x
  rw [hks] at hs
  simp only [szs] at hs
  rw [e]
  simp only [List.length_append,List.length_cons,List.length_nil]
  omega
 ·intro x a hk hks _ ih
  have e:ptxt x = [111,108,100] ++ 40 :: (ptxt a ++ [41]):=by rw [ptxt_eq]; simp only [ptxtOf,hk,hks]; rfl
  have hs:=sz_eq x
  rw [hks] at hs
  simp only [szs] at hs
  rw [e]
  simp only [List.length_append,List.length_cons,List.length_nil]
  omega
 ·intro x a hk hks _ ih
  have e:ptxt x = 33 :: parB (ptxt a):=by rw [ptxt_eq]; simp only [ptxtOf,hk,hks]; rfl
  have hs:=sz_eq x
  rw [hks] at hs
  simp only [szs] at hs
  rw [e]
  simp only [parB,List.length_append,List.length_cons,List.length_nil]
  omega
 ·intro x a b hk hks hl _ iha _ ihb
  have:=lvLen hl
  have e:ptxt x = parB (ptxt a) ++ 32 :: (tl x.name ++ 32 :: parB (ptxt b)):=by rw [ptxt_eq]; simp only [ptxtOf,hk,hks]; rfl
  have hs:=sz_eq x
  rw [hks] at hs
  simp only [szs] at hs
  rw [e]
  simp only [parB,List.length_append,List.length_cons,List.length_nil]
  omega
 ·intro x a b c hk hks _ iha _ ihb _ ihc
  have e:ptxt x = parB (ptxt a) ++ 32 :: 63 :: 32 :: (parB (ptxt b) ++ 32 :: 58 :: 32 :: parB (ptxt c)):=by rw [ptxt_eq]; simp only [ptxtOf,hk,hks]; rfl
  have hs:=sz_eq x
  rw [hks] at hs
  simp only [szs] at hs
  rw [e]
  simp only [parB,List.length_append,List.length_cons,List.length_nil]
  omega
 ·intro x a hk hks hnm hn _ ih
  have h1:=nmLen hnm
  have h2:=numL_le hn
  have hw:∃ w:Bytes,w.length≤4∧ptxt x = w ++ 32 :: (tl x.name ++ 32 :: 60 :: 32 :: (numL x.n ++ 32 :: 58 :: 32 :: parB (ptxt a))):=by
   rw [ptxt_eq,hks]
   rcases hk with hk | hk <;> rw [hk]
   ·exact ⟨[97,108,108],by simp,rfl⟩
   ·exact ⟨[115,111,109,101],by simp,rfl⟩
  obtain ⟨w,hw,e⟩:=hw
  have hs:=sz_eq x
  rw [hks] at hs
  simp only [szs] at hs
  rw [e]
  simp only [parB,List.length_append,List.length_cons,List.length_nil]
  omega
theorem F108_of {n:Nat} {y:Node} {t:Bytes} (h:F70 n y = some (bs t)) (hl:t.length≤1000000):F108 (n + 1) y = some (bs (parB t)):=by
 show F108_step (F108 n) (F70 n) n y = _
 unfold F108_step
 rw [h]
 simp only [Option.bind_some]
 rw [catS_bs (by simp; omega)]
 simp only [Option.bind_some]
 rw [catS_bs (by simp; omega)]
 simp [parB]
theorem cat_b (a:ByteArray) (b:Bytes) (h:(tl a).length + b.length≤10000000):catS a (bs b) = some (bs (tl a ++ b)):=by
 have:=catS_bs (a:=tl a) (b:=b) h
 rwa [bs_tl] at this
theorem cat_a (a:Bytes) (b:ByteArray) (h:a.length + (tl b).length≤10000000):catS (bs a) b = some (bs (a ++ tl b)):=by
 have:=catS_bs (a:=a) (b:=tl b) h
 rwa [bs_tl] at this
theorem F70_eq:∀ x,okE x→sz x≤1000→∀ n,100 + 2 * sz x≤n→F70 n x = some (bs (ptxt x)):=by
 refine okE_ind ?_ ?_ ?_ ?_ ?_ ?_ ?_ ?_
 ·intro x hk hks hn hs n hn'
  obtain ⟨n,rfl⟩:∃ k,n = k + 1:=⟨n - 1,by omega⟩
  have k1:(x.kind == 1) = true:=by rw [hk]; rfl
  have e:ptxt x = numL x.n:=by rw [ptxt_eq]; simp only [ptxtOf,hk]; rfl
  show F70_step (F108 n) (F70 n) n x = _
  unfold F70_step
  simp only [k1,cond_true,F107_eq hn (show 50≤n by omega),Option.bind_some,e]
 ·intro x hk hks hp hs n hn'
  obtain ⟨n,rfl⟩:∃ k,n = k + 1:=⟨n - 1,by omega⟩
  have k1:(x.kind == 1) = false:=by rw [hk]; rfl
  have k2:(x.kind == 2) = true:=by rw [hk]; rfl
  have e:ptxt x = tl x.name:=by rw [ptxt_eq]; simp only [ptxtOf,hk,hks]; rfl
  have hd:decide (0 < (x.kids.length:Int)) = false:=by rw [hks]; rfl
  show F70_step (F108 n) (F70 n) n x = _
  unfold F70_step
  simp only [k1,k2,cond_true,cond_false,hd,e,bs_tl]
 ·intro x a hk hks hp ha ih hs n hn'
  obtain ⟨n,rfl⟩:∃ k,n = k + 1:=⟨n - 1,by omega⟩
  have k1:(x.kind == 1) = false:=by rw [hk]; rfl
  have k2:(x.kind == 2) = true:=by rw [hk]; rfl
  have e:ptxt x = tl x.name ++ 91 :: (ptxt a ++ [93]):=by rw [ptxt_eq]; simp only [ptxtOf,hk,hks]; rfl
  have hd:decide (0 < (x.kids.length:Int)) = true:=by rw [hks]; rfl
  have hsz:=sz_eq x
  rw [hks] at hsz
  simp only [szs] at hsz
  have i0:idxL x.kids 0 = some a:=by rw [hks]; rfl
  have hl:=ptxt_len a ha
  have hl2:=ptLen 3 _ hp
  show F70_step (F108 n) (F70 n) n x = _
  unfold F70_step
  simp only [k1,k2,cond_true,cond_false,hd,i0,Option.bind_some,ih (by omega) n (by omega)]
  rw [cat_b _ _ (by simp; omega)]
  simp only [Option.bind_some]
  rw [catS_bs (by simp; omega)]
  simp only [Option.bind_some]
  rw [catS_bs (by simp; omega),e]
  simp
 ·intro x a hk hks ha ih hs n hn'
  obtain ⟨n,rfl⟩:∃ k,n = k + 1:=⟨n - 1,by omega⟩
  have k1:(x.kind == 1) = false:=by rw [hk]; rfl
  have k2:(x.kind == 2) = false:=by rw [hk]; rfl
  have k3:(x.kind == 3) = true:=by rw [hk]; rfl
  have e:ptxt x = [111,108,100] ++ 40 :: (ptxt a ++ [41]):=by rw [ptxt_eq]; simp only [ptxtOf,hk,hks]; rfl
  have hsz:=sz_eq x
  rw [hks] at hsz
  simp only [szs] at hsz
  have i0:idxL x.kids 0 = some a:=by rw [hks]; rfl
  have hl:=ptxt_len a ha
  show F70_step (F108 n) (F70 n) n x = _
  unfold F70_step
  simp only [k1,k2,k3,cond_true,cond_false,i0,Option.bind_some,ih (by omega) n (by omega)]
  rw [catS_bs (by simp; omega)]
  simp only [Option.bind_some]
  rw [catS_bs (by simp; omega),e]
  simp
 ·intro x a hk hks ha ih hs n hn'
  obtain ⟨n,rfl⟩:∃ k,n = k + 2:=⟨n - 2,by omega⟩
  have k1:(x.kind == 1) = false:=by rw [hk]; rfl
  have k2:(x.kind == 2) = false:=by rw [hk]; rfl
  have k3:(x.kind == 3) = false:=by rw [hk]; rfl
  have k4:(x.kind == 4) = true:=by rw [hk]; rfl
  have e:ptxt x = 33 :: parB (ptxt a):=by rw [ptxt_eq]; simp only [ptxtOf,hk,hks]; rfl
  have hsz:=sz_eq x
  rw [hks] at hsz
  simp only [szs] at hsz
  have i0:idxL x.kids 0 = some a:=by rw [hks]; rfl
  have hl:=ptxt_len a ha
  show F70_step (F108 (n + 1)) (F70 (n + 1)) (n + 1) x = _
  unfold F70_step
  simp only [k1,k2,k3,k4,cond_true,cond_false,i0,Option.bind_some,F108_of (ih (by omega) n (by omega)) (by omega)]
  rw [catS_bs (by simp [parB]; omega),e]
  simp
 ·intro x a b hk hks hop ha iha hb ihb hs n hn'
  obtain ⟨n,rfl⟩:∃ k,n = k + 2:=⟨n - 2,by omega⟩
  have k1:(x.kind == 1) = false:=by rw [hk]; rfl
  have k2:(x.kind == 2) = false:=by rw [hk]; rfl
  have k3:(x.kind == 3) = false:=by rw [hk]; rfl
  have k4:(x.kind == 4) = false:=by rw [hk]; rfl
  have k5:(x.kind == 5) = true:=by rw [hk]; rfl
  have e:ptxt x = parB (ptxt a) ++ 32 :: (tl x.name ++ 32 :: parB (ptxt b)):=by rw [ptxt_eq]; simp only [ptxtOf,hk,hks]; rfl
  have hsz:=sz_eq x
  rw [hks] at hsz
  simp only [szs] at hsz
  have i0:idxL x.kids 0 = some a:=by rw [hks]; rfl
  have i1:idxL x.kids 1 = some b:=by rw [hks]; rfl
  have hla:=ptxt_len a ha
  have hlb:=ptxt_len b hb
  have hlo:=lvLen hop
  show F70_step (F108 (n + 1)) (F70 (n + 1)) (n + 1) x = _
  unfold F70_step
  simp only [k1,k2,k3,k4,k5,cond_true,cond_false,i0,i1,Option.bind_some,F108_of (iha (by omega) n (by omega)) (by omega),F108_of (ihb (by omega) n (by omega)) (by omega)]
  rw [catS_bs (by simp [parB]; omega)]
  simp only [Option.bind_some]
  rw [cat_a _ _ (by simp [parB]; omega)]
  simp only [Option.bind_some]
  rw [catS_bs (by simp [parB]; omega)]
  simp only [Option.bind_some]
  rw [catS_bs (by simp [parB]; omega),e]
  simp
 ·intro x a b c hk hks ha iha hb ihb hc ihc hs n hn'
  obtain ⟨n,rfl⟩:∃ k,n = k + 2:=⟨n - 2,by omega⟩
  have k1:(x.kind == 1) = false:=by rw [hk]; rfl
  have k2:(x.kind == 2) = false:=by rw [hk]; rfl
  have k3:(x.kind == 3) = false:=by rw [hk]; rfl
  have k4:(x.kind == 4) = false:=by rw [hk]; rfl
  have k5:(x.kind == 5) = false:=by rw [hk]; rfl
  have k6:(x.kind == 6) = true:=by rw [hk]; rfl
  have e:ptxt x = parB (ptxt a) ++ 32 :: 63 :: 32 :: (parB (ptxt b) ++ 32 :: 58 :: 32 :: parB (ptxt c)):=by rw [ptxt_eq]; simp only [ptxtOf,hk,hks]; rfl
  have hsz:=sz_eq x
  rw [hks] at hsz
  simp only [szs] at hsz
  have i0:idxL x.kids 0 = some a:=by rw [hks]; rfl
  have i1:idxL x.kids 1 = some b:=by rw [hks]; rfl
  have i2:idxL x.kids 2 = some c:=by rw [hks]; rfl
  have hla:=ptxt_len a ha
  have hlb:=ptxt_len b hb
  have hlc:=ptxt_len c hc
  show F70_step (F108 (n + 1)) (F70 (n + 1)) (n + 1) x = _
  unfold F70_step
  simp only [k1,k2,k3,k4,k5,k6,cond_true,cond_false,i0,i1,i2,Option.bind_some,F108_of (iha (by omega) n (by omega)) (by omega),F108_of (ihb (by omega) n (by omega)) (by omega),F108_of (ihc (by omega) n (by omega)) (by omega)]
  rw [catS_bs (by simp [parB]; omega)]
  simp only [Option.bind_some]
  rw [catS_bs (by simp [parB]; omega)]
  simp only [Option.bind_some]
  rw [catS_bs (by simp [parB]; omega)]
  simp only [Option.bind_some]
  rw [catS_bs (by simp [parB]; omega),e]
  simp
 ·intro x a hk hks hnm hnr ha ih hs n hn'
  obtain ⟨n,rfl⟩:∃ k,n = k + 2:=⟨n - 2,by omega⟩
  have hsz:=sz_eq x
  rw [hks] at hsz
  simp only [szs] at hsz
  have i0:idxL x.kids 0 = some a:=by rw [hks]; rfl
  have hl:=ptxt_len a ha
  have h1:=nmLen hnm
  have h2:=numL_le hnr
  have k1:(x.kind == 1) = false:=nbeq (by omega)
  have k2:(x.kind == 2) = false:=nbeq (by omega)
  have k3:(x.kind == 3) = false:=nbeq (by omega)
  have k4:(x.kind == 4) = false:=nbeq (by omega)
  have k5:(x.kind == 5) = false:=nbeq (by omega)
  have k6:(x.kind == 6) = false:=nbeq (by omega)
  have h107:=F107_eq hnr (show 50≤n + 1 by omega)
  have go:∀ w:Bytes,w.length≤4→((catS (bs (w ++ [32])) x.name).bind fun x40 =>
        (catS x40 (bs [32,60,32])).bind fun x41 =>
        (F107 (n + 1) x.n).bind fun x42 =>
        (catS x41 x42).bind fun x43 =>
        (catS x43 (bs [32,58,32])).bind fun x44 =>
        (idxL x.kids 0).bind fun x45 =>
        (F108 (n + 1) x45).bind fun x46 =>
        (catS x44 x46).bind fun x47 =>
        some x47) = some (bs (w ++ 32 :: (tl x.name ++ 32 :: 60 :: 32 :: (numL x.n ++ 32 :: 58 :: 32 :: parB (ptxt a))))):=by
   intro w hw
   simp only [i0,Option.bind_some,F108_of (ih (by omega) n (by omega)) (by omega),h107]
   rw [cat_a _ _ (by simp; omega)]
   simp only [Option.bind_some]
   rw [catS_bs (by simp; omega)]
   simp only [Option.bind_some]
   rw [catS_bs (by simp; omega)]
   simp only [Option.bind_some]
   rw [catS_bs (by simp; omega)]
   simp only [Option.bind_some]
   rw [catS_bs (by simp [parB]; omega)]
   simp
  show F70_step (F108 (n + 1)) (F70 (n + 1)) (n + 1) x = _
  unfold F70_step
  rcases hk with hk | hk
  ·have k7:(x.kind == 7) = true:=by rw [hk]; rfl
   have e:ptxt x = [97,108,108] ++ 32 :: (tl x.name ++ 32 :: 60 :: 32 :: (numL x.n ++ 32 :: 58 :: 32 :: parB (ptxt a))):=by rw [ptxt_eq,hks,hk]; rfl
   simp only [k1,k2,k3,k4,k5,k6,k7,cond_true,cond_false]
   rw [e]
   exact go [97,108,108] (by simp)
  ·have k7:(x.kind == 7) = false:=by rw [hk]; rfl
   have e:ptxt x = [115,111,109,101] ++ 32 :: (tl x.name ++ 32 :: 60 :: 32 :: (numL x.n ++ 32 :: 58 :: 32 :: parB (ptxt a))):=by rw [ptxt_eq,hks,hk]; rfl
   simp only [k1,k2,k3,k4,k5,k6,k7,cond_false]
   rw [e]
   exact go [115,111,109,101] (by simp)
end Go.Proofs.YtbecjgckobhmpaaGreatDoor
end
section
namespace Go.Proofs.YtbecjgckobhmpaaGreatDoor
open Go Go.AM Go.Proofs
theorem WfN.limP {x:Node} (h:WfN x):Lim maxLen x:=by
 induction h with
 | mk x h1 h2 h3 h4 h5 h6 h7 h8 h9 ih=>exact .mk x (by rw [← size_tl]; exact h2) (by rw [← size_tl]; exact h3) h7 ih
theorem szs_pre (l:List Node) (k:Nat):szs (l.take k)≤szs l:=by
 have h:=congrArg szs (List.take_append_drop k l)
 rw [szs_append] at h
 omega
theorem G60b {b:Nat} (hb:b≤9223372036854775807):∀ (lim:Nat) (x:Node),Lim b x→lim≤10000→∀ n,2 * lim + 20≤n →
  T (F60 n x (lim:Int)) (fun r=>∃ v:Nat,r = (v:Int)∧1≤v∧v≤lim + 1∧(v≤lim→v = sz x)∧(lim < v→lim < sz x)):=by
 intro lim
 induction lim using Nat.strongRecOn with
 | _ lim ih =>
  intro x hL hl n hn
  obtain ⟨n,rfl⟩:∃ k,n = k + 1:=⟨n - 1,by omega⟩
  obtain ⟨_,_,_,hkl,hkids⟩:=hL
  have hsz:=sz_eq x
  show T (F60_step (F60 n) n x (lim:Int)) _
  unfold F60_step
  refine T.bind (P:=fun r=>∃ v:Nat,r = (v:Int)∧1≤v∧v≤lim + 1∧(v≤lim→v = sz x)∧(lim < v→lim < sz x)) ?_ (fun r h=>T.some h)
  refine iter_meas (fun s:Int × Int=>∃ a k:Nat,s = ((a:Int),(k:Int))∧k≤x.kids.length∧1≤a∧a≤lim + 1∧(a≤lim→a = 1 + szs (x.kids.take k))∧(lim < a→lim < 1 + szs (x.kids.take k))) (fun s=>lim + 2 - s.1.toNat) _ (fun s hs=>?_) n (((1:Nat):Int),((0:Nat):Int)) (by simp; omega) ⟨1,0,rfl,by omega,by omega,by omega,fun _=>by simp [szs],fun h=>by simp [szs]; omega⟩
  obtain ⟨a,k,rfl,hk,h1,h2,h3,h4⟩:=hs
  by_cases hc:k < x.kids.length∧a≤lim
  ·obtain ⟨hlt,hal⟩:=hc
   left
   have hy:x.kids[k]? = some x.kids[k]:=List.getElem?_eq_getElem hlt
   have htk:=ktake hy
   have c2:(decide ((k:Int) < (x.kids.length:Int)) && decide ((a:Int)≤(lim:Int))) = true:=by simp; omega
   have e1:w64 ((lim:Int) - (a:Int)) = ((lim - a:Nat):Int):=by rw [w64_id (by omega) (by omega)]; omega
   obtain ⟨r,hr,v,hv,hv1,hv2,hr2,hr3⟩:=ih (lim - a) (by omega) x.kids[k] (hkids _ (List.getElem_mem hlt)) (by omega) n (by omega)
   have e3:w64 ((a:Int) + r) = ((a + v:Nat):Int):=by rw [hv,w64_id (by omega) (by omega)]; omega
   have h7:=h3 hal
   refine ⟨(((a + v:Nat):Int),((k + 1:Nat):Int)),?_,⟨a + v,k + 1,rfl,by omega,by omega,by omega,fun hle=>?_,fun hgt=>?_⟩,by simp; omega⟩
   ·simp only [c2,cond_true,idxL_some hy,Option.bind_some,e1,hr,w64_nat (k:=k) (by omega),e3]
   ·have h5:=hr2 (by omega)
    omega
   ·have h5:=hr3 (by omega)
    omega
  ·right
   have c2:(decide ((k:Int) < (x.kids.length:Int)) && decide ((a:Int)≤(lim:Int))) = false:=by
    rw [Bool.and_eq_false_iff]
    by_cases h:k < x.kids.length
    ·right; exact decide_eq_false (by omega)
    ·left; exact decide_eq_false (by omega)
   simp only [c2,cond_false]
   have hpre:=szs_pre x.kids k
   refine ⟨_,rfl,a,rfl,h1,h2,fun hle=>?_,fun hgt=>by have:=h4 hgt; omega⟩
   have hkk:k = x.kids.length:=by omega
   have h7:=h3 hle
   rw [hkk,List.take_length] at h7
   omega
theorem G26b {b:Nat} (hb:b≤9223372036854775807) (x:Node) (hL:Lim b x) {lim:Nat} (hl:lim≤10000) {n:Nat} (hn:2 * lim + 20≤n):F26 n x (lim:Int) = some (decide (sz x≤lim)):=by
 obtain ⟨r,hr,v,rfl,h1,h2,h3,h4⟩:=G60b hb lim x hL hl n hn
 unfold F26
 erw [hr]
 simp only [Option.bind_some]
 congr 1
 rw [decide_eq_decide]
 constructor
 ·intro h
  have:=h3 (by omega)
  omega
 ·intro h
  rcases Nat.lt_or_ge lim v with h5 | h5
  ·have:=h4 h5; omega
  ·omega
def tkOf' (t:Token):Tk:=(t.kind.toNat,tl t.text)
theorem Lx_tk {N:Nat} {l:Bytes} {ts:List Token} (h:Lx N l ts):tk l = some (ts.map tkOf'):=by
 induction h with
 | nil hs=>rw [tk_eq,hs]; rfl
 | @cons l w r k ts hs ht _ ih =>
  have hm:=tokL_spec ht
  cases w with
  | nil=>simp at hm
  | cons b w =>
   rw [tk_eq,hs]
   have ht':tokL (b :: (w ++ r)) = some (k,(b :: w).length):=ht
   have e1:(b :: (w ++ r)).drop (b :: w).length = r:=by rw [← List.cons_append,List.drop_left]
   have e2:(b :: (w ++ r)).take (b :: w).length = b :: w:=by rw [← List.cons_append,List.take_left]
   rw [List.cons_append]
   simp only [ht',e1,e2,ih,Option.map_some,List.map_cons,tkOf',tl_bs,Int.toNat_natCast]
theorem toks_ptk {x:Node} (h:okE x) {ts:List Token} (hL:Lexed (bs (ptxt x)) ts):ts.map (mapT fun _=>0) = (ptk x).map zOf:=by
 have h1:=Lx_tk hL.lx
 have h2:=tk_ptxt x h [] (fun b hb=>by cases hb)
 rw [List.append_nil] at h2
 rw [tl_bs,h2,tk_nil] at h1
 simp only [Option.map_some,List.append_nil,Option.some.injEq] at h1
 rw [h1,List.map_map]
 refine List.map_congr_left fun t ht=>?_
 have hk:=hL.lx.oks t ht
 have hk0:0≤t.kind:=by rcases hk with h | h | h <;> (have:=h.1; simp only at this; omega)
 simp only [Function.comp,mapT,zOf,zt,tkOf',bs_tl]
 congr 1
 omega
theorem whole_ptxt {x:Node} (h:okE x) {ts:List Token} (hL:Lexed (bs (ptxt x)) ts) {n:Nat} (hn:9020≤n) (fin:Int):∃ y s',(M.whole n).run fin ⟨ts,0,[]⟩ = .ok y s'∧mapN (fun _=>0) y = mapN (fun _=>0) x:=by
 obtain ⟨l,_,hpr⟩:=(pr_ptk x h h).2
 rw [← toks_ptk h hL] at hpr
 have hcnt:=hL.cnt
 have h1:=M.whole_reads hpr (n:=n) (by rw [List.length_map]; omega) 0 0 []
 have h2:=M.Nat'.run (f:=fun _=>0) fin (M.whole n) (M.whole n) ⟨ts,0,[]⟩ (M.nat_whole n)
 have e:mapP (fun _=>0) ⟨ts,0,[]⟩ = ⟨ts.map (mapT fun _=>0),0,[]⟩:=rfl
 rw [e,h1] at h2
 cases hr:(M.whole n).run fin ⟨ts,0,[]⟩ with
 | ok y s' =>
  rw [hr] at h2
  simp only [M.mapO,Out.ok.injEq] at h2
  exact ⟨y,s',rfl,h2.1.symm⟩
 | bad b s'=>rw [hr] at h2; cases h2
 | out=>rw [hr] at h2; cases h2
def N7:Nat:=maxLen + 40000
theorem F24_N7:F24 N7 = some true:=by kernel_rfl
theorem law7 (x:Node) (hw:WfN x):∃ n,F7 n x = some true:=by
 refine ⟨N7,?_⟩
 have hN:N7 = 9223372036854775807 + 40000:=rfl
 have hmax:maxLen = 9223372036854775807:=rfl
 have hL:=hw.limP
 unfold F7
 rw [F24_N7]
 simp only [Option.bind_some]
 rw [show (400:Int) = ((400:Nat):Int) from rfl,G26b (by rw [hmax]; omega) x hL (by omega) (by omega)]
 simp only [Option.bind_some]
 by_cases hs:sz x≤400
 ·rw [decide_eq_true hs]
  cases h62:x.kind == 62
  ·simp only [Bool.not_true,Bool.or_self,cond_false]
   have h27:=G27 x (by omega) (n:=N7) (by omega)
   have hcl:=(cl_all (sz x) x (Nat.le_refl _) (by omega) maxLen (by rw [hmax]; omega) hL N7 (by omega)).e
   obtain ⟨v,hv,hq⟩:=hcl
   have h31:F31 N7 x = some (decide (smallP x) && v):=by
    unfold F31 F69
    rw [h27]
    simp only [Option.bind_some,h62,cond_false,hv]
    cases decide (smallP x) <;> rfl
   rw [h31]
   simp only [Option.bind_some]
   cases hv2:decide (smallP x) && v
   ·rfl
   ·simp only [Bool.and_eq_true,decide_eq_true_eq] at hv2
    have hE:=hq hv2.2
    have hke:=hE.2
    have h32:F32 N7 x = some (bs (ptxt x)):=by
     unfold F32
     have hk:((decide (1≤x.kind)) && (decide (x.kind≤8))) = true:=hke
     rw [hk,F70_eq x hE (by omega) N7 (by omega)]
     rfl
    rw [h32]
    simp only [Bool.not_true,cond_false,Option.bind_some]
    rcases F33_cases (bs (ptxt x)) (n:=N7) (by omega) with ⟨ts,hLx,h33,_⟩ | h33
    ·rw [h33]
     obtain ⟨y,s',hr,hy⟩:=whole_ptxt hE hLx (n:=N7) (by omega) (bs (ptxt x)).size
     have h29:=F29_ok (n:=N7) (by omega) hLx
     rw [hr] at h29
     have hsy:=sz_mapN (fun _=>0) (sz y) y (Nat.le_refl _)
     have hsx:=sz_mapN (fun _=>0) (sz x) x (Nat.le_refl _)
     rw [hy] at hsy
     have hsz:sz y = sz x:=by omega
     have hsm:smallP y:=by
      have:smallP (mapN (fun _=>0) y):=by rw [hy]; exact (mapN_small _ x).2 hv2.1
      exact (mapN_small _ y).1 this
     simp only [endX,if_pos hsm] at h29
     have h26:=G26 y (by omega) (lim:=4000) (by omega) (n:=N7) (by omega)
     rw [decide_eq_true (by omega:sz y≤4000)] at h26
     have h26':F26 N7 y (4000:Int) = some true:=h26
     have h34y:=G34 (sz y) y (Nat.le_refl _) (by omega) N7 (by omega)
     have h34x:=G34 (sz x) x (Nat.le_refl _) (by omega) N7 (by omega)
     have h30:=G30t hy (by rw [hy]; omega) (n:=N7) (by rw [hy]; omega)
     have h28:=F28_okT hE.1 (by rw [hke]; simp) (by omega) (n:=N7) (by omega)
     rw [decide_eq_true hv2.1] at h28
     simp only [Bool.not_true,cond_false,h29,Option.bind_some,cond_true,h26',h34y,h34x,h30,h28,List.length_nil]
     rfl
    ·rw [h33]
     rfl
  ·rfl
 ·rw [decide_eq_false hs]
  rfl
end Go.Proofs.YtbecjgckobhmpaaGreatDoor
end
