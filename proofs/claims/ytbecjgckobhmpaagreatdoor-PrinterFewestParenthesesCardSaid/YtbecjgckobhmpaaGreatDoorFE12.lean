/-
  Proved here: a part of what the claim needs (texts PF PM ZLB PP PN PX ZLC PL14a PL14b PL14 of the prover's own).
-/
import Derived.Test.YtbecjgckobhmpaaGreatDoorFE11
section
namespace Go.Proofs.YtbecjgckobhmpaaGreatDoor
open Go Go.AM Go.Proofs
namespace M
variable {α β σ ρ:Type}
def Post (m:M α) (P:α→Nat→Prop):Prop:=∀ fin s a s',TksOk s.rest→m.run fin s = .ok a s'→∃ d,s.rest.length = s'.rest.length + d∧P a d
theorem Post.mono {m:M α} {P Q:α→Nat→Prop} (h:Post m P) (k:∀ a d,P a d→Q a d):Post m Q:=fun fin s a s' ht e=>by
 obtain ⟨d,h1,h2⟩:=h fin s a s' ht e
 exact ⟨d,h1,k a d h2⟩
theorem post_ret {a:α} {P:α→Nat→Prop} (h:P a 0):Post (.ret a) P:=fun fin s b s' _ e=>by
 simp only [run,Out.ok.injEq] at e
 obtain ⟨rfl,rfl⟩:=e
 exact ⟨0,rfl,h⟩
theorem post_fail {b:Bool} {P:α→Nat→Prop}:Post (.fail b) P:=fun fin s a s' _ e=>by cases e
theorem post_out {P:α→Nat→Prop}:Post .out P:=fun fin s a s' _ e=>by cases e
theorem post_look {k:Option (Int × ByteArray)→M α} {P:α→Nat→Prop} (h:∀ t,Post (k t) P):Post (.look k) P:=fun fin s a s' ht e=>h _ fin s a s' ht e
theorem post_pos {k:Int→M α} {P:α→Nat→Prop} (h:∀ t,Post (k t) P):Post (.pos k) P:=fun fin s a s' ht e=>h _ fin s a s' ht e
theorem post_adv {k:M α} {P:α→Nat→Prop} (h:Post k fun a d=>P a (d + 1)):Post (.adv k) P:=fun fin s a s' ht e=>by
 obtain ⟨r,i,p⟩:=s
 cases r with
 | nil=>cases e
 | cons t r =>
  obtain ⟨d,h1,h2⟩:=h fin ⟨r,i,p⟩ a s' (fun x hx=>ht x (List.mem_cons_of_mem _ hx)) e
  exact ⟨d + 1,by simp only [List.length_cons] at h1 ⊢; omega,h2⟩
theorem post_cond {c:Bool} {a b:M α} {P:α→Nat→Prop} (h1:Post a P) (h2:Post b P):Post (bif c then a else b) P:=by cases c <;> assumption
theorem post_bind {m:M α} {k:α→M β} {Q:β→Nat→Prop} (P:α→Nat→Prop) (h1:Post m P) (h2:∀ a d,P a d→Post (k a) fun b e=>Q b (d + e)):Post (m.bind k) Q:=fun fin s b s' ht e=>by
 rw [run_bind] at e
 have hsuf:=run_suf fin m s
 cases hr:m.run fin s with
 | ok a s1 =>
  rw [hr] at e hsuf
  obtain ⟨d,h3,h4⟩:=h1 fin s a s1 ht hr
  obtain ⟨d2,h5,h6⟩:=h2 a d h4 fin s1 b s' (ht.suf hsuf) e
  exact ⟨d + d2,by omega,h6⟩
 | bad b s'=>rw [hr] at e; cases e
 | out=>rw [hr] at e; cases e
theorem post_iter {step:σ→M (σ ⊕ ρ)} {Q:ρ→Nat→Prop} (I:σ→Nat→Prop) (h:∀ x d,I x d→Post (step x) fun r e=>Sum.elim (fun x'=>I x' (d + e)) (fun r=>Q r (d + e)) r):∀ (n:Nat) (x:σ) (d:Nat),I x d→Post (iterM step n x) fun r e=>Q r (d + e)
 | 0,_,_,_=>post_out
 | n + 1,x,d,hi=>post_bind _ (h x d hi) fun r e hr=>by
   cases r with
   | inl x'=>exact (post_iter I h n x' (d + e) hr).mono fun a e2 hq=>by rw [← Nat.add_assoc]; exact hq
   | inr r=>exact post_ret hr
theorem post_accept (a:ByteArray):Post (accept a) fun b d=>d = bif b then 1 else 0:=fun fin s b s' _ e=>by
 rw [run_accept] at e
 obtain ⟨r,i,p⟩:=s
 cases r with
 | nil=>simp only [Out.ok.injEq] at e; obtain ⟨rfl,rfl⟩:=e; exact ⟨0,rfl,rfl⟩
 | cons t r =>
  simp only at e
  cases hc:strEq t.text a <;> rw [hc] at e <;> simp only [cond_true,cond_false,Out.ok.injEq] at e <;> obtain ⟨rfl,rfl⟩:=e
  ·exact ⟨0,rfl,rfl⟩
  ·exact ⟨1,rfl,rfl⟩
theorem post_kw {a:ByteArray} {m m':M α} {Q:α→Nat→Prop} (h1:Post m fun x d=>Q x (1 + d)) (h2:Post m' Q):Post (kw a m m') Q :=
 post_bind _ (post_accept a) fun b d hd=>by
  cases b
  ·subst hd; exact h2.mono fun x e h=>by rw [cond_false,Nat.zero_add]; exact h
  ·subst hd; exact h1
theorem post_expect (a:ByteArray):Post (expect a) fun _ d=>d = 1 :=
 post_bind _ (post_accept a) fun b d hd=>by
  cases b
  ·exact post_fail
  ·exact post_ret hd
theorem nameB_of {x:ByteArray} (h1:(tl x).length≤16) (h2:nameCs (tl x) = true) (h3:1≤(tl x).length) (h4:isKey x = false):nameB (tl x) = true:=by
 unfold nameB
 unfold isKey at h4
 rw [decide_eq_true h3,decide_eq_true h1,h2]
 have:keyNames.any (tl x == ·) = false:=h4
 rw [this]
 rfl
theorem post_name:Post name fun x d=>nameB (tl x) = true∧d = 1:=fun fin s a s' ht e=>by
 have h:=AllM.run fin name s a s' name_all ht e
 obtain ⟨r,i,p⟩:=s
 cases r with
 | nil=>cases e
 | cons t r =>
  simp only [name,run,hdOf] at e
  cases hn:isNm (t.kind,t.text) <;> rw [hn] at e
  ·cases e
  ·simp only [cond_true,run,Out.ok.injEq] at e
   obtain ⟨_,rfl⟩:=e
   exact ⟨1,rfl,nameB_of h.1 h.2.1 h.2.2.1 h.2.2.2,rfl⟩
theorem decL_lt:∀ (l:List UInt8) (n v:Nat),decL l n = some v→v < (n + 1) * 10 ^ l.length
 | [],n,v,h=>by simp only [decL,Option.some.injEq] at h; simp; omega
 | b :: r,n,v,h=>by
  unfold decL at h
  split at h
  ·rename_i hb
   have:=decL_lt r _ v h
   rw [List.length_cons,Nat.pow_succ,Nat.mul_comm (10 ^ r.length) 10,← Nat.mul_assoc]
   refine Nat.lt_of_lt_of_le this (Nat.mul_le_mul_right _ ?_)
   omega
  ·cases h
theorem numV_inR {t:Int × ByteArray} (h:TkOk t) (h2:t.1 = 2):inR (numV t.2) = true:=by
 rcases h with h | h | h
 ·omega
 ·obtain ⟨_,h3,h4,h5,_⟩:=h
  obtain ⟨v,hv⟩:=decL_some (tl t.2) 0 h5
  have hlt:=decL_lt _ _ _ hv
  have hpow:10 ^ (tl t.2).length≤10 ^ 9:=Nat.pow_le_pow_right (by omega) h4
  have e:numV t.2 = (v:Int):=by
   unfold numV atoiF
   rw [size_tl,tl_def,hv]
   rw [if_neg (by omega)]
   rfl
  rw [e]
  simp only [inR,Bool.and_eq_true,decide_eq_true_eq]
  omega
 ·omega
theorem post_num:Post num fun v d=>inR v = true∧d = 1:=fun fin s a s' ht e=>by
 obtain ⟨r,i,p⟩:=s
 cases r with
 | nil=>cases e
 | cons t r =>
  simp only [num,run,hdOf] at e
  cases hn:t.kind == 2 <;> rw [hn] at e
  ·cases e
  ·simp only [cond_true,run,Out.ok.injEq] at e
   obtain ⟨rfl,rfl⟩:=e
   exact ⟨1,rfl,numV_inR (ht t (List.mem_cons_self ..)) (by simpa using hn),rfl⟩
theorem no46 {a:List UInt8} (h:nameB a = true):46 ∉ a:=by
 intro hm
 simp only [nameB,Bool.and_eq_true] at h
 have hc:=h.2
 have hw:∀ l:List UInt8,nameCs l = true→∀ b ∈ l,isWordI b.toNat = true:=by
  intro l hl b hb
  cases l with
  | nil=>cases hb
  | cons x r =>
   simp only [nameCs,Bool.and_eq_true,List.all_eq_true] at hl
   rcases List.mem_cons.1 hb with rfl | hb
   ·simp [isWordI,hl.1]
   ·exact hl.2 b hb
 have:=hw a hc 46 hm
 revert this
 decide
theorem cut_none:∀ (a:List UInt8),46 ∉ a→cutB a = (a,none)
 | [],_=>rfl
 | b :: r,h=>by
  simp only [List.mem_cons,not_or] at h
  have hb:(b == 46) = false:=by
   cases hbb:b == 46
   ·rfl
   ·exact absurd (by simpa using hbb:b = 46).symm h.1
  simp [cutB,hb,cut_none r h.2]
theorem cut_dot:∀ (a r:List UInt8),46 ∉ a→cutB (a ++ 46 :: r) = (a,some r)
 | [],r,_=>by simp [cutB]
 | b :: a,r,h=>by
  simp only [List.mem_cons,not_or] at h
  have hb:(b == 46) = false:=by
   cases hbb:b == 46
   ·rfl
   ·exact absurd (by simpa using hbb:b = 46).symm h.1
  simp [cutB,hb,cut_dot a r h.2]
theorem path_add:∀ (k:Nat) (s y:List UInt8),pathN k s = true→nameB y = true→pathN (k + 1) (s ++ 46 :: y) = true
 | 0,s,y,h,_=>by simp [pathN] at h
 | k + 1,s,y,h,hy=>by
  rw [pathN,Bool.and_eq_true] at h
  have hno:=no46 h.1
  have hspec:=cutB_spec s
  cases hc:(cutB s).2 with
  | none =>
   have e:=(hspec.1 hc).1
   rw [e] at h hno
   rw [pathN,cut_dot s y hno,h.1]
   simp only [Bool.true_and]
   rw [pathN,cut_none y (no46 hy),hy]
   rfl
  | some r =>
   have e:=(hspec.2 r hc).1
   have h2:=h.2
   rw [hc] at h2
   have e2:s ++ 46 :: y = (cutB s).1 ++ 46 :: (r ++ 46 :: y):=by
    conv=>lhs; rw [e]
    simp
   rw [pathN,e2,cut_dot _ _ hno,h.1]
   exact path_add k r y h2 hy
theorem path_up:∀ (k:Nat) (s:List UInt8),pathN k s = true→pathN (k + 1) s = true
 | 0,s,h=>by simp [pathN] at h
 | k + 1,s,h=>by
  rw [pathN,Bool.and_eq_true] at h ⊢
  refine ⟨h.1,?_⟩
  have h2:=h.2
  cases hc:(cutB s).2 with
  | none=>rfl
  | some r =>
   rw [hc] at h2
   exact path_up k r h2
theorem post_path (n:Nat):Post (path n) fun x d=>pathB (tl x) = true∧1≤d:=by
 refine post_bind _ post_name fun x d hx=>?_
 have hI:∀ (s:ByteArray × Int) (d:Nat),(∃ k:Nat,s.2 = (k:Int)∧k≤2∧pathN (k + 1) (tl s.1) = true)→Post (pathS s) fun r e=>Sum.elim (fun s':ByteArray × Int=>∃ k:Nat,s'.2 = (k:Int)∧k≤2∧pathN (k + 1) (tl s'.1) = true) (fun r=>pathB (tl r) = true) r:=by
  rintro ⟨x,i⟩ d ⟨k,hk,h2,h3⟩
  simp only at hk h3
  subst hk
  have hB:pathB (tl x) = true:=by
   unfold pathB
   have:k = 0∨k = 1∨k = 2:=by omega
   rcases this with rfl | rfl | rfl
   ·exact path_up _ _ (path_up _ _ h3)
   ·exact path_up _ _ h3
   ·exact h3
  unfold pathS
  simp only
  cases hc:decide ((k:Int) < 2)
  ·exact post_ret hB
  ·have hc':k < 2:=by have:=of_decide_eq_true hc; omega
   refine post_bind _ (post_accept _) fun b d1 _=>?_
   cases b
   ·exact post_ret hB
   ·refine post_bind _ post_name fun y d2 hy=>post_ret ⟨k + 1,by simp,by omega,?_⟩
    exact path_add _ _ _ h3 hy.1
 refine (post_iter (fun s _=>∃ k:Nat,s.2 = (k:Int)∧k≤2∧pathN (k + 1) (tl s.1) = true) (Q:=fun r _=>pathB (tl r) = true) (fun s d hs=>hI s d hs) n (x,0) 0 ⟨0,rfl,by omega,?_⟩).mono fun r e hr=>⟨hr,by omega⟩
 simp only
 rw [pathN,cut_none _ (no46 hx.1),hx.1]
 rfl
theorem okT_of {x:Node} (hf:fieldsB x = true) (hk:kidsB x = true) (h:∀ y ∈ x.kids,okT y = true):okT x = true:=by
 rw [okT_eq,hf,hk]
 simpa using h
def QE (e:Node) (d:Nat):Prop:=okE e∧sz e≤d
def QR (e:Node) (d:Nat):Prop:=okT e = true∧e.kind = 2∧sz e≤d
def QL (P:Node→Prop) (l:List Node) (d:Nat):Prop:=(∀ y ∈ l,okT y = true∧P y)∧szs l≤d
theorem QR.e {e:Node} {d:Nat} (h:QR e d):QE e d:=⟨⟨h.1,by rw [h.2.1]; rfl⟩,h.2.2⟩
theorem QE.mono {e:Node} {d d':Nat} (h:QE e d) (hd:d≤d'):QE e d':=⟨h.1,by have:=h.2; omega⟩
theorem sz0 {k:Int} {a b:ByteArray} {n l i:Int} {g:Bool} {p:Int}:sz (Node.mk k a b n l i g [] p) = 1:=rfl
theorem sz1 {k:Int} {a b:ByteArray} {n l i:Int} {g:Bool} {x:Node} {p:Int}:sz (Node.mk k a b n l i g [x] p) = 1 + sz x:=rfl
theorem sz2 {k:Int} {a b:ByteArray} {n l i:Int} {g:Bool} {x y:Node} {p:Int}:sz (Node.mk k a b n l i g [x,y] p) = 1 + sz x + sz y:=by simp [sz,szs]; omega
theorem sz3 {k:Int} {a b:ByteArray} {n l i:Int} {g:Bool} {x y z:Node} {p:Int}:sz (Node.mk k a b n l i g [x,y,z] p) = 1 + sz x + sz y + sz z:=by simp [sz,szs]; omega
theorem ok_leaf {k:Int} {a b:ByteArray} {n l i:Int} {g:Bool} {p:Int} (hk:leafK k = true) (hf:fieldsB (Node.mk k a b n l i g [] p) = true):okT (Node.mk k a b n l i g [] p) = true :=
 okT_of hf (by simp [kidsB,hk]) (by simp)
theorem ok_num {v p:Int} (h:inR v = true):okE (Node.mk 1 (bs []) (bs []) v 0 0 false [] p) :=
 ⟨ok_leaf rfl (by simp [fieldsB,fldGood,hasName,hasOther,hasN,h,strEq_self]),rfl⟩
theorem post_numNode:Post numNode fun e d=>QE e d∧e.kind = 1:=post_pos fun p=>post_bind _ post_num fun v d hv=>post_ret ⟨⟨ok_num hv.1,by rw [sz0]; omega⟩,rfl⟩
theorem ok_ref0 {x:ByteArray} {p:Int} (h:pathB (tl x) = true):okT (Node.mk 2 x (bs []) 0 0 0 false [] p) = true :=
 okT_of (by simp [fieldsB,fldGood,hasName,hasOther,hasN,h,strEq_self]) (by simp [kidsB,leafK]) (by simp)
theorem ok_ref1 {x:ByteArray} {p:Int} {e:Node} (h:pathB (tl x) = true) (he:okE e):okT (Node.mk 2 x (bs []) 0 0 0 false [e] p) = true :=
 okT_of (by simp [fieldsB,fldGood,hasName,hasOther,hasN,h,strEq_self]) (by simp [kidsB,leafK,ex1,eX,he.2]) (by simp [he.1])
theorem ok_old {p:Int} {e:Node} (he:okT e = true) (h2:e.kind = 2):okE (Node.mk 3 (bs []) (bs []) 0 0 0 false [e] p) :=
 ⟨okT_of (by simp [fieldsB,fldGood,hasName,hasOther,hasN,strEq_self]) (by simp [kidsB,leafK,ex1,kX,h2]) (by simp [he]),rfl⟩
theorem ok_not {p:Int} {e:Node} (he:okE e):okE (Node.mk 4 (bs []) (bs []) 0 0 0 false [e] p) :=
 ⟨okT_of (by simp [fieldsB,fldGood,hasName,hasOther,hasN,strEq_self]) (by simp [kidsB,leafK,oneK,ex1,eX,he.2]) (by simp [he.1]),rfl⟩
theorem ok_bin {p:Int} {a b:Node} {x:ByteArray} (hx:levelI x≠0) (ha:okE a) (hb:okE b):okE (Node.mk 5 x (bs []) 0 0 0 false [a,b] p) :=
 ⟨okT_of (by simp [fieldsB,fldGood,hasName,hasOther,hasN,strEq_self,hx]) (by simp [kidsB,leafK,oneK,ex2,eX,ha.2,hb.2]) (by simp [ha.1,hb.1]),rfl⟩
theorem ok_cond {p:Int} {a b c:Node} (ha:okE a) (hb:okE b) (hc:okE c):okE (Node.mk 6 (bs []) (bs []) 0 0 0 false [a,b,c] p) :=
 ⟨okT_of (by simp [fieldsB,fldGood,hasName,hasOther,hasN,strEq_self]) (by simp [kidsB,leafK,oneK,ex3,eX,ha.2,hb.2,hc.2]) (by simp [ha.1,hb.1,hc.1]),rfl⟩
theorem ok_quant {k p v:Int} {e:Node} {x:ByteArray} (hk:k = 7∨k = 8) (hx:nameB (tl x) = true) (hv:inR v = true) (he:okE e):okE (Node.mk k x (bs []) v 0 0 false [e] p):=by
 rcases hk with rfl | rfl
 ·exact ⟨okT_of (by simp [fieldsB,fldGood,hasName,hasOther,hasN,strEq_self,hx,hv]) (by simp [kidsB,leafK,oneK,ex1,eX,he.2]) (by simp [he.1]),rfl⟩
 ·exact ⟨okT_of (by simp [fieldsB,fldGood,hasName,hasOther,hasN,strEq_self,hx,hv]) (by simp [kidsB,leafK,oneK,ex1,eX,he.2]) (by simp [he.1]),rfl⟩
theorem post_refS {mE:M Node} (hE:Post mE QE) (n:Nat):Post (refS mE n) QR:=by
 refine post_pos fun p=>post_bind _ (post_path n) fun x d hx=>post_kw ?_ (post_ret ⟨ok_ref0 hx.1,rfl,by rw [sz0]; omega⟩)
 refine post_bind _ hE fun e d2 he=>post_bind _ (post_expect _) fun _ d3 h3=>post_ret ⟨ok_ref1 hx.1 he.1,rfl,?_⟩
 have:=he.2
 rw [sz1]
 omega
theorem post_binL {mB:Int→M Node} (hB:∀ a,Post (mB a) QE) (a:Int) (n:Nat) (x:Node) (d:Nat) (hx:QE x d):Post (iterM (binStep mB a) n (10,x)) fun r e=>QE r (d + e):=by
 refine post_iter (fun s d=>QE s.2 d) (Q:=QE) (fun s d hs=>?_) n (10,x) d hx
 refine post_look fun t=>post_pos fun p=>?_
 cases hc:((levelI (textO t) == 0) || decide (levelI (textO t) < a)) || decide (s.1 < levelI (textO t))
 ·simp only [Bool.or_eq_false_iff,beq_eq_false_iff_ne] at hc
  refine post_adv ?_
  have hr:Post (rightS mB (levelI (textO t))) fun j e=>QE j.2 e:=by
   refine post_cond ?_ (post_cond ?_ ?_) <;> exact post_bind _ (hB _) fun r e hr=>post_ret (by rw [Nat.add_zero]; exact hr)
  refine post_bind _ hr fun j e hj=>post_ret ?_
  refine ⟨ok_bin hc.1.1 hs.1 hj.1,?_⟩
  have h1:=hs.2
  have h2:=hj.2
  rw [sz2]
  omega
 ·exact post_ret hs
theorem post_exprs:∀ n,Post (ref n) QR∧Post (unary n) QE∧(∀ a,Post (bin n a) QE)∧Post (cond n) QE∧Post (expr n) QE
 | 0=>by
  refine ⟨?_,?_,fun a=>?_,?_,?_⟩
  ·rw [ref]; exact post_out
  ·rw [unary]; exact post_out
  ·rw [bin]; exact post_out
  ·rw [cond]; exact post_out
  ·rw [expr]; exact post_out
 | n + 1=>by
  obtain ⟨h1,h2,h3,h4,h5⟩:=post_exprs n
  refine ⟨?_,?_,fun a=>?_,?_,?_⟩
  ·rw [ref]; exact post_refS h5 n
  ·rw [unary]
   refine post_pos fun p=>post_kw (post_bind _ h2 fun e d he=>post_ret ⟨ok_not he.1,by have:=he.2; rw [sz1]; omega⟩) (post_look fun t=>post_cond (post_numNode.mono fun _ _ h=>h.1) ?_)
   refine post_kw ?_ (post_kw ?_ (h1.mono fun _ _ h=>h.e))
   ·refine post_bind _ (post_expect _) fun _ d1 hd1=>post_bind _ h1 fun e d he=>post_bind _ (post_expect _) fun _ d2 hd2=>post_ret ⟨ok_old he.1 he.2.1,?_⟩
    have:=he.2.2
    rw [sz1]; omega
   ·exact post_bind _ h5 fun e d he=>post_bind _ (post_expect _) fun _ d2 hd2=>post_ret (he.mono (by omega))
  ·rw [bin]
   exact post_bind _ h2 fun x d hx=>post_binL h3 a n x d hx
  ·rw [cond]
   refine post_bind _ (h3 2) fun x d hx=>post_pos fun p=>post_bind _ (post_accept _) fun b d1 hd1=>?_
   cases b
   ·exact post_ret (hx.mono (by omega))
   ·refine post_bind _ h4 fun y d2 hy=>post_bind _ (post_expect _) fun _ d3 h3=>post_bind _ h4 fun z d4 hz=>post_ret ⟨ok_cond hx.1 hy.1 hz.1,?_⟩
    have e1:=hx.2
    have e2:=hy.2
    have e3:=hz.2
    simp only [cond_true] at hd1
    rw [sz3]; omega
  ·rw [expr]
   have hq:∀ k,k = 7∨k = 8→Post (quant (expr n) k) QE:=fun k hk=>by
    refine post_pos fun p=>post_adv (post_bind _ post_name fun x d1 hx=>post_bind _ (post_expect _) fun _ d2 h2=>post_bind _ post_num fun v d3 hv=>post_bind _ (post_expect _) fun _ d4 h4=>post_bind _ h5 fun e d5 he=>post_ret ⟨ok_quant hk hx.1 hv.1 he.1,?_⟩)
    have:=he.2
    rw [sz1]; omega
   exact post_look fun t=>post_cond (hq 7 (.inl rfl)) (post_cond (hq 8 (.inr rfl)) h4)
theorem post_expr (n:Nat):Post (expr n) QE:=(post_exprs n).2.2.2.2
theorem post_whole (n:Nat):Post (whole n) QE:=post_bind _ (post_expr n) fun e d he=>post_look fun t=>post_cond post_fail (post_ret (he.mono (by omega)))
theorem QL.app {P:Node→Prop} {a b:List Node} {d e:Nat} (h1:QL P a d) (h2:QL P b e):QL P (a ++ b) (d + e):=by
 refine ⟨fun y hy=>?_,by have:=h1.2; have:=h2.2; rw [szs_append]; omega⟩
 rcases List.mem_append.1 hy with h | h
 ·exact h1.1 y h
 ·exact h2.1 y h
theorem QL.mono {P:Node→Prop} {l:List Node} {d d':Nat} (h:QL P l d) (hd:d≤d'):QL P l d':=⟨h.1,by have:=h.2; omega⟩
theorem QL.nil {P:Node→Prop} {d:Nat}:QL P [] d:=⟨by simp,by simp [szs]⟩
theorem QL.one {P:Node→Prop} {x:Node} {d:Nat} (h1:okT x = true) (h2:P x) (h3:sz x≤d):QL P [x] d:=⟨by simp [h1,h2],by simpa [szs] using h3⟩
end M
end Go.Proofs.YtbecjgckobhmpaaGreatDoor
end
section
namespace Go.Proofs.YtbecjgckobhmpaaGreatDoor
open Go Go.AM Go.Proofs
def lnE (x:Node):Nat:=(tkx x).length
def lenP (x:Node) (r:Int):Nat:=if levI x < r then lnE x + 2 else lnE x
theorem opT_lenP (x:Node) (r:Int):(opT (levI x,tkx x) r).length = lenP x r:=by
 unfold opT lenP lnE
 by_cases h:levI x < r
 ·simp [h]
 ·simp [h]
theorem lenP_mono (x:Node) {a b:Int} (h:a≤b):lenP x a≤lenP x b:=by
 unfold lenP
 split <;> split <;> omega
theorem lenP_top (x:Node) (r:Int):lenP x r≤lnE x + 2:=by
 unfold lenP
 split <;> omega
theorem len_lenP (x:Node) (r:Int):lnE x≤lenP x r:=by
 unfold lenP
 split <;> omega
theorem lenP_ge {x:Node} {r:Int} (h:r≤levI x):lenP x r = lnE x:=by
 unfold lenP
 rw [if_neg (by omega)]
def lQ (l:Int):Int:=if l = 2 then 3 else if l = 5 then 6 else l
def rQ (l:Int):Int:=if l = 2 then 2 else l + 1
theorem rule_tab:([[61,61,62],[124,124],[38,38],[61,61],[33,61],[60],[60,61],[124],[94],[38],[43],[45],[42]]:List Bytes).all (fun l=>decide ((ruleI (bs l)).2.1 = levelI (bs l)) && (decide ((ruleI (bs l)).2.2.1 = lQ (levelI (bs l))) && (decide ((ruleI (bs l)).2.2.2 = rQ (levelI (bs l))) && (decide (2≤levelI (bs l)) && decide (levelI (bs l)≤10))))) = true:=by kernel_rfl
theorem rule_lev {s:ByteArray} (h:levelI s≠0):(ruleI s).2.1 = levelI s∧(ruleI s).2.2.1 = lQ (levelI s)∧(ruleI s).2.2.2 = rQ (levelI s)∧2≤levelI s∧levelI s≤10:=by
 have:=List.all_eq_true.1 rule_tab _ (level_cases h)
 rw [bs_tl] at this
 simpa using this
theorem len1 {v p:Int}:lnE (Node.mk 1 (bs []) (bs []) v 0 0 false [] p) = 1:=rfl
theorem len2 {x:ByteArray} {p:Int}:lnE (Node.mk 2 x (bs []) 0 0 0 false [] p) = (pathT 3 (tl x)).length:=rfl
theorem len2' {x:ByteArray} {p:Int} {e:Node}:lnE (Node.mk 2 x (bs []) 0 0 0 false [e] p) = (pathT 3 (tl x)).length + (lenP e 0 + 2):=by
 show (pathT 3 (tl x) ++ ((3,[91]) :: (opT (levI e,tkx e) 0 ++ [(3,[93])]))).length = _
 rw [List.length_append,List.length_cons,List.length_append,opT_lenP]
 rfl
theorem len3 {p:Int} {e:Node}:lnE (Node.mk 3 (bs []) (bs []) 0 0 0 false [e] p) = lenP e 0 + 3:=by
 show ((1,[111,108,100]) :: (3,[40]) :: (opT (levI e,tkx e) 0 ++ [(3,[41])]):List Tk).length = _
 rw [List.length_cons,List.length_cons,List.length_append,opT_lenP]
 rfl
theorem len4 {p:Int} {e:Node}:lnE (Node.mk 4 (bs []) (bs []) 0 0 0 false [e] p) = lenP e 11 + 1:=by
 show ((3,[33]) :: opT (levI e,tkx e) 11:List Tk).length = _
 rw [List.length_cons,opT_lenP]
theorem len5 {p:Int} {a b:Node} {op:ByteArray} (h:levelI op≠0):lnE (Node.mk 5 op (bs []) 0 0 0 false [a,b] p) = lenP a (lQ (levelI op)) + (lenP b (rQ (levelI op)) + 1)∧levI (Node.mk 5 op (bs []) 0 0 0 false [a,b] p) = levelI op:=by
 have hr:=rule_lev h
 refine ⟨?_,hr.1⟩
 show (opT (levI a,tkx a) (ruleI op).2.2.1 ++ ((3,tl op) :: opT (levI b,tkx b) (ruleI op).2.2.2)).length = _
 rw [List.length_append,List.length_cons,opT_lenP,opT_lenP,hr.2.1,hr.2.2.1]
theorem len6 {p:Int} {a b c:Node}:lnE (Node.mk 6 (bs []) (bs []) 0 0 0 false [a,b,c] p) = lenP a 2 + (lenP b 1 + (lenP c 1 + 1) + 1):=by
 show (opT (levI a,tkx a) 2 ++ ((3,[63]) :: (opT (levI b,tkx b) 1 ++ ((3,[58]) :: opT (levI c,tkx c) 1)))).length = _
 rw [List.length_append,List.length_cons,List.length_append,List.length_cons,opT_lenP,opT_lenP,opT_lenP]
theorem len7 {k v p:Int} {x:ByteArray} {e:Node} (hk:k = 7∨k = 8):lnE (Node.mk k x (bs []) v 0 0 false [e] p) = lenP e 0 + 5∧levI (Node.mk k x (bs []) v 0 0 false [e] p) = 0:=by
 rcases hk with rfl | rfl
 ·refine ⟨?_,rfl⟩
  show ((1,[97,108,108]) :: (1,tl x) :: (3,[60]) :: (2,numL v) :: (3,[58]) :: opT (levI e,tkx e) 0:List Tk).length = _
  simp only [List.length_cons,opT_lenP]
 ·refine ⟨?_,rfl⟩
  show ((1,[115,111,109,101]) :: (1,tl x) :: (3,[60]) :: (2,numL v) :: (3,[58]) :: opT (levI e,tkx e) 0:List Tk).length = _
  simp only [List.length_cons,opT_lenP]
theorem pathT_len:∀ (k:Nat) (s:Bytes),(pathT k s).length≤2 * s.count 46 + 1
 | 0,s=>by simp [pathT]
 | k + 1,s=>by
  simp only [pathT]
  have hs:=cutB_spec s
  cases hc:(cutB s).2 with
  | none=>simp
  | some r =>
   have e:=(hs.2 r hc).1
   have ih:=pathT_len k r
   have hcount:=congrArg (List.count 46) e
   rw [List.count_append,List.count_cons_self] at hcount
   simp only [List.length_cons]
   omega
namespace M
theorem post_pathC (n:Nat):Post (path n) fun x d=>2 * (tl x).count 46 + 1≤d:=by
 refine post_bind _ post_name fun x d hx=>?_
 have h0:(tl x).count 46 = 0:=List.count_eq_zero.2 (no46 hx.1)
 refine post_iter (fun s d=>2 * (tl s.1).count 46 + 1≤d) (Q:=fun r d=>2 * (tl r).count 46 + 1≤d) (fun s d hs=>?_) n (x,0) d (by simp only; rw [h0]; have:=hx.2; omega)
 unfold pathS
 refine post_cond (post_bind _ (post_accept _) fun b d1 hd=>?_) (post_ret hs)
 cases b
 ·refine post_ret ?_
  show 2 * (tl s.1).count 46 + 1≤_
  omega
 ·refine post_bind _ post_name fun y d2 hy=>post_ret ?_
  show 2 * (tl (bs (tl s.1 ++ 46 :: tl y))).count 46 + 1≤_
  rw [tl_bs,List.count_append,List.count_cons_self,List.count_eq_zero.2 (no46 hy.1)]
  have:=hy.2
  simp only [cond_true] at hd
  omega
def LM (r:Int) (e:Node) (d:Nat):Prop:=lenP e r≤d
def LR (e:Node) (d:Nat):Prop:=lnE e≤d∧levI e = 12
theorem len_refS {mE:M Node} (hE:Post mE (LM 0)) (n:Nat):Post (refS mE n) LR:=by
 refine post_pos fun p=>post_bind _ (post_pathC n) fun x d hx=>post_kw ?_ (post_ret ⟨?_,rfl⟩)
 ·refine post_bind _ hE fun e d2 he=>post_bind _ (post_expect _) fun _ d3 h3=>post_ret ⟨?_,rfl⟩
  have:=pathT_len 3 (tl x)
  unfold LM at he
  rw [len2']
  omega
 ·have:=pathT_len 3 (tl x)
  rw [len2]
  omega
theorem len_binL {mB:Int→M Node} (hB:∀ a,a≤11→Post (mB a) (LM a)) (a:Int) (ha:a≤11) (n:Nat) (x:Node) (d:Nat) (hx:LM 11 x d):Post (iterM (binStep mB a) n (10,x)) fun r e=>LM a r (d + e):=by
 unfold LM at hx
 refine post_iter (fun s d=>lenP s.2 a≤d∧∀ l,2≤l→l≤s.1→l≤10→lenP s.2 (lQ l)≤d) (Q:=LM a) (fun s d hs=>?_) n (10,x) d ⟨?_,fun l h1 h2 h3=>?_⟩
 rotate_left
 ·have:=lenP_mono x ha
  show lenP x a≤d
  omega
 ·have hq:lQ l≤11:=by unfold lQ; split <;> (try split) <;> omega
  have:=lenP_mono x hq
  show lenP x (lQ l)≤d
  omega
 refine post_look fun t=>post_pos fun p=>?_
 cases hc:((levelI (textO t) == 0) || decide (levelI (textO t) < a)) || decide (s.1 < levelI (textO t))
 ·simp only [Bool.or_eq_false_iff,beq_eq_false_iff_ne,decide_eq_false_iff_not] at hc
  have hl:=rule_lev hc.1.1
  obtain ⟨_,_,_,hl1,hl2⟩:=hl
  refine post_adv ?_
  have hr:Post (rightS mB (levelI (textO t))) fun j e=>lenP j.2 (rQ (levelI (textO t)))≤e∧j.1 = if levelI (textO t) = 2∨levelI (textO t) = 5 then levelI (textO t) - 1 else levelI (textO t):=by
   generalize levelI (textO t) = l at hl1 hl2 hc
   unfold rightS
   by_cases h2:l = 2
   ·subst h2
    refine post_bind _ (hB 2 (by omega)) fun r e hr=>post_ret ⟨?_,by simp⟩
    rw [Nat.add_zero]
    exact hr
   ·have e2:(l == 2) = false:=by simpa using h2
    have erq:rQ l = l + 1:=by unfold rQ; rw [if_neg h2]
    rw [e2,cond_false]
    by_cases h5:l = 5
    ·subst h5
     refine post_bind _ (hB (5 + 1) (by omega)) fun r e hr=>post_ret ⟨?_,by simp⟩
     rw [Nat.add_zero]
     exact hr
    ·have e5:(l == 5) = false:=by simpa using h5
     rw [e5,cond_false]
     refine post_bind _ (hB (l + 1) (by omega)) fun r e hr=>post_ret ⟨?_,?_⟩
     ·rw [Nat.add_zero,erq]
      exact hr
     ·rw [if_neg (by omega)]
  refine post_bind _ hr fun j e hj=>post_ret ?_
  obtain ⟨k1,k2⟩:=len5 (p:=p) (a:=s.2) (b:=j.2) hc.1.1
  have hin:=hs.2 _ hl1 (by omega) hl2
  refine ⟨?_,fun l' h1 h2 h3=>?_⟩
  ·show lenP (Node.mk 5 (textO t) (bs []) 0 0 0 false [s.2,j.2] p) a≤_
   rw [lenP_ge (by rw [k2]; omega),k1]
   have:=hj.1
   omega
  ·show lenP (Node.mk 5 (textO t) (bs []) 0 0 0 false [s.2,j.2] p) (lQ l')≤_
   have h2':l'≤j.1:=h2
   rw [hj.2] at h2'
   rw [lenP_ge (by rw [k2]; unfold lQ; split at h2' <;> split <;> (try split) <;> omega),k1]
   have:=hj.1
   omega
 ·exact post_ret hs.1
theorem len_exprs:∀ n,Post (ref n) LR∧Post (unary n) (LM 11)∧(∀ a,a≤11→Post (bin n a) (LM a))∧Post (cond n) (LM 1)∧Post (expr n) (LM 0)
 | 0=>by
  refine ⟨?_,?_,fun a _=>?_,?_,?_⟩
  ·rw [ref]; exact post_out
  ·rw [unary]; exact post_out
  ·rw [bin]; exact post_out
  ·rw [cond]; exact post_out
  ·rw [expr]; exact post_out
 | n + 1=>by
  obtain ⟨h1,h2,h3,h4,h5⟩:=len_exprs n
  refine ⟨?_,?_,fun a ha=>?_,?_,?_⟩
  ·rw [ref]; exact len_refS h5 n
  ·rw [unary]
   refine post_pos fun p=>post_kw (post_bind _ h2 fun e d he=>post_ret ?_) (post_look fun t=>post_cond ?_ ?_)
   ·show lenP (Node.mk 4 (bs []) (bs []) 0 0 0 false [e] p) 11≤_
    rw [lenP_ge (by show (11:Int)≤11; omega),len4]
    unfold LM at he
    omega
   ·refine post_pos fun p=>post_bind _ post_num fun v d hv=>post_ret ?_
    show lenP (Node.mk 1 (bs []) (bs []) v 0 0 false [] p) 11≤_
    rw [lenP_ge (by show (11:Int)≤12; omega),len1]
    have:=hv.2
    omega
   ·refine post_kw ?_ (post_kw ?_ (h1.mono fun e d h=>?_))
    ·refine post_bind _ (post_expect _) fun _ d1 hd1=>post_bind _ h1 fun e d he=>post_bind _ (post_expect _) fun _ d2 hd2=>post_ret ?_
     show lenP (Node.mk 3 (bs []) (bs []) 0 0 0 false [e] p) 11≤_
     rw [lenP_ge (by show (11:Int)≤12; omega),len3,lenP_ge (by rw [he.2]; omega)]
     have:=he.1
     omega
    ·refine post_bind _ h5 fun e d he=>post_bind _ (post_expect _) fun _ d2 hd2=>post_ret ?_
     show lenP e 11≤_
     have a1:=lenP_top e 11
     have a2:=len_lenP e 0
     unfold LM at he
     omega
    ·show lenP e 11≤_
     rw [lenP_ge (by rw [h.2]; omega)]
     exact h.1
  ·rw [bin]
   exact post_bind _ h2 fun x d hx=>len_binL h3 a ha n x d hx
  ·rw [cond]
   refine post_bind _ (h3 2 (by omega)) fun x d hx=>post_pos fun p=>post_bind _ (post_accept _) fun b d1 hd1=>?_
   unfold LM at hx
   cases b
   ·refine post_ret ?_
    show lenP x 1≤_
    have:=lenP_mono x (show (1:Int)≤2 by omega)
    omega
   ·refine post_bind _ h4 fun y d2 hy=>post_bind _ (post_expect _) fun _ d3 h3=>post_bind _ h4 fun z d4 hz=>post_ret ?_
    show lenP (Node.mk 6 (bs []) (bs []) 0 0 0 false [x,y,z] p) 1≤_
    rw [lenP_ge (by show (1:Int)≤1; omega),len6]
    unfold LM at hy hz
    simp only [cond_true] at hd1
    omega
  ·rw [expr]
   have hq:∀ k,k = 7∨k = 8→Post (quant (expr n) k) (LM 0):=fun k hk=>by
    refine post_pos fun p=>post_adv (post_bind _ post_name fun x d1 hx=>post_bind _ (post_expect _) fun _ d2 h2=>post_bind _ post_num fun v d3 hv=>post_bind _ (post_expect _) fun _ d4 h4=>post_bind _ h5 fun e d5 he=>post_ret ?_)
    obtain ⟨k1,k2⟩:=len7 (p:=p) (v:=v) (x:=x) (e:=e) hk
    show lenP (Node.mk k x (bs []) v 0 0 false [e] p) 0≤_
    rw [lenP_ge (by rw [k2]; omega),k1]
    have a1:=hx.2
    have a2:=hv.2
    unfold LM at he
    omega
   refine post_look fun t=>post_cond (hq 7 (.inl rfl)) (post_cond (hq 8 (.inr rfl)) (h4.mono fun e d h=>?_))
   have:=lenP_mono e (show (0:Int)≤1 by omega)
   unfold LM at h ⊢
   omega
theorem len_whole {n:Nat} {fin:Int} {s s':PS} {x:Node} (hok:TksOk s.rest) (h:(whole n).run fin s = .ok x s'):lnE x≤s.rest.length:=by
 have hp:Post (whole n) (LM 0):=post_bind _ (len_exprs n).2.2.2.2 fun e d he=>post_look fun t=>post_cond post_fail (post_ret (by unfold LM at he ⊢; omega))
 obtain ⟨d,h1,h2⟩:=hp fin s x s' hok h
 have:=len_lenP x 0
 unfold LM at h2
 omega
end M
end Go.Proofs.YtbecjgckobhmpaaGreatDoor
end
section
namespace Go.Proofs.YtbecjgckobhmpaaGreatDoor
open Go Go.AM Go.Proofs
theorem symTab_sz:∀ x ∈ symTab,1≤x.size∧x.size≤3:=by
 have:symTab.all (fun x=>decide (1≤x.size∧x.size≤3)) = true:=by kernel_rfl
 intro x hx
 simpa using List.all_eq_true.1 this x hx
theorem iter_T {ρ σ:Type} {step:σ→Option (σ ⊕ ρ)} (I:σ→Prop) (m:σ→Nat) (Q:ρ→Prop)
  (h:∀ s,I s→T (step s) (fun r=>match r with | .inl s'=>I s'∧m s' < m s | .inr r=>Q r))
  (n:Nat) (s:σ) (hn:m s < n) (hi:I s):T (iter step n s) Q :=
 iter_meas I m Q (fun s hs=>by
  obtain ⟨r,hr,hq⟩:=h s hs
  cases r with
  | inl s'=>exact .inl ⟨s',hr,hq.1,hq.2⟩
  | inr r=>exact .inr ⟨r,hr,hq⟩) n s hn hi
theorem T.eq {α:Type} {o:Option α} {v:α} (h:T o (fun e=>e = v)):o = Option.some v:=by
 obtain ⟨r,hr,rfl⟩:=h
 exact hr
theorem get_drop {α:Type} {L:List α} {k:Nat} {b:α} (h:L[k]? = some b):L.drop k = b :: L.drop (k + 1):=by
 obtain ⟨hk,rfl⟩:=List.getElem?_eq_some_iff.1 h
 exact List.drop_eq_getElem_cons hk
theorem get_of_drop {α:Type} {L r:List α} {k:Nat} {b:α} (h:L.drop k = b :: r):L[k]? = some b:=by
 rw [← List.head?_drop,h]
 rfl
theorem take_T {L:List UInt8} {step:Int→Option (Int ⊕ Int)} (q:UInt8→Bool)
  (h1:∀ (k:Nat) b,L[k]? = some b→step (k:Int) = some (if q b = true then .inl ((k + 1:Nat):Int) else .inr (k:Int)))
  (h2:step (L.length:Int) = some (.inr (L.length:Int))) {n a:Nat} (ha:a≤L.length) (hn:L.length < n) :
  T (iter step n (a:Int)) (fun e=>e = ((a + ((L.drop a).takeWhile q).length:Nat):Int)):=by
 have key:∀ (j a n:Nat),a + j = L.length→j < n→iter step n (a:Int) = some (((a + ((L.drop a).takeWhile q).length:Nat):Int)):=by
  intro j
  induction j with
  | zero =>
   intro a n h hn
   have:a = L.length:=by omega
   subst this
   cases n with
   | zero=>omega
   | succ n=>simp only [iter,h2,List.drop_length,List.takeWhile_nil,List.length_nil,Nat.add_zero]
  | succ j ih =>
   intro a n h hn
   have hlt:a < L.length:=by omega
   have hg:=List.getElem?_eq_getElem hlt
   cases n with
   | zero=>omega
   | succ n =>
    rw [get_drop hg,List.takeWhile_cons]
    cases hq:q L[a]
    ·simp [iter,h1 a _ hg,hq]
    ·simp only [iter,h1 a _ hg,hq,if_true]
     rw [ih (a + 1) n (by omega) (by omega)]
     have:a + 1 + ((L.drop (a + 1)).takeWhile q).length = a + (L[a] :: (L.drop (a + 1)).takeWhile q).length:=by
      simp only [List.length_cons]; omega
     rw [this]
 exact ⟨_,key (L.length - a) a n (by omega) (by omega),rfl⟩
variable {s:ByteArray} {n:Nat}
theorem i_eq (m c:Nat):((m:Int) == (c:Int)) = (m == c):=by
 rw [Bool.eq_iff_iff]
 simp only [beq_iff_eq]
 omega
theorem i_le (m c:Nat):decide ((m:Int)≤(c:Int)) = decide (m≤c):=by rw [decide_eq_decide]; omega
theorem F136_eq {k:Nat} {b:UInt8} (hb:(tl s)[k]? = some b):F136 s k = some (wht b):=by
 unfold F136
 rw [idxS_some hb]
 have e1:((b.toNat:Int) == 32) = (b.toNat == 32):=i_eq _ 32
 have e2:((b.toNat:Int) == 9) = (b.toNat == 9):=i_eq _ 9
 have e3:((b.toNat:Int) == 10) = (b.toNat == 10):=i_eq _ 10
 have e4:((b.toNat:Int) == 13) = (b.toNat == 13):=i_eq _ 13
 simp only [Option.bind_some,e1,e2,e3,e4]
 unfold wht
 cases b.toNat == 32 <;> cases b.toNat == 9 <;> cases b.toNat == 10 <;> cases b.toNat == 13 <;> rfl
theorem F138_eq {k:Nat} {b:UInt8} (hb:(tl s)[k]? = some b):F138 s k = some (nol b):=by
 unfold F138
 rw [idxS_some hb]
 have e3:((b.toNat:Int) == 10) = (b.toNat == 10):=i_eq _ 10
 simp only [Option.bind_some,bne,e3,nol]
theorem F139_eq (b:UInt8):F139 (b.toNat:Int) = some (ltr b):=by
 unfold F139 ltr
 have e1:decide (65≤(b.toNat:Int)) = decide (65≤b.toNat):=i_le 65 _
 have e2:decide ((b.toNat:Int)≤90) = decide (b.toNat≤90):=i_le _ 90
 have e3:decide (97≤(b.toNat:Int)) = decide (97≤b.toNat):=i_le 97 _
 have e4:decide ((b.toNat:Int)≤122) = decide (b.toNat≤122):=i_le _ 122
 rw [e1,e2,e3,e4]
theorem F141_eq {k:Nat} {b:UInt8} (hb:(tl s)[k]? = some b):F141 s k = some (dgt b):=by
 unfold F141 dgt
 rw [idxS_some hb]
 have e1:decide (48≤(b.toNat:Int)) = decide (48≤b.toNat):=i_le 48 _
 have e2:decide ((b.toNat:Int)≤57) = decide (b.toNat≤57):=i_le _ 57
 simp only [Option.bind_some,e1,e2]
 cases decide (48≤b.toNat) <;> rfl
theorem F140_eq {k:Nat} {b:UInt8} (hb:(tl s)[k]? = some b):F140 s k = some (wrd b):=by
 unfold F140 wrd
 have e1:((b.toNat:Int) == 95) = (b.toNat == 95):=i_eq _ 95
 rw [idxS_some hb]
 simp only [Option.bind_some,F139_eq,F141_eq hb,e1]
 cases ltr b <;> cases dgt b <;> rfl
theorem run_eq {p:Int→Option Bool} {q:UInt8→Bool} (hp:∀ (k:Nat) b,(tl s)[k]? = some b→p (k:Int) = some (q b)) (hs:s.size≤4000) (hn:5000≤n) {a:Nat} (ha:a≤(tl s).length) :
  ((iter (σ:=Int) (ρ:=Int) (fun s1=>bif decide (s1 < (s.size:Int)) then ((p s1).bind fun x3=>bif x3 then (some (.inl (w64 (s1 + 1)))) else (some (.inr s1))) else (some (.inr s1))) n (a:Int)).bind fun r5=>some r5)
   = some ((a + (((tl s).drop a).takeWhile q).length:Nat):Int):=by
 have hz:=size_tl s
 apply T.eq
 refine T.bind (take_T (L:=tl s) q (fun k b hb=>?_) ?_ ha (by omega)) fun e he=>T.some he
 ·have hk:=lt_of_get hb
  have c:decide ((k:Int) < (s.size:Int)) = true:=by rw [hz]; simp; omega
  rw [c,hp k b hb,w64_nat (by omega)]
  cases q b <;> rfl
 ·have c:decide (((tl s).length:Int) < (s.size:Int)) = false:=by rw [hz]; simp
  rw [c]
  rfl
theorem F135_eq (hs:s.size≤4000) (hn:5000≤n) {a:Nat} (ha:a≤(tl s).length):F135 n s a s = some ((a + (((tl s).drop a).takeWhile wrd).length:Nat):Int):=by
 unfold F135
 exact run_eq (fun k b h=>F140_eq h) hs hn ha
theorem F135_1_eq (hs:s.size≤4000) (hn:5000≤n) {a:Nat} (ha:a≤(tl s).length):F135_1 n s a s = some ((a + (((tl s).drop a).takeWhile dgt).length:Nat):Int):=by
 unfold F135_1
 exact run_eq (fun k b h=>F141_eq h) hs hn ha
theorem F135_2_eq (hs:s.size≤4000) (hn:5000≤n) {a:Nat} (ha:a≤(tl s).length):F135_2 n s a s = some ((a + (((tl s).drop a).takeWhile wht).length:Nat):Int):=by
 unfold F135_2
 exact run_eq (fun k b h=>F136_eq h) hs hn ha
theorem F135_3_eq (hs:s.size≤4000) (hn:5000≤n) {a:Nat} (ha:a≤(tl s).length):F135_3 n s a s = some ((a + (((tl s).drop a).takeWhile nol).length:Nat):Int):=by
 unfold F135_3
 exact run_eq (fun k b h=>F138_eq h) hs hn ha
theorem pre_take (t l:List UInt8):(l.take t.length == t) = t.isPrefixOf l:=by
 rw [Bool.eq_iff_iff,List.isPrefixOf_iff_prefix,List.prefix_iff_eq_take,beq_iff_eq]
 exact eq_comm
theorem F137_eq (l:List UInt8):F137 (bs l) (bs [47,47]) = some (two l):=by
 unfold F137 F192
 have e0:((bs [47,47]).size:Int) = ((2:Nat):Int):=rfl
 have e1:((bs l).size:Int) = (l.length:Int):=rfl
 rw [e0,e1]
 by_cases h:2≤l.length
 ·have c:decide (((2:Nat):Int)≤(l.length:Int)) = true:=by simp; omega
  have e:=subS_eq (s:=bs l) (a:=0) (b:=2) (by omega) (by rw [tl_bs]; exact h)
  rw [c,cond_true]
  erw [e]
  simp only [Option.bind_some,tl_bs,List.drop_zero]
  exact congrArg some (pre_take [47,47] l)
 ·have c:decide (((2:Nat):Int)≤(l.length:Int)) = false:=by simp; omega
  rw [c]
  have:two l = false:=by
   rw [two,← pre_take]
   rw [beq_eq_false_iff_ne]
   intro e
   have:=congrArg List.length e
   rw [List.length_take] at this
   simp at this
   omega
  rw [this]
  rfl
theorem drop_step {L:List UInt8} {k:Nat} (q:UInt8→Bool) (hk:k≤L.length):k + ((L.drop k).takeWhile q).length≤L.length∧L.drop (k + ((L.drop k).takeWhile q).length) = (L.drop k).dropWhile q:=by
 constructor
 ·have:=len_tw q (L.drop k)
  rw [List.length_drop] at this
  omega
 ·rw [← List.drop_drop,drop_tw]
theorem F86_eq (hs:s.size≤4000) (hn:5000≤n) {a:Nat} (ha:a≤(tl s).length):F86 n s a = some (((tl s).length - (skp false ((tl s).drop a)).length:Nat):Int):=by
 have hz:=size_tl s
 apply T.eq
 unfold F86
 refine T.bind (P:=fun e=>e = (((tl s).length - (skp false ((tl s).drop a)).length:Nat):Int)) ?_ (fun _ h=>T.some h)
 refine iter_T (fun e=>∃ k:Nat,e = (k:Int)∧k≤(tl s).length∧skp false ((tl s).drop k) = skp false ((tl s).drop a)) (fun e=>((tl s).length - e.toNat)) _ (fun e he=>?_) n a (by omega) ⟨a,rfl,ha,rfl⟩
 obtain ⟨k,rfl,hk,hsk⟩:=he
 obtain ⟨hk2l,hd2⟩:=drop_step wht hk
 have h0:((tl s).drop k).takeWhile wht = [] ↔ (((tl s).drop k).takeWhile wht).length = 0:=List.length_eq_zero_iff.symm
 rw [F135_2_eq hs hn hk]
 simp only [Option.bind_some]
 generalize hk2:k + (((tl s).drop k).takeWhile wht).length = k2 at hk2l hd2
 have es:subS s (k2:Int) (s.size:Int) = some (bs ((tl s).drop k2)):=by
  rw [hz,subS_eq hk2l (Nat.le_refl _),List.take_of_length_le (by rw [List.length_drop]; omega)]
 rw [es]
 simp only [Option.bind_some,F137_eq]
 cases h2:two ((tl s).drop k2)
 ·simp only [cond_false,Option.bind_some]
  cases he:((k2:Int) == (k:Int))
  ·have ne:k2≠k:=by rw [i_eq] at he; simpa using he
   refine T.some ⟨⟨k2,rfl,hk2l,by rw [hd2,← skp_wht,hsk]⟩,?_⟩
   show (tl s).length - k2 < (tl s).length - k
   omega
  ·have eq:k2 = k:=by rw [i_eq] at he; simpa using he
   refine T.some ?_
   have h3:=skp_fix _ (h0.2 (by omega)) (by rw [← eq]; exact h2)
   rw [← hsk,h3,List.length_drop]
   show (k:Int) = _
   omega
 ·simp only [cond_true]
  obtain ⟨hk3l,hd3⟩:=drop_step nol hk2l
  have hpos:1≤(((tl s).drop k2).takeWhile nol).length:=by
   cases hd:(tl s).drop k2 with
   | nil=>rw [hd] at h2; simp [two] at h2
   | cons b r =>
    rw [hd] at h2
    have hb:=two_cons h2
    subst hb
    rw [List.takeWhile_cons,if_pos (by decide)]
    simp
  rw [F135_3_eq hs hn hk2l]
  simp only [Option.bind_some]
  generalize hk3:k2 + (((tl s).drop k2).takeWhile nol).length = k3 at hk3l hd3
  have he:((k3:Int) == (k:Int)) = false:=by rw [i_eq]; simp; omega
  rw [he]
  refine T.some ⟨⟨k3,rfl,hk3l,by rw [hd3,← skp_two _ h2,hd2,← skp_wht,hsk]⟩,?_⟩
  show (tl s).length - k3 < (tl s).length - k
  omega
theorem find_T {S:List ByteArray} {step:Int→Option (Int ⊕ (ByteArray ⊕ Unit))} (p:ByteArray→Bool)
  (h1:∀ (k:Nat) x,S[k]? = some x→T (step (k:Int)) (fun r=>r = if p x = true then .inr (.inl x) else .inl ((k + 1:Nat):Int)))
  (h2:step (S.length:Int) = some (.inr (.inr ()))) (hn:S.length < n) :
  T (iter step n (0:Int)) (fun r=>r = match S.find? p with | some x=>.inl x | none=>.inr ()):=by
 have key:∀ (l:List ByteArray) (k:Nat),runF (A:=Unit) (ρ:=ByteArray ⊕ Unit) (fun _ _ x=>if p x = true then .inr (.inl x) else .inl ()) (fun _=>.inr ()) k l () = match l.find? p with | some x=>.inl x | none=>.inr ():=by
  intro l
  induction l with
  | nil=>intro k; rfl
  | cons x l ih =>
   intro k
   rw [List.find?_cons,runF]
   cases hp:p x
   ·simpa [hp] using ih (k + 1)
   ·simp
 have e:=iter_runF S (fun (k:Nat) (_:Unit)=>(k:Int)) (fun _ _ x=>if p x = true then .inr (.inl x) else .inl ()) (fun _=>.inr ()) (step:=step)
  (fun k a x hx=>by
   rw [T.eq (h1 k x hx)]
   cases p x <;> rfl)
  (fun _=>h2) n () hn
 rw [key] at e
 exact ⟨_,e,rfl⟩
theorem allI_pre {L:List UInt8} {a:Nat}:∀ (t:List UInt8) (k:Nat),allI (fun j c=>L[a + j]? == some c) k t = t.isPrefixOf (L.drop (a + k))
 | [],_=>by simp [allI]
 | c :: t,k=>by
  rw [allI,allI_pre t (k + 1)]
  cases hd:L[a + k]? with
  | none =>
   have:L.drop (a + k) = []:=List.drop_eq_nil_iff.2 (List.getElem?_eq_none_iff.1 hd)
   rw [this]
   rfl
  | some d =>
   rw [get_drop hd,show a + (k + 1) = a + k + 1 by omega]
   show ((some d == some c) && _) = ((c == d) && _)
   congr 1
   rw [Bool.eq_iff_iff]
   simp
   exact eq_comm
theorem symTab_map:symTab.map tl = symL:=by rfl
theorem find_tl {p:List UInt8→Bool}:∀ (S:List ByteArray),(S.find? (fun x=>p (tl x))) = ((S.map tl).find? p).map bs
 | []=>rfl
 | x :: S=>by
  rw [List.find?_cons,List.map_cons,List.find?_cons]
  cases p (tl x)
  ·exact find_tl S
  ·rfl
theorem F142_eq (hs:s.size≤4000) (hn:5000≤n) {a:Nat} (ha:a≤(tl s).length):F142 n s a = some (bs ((symL.find? (fun t=>t.isPrefixOf ((tl s).drop a))).getD [])):=by
 have hz:=size_tl s
 apply T.eq
 unfold F142
 refine T.bind (find_T (S:=symTab) (fun x=>(tl x).isPrefixOf ((tl s).drop a)) (fun k x hx=>?_) ?_ (by simp [symTab]; omega)) fun r hr=>?_
 ·have hk:k < 27:=lt_of_get hx
  have c1:decide ((k:Int) < 27) = true:=by simp; omega
  have hm:=symTab_sz x (List.mem_of_getElem? hx)
  have hxz:=size_tl x
  rw [c1,idxL_some hx,w64_id (x:=(s.size:Int) - (a:Int)) (by omega) (by omega),w64_nat (k:=k) (by omega)]
  simp only [cond_true,Option.bind_some]
  refine T.cond (fun hc=>T.some ?_) (fun hc=>?_)
  ·have hc':(s.size:Int) - (a:Int) < (x.size:Int):=by simpa using hc
   have:(tl x).isPrefixOf ((tl s).drop a) = false:=by
    rw [← pre_take,beq_eq_false_iff_ne]
    intro e
    have:=congrArg List.length e
    rw [List.length_take,List.length_drop] at this
    omega
   simp [this]
  ·have hc':¬ (s.size:Int) - (a:Int) < (x.size:Int):=by simpa using hc
   refine T.bind (T.of_eq (iter_allI (tl x) (fun j c=>(tl s)[a + j]? == some c) (by omega) (fun j c hj=>?_) ?_ (n:=n) (by omega))) fun r hr=>?_
   ·have hjl:=lt_of_get hj
    have c2:decide ((j:Int) < (x.size:Int)) = true:=by simp; omega
    have hlt:a + j < (tl s).length:=by omega
    have hg:=List.getElem?_eq_getElem hlt
    have ew:w64 ((a:Int) + (j:Int)) = ((a + j:Nat):Int):=by rw [w64_id (by omega) (by omega)]; rfl
    rw [c2,ew,idxS_some hg,idxS_some hj,hg]
    simp only [cond_true,Option.bind_some]
    by_cases hcc:(tl s)[a + j] = c
    ·rw [hcc]; simp
    ·have:((((tl s)[a + j]).toNat:Int) != (c.toNat:Int)) = true:=by
      simp only [bne,i_eq,Bool.not_eq_true',beq_eq_false_iff_ne]
      exact fun e=>hcc (UInt8.toNat_inj.1 e)
     rw [this]
     simp [hcc]
   ·have c2:decide (((tl x).length:Int) < (x.size:Int)) = false:=by simp; omega
    rw [c2]
    rfl
   ·rw [hr,allI_pre]
    simp only [Nat.add_zero]
    cases (tl x).isPrefixOf ((tl s).drop a)
    ·exact T.some rfl
    ·exact T.some rfl
 ·have c1:decide (((symTab.length:Nat):Int) < 27) = false:=by simp [symTab]
  rw [c1]
  rfl
 ·rw [hr,find_tl (p:=fun t=>t.isPrefixOf ((tl s).drop a)),symTab_map]
  cases symL.find? (fun t=>t.isPrefixOf ((tl s).drop a)) with
  | none=>exact T.some rfl
  | some t=>exact T.some rfl
theorem F87_eq (hs:s.size≤4000) (hn:5000≤n) {a:Nat} {b:UInt8} {r:List UInt8} (hd:(tl s).drop a = b :: r) :
  F87 n s a = some (match tokL ((tl s).drop a) with | some km=>((km.1:Int),((a + km.2:Nat):Int)) | none=>((0:Int),(a:Int))):=by
 have hz:=size_tl s
 have hb:=get_of_drop hd
 have ha:=lt_of_get hb
 have hw:∀ k:Nat,k≤5000→w64 (((a + k:Nat):Int) - (a:Int)) = (k:Int):=fun k hk=>by
  rw [w64_id (by omega) (by omega)]; omega
 unfold F87
 rw [idxS_some hb]
 simp only [Option.bind_some,F139_eq]
 rw [hd,tokL_cons]
 cases h1:ltr b
 ·simp only [cond_false,F141_eq hb,Option.bind_some]
  cases h2:dgt b
  ·simp only [cond_false,F142_eq hs hn (Nat.le_of_lt ha),hd,Option.bind_some]
   cases hf:symL.find? (fun t=>t.isPrefixOf (b :: r)) with
   | none=>rfl
   | some t =>
    have hm:=symL_ok t (List.mem_of_find?_eq_some hf)
    have hne:strEq (bs t) (bs []) = false:=by
     cases t with
     | nil=>simp at hm
     | cons x y=>rfl
    have ew:w64 ((a:Int) + ((bs t).size:Int)) = ((a + t.length:Nat):Int):=by
     rw [size_bs,w64_id (by omega) (by omega)]; rfl
    simp only [Option.getD_some,hne,Bool.not_false,cond_true,ew,Option.map_some]
    rfl
  ·simp only [cond_true,F135_1_eq hs hn (Nat.le_of_lt ha),Option.bind_some]
   obtain ⟨hkl,hkd⟩:=drop_step dgt (Nat.le_of_lt ha)
   rw [hd] at hkl hkd ⊢
   unfold numOk
   rw [← hkd]
   generalize hk:((b :: r).takeWhile dgt).length = k at hkl hkd ⊢
   have hk1:1≤k:=by rw [← hk,List.takeWhile_cons,if_pos h2]; simp
   rw [hw k (by omega)]
   by_cases h9:9 < k
   ·have c1:decide (9 < (k:Int)) = true:=by simp; omega
    have c2:decide (k≤9) = false:=by simp; omega
    rw [c1,c2]
    rfl
   ·have c1:decide (9 < (k:Int)) = false:=by simp; omega
    have c2:decide (k≤9) = true:=by simp; omega
    rw [c1,c2]
    have e48:((b.toNat:Int) == 48) = (b.toNat == 48):=i_eq _ 48
    have e1:decide (1 < (k:Int)) = !(k == 1):=by rw [Bool.eq_iff_iff]; simp; omega
    simp only [cond_false,Option.bind_some,e48,e1,Bool.true_and]
    have e3:((b.toNat != 48) || (k == 1)) = !((b.toNat == 48) && !(k == 1)):=by
     simp only [bne]; cases b.toNat == 48 <;> cases k == 1 <;> rfl
    rw [e3]
    cases (b.toNat == 48) && !(k == 1)
    ·simp only [cond_false,Bool.not_false,Bool.true_and]
     rw [List.head?_drop]
     by_cases hlt:a + k < (tl s).length
     ·have hg:=List.getElem?_eq_getElem hlt
      have c3:decide (((a + k:Nat):Int) < (s.size:Int)) = true:=by simp; omega
      rw [c3,F140_eq hg,hg]
      simp only [cond_true,Option.bind_some,Option.all_some]
      cases wrd (tl s)[a + k] <;> rfl
     ·have c3:decide (((a + k:Nat):Int) < (s.size:Int)) = false:=by simp; omega
      rw [c3,List.getElem?_eq_none (by omega)]
      rfl
    ·rfl
 ·simp only [cond_true,F135_eq hs hn (Nat.le_of_lt ha),Option.bind_some]
  obtain ⟨hkl,_⟩:=drop_step wrd (Nat.le_of_lt ha)
  rw [hd] at hkl ⊢
  generalize hk:((b :: r).takeWhile wrd).length = k at hkl ⊢
  rw [hw k (by omega)]
  by_cases h16:16 < k
  ·have c1:decide (16 < (k:Int)) = true:=by simp; omega
   have c2:decide (k≤16) = false:=by simp; omega
   rw [c1,c2]
   rfl
  ·have c1:decide (16 < (k:Int)) = false:=by simp; omega
   have c2:decide (k≤16) = true:=by simp; omega
   rw [c1,c2]
   rfl
def outT (acc:List Token):List Token ⊕ (Int × Int)→List Token × Int × Int
 | .inl ts=>(acc ++ ts,0,0)
 | .inr e=>([],e.1,e.2)
def lexR (s:ByteArray):List Token × Int × Int :=
 if 4000 < s.size then ([],2,0) else outT [] (lexG s.size (s.size + 1) 0 (tl s))
theorem out_cons (acc:List Token) (t:Token) (r:List Token ⊕ (Int × Int)):outT acc (consT t r) = outT (acc ++ [t]) r:=by
 cases r with
 | inl ts=>simp [outT,consT]
 | inr e=>rfl
theorem F55_eq (hn:5000≤n):F55 n s = some (lexR s):=by
 have hz:=size_tl s
 apply T.eq
 unfold F55 lexR
 by_cases h4:4000 < s.size
 ·have c:decide ((4000:Int) < (s.size:Int)) = true:=by simp; omega
  rw [c,if_pos h4]
  exact T.some rfl
 have c:decide ((4000:Int) < (s.size:Int)) = false:=by simp; omega
 have hs:s.size≤4000:=by omega
 rw [c,if_neg h4]
 simp only [cond_false]
 refine T.bind (P:=fun r=>r = outT [] (lexG s.size (s.size + 1) 0 (tl s))) ?_ (fun r h=>T.some h)
 refine iter_T (fun st=>∃ (k f:Nat),st.2 = (k:Int)∧k≤(tl s).length∧st.1.length≤1500∧((tl s).drop k).length < f∧outT st.1 (lexG s.size f st.1.length ((tl s).drop k)) = outT [] (lexG s.size (s.size + 1) 0 (tl s))) (fun st=>(tl s).length - st.2.toNat) _ (fun st hst=>?_) n _ (by simp; omega) ⟨0,s.size + 1,rfl,by omega,by simp,by simp; omega,by simp⟩
 obtain ⟨k,f,hk,hkl,h15,hf,hout⟩:=hst
 rw [hk,F86_eq hs hn hkl]
 simp only [Option.bind_some]
 obtain ⟨f,rfl⟩:∃ g,f = g + 1:=⟨f - 1,by omega⟩
 simp only [lexG] at hout
 have hlen:=skp_len false ((tl s).drop k)
 rw [List.length_drop] at hlen
 obtain ⟨p,hp⟩:=skp_suf ((tl s).drop k) false
 have hp1:=congrArg List.length hp
 rw [List.length_append,List.length_drop] at hp1
 have hdr:(tl s).drop ((tl s).length - (skp false ((tl s).drop k)).length) = skp false ((tl s).drop k):=by
  have:(tl s).length - (skp false ((tl s).drop k)).length = k + p.length:=by omega
  rw [this,← List.drop_drop]
  conv=>lhs; rw [hp]
  exact List.drop_left
 cases hsk:skp false ((tl s).drop k) with
 | nil =>
  rw [hsk] at hout
  have c1:((((tl s).length - ([]:List UInt8).length:Nat):Int) == (s.size:Int)) = true:=by simp; omega
  rw [c1]
  simp only [lexS,outT,List.append_nil] at hout
  exact T.some hout
 | cons b r =>
  rw [hsk] at hout hdr hlen
  have hbl:1≤(b :: r).length:=by simp
  generalize hj:(tl s).length - (b :: r).length = j at hdr ⊢
  have hjl:j + (b :: r).length = (tl s).length:=by omega
  have c1:((j:Int) == (s.size:Int)) = false:=by rw [i_eq]; simp; omega
  rw [c1]
  simp only [cond_false]
  have hpos:s.size - (b :: r).length = j:=by omega
  simp only [lexS,hpos] at hout
  by_cases h1500:st.1.length = 1500
  ·have c2:((st.1.length:Int) == 1500) = true:=by simp; omega
   rw [c2]
   rw [if_pos h1500] at hout
   exact T.some hout
  have c2:((st.1.length:Int) == 1500) = false:=by simp; omega
  rw [c2,F87_eq hs hn hdr,hdr]
  rw [if_neg h1500] at hout
  simp only [cond_false,Option.bind_some]
  cases htk:tokL (b :: r) with
  | none =>
   rw [htk] at hout
   exact T.some hout
  | some km =>
   rw [htk] at hout
   have hm:=tokL_spec htk
   simp only at hout ⊢
   have c3:((km.1:Int) == 0) = false:=by simp; omega
   rw [c3,subS_eq (by omega) (by omega),hdr]
   simp only [cond_false,Option.bind_some,appL]
   rw [if_pos (by simp; omega)]
   rw [out_cons] at hout
   refine T.some ⟨⟨j + km.2,f,rfl,by omega,by simp; omega,?_,?_⟩,?_⟩
   ·rw [← List.drop_drop,hdr,List.length_drop]
    rw [List.length_drop] at hf
    omega
   ·rw [← List.drop_drop,hdr]
    have e1:j + km.2 - j = km.2:=by omega
    rw [e1,List.length_append]
    exact hout
   ·show (tl s).length - (((j + km.2:Nat):Int)).toNat < (tl s).length - ((k:Int)).toNat
    simp only [Int.toNat_natCast]
    omega
end Go.Proofs.YtbecjgckobhmpaaGreatDoor
end
section
namespace Go.Proofs.YtbecjgckobhmpaaGreatDoor
open Go Go.AM Go.Proofs
theorem key_sym:∀ t ∈ symL,keyNames.any (t == ·) = false:=by decide
theorem tk_ok {w r:List UInt8} {k:Nat} (h:tokL (w ++ r) = some (k,w.length)):TkOk ((k:Int),bs w):=by
 have hm:=tokL_spec h
 cases w with
 | nil=>simp at hm
 | cons b w =>
  have h':tokL (b :: (w ++ r)) = some (k,(b :: w).length):=h
  rw [tokL_cons] at h'
  cases h1:ltr b
  ·rw [h1,cond_false] at h'
   cases h2:dgt b
   ·rw [h2,cond_false] at h'
    cases h3:symL.find? (fun t=>t.isPrefixOf (b :: (w ++ r))) with
    | none=>rw [h3] at h'; cases h'
    | some t =>
     rw [h3] at h'
     simp only [Option.map_some,Option.some.injEq,Prod.mk.injEq] at h'
     obtain ⟨rfl,hl⟩:=h'
     have hmem:=List.mem_of_find?_eq_some h3
     have hp:=List.find?_some h3
     have ht:t = b :: w:=by
      have hp':t <+: b :: w ++ r:=List.isPrefixOf_iff_prefix.1 hp
      obtain ⟨x,hx⟩:=hp'
      exact (List.append_inj hx hl).1
     subst ht
     have:=symL_ok _ hmem
     exact .inr (.inr ⟨rfl,this.1,this.2.1,key_sym _ hmem⟩)
   ·rw [h2,cond_true] at h'
    cases h3:numOk b (b :: (w ++ r))
    ·rw [h3] at h'; cases h'
    ·rw [h3,cond_true] at h'
     simp only [Option.some.injEq,Prod.mk.injEq] at h'
     obtain ⟨rfl,hl⟩:=h'
     have hl':((b :: w ++ r).takeWhile dgt).length = (b :: w).length:=hl
     have e:=(tw_pre (p:=dgt) (b :: w) r [] hl' (by simp)).1
     rw [List.append_nil] at e
     have e0:(b :: (w ++ r)).takeWhile dgt = b :: w:=by
      have:=take_tw dgt (b :: w ++ r)
      rw [hl',List.take_left] at this
      exact this.symm
     unfold numOk at h3
     rw [e0] at h3
     simp only [Bool.and_eq_true,decide_eq_true_eq,Bool.or_eq_true,bne_iff_ne,beq_iff_eq] at h3
     refine .inr (.inl ⟨rfl,by simp [tl_bs],h3.1,fun c hc=>?_,?_⟩)
     ·rw [tl_bs,← e] at hc
      have:=mem_tw hc
      simpa [dgt] using this
     ·rw [tl_bs]
      rcases h3.2.1 with h4 | h4
      ·right
       simp only [List.head?_cons,ne_eq,Option.some.injEq]
       intro e; apply h4; rw [e]; rfl
      ·left; exact h4
  ·rw [h1,cond_true] at h'
   cases h3:decide (((b :: (w ++ r)).takeWhile wrd).length≤16)
   ·rw [h3] at h'; cases h'
   ·rw [h3,cond_true] at h'
    simp only [Option.some.injEq,Prod.mk.injEq] at h'
    obtain ⟨rfl,hl⟩:=h'
    have hl':((b :: w ++ r).takeWhile wrd).length = (b :: w).length:=hl
    have e:=(tw_pre (p:=wrd) (b :: w) r [] hl' (by simp)).1
    rw [List.append_nil] at e
    refine .inl ⟨rfl,?_,by simp [tl_bs],?_⟩
    ·rw [tl_bs]
     simp only [nameCs,Bool.and_eq_true,List.all_eq_true]
     refine ⟨?_,fun c hc=>?_⟩
     ·simp only [ltr,isLetI,Bool.or_eq_true,Bool.and_eq_true,decide_eq_true_eq] at h1 ⊢
      omega
     ·have:c ∈ b :: w:=List.mem_cons_of_mem _ hc
      rw [← e] at this
      have:=mem_tw this
      simp only [wrd,ltr,dgt,isWordI,isLetI,isDigI,Bool.or_eq_true,Bool.and_eq_true,decide_eq_true_eq,beq_iff_eq] at this ⊢
      omega
    ·rw [hl] at h3
     rw [tl_bs]
     exact of_decide_eq_true h3
theorem Lx.oks {N:Nat} {l:List UInt8} {ts:List Token} (h:Lx N l ts):TksOk ts:=by
 induction h with
 | nil hs=>intro t ht; cases ht
 | cons hs ht _ ih =>
  intro t hm
  rcases List.mem_cons.1 hm with rfl | hm
  ·exact tk_ok ht
  ·exact ih t hm
structure Lexed (s:ByteArray) (ts:List Token):Prop where
 len:s.size≤4000
 lx:Lx s.size (tl s) ts
 cnt:ts.length≤1500
theorem lexR_ok {s:ByteArray} {ts:List Token} (h:Lexed s ts):lexR s = (ts,0,0):=by
 unfold lexR
 rw [if_neg (by have:=h.len; omega),Lx_lexG h.lx (by rw [← size_tl]; omega) (by have:=h.cnt; omega)]
 rfl
theorem lexG_bad {N:Nat}:∀ {f c:Nat} {l:List UInt8} {e:Int × Int},lexG N f c l = .inr e→l.length≤N→(e.1 = 2∨e.1 = 10)∧0≤e.2∧e.2≤(N:Int)
 | 0,_,_,_,h,_=>by cases h
 | f + 1,c,l,e,h,hN=>by
  simp only [lexG] at h
  have hk:=skp_len false l
  cases hs:skp false l with
  | nil=>rw [hs] at h; cases h
  | cons b r =>
   rw [hs] at h hk
   simp only [lexS] at h
   by_cases hc:c = 1500
   ·rw [if_pos hc] at h; cases h; exact ⟨.inl rfl,by simp only; omega,by simp only; omega⟩
   ·rw [if_neg hc] at h
    cases ht:tokL (b :: r) with
    | none=>rw [ht] at h; cases h; exact ⟨.inr rfl,by simp only; omega,by simp only; omega⟩
    | some km =>
     rw [ht] at h
     simp only at h
     cases hg:lexG N f (c + 1) ((b :: r).drop km.2) with
     | inl e=>rw [hg] at h; cases h
     | inr e' =>
      rw [hg] at h
      cases h
      exact lexG_bad hg (by rw [List.length_drop]; omega)
theorem lexR_cases (s:ByteArray):(∃ ts,Lexed s ts∧lexR s = (ts,0,0))∨(∃ e p,lexR s = ([],e,p)∧(e = 2∨e = 10)∧0≤p∧p≤(s.size:Int)):=by
 unfold lexR
 by_cases h:4000 < s.size
 ·rw [if_pos h]
  exact .inr ⟨2,0,rfl,.inl rfl,by omega,by omega⟩
 ·rw [if_neg h]
  cases hg:lexG s.size (s.size + 1) 0 (tl s) with
  | inl ts =>
   obtain ⟨h1,h2⟩:=lexG_Lx (by rw [← size_tl]; omega) hg (by omega)
   exact .inl ⟨ts,⟨by omega,h1,by omega⟩,rfl⟩
  | inr e =>
   have:=lexG_bad hg (by rw [← size_tl]; omega)
   exact .inr ⟨e.1,e.2,rfl,this⟩
structure Read (n:Nat) (ts:List Token) (fin:Int) (l:List Node) (p:List (Int × Int)):Prop where
 run:∃ i,(M.source n).run fin ⟨ts,0,[]⟩ = .ok l ⟨[],i,p⟩
 ok:∀ y ∈ l,okT y = true∧isItm y.kind = true
 sz:szs l≤ts.length
theorem Read.eq {n:Nat} {ts:List Token} {fin:Int} {l l':List Node} {p p':List (Int × Int)} (h:Read n ts fin l p) (h':Read n ts fin l' p'):l = l'∧p = p':=by
 obtain ⟨i,h1⟩:=h.run
 obtain ⟨j,h2⟩:=h'.run
 rw [h1] at h2
 cases h2
 exact ⟨rfl,rfl⟩
end Go.Proofs.YtbecjgckobhmpaaGreatDoor
end
section
namespace Go.Proofs.YtbecjgckobhmpaaGreatDoor
open Go Go.AM Go.Proofs
theorem skp_blank {b:UInt8} (hb:b≠47) {r:Bytes}:∀ (g:Bytes) (c:Bool),skp c (g ++ b :: r) = b :: r→skp c (g ++ 32 :: r) = skp false r
 | [],false,_=>by
  have h:wht 32 = true:=by decide
  simp [skp,h]
 | [],true,h=>by
  exfalso
  rw [List.nil_append,skp] at h
  have h1:=skp_len true r
  have h2:=skp_len false r
  have h3:=congrArg List.length h
  split at h3 <;> simp only [List.length_cons] at h3 <;> omega
 | a :: g,true,h=>by
  rw [List.cons_append,skp] at h ⊢
  split
  ·rename_i hn
   rw [if_pos hn] at h
   exact skp_blank hb g true h
  ·rename_i hn
   rw [if_neg hn] at h
   exact skp_blank hb g false h
 | a :: g,false,h=>by
  have htwo:two (a :: (g ++ 32 :: r)) = two (a :: (g ++ b :: r)):=by
   cases g with
   | nil =>
    simp only [two,List.nil_append,List.isPrefixOf]
    have e1:((47:UInt8) == b) = false:=by simpa using fun h:(47:UInt8) = b=>hb h.symm
    have e2:((47:UInt8) == 32) = false:=by decide
    simp [e1,e2]
   | cons c g=>simp [two,List.isPrefixOf]
  rw [List.cons_append,skp] at h ⊢
  rw [htwo]
  split
  ·rename_i hn
   rw [if_pos hn] at h
   exact skp_blank hb g false h
  ·rename_i hn
   rw [if_neg hn] at h
   split
   ·rename_i hn2
    rw [if_pos hn2] at h
    exact skp_blank hb g true h
   ·rename_i hn2
    rw [if_neg hn2] at h
    exfalso
    have:=congrArg List.length h
    simp at this
    omega
theorem Lx.same {N:Nat} {l l':Bytes} {ts:List Token} (h:Lx N l ts) (e:skp false l' = skp false l):Lx N l' ts:=by
 cases h with
 | nil hs=>exact .nil (e.trans hs)
 | cons hs ht hr=>exact .cons (e.trans hs) ht hr
theorem Lx.blank {N:Nat} {t:Token} {vs:List Token} {b:UInt8} (hb:b≠47) (ht:tl t.text = [b]):∀ {us:List Token} {l:Bytes},Lx N l (us ++ t :: vs) →
  ∃ p q,l = p ++ b :: q∧t.pos = ((N - (b :: q).length:Nat):Int)∧Lx N (p ++ 32 :: q) (us ++ vs)
 | [],l,h=>by
  cases h with
  | @cons _ w r k _ hs htk hr =>
   rw [tl_bs] at ht
   subst ht
   obtain ⟨g,hg⟩:=skp_suf l false
   rw [hs] at hg
   refine ⟨g,r,hg,rfl,hr.same (skp_blank hb g false ?_)⟩
   have hs':=hs
   rw [hg] at hs'
   exact hs'
 | u :: us,l,h=>by
  cases h with
  | @cons _ w r k _ hs htk hr =>
   obtain ⟨p,q,rfl,h2,h3⟩:=Lx.blank hb ht hr
   obtain ⟨g,hg⟩:=skp_suf l false
   rw [hs] at hg
   refine ⟨g ++ (w ++ p),q,by rw [hg]; simp,h2,?_⟩
   have ht':=tokL_fol (r':=p ++ 32 :: q) htk (.inr (.inr ⟨p,32,q,List.prefix_append _ _,rfl,by decide⟩))
   have hs':skp false (g ++ (w ++ (p ++ 32 :: q))) = w ++ (p ++ 32 :: q):=skp_to (tokL_wht htk) (by
    obtain ⟨c,y,e,hc⟩:=tokL_wht ht'
    refine ⟨c,y,e,hc,?_⟩
    have hw:=tokL_spec htk
    cases w with
    | nil=>simp at hw
    | cons d w =>
     simp only [List.cons_append,List.cons.injEq] at e
     rw [← e.1]
     exact skp_wfix hs rfl) g false (by rw [← hg]; exact hs)
   have:=Lx.cons (N:=N) (l:=g ++ (w ++ (p ++ 32 :: q))) (w:=w) (r:=p ++ 32 :: q) (k:=k) hs' ht' h3
   have e:N - (w ++ (p ++ 32 :: q)).length = N - (w ++ (p ++ b :: q)).length:=by
    simp only [List.length_append,List.length_cons]
   rw [e] at this
   simpa using this
theorem split_at {α:Type} {l:List α} {k:Nat} {x:α} (h:l[k]? = some x):∃ a b,l = a ++ x :: b∧a.length = k:=by
 obtain ⟨hk,rfl⟩:=List.getElem?_eq_some_iff.1 h
 refine ⟨l.take k,l.drop (k + 1),?_,by rw [List.length_take]; omega⟩
 rw [← List.drop_eq_getElem_cons hk,List.take_append_drop]
theorem unpair {s:ByteArray} {ts:List Token} (h:Lexed s ts) {i k:Nat} {t u:Token} (hi:ts[i]? = some t) (hk:ts[k]? = some u) (hik:i < k) (h1:tl t.text = [40]) (h2:tl u.text = [41]) :
  ∃ p m q us,tl s = p ++ 40 :: (m ++ 41 :: q)∧t.pos = (p.length:Int)∧u.pos = ((p.length + 1 + m.length:Nat):Int)∧us.length + 2 = ts.length∧Lexed (bs (p ++ 32 :: (m ++ 32 :: q))) us:=by
 obtain ⟨A,vs,rfl,hA⟩:=split_at hk
 have hi':A[i]? = some t:=by rwa [List.getElem?_append_left (by omega)] at hi
 obtain ⟨us,ms,rfl,hus⟩:=split_at hi'
 obtain ⟨hlen,hlx,hcnt⟩:=h
 have hord:=(hlx.le (by rw [size_tl]; exact Nat.le_refl _)).1
 have hlt:t.pos + 1≤u.pos:=by
  have e:us ++ t :: ms ++ u :: vs = us ++ (t :: (ms ++ u :: vs)):=by simp
  rw [e,List.pairwise_append] at hord
  exact (List.pairwise_cons.1 hord.2.1).1 u (by simp)
 obtain ⟨p2,q2,e2,e3,hlx2⟩:=hlx.blank (by decide) h2
 have e4:us ++ t :: ms ++ vs = us ++ (t :: (ms ++ vs)):=by simp
 rw [e4] at hlx2
 obtain ⟨p1,q1,e5,e6,hlx1⟩:=hlx2.blank (by decide) h1
 have l2:s.size = p2.length + (q2.length + 1):=by rw [size_tl,e2]; simp
 have l1:p2.length + (q2.length + 1) = p1.length + (q1.length + 1):=by
  have:=congrArg List.length e5
  simpa using this
 rw [List.length_cons] at e3 e6
 have hp:p1.length < p2.length:=by omega
 rcases List.append_eq_append_iff.1 e5 with ⟨a',ha1,ha2⟩ | ⟨c',hc1,hc2⟩
 ·exfalso
  have:=congrArg List.length ha1
  rw [List.length_append] at this
  omega
 ·cases c' with
  | nil =>
   exfalso
   have:=congrArg List.length hc1
   simp at this
   omega
  | cons c m =>
   rw [List.cons_append,List.cons.injEq] at hc2
   obtain ⟨rfl,rfl⟩:=hc2
   subst hc1
   refine ⟨p1,m,q2,us ++ (ms ++ vs),by rw [e2]; simp,?_,?_,by simp; omega,?_⟩
   ·rw [e6]
    congr 1
    omega
   ·rw [e3]
    congr 1
    simp only [List.length_append,List.length_cons] at l2 ⊢
    omega
   ·have hsz:(bs (p1 ++ 32 :: (m ++ 32 :: q2))).size = s.size:=by
     rw [size_bs,l2]
     simp
     omega
    refine ⟨by rw [hsz]; exact hlen,by rw [hsz,tl_bs]; exact hlx1,?_⟩
    simp only [List.length_append,List.length_cons] at hcnt ⊢
    omega
def vT (w:Bytes):Int:=if w = [40] then 1 else if w = [41] then -1 else 0
def tot:List Bytes→Int
 | []=>0
 | w :: r=>vT w + tot r
theorem tot_app:∀ a b:List Bytes,tot (a ++ b) = tot a + tot b
 | [],b=>by simp [tot]
 | w :: a,b=>by simp only [List.cons_append,tot,tot_app a b]; omega
structure Bal (l:List Bytes):Prop where
 s:tot l = 0
 d:∀ k,tot (l.drop k)≤0
theorem Bal.nil:Bal []:=⟨rfl,fun k=>by simp [tot]⟩
theorem Bal.app {a b:List Bytes} (h1:Bal a) (h2:Bal b):Bal (a ++ b):=by
 refine ⟨by rw [tot_app,h1.s,h2.s]; rfl,fun k=>?_⟩
 rw [List.drop_append,tot_app]
 have:=h1.d k
 have:=h2.d (k - a.length)
 omega
theorem Bal.cons {w:Bytes} {l:List Bytes} (hw:vT w = 0) (h:Bal l):Bal (w :: l):=by
 refine ⟨by rw [tot,hw,h.s]; rfl,fun k=>?_⟩
 cases k with
 | zero=>rw [List.drop_zero,tot,hw,h.s]; omega
 | succ k=>exact h.d k
theorem Bal.par {l:List Bytes} (h:Bal l):Bal ([40] :: (l ++ [[41]])):=by
 have e0:vT [40] = 1:=rfl
 have e1:tot [[41]] = -1:=rfl
 refine ⟨by rw [tot,tot_app,h.s,e0,e1]; rfl,fun k=>?_⟩
 cases k with
 | zero=>rw [List.drop_zero,tot,tot_app,h.s,e0,e1]; omega
 | succ k =>
  rw [List.drop_succ_cons,List.drop_append,tot_app]
  have:=h.d k
  cases k - l.length with
  | zero=>rw [List.drop_zero,e1]; omega
  | succ j=>simp only [List.drop_succ_cons,List.drop_nil,tot]; omega
def wt (l:List Tk):List Bytes:=l.map (·.2)
theorem wt_app (a b:List Tk):wt (a ++ b) = wt a ++ wt b:=List.map_append ..
theorem wt_cons (t:Tk) (b:List Tk):wt (t :: b) = t.2 :: wt b:=rfl
theorem v_name {w:Bytes} (h:nameB w = true):vT w = 0:=by
 have hc:nameCs w = true:=by
  simp only [nameB,Bool.and_eq_true] at h
  exact h.2
 unfold vT
 rw [if_neg (by rintro rfl; exact absurd hc (by decide)),if_neg (by rintro rfl; exact absurd hc (by decide))]
theorem v_num (n:Int):vT (numL n) = 0:=by
 have h:=digs_all 20 n.toNat
 unfold vT
 rw [if_neg (fun e=>?_),if_neg (fun e=>?_)]
 ·have:=h 41 (by rw [show digs 20 n.toNat = numL n from rfl,e]; simp)
  exact absurd this (by decide)
 ·have:=h 40 (by rw [show digs 20 n.toNat = numL n from rfl,e]; simp)
  exact absurd this (by decide)
theorem v_op {s:ByteArray} (h:levelI s≠0):vT (tl s) = 0:=by
 have hc:=level_cases h
 generalize tl s = w at hc
 simp only [List.mem_cons,List.not_mem_nil,or_false] at hc
 rcases hc with rfl | rfl | rfl | rfl | rfl | rfl | rfl | rfl | rfl | rfl | rfl | rfl | rfl <;> rfl
theorem bal_path:∀ (k:Nat) (s:Bytes),pathN k s = true→Bal (wt (pathT k s))
 | 0,s,h=>by simp [pathN] at h
 | k + 1,s,h=>by
  simp only [pathN,Bool.and_eq_true] at h
  simp only [pathT]
  cases hc:(cutB s).2 with
  | none=>exact .cons (v_name h.1) .nil
  | some r =>
   have h2:=h.2
   rw [hc] at h2
   exact .cons (v_name h.1) (.cons rfl (bal_path k r h2))
theorem bal_opT {x:Node} (h:Bal (wt (tkx x))) (r:Int):Bal (wt (opT (levI x,tkx x) r)):=by
 unfold opT
 cases decide (levI x < r)
 ·exact h
 ·simp only [cond_true,wt_cons,wt_app]
  exact h.par
theorem bal_tkx:∀ x,okE x→Bal (wt (tkx x)):=by
 refine okE_ind ?_ ?_ ?_ ?_ ?_ ?_ ?_ ?_
 ·intro x h _ _
  rw [tkx_eq,h]
  exact .cons (v_num _) .nil
 ·intro x h hk hp
  rw [tkx_eq,h,hk]
  exact bal_path 3 _ hp
 ·intro x a h hk hp _ ih
  rw [tkx_eq,h,hk]
  show Bal (wt (pathT 3 (tl x.name) ++ ((3,[91]) :: (opT (levI a,tkx a) 0 ++ [(3,[93])]))))
  rw [wt_app,wt_cons,wt_app]
  exact (bal_path 3 _ hp).app (.cons rfl ((bal_opT ih 0).app (.cons rfl .nil)))
 ·intro x a h hk _ ih
  rw [tkx_eq,h,hk]
  show Bal (wt ((1,[111,108,100]) :: (3,[40]) :: (opT (levI a,tkx a) 0 ++ [(3,[41])])))
  rw [wt_cons,wt_cons,wt_app]
  exact .cons rfl (bal_opT ih 0).par
 ·intro x a h hk _ ih
  rw [tkx_eq,h,hk]
  show Bal (wt ((3,[33]) :: opT (levI a,tkx a) 11))
  exact .cons rfl (bal_opT ih 11)
 ·intro x a b h hk hl _ iha _ ihb
  rw [tkx_eq,h,hk]
  show Bal (wt (opT (levI a,tkx a) (ruleI x.name).2.2.1 ++ ((3,tl x.name) :: opT (levI b,tkx b) (ruleI x.name).2.2.2)))
  rw [wt_app,wt_cons]
  exact (bal_opT iha _).app (.cons (v_op hl) (bal_opT ihb _))
 ·intro x a b c h hk _ iha _ ihb _ ihc
  rw [tkx_eq,h,hk]
  show Bal (wt (opT (levI a,tkx a) 2 ++ ((3,[63]) :: (opT (levI b,tkx b) 1 ++ ((3,[58]) :: opT (levI c,tkx c) 1)))))
  rw [wt_app,wt_cons,wt_app,wt_cons]
  exact (bal_opT iha _).app (.cons rfl ((bal_opT ihb _).app (.cons rfl (bal_opT ihc _))))
 ·intro x a h hk hn _ _ ih
  rw [tkx_eq,hk]
  rcases h with h | h <;> rw [h]
  ·show Bal (wt ((1,[97,108,108]) :: (1,tl x.name) :: (3,[60]) :: (2,numL x.n) :: (3,[58]) :: opT (levI a,tkx a) 0))
   exact .cons rfl (.cons (v_name hn) (.cons rfl (.cons (v_num _) (.cons rfl (bal_opT ih 0)))))
  ·show Bal (wt ((1,[115,111,109,101]) :: (1,tl x.name) :: (3,[60]) :: (2,numL x.n) :: (3,[58]) :: opT (levI a,tkx a) 0))
   exact .cons rfl (.cons (v_name hn) (.cons rfl (.cons (v_num _) (.cons rfl (bal_opT ih 0)))))
end Go.Proofs.YtbecjgckobhmpaaGreatDoor
end
section
namespace Go.Proofs.YtbecjgckobhmpaaGreatDoor
open Go Go.AM Go.Proofs
def zeroN:Node:=Node.mk 0 (bs []) (bs []) 0 0 0 false [] 0
def endX (fin:Int):Out Node→Node × List Diag
 | .ok e _=>if smallP e then (e,[]) else (zeroN,[⟨2,0⟩])
 | .bad b s=>(zeroN,[⟨codeOf b s.rest,posOf fin s.rest⟩])
 | .out=>(zeroN,[])
theorem whole_some {n:Nat} (hn:9000≤n) {ts:List Token} (hc:ts.length≤1500) (fin:Int):(M.whole n).run fin ⟨ts,0,[]⟩≠.out:=by
 refine M.tot_bind (L:=1501) (M.tot_expr (by omega)) (fun e=>M.tot_look fun t=>M.tot_cond (M.tot_fail _) (M.tot_ret _)) fin ⟨ts,0,[]⟩ ?_
 simp only
 omega
theorem F29_ok {n:Nat} (h1:9000≤n) {s:ByteArray} {ts:List Token} (hs:Lexed s ts):F29 n s = some (endX s.size ((M.whole n).run s.size ⟨ts,0,[]⟩)):=by
 unfold F29
 rw [F55_eq (by omega),lexR_ok hs]
 simp only [Option.bind_some]
 have hm:(RS.mk ts 0 (s.size:Int) 0 []) = mkS ts s.size ⟨ts,0,[]⟩:=by simp [mkS,addDs]
 have hsim:=sim_whole n ts s.size ⟨ts,0,[]⟩ hs.cnt hs.lx.oks (List.suffix_refl _)
 have ht:=whole_some h1 hs.cnt s.size
 have e:((0:Int) != 0) = false:=rfl
 rw [e,hm,hsim]
 cases hr:(M.whole n).run s.size ⟨ts,0,[]⟩ with
 | ok x s' =>
  obtain ⟨d,hd,hq⟩:=M.post_whole n s.size ⟨ts,0,[]⟩ x s' hs.lx.oks hr
  have hsz:sz x≤1500:=by
   have:=hq.2
   have:=hs.cnt
   simp only at hd
   omega
  simp only [cond_false,toO,guardF,Option.bind_some,endX]
  rw [G59 x (by omega) (by omega)]
  by_cases hsm:smallP x
  ·rw [decide_eq_true hsm,if_pos hsm]; rfl
  ·rw [decide_eq_false hsm,if_neg hsm]; rfl
 | bad b s' =>
  have hne:(codeOf b s'.rest != 0) = true:=by
   have:=code_ne b s'.rest
   simp only [bne,this,Bool.not_false]
  simp only [cond_false,toO,guardF,Option.bind_some,endX,hne,cond_true]
  rfl
 | out=>exact absurd hr ht
theorem G28 {b:Nat} (hb:b≤9223372036854775807) (x:Node) (hlim:Lim b x) (hs:sz x≤5000) {n:Nat} (hn:20000≤n):F28 n x = some ((x.kind == 62 || isE x.kind) && (decide (smallP x) && okT x)):=by
 unfold F28
 rw [G59 x (by omega) (by omega),F62_eq,F64_eq hb (sz x) x (Nat.le_refl _) hlim n (by omega)]
 simp only [Option.bind_some]
 by_cases h:x.kind = 62
 ·have e:(x.kind != 62) = false:=by simp [h]
  have e2:(x.kind == 62) = true:=by simp [h]
  rw [e,e2]
  cases decide (smallP x) <;> rfl
 ·have e:(x.kind != 62) = true:=by simpa using h
  have e2:(x.kind == 62) = false:=nbeq h
  rw [e,e2]
  cases isE x.kind <;> cases decide (smallP x) <;> rfl
theorem nmLen {s:List UInt8} (h:nameB s = true):s.length≤16:=by
 simp only [nameB,Bool.and_eq_true,decide_eq_true_eq] at h
 exact h.1.1.2
theorem ptLen:∀ (k:Nat) (s:List UInt8),pathN k s = true→s.length≤17 * k
 | 0,s,h=>by simp [pathN] at h
 | k + 1,s,h=>by
  rw [pathN,Bool.and_eq_true] at h
  have h1:=nmLen h.1
  have hspec:=cutB_spec s
  cases hc:(cutB s).2 with
  | none =>
   rw [(hspec.1 hc).1] at h1
   omega
  | some r =>
   have h2:=h.2
   rw [hc] at h2
   have:=ptLen k r h2
   have e:=congrArg List.length (hspec.2 r hc).1
   simp only [List.length_append,List.length_cons] at e
   omega
theorem lvLen {x:ByteArray} (h:levelI x≠0):(tl x).length≤3:=by
 have hs:∀ l:List UInt8,strEq x (bs l) = true→(tl x).length = l.length:=by
  intro l hl
  rw [strEq_iff.1 hl]
  rfl
 unfold levelI at h
 simp only [cond_eq_ite] at h
 repeat' split at h
 all_goals (rename_i hh; first | (simp only [Bool.or_eq_true] at hh; rcases hh with hh | hh | hh | hh <;> (have:=hs _ hh; simp at this; omega)) | (simp only [Bool.or_eq_true] at hh; rcases hh with hh | hh <;> (have:=hs _ hh; simp at this; omega)) | (have:=hs _ hh; simp at this; omega) | exact absurd rfl h)
theorem fields_len {x:Node} (h:fieldsB x = true):(tl x.name).length≤60∧(tl x.other).length≤60:=by
 simp only [fieldsB,Bool.and_eq_true] at h
 obtain ⟨hg,hn,ho,_⟩:=h
 have he:∀ y:ByteArray,strEq y (bs []) = true→(tl y).length≤60:=by
  intro y hy
  rw [strEq_iff.1 hy]
  simp [tl_bs]
 have hN:∀ y:ByteArray,nameB (tl y) = true→(tl y).length≤60:=fun y hy=>by have:=nmLen hy; omega
 have hP:∀ y:ByteArray,pathB (tl y) = true→(tl y).length≤60:=fun y hy=>by have:=ptLen 3 _ hy; omega
 constructor
 ·rcases Bool.or_eq_true_iff.1 hn with hn | hn
  ·simp only [hasName,Bool.or_eq_true,beq_iff_eq] at hn
   rcases hn with (((((((((((((((((h|h)|h)|h)|h)|h)|h)|h)|h)|h)|h)|h)|h)|h)|h)|h)|h)|h)
   all_goals simp [fldGood,h] at hg
   all_goals first | exact hP _ hg | exact hN _ hg | exact hN _ hg.1 | (have:=lvLen hg; omega)
  ·exact he _ hn
 ·rcases Bool.or_eq_true_iff.1 ho with ho | ho
  ·simp only [hasOther,Bool.or_eq_true,beq_iff_eq] at ho
   rcases ho with (((h|h)|h)|h)
   ·simp [fldGood,h] at hg
    rcases hg.2.2.2.2 with h2 | h2
    ·exact he _ h2
    ·exact hN _ h2.2
   ·simp [fldGood,h] at hg
    rcases hg.2 with h2 | h2
    ·exact he _ h2
    ·exact hN _ h2
   ·simp [fldGood,h] at hg
    exact hN _ hg.2
   ·simp [fldGood,h] at hg
    exact hP _ hg.2.1
  ·exact he _ ho
theorem lim_of:∀ (m:Nat) (x:Node),sz x≤m→sz x≤100000→okT x = true→Lim 100000 x:=by
 intro m
 induction m with
 | zero=>intro x hx; have:=sz_pos x; omega
 | succ m ih =>
  intro x hx hx2 h
  obtain ⟨hf,_,hk⟩:=okT_parts h
  have hl:=fields_len hf
  have hsz:=sz_eq x
  have hlen:=szs_len x.kids
  refine .mk x (by omega) (by omega) (by omega) fun y hy=>?_
  have:=szs_mem x.kids y hy
  exact ih y (by omega) (by omega) (hk y hy)
theorem F28_okT {x:Node} (h:okT x = true) (hk:(x.kind == 62 || isE x.kind) = true) (hs:sz x≤5000) {n:Nat} (hn:20000≤n):F28 n x = some (decide (smallP x)):=by
 rw [G28 (b:=100000) (by omega) x (lim_of _ x (Nat.le_refl _) (by omega) h) hs hn,hk,h,Bool.true_and,Bool.and_true]
def Inc (fin:Int) (l:List Token):Prop:=l.Pairwise (fun a b=>a.pos≤b.pos)∧∀ t ∈ l,t.pos≤fin
theorem Inc.tail {fin:Int} {t:Token} {l:List Token} (h:Inc fin (t :: l)):Inc fin l∧t.pos≤posOf fin l:=by
 obtain ⟨h1,h2⟩:=h
 rw [List.pairwise_cons] at h1
 refine ⟨⟨h1.2,fun x hx=>h2 x (List.mem_cons_of_mem _ hx)⟩,?_⟩
 cases l with
 | nil=>exact h2 t (List.mem_cons_self ..)
 | cons x l=>exact h1.1 x (List.mem_cons_self ..)
theorem Inc.le {fin:Int} {l:List Token} (h:Inc fin l):posOf fin l≤fin:=by
 cases l with
 | nil=>exact Int.le_refl _
 | cons x l=>exact h.2 x (List.mem_cons_self ..)
def RepOk (lo fin:Int) (l:List (Int × Int)):Prop:=l.Pairwise (fun a b=>a.2≤b.2)∧∀ r ∈ l,r.1≠0∧lo≤r.2∧r.2≤fin
theorem M.rep_ok {α:Type} (fin:Int):∀ (m:M α) (s:PS),Inc fin s.rest→M.Ends (m.run fin s) fun s'=>∃ l,s'.reps = s.reps ++ l∧RepOk (posOf fin s.rest) fin l
 | .ret a,s,_=>⟨[],by simp,by simp [RepOk]⟩
 | .fail b,s,_=>⟨[],by simp,by simp [RepOk]⟩
 | .out,s,_=>trivial
 | .look k,s,h=>rep_ok fin (k (hdOf s.rest)) s h
 | .adv k,s,h=>by
  obtain ⟨r,i,p⟩:=s
  cases r with
  | nil=>trivial
  | cons t r =>
   have ht:=Inc.tail h
   refine (rep_ok fin k ⟨r,i,p⟩ ht.1).mono fun s' ⟨l,h1,h2⟩=>⟨l,h1,h2.1,fun x hx=>?_⟩
   have:=h2.2 x hx
   have h3:=ht.2
   simp only [posOf] at this ⊢
   exact ⟨this.1,Int.le_trans h3 this.2.1,this.2.2⟩
 | .pos k,s,h=>rep_ok fin (k (posOf fin s.rest)) s h
 | .setI i k,s,h=>rep_ok fin k ⟨s.rest,i,s.reps⟩ h
 | .getI k,s,h=>rep_ok fin (k s.inner) s h
 | .rep b k,s,h=>(rep_ok fin k ⟨s.rest,s.inner,s.reps ++ [(codeOf b s.rest,posOf fin s.rest)]⟩ h).mono fun s' ⟨l,h1,h2⟩=>by
   refine ⟨(codeOf b s.rest,posOf fin s.rest) :: l,by rw [h1]; simp,List.pairwise_cons.2 ⟨fun x hx=>(h2.2 x hx).2.1,h2.1⟩,fun x hx=>?_⟩
   rcases List.mem_cons.1 hx with rfl | hx
   ·exact ⟨by have:=code_ne b s.rest; simpa using this,Int.le_refl _,h.le⟩
   ·exact h2.2 x hx
theorem addD_cases (d:List Diag) (r:Int × Int):addD d r = d∨(addD d r = d ++ [⟨r.1,r.2⟩]∧d.length < 20∧∀ y,d.getLast? = some y→y.pos≠r.2):=by
 unfold addD
 cases h20:decide (20≤(d.length:Int))
 ·have h20':¬ 20≤(d.length:Int):=of_decide_eq_false h20
  simp only [cond_false]
  cases hl:d.getLast? with
  | none=>exact .inr ⟨rfl,by omega,by simp⟩
  | some y =>
   cases hy:y.pos == r.2
   ·exact .inr ⟨by simp [hy],by omega,fun z hz=>by simp only [Option.some.injEq] at hz; subst hz; simpa using hy⟩
   ·exact .inl (by simp [hy])
 ·exact .inl rfl
theorem addDs_ok {lo fin:Int}:∀ (l:List (Int × Int)) (d:List Diag),RepOk lo fin l→d.length≤20→d.Pairwise (fun a b=>a.pos < b.pos)→(∀ x ∈ d,(x.err≠0∧lo≤x.pos∧x.pos≤fin)∧∀ r ∈ l,x.pos≤r.2) →
  (addDs d l).length≤20∧(addDs d l).Pairwise (fun a b=>a.pos < b.pos)∧∀ x ∈ addDs d l,x.err≠0∧lo≤x.pos∧x.pos≤fin
 | [],d,_,h1,h2,h3=>⟨h1,h2,fun x hx=>(h3 x hx).1⟩
 | r :: l,d,hr,h1,h2,h3=>by
  have hr1:=List.pairwise_cons.1 hr.1
  have hr':RepOk lo fin l:=⟨hr1.2,fun x hx=>hr.2 x (List.mem_cons_of_mem _ hx)⟩
  have hsame:(addDs d l).length≤20∧(addDs d l).Pairwise (fun a b=>a.pos < b.pos)∧∀ x ∈ addDs d l,x.err≠0∧lo≤x.pos∧x.pos≤fin :=
   addDs_ok l d hr' h1 h2 fun x hx=>⟨(h3 x hx).1,fun r hr=>(h3 x hx).2 r (List.mem_cons_of_mem _ hr)⟩
  have e:addDs d (r :: l) = addDs (addD d r) l:=rfl
  rw [e]
  rcases addD_cases d r with h | ⟨h,h20,hy⟩
  ·rw [h]
   exact hsame
  ·rw [h]
   have hlt:∀ x ∈ d,x.pos < r.2:=by
    intro x hx
    cases hl:d.getLast? with
    | none =>
     rw [List.getLast?_eq_none_iff] at hl
     rw [hl] at hx
     cases hx
    | some y =>
     have hy':=hy y hl
     have h5:=(h3 y (List.mem_of_getLast? hl)).2 r (List.mem_cons_self ..)
     obtain ⟨d',rfl⟩:∃ d',d = d' ++ [y]:=List.getLast?_eq_some_iff.1 hl
     rcases List.mem_append.1 hx with hx | hx
     ·have:=(List.pairwise_append.1 h2).2.2 x hx y (by simp)
      omega
     ·rw [List.mem_singleton.1 hx]
      omega
   refine addDs_ok l _ hr' (by simp; omega) (List.pairwise_append.2 ⟨h2,by simp,fun x hx y hy=>?_⟩) fun x hx=>?_
   ·rw [List.mem_singleton.1 hy]
    exact hlt x hx
   ·rcases List.mem_append.1 hx with hx | hx
    ·exact ⟨(h3 x hx).1,fun r hr=>(h3 x hx).2 r (List.mem_cons_of_mem _ hr)⟩
    ·rw [List.mem_singleton.1 hx]
     exact ⟨hr.2 r (List.mem_cons_self ..),fun y hy=>hr1.1 y hy⟩
theorem Read.diags {n:Nat} {s:ByteArray} {ts:List Token} (hs:Lexed s ts) {l:List Node} {p:List (Int × Int)} (hr:Read n ts s.size l p) :
  (addDs [] p).length≤20∧(addDs [] p).Pairwise (fun a b=>a.pos < b.pos)∧∀ x ∈ addDs [] p,x.err≠0∧0≤x.pos∧x.pos≤(s.size:Int):=by
 have hle:=hs.lx.le (by rw [← size_tl]; exact Nat.le_refl _)
 have hinc:Inc s.size ts:=⟨hle.1.imp fun h=>by omega,fun t ht=>by have:=hle.2 t ht; omega⟩
 have h:=M.rep_ok s.size (M.source n) ⟨ts,0,[]⟩ hinc
 obtain ⟨i,hi⟩:=hr.run
 rw [hi] at h
 obtain ⟨l',h1,h2⟩:=h
 simp only [List.nil_append] at h1
 subst h1
 have h0:0≤posOf s.size ts:=by
  cases ts with
  | nil=>simp [posOf]
  | cons t r=>have:=(hle.2 t (List.mem_cons_self ..)).1; simp only [posOf]; omega
 have:=addDs_ok p [] h2 (by simp) (by simp) (by simp)
 exact ⟨this.1,this.2.1,fun x hx=>⟨(this.2.2 x hx).1,Int.le_trans h0 (this.2.2 x hx).2.1,(this.2.2 x hx).2.2⟩⟩
end Go.Proofs.YtbecjgckobhmpaaGreatDoor
end
section
namespace Go.Proofs.YtbecjgckobhmpaaGreatDoor
open Go Go.AM Go.Proofs
variable {s:ByteArray} {n:Nat}
theorem F113_eq {t:ByteArray} {a:Nat} (ha:a≤(tl s).length) (hs:s.size≤4000) (ht:t.size≤3):F113 s a t = some ((tl t).isPrefixOf ((tl s).drop a)):=by
 have hz:=size_tl s
 have htz:=size_tl t
 unfold F113
 have ew:w64 ((a:Int) + (t.size:Int)) = ((a + (tl t).length:Nat):Int):=by rw [w64_id (by omega) (by omega)]; omega
 rw [ew]
 by_cases h:a + (tl t).length≤(tl s).length
 ·have c:decide (((a + (tl t).length:Nat):Int)≤(s.size:Int)) = true:=by simp; omega
  rw [c,subS_eq (by omega) h]
  simp only [cond_true,Option.bind_some]
  rw [show a + (tl t).length - a = (tl t).length by omega]
  exact congrArg some (pre_take (tl t) _)
 ·have c:decide (((a + (tl t).length:Nat):Int)≤(s.size:Int)) = false:=by simp; omega
  rw [c]
  have:(tl t).isPrefixOf ((tl s).drop a) = false:=by
   rw [← pre_take,beq_eq_false_iff_ne]
   intro e
   have:=congrArg List.length e
   rw [List.length_take,List.length_drop] at this
   omega
  rw [this]
  rfl
theorem F114_eq (b:UInt8):F114 (b.toNat:Int) = some (wht b):=by
 unfold F114 wht
 have e1:((b.toNat:Int) == 32) = (b.toNat == 32):=i_eq _ 32
 have e2:((b.toNat:Int) == 9) = (b.toNat == 9):=i_eq _ 9
 have e3:((b.toNat:Int) == 10) = (b.toNat == 10):=i_eq _ 10
 have e4:((b.toNat:Int) == 13) = (b.toNat == 13):=i_eq _ 13
 rw [e1,e2,e3,e4]
 simp only [Bool.or_assoc]
theorem F115_eq (b:UInt8):F115 (b.toNat:Int) = some (ltr b):=by
 unfold F115 ltr
 have e1:decide (65≤(b.toNat:Int)) = decide (65≤b.toNat):=i_le 65 _
 have e2:decide ((b.toNat:Int)≤90) = decide (b.toNat≤90):=i_le _ 90
 have e3:decide (97≤(b.toNat:Int)) = decide (97≤b.toNat):=i_le 97 _
 have e4:decide ((b.toNat:Int)≤122) = decide (b.toNat≤122):=i_le _ 122
 rw [e1,e2,e3,e4,Bool.or_comm]
theorem F117_eq (b:UInt8):F117 (b.toNat:Int) = some (dgt b):=by
 unfold F117 dgt
 have e1:decide (48≤(b.toNat:Int)) = decide (48≤b.toNat):=i_le 48 _
 have e2:decide ((b.toNat:Int)≤57) = decide (b.toNat≤57):=i_le _ 57
 rw [e1,e2]
theorem F74_eq (hs:s.size≤4000) (hn:5000≤n) {a:Nat} (ha:a≤(tl s).length):F74 n s a = some (((tl s).length - (skp false ((tl s).drop a)).length:Nat):Int):=by
 have hz:=size_tl s
 apply T.eq
 unfold F74
 refine T.bind (P:=fun r=>match r with | .inl e=>e = (((tl s).length - (skp false ((tl s).drop a)).length:Nat):Int) | .inr e=>e = (((tl s).length - (skp false ((tl s).drop a)).length:Nat):Int)) ?_ (fun r h=>by
  cases r with
  | inl r=>exact T.some h
  | inr r=>exact T.some h)
 refine iter_T (fun e=>∃ k:Nat,e = (k:Int)∧k≤(tl s).length∧skp false ((tl s).drop k) = skp false ((tl s).drop a)) (fun e=>((tl s).length - e.toNat)) _ (fun e he=>?_) n a (by omega) ⟨a,rfl,ha,rfl⟩
 obtain ⟨k,rfl,hk,hsk⟩:=he
 by_cases hlt:k < (tl s).length
 ·have hg:=List.getElem?_eq_getElem hlt
  have hd:=get_drop hg
  have c1:decide ((k:Int) < (s.size:Int)) = true:=by simp; omega
  rw [c1,F113_eq hk hs (by simp [size_bs])]
  have e2:(tl (bs [47,47])).isPrefixOf ((tl s).drop k) = two ((tl s).drop k):=rfl
  rw [e2]
  simp only [cond_true,Option.bind_some]
  cases h2:two ((tl s).drop k)
  ·rw [idxS_some hg]
   simp only [cond_false,Option.bind_some,F114_eq,w64_nat (k:=k) (by omega)]
   cases hw:wht (tl s)[k]
   ·refine T.some ?_
    have h3:=skp_fix ((tl s).drop k) (by rw [hd,List.takeWhile_cons,if_neg (by simp [hw])]) h2
    show (k:Int) = _
    rw [← hsk,h3,List.length_drop]
    omega
   ·refine T.some ⟨⟨k + 1,rfl,by omega,?_⟩,?_⟩
    ·rw [← hsk,hd]
     simp only [skp,hw,if_true]
    ·show (tl s).length - (k + 1) < (tl s).length - k
     omega
  ·simp only [cond_true]
   obtain ⟨hk3l,hd3⟩:=drop_step nol hk
   have hpos:1≤(((tl s).drop k).takeWhile nol).length:=by
    rw [hd] at h2 ⊢
    have hb:=two_cons h2
    rw [hb,List.takeWhile_cons,if_pos (by decide)]
    simp
   refine T.bind (take_T (L:=tl s) nol (fun j b hb=>?_) ?_ hk (by omega)) fun e he=>?_
   ·have hjl:=lt_of_get hb
    have c:decide ((j:Int) < (s.size:Int)) = true:=by simp; omega
    have e3:((b.toNat:Int) == 10) = (b.toNat == 10):=i_eq _ 10
    rw [c,idxS_some hb,w64_nat (by omega)]
    simp only [cond_true,Option.bind_some,bne,e3]
    have:nol b = !(b.toNat == 10):=rfl
    rw [this]
    cases b.toNat == 10 <;> rfl
   ·have c:decide (((tl s).length:Int) < (s.size:Int)) = false:=by simp; omega
    rw [c]
    rfl
   ·subst he
    generalize hk3:k + (((tl s).drop k).takeWhile nol).length = k3 at hk3l hd3
    refine T.some ⟨⟨k3,rfl,hk3l,by rw [hd3,← skp_two _ h2,hsk]⟩,?_⟩
    show (tl s).length - k3 < (tl s).length - k
    omega
 ·have c1:decide ((k:Int) < (s.size:Int)) = false:=by simp; omega
  rw [c1]
  refine T.some ?_
  have:(tl s).drop k = []:=List.drop_eq_nil_iff.2 (by omega)
  show (k:Int) = _
  rw [← hsk,this,skp_nil]
  simp
  omega
theorem F116_eq (hs:s.size≤4000) (hn:5000≤n) {a:Nat} (ha:a≤(tl s).length) :
  F116 n s a = some (⟨1,bs (((tl s).drop a).takeWhile wrd),(a:Int)⟩,decide ((((tl s).drop a).takeWhile wrd).length≤16)):=by
 have hz:=size_tl s
 apply T.eq
 unfold F116
 refine T.bind (take_T (L:=tl s) wrd (fun j b hb=>?_) ?_ ha (by omega)) fun e he=>?_
 ·have hjl:=lt_of_get hb
  have c:decide ((j:Int) < (s.size:Int)) = true:=by simp; omega
  have e3:((b.toNat:Int) == 95) = (b.toNat == 95):=i_eq _ 95
  rw [c,idxS_some hb,w64_nat (by omega)]
  simp only [cond_true,Option.bind_some,F115_eq,F117_eq,e3]
  have hw:wrd b = (ltr b || (dgt b || b.toNat == 95)):=rfl
  rw [hw]
  cases ltr b <;> cases dgt b <;> cases b.toNat == 95 <;> rfl
 ·have c:decide (((tl s).length:Int) < (s.size:Int)) = false:=by simp; omega
  rw [c]
  rfl
 ·subst he
  obtain ⟨hkl,_⟩:=drop_step wrd ha
  rw [subS_eq (by omega) hkl]
  simp only [Option.bind_some]
  rw [w64_id (by omega) (by omega),Nat.add_sub_cancel_left,take_tw]
  refine T.some ?_
  congr 1
  rw [decide_eq_decide]
  omega
theorem F118_eq (hs:s.size≤4000) (hn:5000≤n) {a:Nat} {b:UInt8} {r:List UInt8} (hd:(tl s).drop a = b :: r) (hb2:dgt b = true) :
  F118 n s a = some (⟨2,bs (((tl s).drop a).takeWhile dgt),(a:Int)⟩,numOk b ((tl s).drop a)):=by
 have hz:=size_tl s
 have hb:=get_of_drop hd
 have ha:=lt_of_get hb
 apply T.eq
 unfold F118
 refine T.bind (take_T (L:=tl s) dgt (fun j b hb=>?_) ?_ (Nat.le_of_lt ha) (by omega)) fun e he=>?_
 ·have hjl:=lt_of_get hb
  have c:decide ((j:Int) < (s.size:Int)) = true:=by simp; omega
  rw [c,idxS_some hb,w64_nat (by omega)]
  simp only [cond_true,Option.bind_some,F117_eq]
  cases dgt b <;> rfl
 ·have c:decide (((tl s).length:Int) < (s.size:Int)) = false:=by simp; omega
  rw [c]
  rfl
 ·subst he
  obtain ⟨hkl,hkd⟩:=drop_step dgt (Nat.le_of_lt ha)
  have htk:=take_tw dgt ((tl s).drop a)
  have hnd:∀ c,(((tl s).drop a).dropWhile dgt).head? = some c→dgt c = false:=by
   intro c hc
   have:=List.head?_dropWhile_not dgt ((tl s).drop a)
   rw [hc] at this
   simpa using this
  unfold numOk
  rw [← hkd] at hnd ⊢
  have hk1:1≤(((tl s).drop a).takeWhile dgt).length:=by rw [hd,List.takeWhile_cons,if_pos hb2]; simp
  rw [subS_eq (by omega) hkl,Nat.add_sub_cancel_left,htk,idxS_some hb]
  generalize hk:(((tl s).drop a).takeWhile dgt).length = k at hkl hkd hk1 hnd ⊢
  have ew:w64 (((a + k:Nat):Int) - (a:Int)) = (k:Int):=by rw [w64_id (by omega) (by omega)]; omega
  have ew2:w64 ((a:Int) + 1) = ((a + 1:Nat):Int):=w64_nat (by omega)
  rw [ew,ew2]
  have e9:decide ((k:Int)≤9) = decide (k≤9):=i_le k 9
  have e48:((b.toNat:Int) == 48) = (b.toNat == 48):=i_eq _ 48
  have e1:(((a + k:Nat):Int) == ((a + 1:Nat):Int)) = (k == 1):=by
   rw [i_eq,Bool.eq_iff_iff]; simp only [beq_iff_eq]; omega
  simp only [Option.bind_some,e9,bne,e48,e1]
  have ej:(bif decide (k≤9) then some ((!(b.toNat == 48)) || (k == 1)) else some false) = some (decide (k≤9) && ((!(b.toNat == 48)) || (k == 1))):=by
   cases decide (k≤9) <;> rfl
  rw [ej]
  simp only [Option.bind_some]
  rw [List.head?_drop] at hnd ⊢
  by_cases hlt:a + k < (tl s).length
  ·have hg:=List.getElem?_eq_getElem hlt
   have hdg:=hnd _ hg
   have c3:decide (((a + k:Nat):Int) < (s.size:Int)) = true:=by simp; omega
   have e95:((((tl s)[a + k]).toNat:Int) == 95) = (((tl s)[a + k]).toNat == 95):=i_eq _ 95
   rw [c3,idxS_some hg,hg]
   simp only [cond_true,Option.bind_some,F115_eq,e95,Option.all_some,wrd,hdg,Bool.false_or]
   cases ltr (tl s)[a + k] <;> cases ((tl s)[a + k]).toNat == 95 <;> cases decide (k≤9) <;> cases b.toNat == 48 <;> cases k == 1 <;> exact T.some rfl
  ·have c3:decide (((a + k:Nat):Int) < (s.size:Int)) = false:=by simp; omega
   rw [c3,List.getElem?_eq_none (by omega)]
   simp only [cond_false,Option.bind_some,Option.all_none,Bool.and_true]
   exact T.some rfl
def symR:List ByteArray:=[(bs [61,61,62]),(bs [58,61]),(bs [61,61]),(bs [33,61]),(bs [60,61]),(bs [38,38]),(bs [124,124]),(bs [123]),(bs [125]),(bs [40]),(bs [41]),(bs [91]),(bs [93]),(bs [59]),(bs [58]),(bs [44]),(bs [46]),(bs [63]),(bs [61]),(bs [33]),(bs [60]),(bs [38]),(bs [124]),(bs [94]),(bs [43]),(bs [45]),(bs [42])]
theorem symR_sz:∀ x ∈ symR,1≤x.size∧x.size≤3:=by
 have:symR.all (fun x=>decide (1≤x.size∧x.size≤3)) = true:=by rfl
 intro x hx
 simpa using List.all_eq_true.1 this x hx
theorem symR_find (l:List UInt8):(symR.map tl).find? (fun t=>t.isPrefixOf l) = symL.find? (fun t=>t.isPrefixOf l):=by
 show ([61,61,62] :: [58,61] :: [61,61] :: symL.drop 3:List (List UInt8)).find? _ = ([61,61,62] :: [61,61] :: [58,61] :: symL.drop 3:List (List UInt8)).find? _
 simp only [List.find?_cons]
 cases h1:([61,61,62]:List UInt8).isPrefixOf l
 ·cases h2:([58,61]:List UInt8).isPrefixOf l
  ·cases h3:([61,61]:List UInt8).isPrefixOf l <;> rfl
  ·cases h3:([61,61]:List UInt8).isPrefixOf l
   ·rfl
   ·cases l with
    | nil=>simp at h2
    | cons x l =>
     simp [List.isPrefixOf] at h2 h3
     exact absurd (h2.1.trans h3.1.symm) (by decide)
 ·rfl
theorem find_TF {β:Type} {S:List ByteArray} {step:Int→Option (Int ⊕ (β ⊕ Unit))} (p:ByteArray→Bool) (f:ByteArray→β)
  (h1:∀ (k:Nat) x,S[k]? = some x→T (step (k:Int)) (fun r=>r = if p x = true then .inr (.inl (f x)) else .inl ((k + 1:Nat):Int)))
  (h2:step (S.length:Int) = some (.inr (.inr ()))) {n:Nat} (hn:S.length < n) :
  T (iter step n (0:Int)) (fun r=>r = match S.find? p with | some x=>.inl (f x) | none=>.inr ()):=by
 have key:∀ (l:List ByteArray) (k:Nat),runF (A:=Unit) (ρ:=β ⊕ Unit) (fun _ _ x=>if p x = true then .inr (.inl (f x)) else .inl ()) (fun _=>.inr ()) k l () = match l.find? p with | some x=>.inl (f x) | none=>.inr ():=by
  intro l
  induction l with
  | nil=>intro k; rfl
  | cons x l ih =>
   intro k
   rw [List.find?_cons,runF]
   cases hp:p x
   ·simpa [hp] using ih (k + 1)
   ·simp
 have e:=iter_runF S (fun (k:Nat) (_:Unit)=>(k:Int)) (fun _ _ x=>if p x = true then .inr (.inl (f x)) else .inl ()) (fun _=>.inr ()) (step:=step)
  (fun k a x hx=>by
   rw [T.eq (h1 k x hx)]
   cases p x <;> rfl)
  (fun _=>h2) n () hn
 rw [key] at e
 exact ⟨_,e,rfl⟩
theorem F75_eq (hs:s.size≤4000) (hn:5000≤n) {a:Nat} {b:UInt8} {r:List UInt8} (hd:(tl s).drop a = b :: r) :
  T (F75 n s a) (fun q=>match tokL ((tl s).drop a) with | some km=>q = (⟨(km.1:Int),bs (((tl s).drop a).take km.2),(a:Int)⟩,true) | none=>q.2 = false):=by
 have hz:=size_tl s
 have hb:=get_of_drop hd
 have ha:=lt_of_get hb
 unfold F75
 rw [idxS_some hb]
 simp only [Option.bind_some,F115_eq,F117_eq]
 rw [hd,tokL_cons]
 cases h1:ltr b
 ·simp only [cond_false]
  cases h2:dgt b
  ·simp only [cond_false,F119,Option.bind_some]
   refine T.bind (find_TF (S:=symR) (fun x=>(tl x).isPrefixOf ((tl s).drop a)) (fun x=>Token.mk 3 x (a:Int)) (fun k x hx=>?_) ?_ (by simp [symR]; omega)) fun q hq=>?_
   ·have hk:=lt_of_get hx
    have hk27:k < 27:=hk
    have c1:decide ((k:Int) < (symR.length:Int)) = true:=by simp; omega
    have hm:=symR_sz x (List.mem_of_getElem? hx)
    show T (bif decide ((k:Int) < (symR.length:Int)) then ((idxL symR (k:Int)).bind fun x13 =>
     (F113 s (a:Int) x13).bind fun x14 =>
     bif x14 then
      ((idxL symR (k:Int)).bind fun x16 =>
      some (.inr (.inl (Token.mk 3 x16 (a:Int)))))
     else
      (some (.inl (w64 ((k:Int) + 1))))) else some (.inr (.inr ())):Option (Int ⊕ (Token ⊕ Unit))) _
    rw [c1,idxL_some hx,w64_nat (k:=k) (by omega)]
    simp only [cond_true,Option.bind_some]
    rw [F113_eq (Nat.le_of_lt ha) hs hm.2]
    simp only [Option.bind_some]
    cases (tl x).isPrefixOf ((tl s).drop a)
    ·exact T.some rfl
    ·exact T.some rfl
   ·rfl
   ·rw [hq,find_tl (p:=fun t=>t.isPrefixOf ((tl s).drop a)),symR_find,hd]
    cases hf:symL.find? (fun t=>t.isPrefixOf (b :: r)) with
    | none=>exact T.some rfl
    | some t =>
     have hp:=List.find?_some hf
     have ht:=List.prefix_iff_eq_take.1 (List.isPrefixOf_iff_prefix.1 hp)
     refine T.some ?_
     simp only [Option.map_some]
     rw [← ht]
     rfl
  ·simp only [cond_true]
   rw [F118_eq hs hn hd h2,hd]
   simp only [Option.bind_some]
   cases numOk b (b :: r)
   ·exact T.some rfl
   ·refine T.some ?_
    simp only [cond_true]
    rw [take_tw]
    rfl
 ·simp only [cond_true]
  rw [F116_eq hs hn (Nat.le_of_lt ha),hd]
  simp only [Option.bind_some]
  cases decide (((b :: r).takeWhile wrd).length≤16)
  ·exact T.some rfl
  ·refine T.some ?_
   simp only [cond_true]
   rw [take_tw]
   rfl
theorem F39_eq (hn:5000≤n):F39 n s = some (lexR s):=by
 have hz:=size_tl s
 apply T.eq
 unfold F39 lexR
 by_cases h4:4000 < s.size
 ·have c:decide ((4000:Int) < (s.size:Int)) = true:=by simp; omega
  rw [c,if_pos h4]
  exact T.some rfl
 have c:decide ((4000:Int) < (s.size:Int)) = false:=by simp; omega
 have hs:s.size≤4000:=by omega
 rw [c,if_neg h4]
 simp only [cond_false]
 have e0:F74 n s (0:Int) = some (((tl s).length - (skp false ((tl s).drop 0)).length:Nat):Int):=F74_eq (a:=0) hs hn (by omega)
 rw [e0]
 simp only [Option.bind_some]
 have hdr:∀ k,k≤(tl s).length→(tl s).drop ((tl s).length - (skp false ((tl s).drop k)).length) = skp false ((tl s).drop k)∧k≤(tl s).length - (skp false ((tl s).drop k)).length:=by
  intro k hk
  obtain ⟨p,hp⟩:=skp_suf ((tl s).drop k) false
  have hp1:=congrArg List.length hp
  rw [List.length_append,List.length_drop] at hp1
  have e:(tl s).length - (skp false ((tl s).drop k)).length = k + p.length:=by omega
  constructor
  ·rw [e,← List.drop_drop]
   conv=>lhs; rw [hp]
   exact List.drop_left
  ·omega
 refine T.bind (P:=fun r=>(match r with | .inl e=>(([]:List Token),e.1,e.2) | .inr l=>(l,(0:Int),(0:Int))) = outT [] (lexG s.size (s.size + 1) 0 (tl s))) ?_ (fun r h=>by
  cases r with
  | inl e=>exact T.some h
  | inr l=>exact T.some h)
 refine iter_T (fun st=>∃ (k f:Nat),st.2 = (k:Int)∧k≤(tl s).length∧st.1.length≤1500∧((tl s).drop k).length≤f∧outT st.1 (lexS s.size (lexG s.size f (st.1.length + 1)) st.1.length ((tl s).drop k)) = outT [] (lexG s.size (s.size + 1) 0 (tl s))) (fun st=>(tl s).length - st.2.toNat) _ (fun st hst=>?_) n _ ?_ ⟨(tl s).length - (skp false ((tl s).drop 0)).length,s.size,rfl,by omega,by simp,?_,?_⟩
 ·obtain ⟨k,f,hk,hkl,h15,hf,hout⟩:=hst
  rw [hk]
  cases hd:(tl s).drop k with
  | nil =>
   have hk2:k = (tl s).length:=by
    have:=List.drop_eq_nil_iff.1 hd
    omega
   have c1:decide ((k:Int) < (s.size:Int)) = false:=by simp; omega
   rw [c1]
   rw [hd] at hout
   simp only [lexS,outT,List.append_nil] at hout
   exact T.some hout
  | cons b r =>
   have hlt:k < (tl s).length:=lt_of_get (get_of_drop hd)
   have hlen:=List.length_drop (i:=k) (l:=tl s)
   have c1:decide ((k:Int) < (s.size:Int)) = true:=by simp; omega
   have hpos:s.size - ((tl s).drop k).length = k:=by omega
   rw [c1]
   rw [hd] at hpos
   rw [hd] at hout
   simp only [lexS,hpos] at hout
   simp only [cond_true]
   by_cases h1500:st.1.length = 1500
   ·have c2:decide ((1500:Int)≤(st.1.length:Int)) = true:=by simp; omega
    rw [c2]
    rw [if_pos h1500] at hout
    exact T.some hout
   have c2:decide ((1500:Int)≤(st.1.length:Int)) = false:=by simp; omega
   rw [c2]
   simp only [cond_false]
   rw [if_neg h1500] at hout
   obtain ⟨q,hq,hq2⟩:=F75_eq hs hn hd
   rw [hq]
   simp only [Option.bind_some]
   rw [hd] at hq2
   cases htk:tokL (b :: r) with
   | none =>
    rw [htk] at hout hq2
    have hq2':q.2 = false:=hq2
    rw [hq2']
    exact T.some hout
   | some km =>
    rw [htk] at hout hq2
    have hq2':q = (⟨(km.1:Int),bs ((b :: r).take km.2),(k:Int)⟩,true):=hq2
    have hm:=tokL_spec htk
    subst hq2'
    simp only [Bool.not_true,cond_false,appL] at hout ⊢
    rw [if_pos (by simp; omega)]
    have hlen2:(tl s).length - k = (b :: r).length:=by rw [← hlen,hd]
    have etz:((bs ((b :: r).take km.2)).size:Int) = (km.2:Int):=by
     rw [size_bs,List.length_take]; omega
    have ew:w64 ((k:Int) + ((bs ((b :: r).take km.2)).size:Int)) = ((k + km.2:Nat):Int):=by
     rw [etz,w64_id (by omega) (by omega)]; rfl
    rw [ew,F74_eq hs hn (a:=k + km.2) (by omega)]
    simp only [Option.bind_some]
    obtain ⟨h5,h6⟩:=hdr (k + km.2) (by omega)
    rw [out_cons] at hout
    have hdk:(tl s).drop (k + km.2) = (b :: r).drop km.2:=by rw [← List.drop_drop,hd]
    have hsl:=skp_len false ((tl s).drop (k + km.2))
    rw [List.length_drop] at hsl
    obtain ⟨f,rfl⟩:∃ g,f = g + 1:=⟨f - 1,by rw [List.length_drop] at hf; omega⟩
    refine T.some ⟨⟨_,f,rfl,by omega,by simp; omega,?_,?_⟩,?_⟩
    ·rw [h5]
     rw [List.length_drop] at hf
     omega
    ·rw [h5,hdk]
     simp only [List.length_append,List.length_cons,List.length_nil]
     simp only [lexG] at hout
     exact hout
    ·show (tl s).length - ((((tl s).length - (skp false ((tl s).drop (k + km.2))).length:Nat):Int)).toNat < (tl s).length - ((k:Int)).toNat
     simp only [Int.toNat_natCast]
     omega
 ·simp only [Int.toNat_natCast]
  omega
 ·rw [(hdr 0 (by omega)).1]
  have:=skp_len false ((tl s).drop 0)
  rw [List.length_drop] at this
  omega
 ·rw [(hdr 0 (by omega)).1]
  simp only [List.drop_zero,List.length_nil]
  rfl
end Go.Proofs.YtbecjgckobhmpaaGreatDoor
end
section
namespace Go.Proofs.YtbecjgckobhmpaaGreatDoor
open Go Go.AM Go.Proofs
theorem F31_T {b:Nat} (hb:b≤9223372036854775807) (x:Node) (hlim:Lim b x) (hs:sz x≤200) {n:Nat} (hn:b + 5000≤n):T (F31 n x) (fun v=>v = true→smallP x∧okT x = true∧(x.kind = 62∨isE x.kind = true)):=by
 unfold F31
 rw [G27 x (by omega) (by omega)]
 simp only [Option.bind_some]
 refine T.cond (fun hd=>?_) (fun _=>T.some no)
 refine T.bind (P:=fun v=>v = true→(x.kind == 62 || isE x.kind) = true∧okT x = true) ?_ (fun v hv=>T.some fun h=>?_)
 ·unfold F69
  refine T.cond (fun h=>?_) (fun _=>?_)
  ·have h:x.kind = 62:=by simpa using h
   refine (F104_T x [] (by simp) (by omega)).bind fun v o=>T.cond (fun hv=>?_) (fun _=>T.some no)
   obtain ⟨n,rfl⟩:∃ k,n = k + 2:=⟨n - 2,by omega⟩
   have hlen:=szs_len x.kids
   have hsz:=sz_eq x
   obtain ⟨_,h1,h2,h3,h4⟩:=hlim
   refine (F105_T (N:=b) hb (n:=n) (by omega) x 5 (fun y hy=>?_) (by omega)).bind fun w hw=>T.some fun hb'=>?_
   ·have hys:=szs_mem x.kids y hy
    have hl:=h4 y hy
    refine ⟨?_,cl_all hb (sz y) y (Nat.le_refl _) (by omega) hl n (by omega)⟩
    cases hl with
    | mk _ a1 a2 _ _=>exact ⟨a1,a2⟩
   ·have hE:∀ y ∈ x.kids,okT y = true∧isItm y.kind = true:=fun y hy=>by simpa [Cls] using hw hb' y hy
    refine ⟨by simp [h],okT_mk (fields_of (o hv) (by simp [fldGood,h]) (by simp) (by simp) (by simp) (by simp) (by simp) (by simp)) ?_ (fun y hy=>(hE y hy).1)⟩
    simp [kidsB,leafK,oneK,h]
    exact fun y hy=>(hE y hy).2
  ·refine ((cl_all hb (sz x) x (Nat.le_refl _) hs hlim n (by omega)).e).bind fun v hv=>T.some fun h=>?_
   obtain ⟨h1,h2⟩:=hv h
   exact ⟨by simp [h2],h1⟩
 ·obtain ⟨h1,h2⟩:=hv h
  exact ⟨of_decide_eq_true hd,h2,by simpa using h1⟩
theorem F21_T {b:Nat} (hb:b≤9223372036854775807) (x:Node) (hlim:Lim b x) {n:Nat} (hn:b + 20000≤n) :
  T (F21 n x) (fun v=>v = true→sz x≤120∧okE x∧smallP x∧∃ ts,Lexed (bs (txt x)) ts):=by
 unfold F21
 refine (F45_T x (by omega)).bind fun v hv=>T.cond (fun _=>T.some no) (fun hc=>?_)
 have hs:=hv (by simpa using hc)
 refine T.bind (P:=fun r=>r.2 = 0→okE x∧smallP x∧∃ ts,Lexed (bs (txt x)) ts) ?_ (fun r hr=>T.some fun h=>⟨hs,hr (by simpa using h)⟩)
 unfold F53
 refine (F31_T hb x hlim (by omega) (by omega)).bind fun v hv=>?_
 refine T.cond (fun _=>T.some (fun h=>by simp at h)) (fun hc=>?_)
 have hc':v = true∧¬ x.kind = 62:=by simpa using hc
 obtain ⟨h1,h2,h3⟩:=hv hc'.1
 have hE:okE x:=⟨h2,h3.resolve_left hc'.2⟩
 rw [F80_eq x hE (by omega) n (by omega)]
 simp only [Option.bind_some]
 unfold F78
 rw [F39_eq (by omega)]
 simp only [Option.bind_some]
 refine T.bind (P:=fun r=>r.2 = 0→okE x∧smallP x∧∃ ts,Lexed (bs (txt x)) ts) (T.cond (fun _=>T.some (fun h=>by simp at h)) (fun h=>T.some fun _=>⟨hE,h1,?_⟩)) (fun r hr=>T.some hr)
 have h0:(lexR (bs (txt x))).2.1 = 0:=by simpa using h
 rcases lexR_cases (bs (txt x)) with ⟨ts,hL,_⟩ | ⟨e,p,h4,h5,_⟩
 ·exact ⟨ts,hL⟩
 ·rw [h4] at h0
  simp only at h0
  omega
theorem F23_ok {x:Node} (hx:okE x) (hsm:smallP x) (hs:sz x≤120) {ts:List Token} (hL:Lexed (bs (txt x)) ts) {n:Nat} (hn:20000≤n):F23 n x = some (bs (txt x),0):=by
 unfold F23
 have c:(x.kind == 62) = false:=nbeq (fun e=>by
  have:=hx.2
  rw [e] at this
  exact absurd this (by decide))
 rw [c,F28_okT hx.1 (by rw [hx.2]; simp) (by omega) hn,decide_eq_true hsm,F54_eq x hx (by omega) n (by omega)]
 simp only [Option.bind_some,cond_false,Bool.not_true]
 unfold F51
 rw [F55_eq (by omega),lexR_ok hL]
 rfl
end Go.Proofs.YtbecjgckobhmpaaGreatDoor
end
section
namespace Go.Proofs.YtbecjgckobhmpaaGreatDoor
open Go Go.AM Go.Proofs
def wts (l:List Token):List Bytes:=l.map fun t=>tl t.text
theorem vT_cases (w:Bytes):(w = [40]∧vT w = 1)∨(w = [41]∧vT w = -1)∨(w≠[40]∧w≠[41]∧vT w = 0):=by
 by_cases h:w = [40]
 ·subst h; exact .inl ⟨rfl,rfl⟩
 ·by_cases h2:w = [41]
  ·subst h2; exact .inr (.inl ⟨rfl,rfl⟩)
  ·exact .inr (.inr ⟨h,h2,by unfold vT; rw [if_neg h,if_neg h2]⟩)
theorem clos_run {step:Int × Int→Option ((Int × Int) ⊕ (Int ⊕ Unit))} (l:List Token) (hl:l.length≤10000)
  (hstep:∀ (o:Int) (k:Nat) (t:Token),l[k]? = some t→0≤o→o≤100000→step (o,(k:Int)) = some (if o + vT (tl t.text) = 0 then .inr (.inl (k:Int)) else .inl (o + vT (tl t.text),((k + 1:Nat):Int)))) :
  ∀ (m:Nat) (o:Int) (k n:Nat),m = l.length - k→1≤o→o≤10000 + (k:Int)→o + tot (wts (l.drop k))≤0→m < n→∃ j t,k≤j∧l[j]? = some t∧tl t.text = [41]∧iter step n (o,(k:Int)) = some (.inl (j:Int))
 | 0,o,k,n,hm,h1,_,h3,_=>by
  rw [List.drop_eq_nil_of_le (by omega)] at h3
  simp only [wts,List.map_nil,tot] at h3
  omega
 | m + 1,o,k,n,hm,h1,h2,h3,hn=>by
  obtain ⟨n,rfl⟩:∃ i,n = i + 1:=⟨n - 1,by omega⟩
  have hk:k < l.length:=by omega
  have hx:l[k]? = some l[k]:=List.getElem?_eq_getElem hk
  rw [List.drop_eq_getElem_cons hk] at h3
  generalize l[k] = t at hx h3
  have h3':o + (vT (tl t.text) + tot (wts (l.drop (k + 1))))≤0:=h3
  simp only [iter,hstep o k t hx (by omega) (by omega)]
  have hc:=vT_cases (tl t.text)
  by_cases h0:o + vT (tl t.text) = 0
  ·rw [if_pos h0]
   rcases hc with ⟨_,hv⟩ | ⟨hw,_⟩ | ⟨_,_,hv⟩
   ·omega
   ·exact ⟨k,t,Nat.le_refl _,hx,hw,rfl⟩
   ·omega
  ·rw [if_neg h0]
   obtain ⟨j,u,a1,a2,a3,a4⟩:=clos_run l hl hstep m (o + vT (tl t.text)) (k + 1) n (by omega) (by rcases hc with ⟨_,hv⟩ | ⟨_,hv⟩ | ⟨_,_,hv⟩ <;> omega) (by rcases hc with ⟨_,hv⟩ | ⟨_,hv⟩ | ⟨_,_,hv⟩ <;> omega) (by omega) (by omega)
   exact ⟨j,u,by omega,a2,a3,a4⟩
theorem clos_at {step:Int × Int→Option ((Int × Int) ⊕ (Int ⊕ Unit))} (l:List Token) (hl:l.length≤10000)
  (hstep:∀ (o:Int) (k:Nat) (t:Token),l[k]? = some t→0≤o→o≤100000→step (o,(k:Int)) = some (if o + vT (tl t.text) = 0 then .inr (.inl (k:Int)) else .inl (o + vT (tl t.text),((k + 1:Nat):Int))))
  (hb:Bal (wts l)) {i:Nat} {t:Token} (hi:l[i]? = some t) (ht:tl t.text = [40]) {n:Nat} (hn:l.length + 1 < n) :
  ∃ j u,i < j∧l[j]? = some u∧tl u.text = [41]∧iter step n (0,(i:Int)) = some (.inl (j:Int)):=by
 obtain ⟨n,rfl⟩:∃ i,n = i + 1:=⟨n - 1,by omega⟩
 have hv:vT (tl t.text) = 1:=by rw [ht]; rfl
 have hlt:=lt_of_get hi
 have hd:=hb.d i
 have e:(wts l).drop i = tl t.text :: wts (l.drop (i + 1)):=by
  unfold wts
  rw [← List.map_drop,List.drop_eq_getElem_cons hlt,List.map_cons]
  have:l[i] = t:=by
   rw [List.getElem?_eq_getElem hlt] at hi
   exact Option.some.inj hi
  rw [this]
 rw [e] at hd
 have hd':vT (tl t.text) + tot (wts (l.drop (i + 1)))≤0:=hd
 simp only [iter,hstep 0 i t hi (by omega) (by omega),hv]
 rw [if_neg (by omega)]
 obtain ⟨j,u,a1,a2,a3,a4⟩:=clos_run l hl hstep (l.length - (i + 1)) 1 (i + 1) n rfl (by omega) (by omega) (by omega) (by omega)
 exact ⟨j,u,by omega,a2,a3,a4⟩
end Go.Proofs.YtbecjgckobhmpaaGreatDoor
end
section
namespace Go.Proofs.YtbecjgckobhmpaaGreatDoor
open Go Go.AM Go.Proofs
theorem WfN.limP {x:Node} (h:WfN x):Lim maxLen x:=by
 induction h with
 | mk x h1 h2 h3 h4 h5 h6 h7 h8 h9 ih=>exact .mk x (by rw [← size_tl]; exact h2) (by rw [← size_tl]; exact h3) h7 ih
theorem F17_all:(fun n=>F17 (n + 200)) = (fun _=>some true):=by kernel_rfl
theorem F17_eq {n:Nat} (hn:200≤n):F17 n = some true:=by
 obtain ⟨m,rfl⟩:∃ m,n = m + 200:=⟨n - 200,by omega⟩
 exact congrFun F17_all m
theorem strEq_dec (s:ByteArray) (l:Bytes):strEq s (bs l) = decide (tl s = l):=Bool.eq_iff_iff.2 (by rw [decide_eq_true_iff]; simp [strEq,bs,tl])
def cloS (a0:List Token) (s1:Int × Int):Option ((Int × Int) ⊕ (Int ⊕ Unit)):=bif decide (s1.2 < (a0.length:Int)) then
   (((idxL a0 s1.2).bind fun x3 =>
    bif strEq x3.text (bs [40]) then
     (some (w64 (s1.1 + 1)))
    else
     (some s1.1):Option (Int)).bind fun j5 =>
   (idxL a0 s1.2).bind fun x6 =>
   bif strEq x6.text (bs [41]) then
    (bif (w64 (j5 - 1)) == 0 then
     (some (.inr (.inl s1.2)))
    else
     (some (.inl (w64 (j5 - 1),w64 (s1.2 + 1)))))
   else
    (bif j5 == 0 then
     (some (.inr (.inl s1.2)))
    else
     (some (.inl (j5,w64 (s1.2 + 1))))))
  else
   (some (.inr (.inr ())))
theorem cloS_ok (l:List Token) (hl:l.length≤10000) (o:Int) (k:Nat) (t:Token) (hk:l[k]? = some t) (h0:0≤o) (h1:o≤100000) :
  cloS l (o,(k:Int)) = some (if o + vT (tl t.text) = 0 then .inr (.inl (k:Int)) else .inl (o + vT (tl t.text),((k + 1:Nat):Int))):=by
 have hlt:=lt_of_get hk
 have c:decide ((k:Int) < (l.length:Int)) = true:=by simpa using hlt
 have ew:=w64_nat (k:=k) (by omega)
 unfold cloS
 simp only [c,idxL_some hk,cond_true,Option.bind_some,ew]
 rcases vT_cases (tl t.text) with ⟨hw,hv⟩ | ⟨hw,hv⟩ | ⟨hw,hw2,hv⟩
 ·have e1:strEq t.text (bs [40]) = true:=by rw [strEq_dec,hw]; rfl
  have e2:strEq t.text (bs [41]) = false:=by rw [strEq_dec,hw]; rfl
  have e3:w64 (o + 1) = o + 1:=w64_id (by omega) (by omega)
  have e4:(o + 1 == 0) = false:=nbeq (by omega)
  simp only [e1,e2,e3,e4,cond_true,cond_false,Option.bind_some,hv]
  rw [if_neg (by omega)]
 ·have e1:strEq t.text (bs [40]) = false:=by rw [strEq_dec,hw]; rfl
  have e2:strEq t.text (bs [41]) = true:=by rw [strEq_dec,hw]; rfl
  have e3:w64 (o - 1) = o - 1:=w64_id (by omega) (by omega)
  simp only [e1,e2,e3,cond_true,cond_false,Option.bind_some,hv]
  by_cases ho:o = 1
  ·subst ho
   rfl
  ·have e4:(o - 1 == 0) = false:=nbeq (by omega)
   rw [e4,if_neg (by omega)]
   rfl
 ·have e1:strEq t.text (bs [40]) = false:=by rw [strEq_dec]; exact decide_eq_false hw
  have e2:strEq t.text (bs [41]) = false:=by rw [strEq_dec]; exact decide_eq_false hw2
  simp only [e1,e2,cond_false,Option.bind_some,hv,Int.add_zero]
  by_cases ho:o = 0
  ·subst ho
   rfl
  ·have e4:(o == 0) = false:=nbeq ho
   rw [e4,if_neg ho]
   rfl
theorem F44_ok {l:List Token} (hl:l.length≤10000) (hb:Bal (wts l)) {i:Nat} {t:Token} (hi:l[i]? = some t) (ht:tl t.text = [40]) {n:Nat} (hn:l.length + 1 < n):∃ j u,i < j∧l[j]? = some u∧tl u.text = [41]∧F44 n l (i:Int) = some (j:Int):=by
 obtain ⟨j,u,a1,a2,a3,a4⟩:=clos_at (step:=cloS l) l hl (cloS_ok l hl) hb hi ht hn
 refine ⟨j,u,a1,a2,a3,?_⟩
 unfold F44
 show (iter (cloS l) n (0,(i:Int))).bind _ = _
 rw [a4]
 rfl
def IsOpen (l:List Token) (p:Int):Prop:=∃ (i:Nat) (t:Token),p = (i:Int)∧l[i]? = some t∧tl t.text = [40]
def parS (l:List Token) (s7:(List Int) × Int):Option (((List Int) × Int) ⊕ (List Int)):=bif decide (s7.2 < (l.length:Int)) then
     (((idxL l s7.2).bind fun x9 =>
      bif strEq x9.text (bs [40]) then
       (bif s7.2 == 0 then
        (some true)
       else
        ((idxL l (w64 (s7.2 - 1))).bind fun x12 =>
        some (!(strEq x12.text (bs [111,108,100])))))
      else
       (some false):Option (Bool)).bind fun j13 =>
     bif j13 then
      ((appL 8 s7.1 ([s7.2]:List Int)).bind fun x15 =>
      some (.inl (x15,w64 (s7.2 + 1))))
     else
      (some (.inl (s7.1,w64 (s7.2 + 1)))))
    else
     (some (.inr s7.1))
theorem pairs_ok (l:List Token) (hl:l.length≤10000) {n:Nat} (hn:l.length < n):∃ r,iter (parS l) n ([],0) = some r∧r.length≤l.length∧∀ p ∈ r,IsOpen l p:=by
 refine iter_inv (step:=parS l) l (fun (k:Nat) (a:List Int)=>(a,(k:Int))) (fun k a=>a.length≤k∧∀ p ∈ a,IsOpen l p) (fun r=>r.length≤l.length∧∀ p ∈ r,IsOpen l p)
  (fun k a t hk ha=>?_) (fun a ha=>?_) n [] hn ⟨Nat.le_refl _,by simp⟩
 ·left
  have hlt:=lt_of_get hk
  have c:decide ((k:Int) < (l.length:Int)) = true:=by simpa using hlt
  have ew:=w64_nat (k:=k) (by omega)
  unfold parS
  simp only [c,idxL_some hk,cond_true,Option.bind_some,ew]
  cases h40:strEq t.text (bs [40])
  ·simp only [cond_false,Option.bind_some]
   exact ⟨a,rfl,by omega,ha.2⟩
  ·have ht:tl t.text = [40]:=by
    rw [strEq_dec] at h40
    exact of_decide_eq_true h40
   have hb:∃ b:Bool,(bif (k:Int) == 0 then some true else (idxL l (w64 ((k:Int) - 1))).bind fun x12=>some (!(strEq x12.text (bs [111,108,100])))) = some b:=by
    cases k with
    | zero=>exact ⟨true,rfl⟩
    | succ j =>
     have e0:(((j + 1:Nat):Int) == 0) = false:=nbeq (by omega)
     have e1:w64 (((j + 1:Nat):Int) - 1) = (j:Int):=by rw [w64_id (by omega) (by omega)]; omega
     have hj:l[j]? = some (l[j]'(by omega)):=List.getElem?_eq_getElem (by omega)
     rw [e0,e1,idxL_some hj]
     exact ⟨_,rfl⟩
   obtain ⟨b,hb⟩:=hb
   simp only [cond_true]
   rw [hb]
   simp only [Option.bind_some]
   cases b
   ·exact ⟨a,rfl,by omega,ha.2⟩
   ·simp only [cond_true,appL]
    rw [if_pos (by simp; omega)]
    refine ⟨a ++ [(k:Int)],rfl,by simp; omega,fun p hp=>?_⟩
    rcases List.mem_append.1 hp with h | h
    ·exact ha.2 p h
    ·rw [List.mem_singleton.1 h]
     exact ⟨k,t,rfl,hk,ht⟩
 ·refine ⟨a,?_,ha.1,ha.2⟩
  unfold parS
  simp
theorem cut3 {p m q:Bytes} (h:(p ++ 40 :: (m ++ 41 :: q)).length≤100000) :
  subS (bs (p ++ 40 :: (m ++ 41 :: q))) 0 (p.length:Int) = some (bs p) ∧
  subS (bs (p ++ 40 :: (m ++ 41 :: q))) (w64 ((p.length:Int) + 1)) ((p.length + 1 + m.length:Nat):Int) = some (bs m) ∧
  subS (bs (p ++ 40 :: (m ++ 41 :: q))) (w64 (((p.length + 1 + m.length:Nat):Int) + 1)) ((bs (p ++ 40 :: (m ++ 41 :: q))).size:Int) = some (bs q):=by
 have hl:(p ++ 40 :: (m ++ 41 :: q)).length = p.length + 1 + m.length + 1 + q.length:=by simp; omega
 have d1:(p ++ 40 :: (m ++ 41 :: q)).drop (p.length + 1) = m ++ 41 :: q:=by rw [← List.drop_drop,List.drop_left]; rfl
 have d2:(p ++ 40 :: (m ++ 41 :: q)).drop (p.length + 1 + m.length + 1) = q:=by rw [← List.drop_drop,← List.drop_drop,d1,List.drop_left]; rfl
 refine ⟨?_,?_,?_⟩
 ·have:=subS_eq (s:=bs (p ++ 40 :: (m ++ 41 :: q))) (a:=0) (b:=p.length) (by omega) (by rw [tl_bs]; omega)
  rw [tl_bs,List.drop_zero,Nat.sub_zero,List.take_left] at this
  exact this
 ·rw [w64_nat (k:=p.length) (by omega)]
  have:=subS_eq (s:=bs (p ++ 40 :: (m ++ 41 :: q))) (a:=p.length + 1) (b:=p.length + 1 + m.length) (by omega) (by rw [tl_bs]; omega)
  rw [tl_bs,d1,Nat.add_sub_cancel_left,List.take_left] at this
  exact this
 ·rw [w64_nat (k:=p.length + 1 + m.length) (by omega),size_bs]
  have:=subS_eq (s:=bs (p ++ 40 :: (m ++ 41 :: q))) (a:=p.length + 1 + m.length + 1) (b:=(p ++ 40 :: (m ++ 41 :: q)).length) (by omega) (by rw [tl_bs]; omega)
  rw [tl_bs,d2,List.take_of_length_le (by omega)] at this
  exact this
theorem tkx_mapN (f:Int→Int):∀ (k:Nat) (x:Node),sz x≤k→tkx (mapN f x) = tkx x∧levI (mapN f x) = levI x:=by
 intro k
 induction k with
 | zero=>intro x hx; have:=sz_pos x; omega
 | succ k ih =>
  intro x hx
  have hsz:=sz_eq x
  have hk:∀ l:List Node,szs l≤k→tkxs (l.map (mapN f)) = tkxs l:=by
   intro l
   induction l with
   | nil=>intro _; rfl
   | cons y r ihl =>
    intro hl
    simp only [szs] at hl
    have:=ih y (by omega)
    rw [List.map_cons,tkxs,tkxs,this.1,this.2,ihl (by omega)]
  rw [mapN_eq f x]
  refine ⟨?_,rfl⟩
  rw [tkx_eq,tkx_eq x]
  show tkOf x.kind x.name x.n (tkxs (x.kids.map (mapN f))) = _
  rw [hk x.kids (by omega)]
theorem other {x:Node} (hE:okE x) (hs:sz x≤120) {ts us:List Token} (hL:Lexed (bs (txt x)) ts) {s:ByteArray} (hU:Lexed s us) (hlen:us.length + 2 = ts.length) {n:Nat} (hn:200000≤n) :
  ∃ r,F29 n s = some r∧(r.2 = []→∃ v,F45 n r.1 (120:Int) = some v∧(v = true→∃ a b,F34 n r.1 = some a∧F34 n x = some b∧F30 n a b = some false)):=by
 refine ⟨_,F29_ok (by omega) hU,?_⟩
 cases hr:(M.whole n).run s.size ⟨us,0,[]⟩ with
 | ok e s' =>
  simp only [endX]
  split
  ·intro _
   obtain ⟨v,hv,hq⟩:=F45_T e (n:=n) (by omega)
   refine ⟨v,hv,fun h=>?_⟩
   have he:=hq h
   have g1:=G34 (sz e) e (Nat.le_refl _) (by omega) n (by omega)
   have g2:=G34 (sz x) x (Nat.le_refl _) (by omega) n (by omega)
   have z1:=(sz_mapN (fun _=>0) (sz e) e (Nat.le_refl _)).1
   obtain ⟨r,g3,g4⟩:=G30 (sz (mapN (fun _=>0) e)) (mapN (fun _=>0) e) (mapN (fun _=>0) x) (Nat.le_refl _) (by omega) n (by omega)
   refine ⟨_,_,g1,g2,?_⟩
   cases r
   ·exact g3
   ·exfalso
    have heq:=g4.1 rfl
    have l1:=M.len_whole (s:=⟨us,0,[]⟩) hU.lx.oks hr
    have l2:lnE e = lnE x:=by
     have a1:=(tkx_mapN (fun _=>0) (sz e) e (Nat.le_refl _)).1
     have a2:=(tkx_mapN (fun _=>0) (sz x) x (Nat.le_refl _)).1
     unfold lnE
     rw [← a1,← a2,heq]
    have l3:lnE x = ts.length:=by
     have h1:=hL.lx.tk
     have h2:=tk_txt x hE [] (fun b hb=>by cases hb)
     rw [List.append_nil,tk_nil] at h2
     rw [tl_bs,h2] at h1
     simp only [Option.map_some,List.append_nil,Option.some.injEq] at h1
     unfold lnE
     rw [h1,List.length_map]
    have l1':lnE e≤us.length:=l1
    omega
  ·intro h
   cases h
 | bad b s'=>intro h; cases h
 | out=>exact absurd hr (whole_some (by omega) hU.cnt _)
theorem bal_ts {x:Node} (hE:okE x) {ts:List Token} (hL:Lexed (bs (txt x)) ts):Bal (wts ts):=by
 have h1:=hL.lx.tk
 have h2:=tk_txt x hE [] (fun b hb=>by cases hb)
 rw [List.append_nil,tk_nil] at h2
 rw [tl_bs,h2] at h1
 simp only [Option.map_some,List.append_nil,Option.some.injEq] at h1
 have h:=bal_tkx x hE
 rw [h1] at h
 unfold wt at h
 rw [List.map_map] at h
 exact h
def N14:Nat:=maxLen + 200000
theorem law14 (x:Node) (hx:WfN x) (w:Nat) (hw:w < 256):∃ n,F14 n x (w:Int) = some true:=by
 have hmax:maxLen = 9223372036854775807:=rfl
 have hN:N14 = maxLen + 200000:=rfl
 refine ⟨N14,?_⟩
 unfold F14
 rw [F17_eq (by omega)]
 obtain ⟨v,hv,hq⟩:=F21_T (b:=maxLen) (by omega) x hx.limP (n:=N14) (by omega)
 rw [hv]
 simp only [Option.bind_some]
 cases v
 ·rfl
 obtain ⟨hs,hE,hsm,ts,hL⟩:=hq rfl
 have hcnt:=hL.cnt
 rw [F23_ok hE hsm hs hL (by omega)]
 simp only [Bool.not_true,cond_false,Option.bind_some]
 rw [F39_eq (by omega),lexR_ok hL]
 have e0:((0:Int) != 0) = false:=rfl
 simp only [Option.bind_some,e0,cond_false]
 obtain ⟨r,hr,hr1,hr2⟩:=pairs_ok ts (by omega) (n:=N14) (by omega)
 have hr':iter (σ:=(List Int) × Int) (ρ:=List Int) (parS ts) N14 ([],0) = some r:=hr
 unfold parS at hr'
 rw [hr']
 simp only [Option.bind_some]
 cases hz:(r.length:Int) == 0
 rotate_left
 ·rfl
 have hz':r.length≠0:=by
  intro h
  rw [h] at hz
  cases hz
 have ew:w64 (w:Int) = (w:Int):=w64_id (by omega) (by omega)
 have em:remI (w64 (w:Int)) (r.length:Int) = some ((w % r.length:Nat):Int):=by
  rw [ew,remI,if_neg (by omega)]
  rfl
 have hlt:w % r.length < r.length:=Nat.mod_lt _ (by omega)
 have hget:r[w % r.length]? = some r[w % r.length]:=List.getElem?_eq_getElem hlt
 generalize w % r.length = k at em hlt hget
 obtain ⟨i,t,hp,hi,ht⟩:=hr2 _ (List.mem_of_getElem? hget)
 rw [hp] at hget
 obtain ⟨j,u,hij,hj,hu,h44⟩:=F44_ok (by omega) (bal_ts hE hL) hi ht (n:=N14) (by omega)
 have ej:decide ((j:Int) < 0) = false:=by simp
 rw [em]
 simp only [cond_false,Option.bind_some,idxL_some hget,h44,ej,idxL_some hi,idxL_some hj]
 obtain ⟨p,m,q,us,htx,hpt,hpu,hlen,hU⟩:=unpair hL hi hj hij ht hu
 rw [tl_bs] at htx
 have h4:=hL.len
 rw [size_bs,htx] at h4
 obtain ⟨c1,c2,c3⟩:=cut3 (p:=p) (m:=m) (q:=q) (by omega)
 have hl5:(p ++ 40 :: (m ++ 41 :: q)).length = p.length + 1 + m.length + 1 + q.length:=by simp; omega
 rw [hpt,hpu,htx,c1,c2,c3]
 simp only [Option.bind_some]
 rw [catT_eq (by simp only [tl_bs,List.length_cons,List.length_nil]; omega)]
 simp only [Option.bind_some,tl_bs]
 rw [catT_eq (by simp only [tl_bs,List.length_append,List.length_cons,List.length_nil]; omega)]
 simp only [Option.bind_some,tl_bs]
 rw [catT_eq (by simp only [tl_bs,List.length_append,List.length_cons,List.length_nil]; omega)]
 simp only [Option.bind_some,tl_bs]
 rw [catT_eq (by simp only [tl_bs,List.length_append,List.length_cons,List.length_nil]; omega)]
 simp only [Option.bind_some,tl_bs]
 have ex:p ++ [32] ++ m ++ [32] ++ q = p ++ 32 :: (m ++ 32 :: q):=by simp
 rw [ex]
 obtain ⟨y,h29,hy⟩:=other hE hs hL hU hlen (n:=N14) (by omega)
 rw [h29]
 simp only [Option.bind_some,cond_true]
 cases hd:decide (0 < (y.2.length:Int))
 ·have hnil:y.2 = []:=by
   cases h:y.2 with
   | nil=>rfl
   | cons a b=>rw [h] at hd; simp at hd
  obtain ⟨v,hv,hq⟩:=hy hnil
  rw [hv]
  simp only [cond_false,Option.bind_some]
  cases v
  ·rfl
  ·obtain ⟨a,b,g1,g2,g3⟩:=hq rfl
   rw [g1,g2]
   simp only [Bool.not_true,cond_false,Option.bind_some]
   rw [g3]
   rfl
 ·rfl
end Go.Proofs.YtbecjgckobhmpaaGreatDoor
end
