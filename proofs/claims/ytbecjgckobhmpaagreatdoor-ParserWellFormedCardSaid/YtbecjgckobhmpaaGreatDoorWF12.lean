/-
  Proved here: a part of what the claim needs (texts PX PL6 of the prover's own).
-/
import Derived.Test.YtbecjgckobhmpaaGreatDoorWF11
section
namespace Go.Proofs.YtbecjgckobhmpaaGreatDoor
open Go Go.AM Go.Proofs
def zeroN:Node:=Node.mk 0 (bs []) (bs []) 0 0 0 false [] 0
def endX (fin:Int):Out Node→Node × List Diag
 | .ok e _=>if smallP e then (e,[]) else (zeroN,[⟨2,0⟩])
 | .bad b s=>(zeroN,[⟨codeOf b s.rest,posOf fin s.rest⟩])
 | .out=>(zeroN,[])
theorem whole_some {n:Nat} (hn:9000≤n) {ts:List Token} (hc:ts.length≤1500) (fin:Int):(M.whole n).run fin ⟨ts,0,[]⟩≠.out:=by
 refine M.tot_bind (L:=1501) (M.tot_expr (by omega)) (fun e=>M.tot_look fun t=>M.tot_cond (M.tot_fail _) (M.tot_ret _)) fin ⟨ts,0,[]⟩ ?_
 simp only
 omega
theorem F29_ok {n:Nat} (h1:9000≤n) {s:ByteArray} {ts:List Token} (hs:Lexed s ts):F29 n s = some (endX s.size ((M.whole n).run s.size ⟨ts,0,[]⟩)):=by
 unfold F29
 rw [F55_eq (by omega),lexR_ok hs]
 simp only [Option.bind_some]
 have hm:(RS.mk ts 0 (s.size:Int) 0 []) = mkS ts s.size ⟨ts,0,[]⟩:=by simp [mkS,addDs]
 have hsim:=sim_whole n ts s.size ⟨ts,0,[]⟩ hs.cnt hs.lx.oks (List.suffix_refl _)
 have ht:=whole_some h1 hs.cnt s.size
 have e:((0:Int) != 0) = false:=rfl
 rw [e,hm,hsim]
 cases hr:(M.whole n).run s.size ⟨ts,0,[]⟩ with
 | ok x s' =>
  obtain ⟨d,hd,hq⟩:=M.post_whole n s.size ⟨ts,0,[]⟩ x s' hs.lx.oks hr
  have hsz:sz x≤1500:=by
   have:=hq.2
   have:=hs.cnt
   simp only at hd
   omega
  simp only [cond_false,toO,guardF,Option.bind_some,endX]
  rw [G59 x (by omega) (by omega)]
  by_cases hsm:smallP x
  ·rw [decide_eq_true hsm,if_pos hsm]; rfl
  ·rw [decide_eq_false hsm,if_neg hsm]; rfl
 | bad b s' =>
  have hne:(codeOf b s'.rest != 0) = true:=by
   have:=code_ne b s'.rest
   simp only [bne,this,Bool.not_false]
  simp only [cond_false,toO,guardF,Option.bind_some,endX,hne,cond_true]
  rfl
 | out=>exact absurd hr ht
theorem F29_bad {n:Nat} (h1:9000≤n) {s:ByteArray} {e p:Int} (h:lexR s = ([],e,p)) (he:e≠0):F29 n s = some (zeroN,[⟨e,p⟩]):=by
 unfold F29
 rw [F55_eq (by omega),h]
 simp only [Option.bind_some]
 have:(e != 0) = true:=by simpa using he
 rw [this]
 rfl
theorem G28 {b:Nat} (hb:b≤9223372036854775807) (x:Node) (hlim:Lim b x) (hs:sz x≤5000) {n:Nat} (hn:20000≤n):F28 n x = some ((x.kind == 62 || isE x.kind) && (decide (smallP x) && okT x)):=by
 unfold F28
 rw [G59 x (by omega) (by omega),F62_eq,F64_eq hb (sz x) x (Nat.le_refl _) hlim n (by omega)]
 simp only [Option.bind_some]
 by_cases h:x.kind = 62
 ·have e:(x.kind != 62) = false:=by simp [h]
  have e2:(x.kind == 62) = true:=by simp [h]
  rw [e,e2]
  cases decide (smallP x) <;> rfl
 ·have e:(x.kind != 62) = true:=by simpa using h
  have e2:(x.kind == 62) = false:=nbeq h
  rw [e,e2]
  cases isE x.kind <;> cases decide (smallP x) <;> rfl
theorem nmLen {s:List UInt8} (h:nameB s = true):s.length≤16:=by
 simp only [nameB,Bool.and_eq_true,decide_eq_true_eq] at h
 exact h.1.1.2
theorem ptLen:∀ (k:Nat) (s:List UInt8),pathN k s = true→s.length≤17 * k
 | 0,s,h=>by simp [pathN] at h
 | k + 1,s,h=>by
  rw [pathN,Bool.and_eq_true] at h
  have h1:=nmLen h.1
  have hspec:=cutB_spec s
  cases hc:(cutB s).2 with
  | none =>
   rw [(hspec.1 hc).1] at h1
   omega
  | some r =>
   have h2:=h.2
   rw [hc] at h2
   have:=ptLen k r h2
   have e:=congrArg List.length (hspec.2 r hc).1
   simp only [List.length_append,List.length_cons] at e
   omega
theorem lvLen {x:ByteArray} (h:levelI x≠0):(tl x).length≤3:=by
 have hs:∀ l:List UInt8,strEq x (bs l) = true→(tl x).length = l.length:=by
  intro l hl
  rw [strEq_iff.1 hl]
  rfl
 unfold levelI at h
 simp only [cond_eq_ite] at h
 repeat' split at h
 all_goals (rename_i hh; first | (simp only [Bool.or_eq_true] at hh; rcases hh with hh | hh | hh | hh <;> (have:=hs _ hh; simp at this; omega)) | (simp only [Bool.or_eq_true] at hh; rcases hh with hh | hh <;> (have:=hs _ hh; simp at this; omega)) | (have:=hs _ hh; simp at this; omega) | exact absurd rfl h)
theorem fields_len {x:Node} (h:fieldsB x = true):(tl x.name).length≤60∧(tl x.other).length≤60:=by
 simp only [fieldsB,Bool.and_eq_true] at h
 obtain ⟨hg,hn,ho,_⟩:=h
 have he:∀ y:ByteArray,strEq y (bs []) = true→(tl y).length≤60:=by
  intro y hy
  rw [strEq_iff.1 hy]
  simp [tl_bs]
 have hN:∀ y:ByteArray,nameB (tl y) = true→(tl y).length≤60:=fun y hy=>by have:=nmLen hy; omega
 have hP:∀ y:ByteArray,pathB (tl y) = true→(tl y).length≤60:=fun y hy=>by have:=ptLen 3 _ hy; omega
 constructor
 ·rcases Bool.or_eq_true_iff.1 hn with hn | hn
  ·simp only [hasName,Bool.or_eq_true,beq_iff_eq] at hn
   rcases hn with (((((((((((((((((h|h)|h)|h)|h)|h)|h)|h)|h)|h)|h)|h)|h)|h)|h)|h)|h)|h)
   all_goals simp [fldGood,h] at hg
   all_goals first | exact hP _ hg | exact hN _ hg | exact hN _ hg.1 | (have:=lvLen hg; omega)
  ·exact he _ hn
 ·rcases Bool.or_eq_true_iff.1 ho with ho | ho
  ·simp only [hasOther,Bool.or_eq_true,beq_iff_eq] at ho
   rcases ho with (((h|h)|h)|h)
   ·simp [fldGood,h] at hg
    rcases hg.2.2.2.2 with h2 | h2
    ·exact he _ h2
    ·exact hN _ h2.2
   ·simp [fldGood,h] at hg
    rcases hg.2 with h2 | h2
    ·exact he _ h2
    ·exact hN _ h2
   ·simp [fldGood,h] at hg
    exact hN _ hg.2
   ·simp [fldGood,h] at hg
    exact hP _ hg.2.1
  ·exact he _ ho
theorem lim_of:∀ (m:Nat) (x:Node),sz x≤m→sz x≤100000→okT x = true→Lim 100000 x:=by
 intro m
 induction m with
 | zero=>intro x hx; have:=sz_pos x; omega
 | succ m ih =>
  intro x hx hx2 h
  obtain ⟨hf,_,hk⟩:=okT_parts h
  have hl:=fields_len hf
  have hsz:=sz_eq x
  have hlen:=szs_len x.kids
  refine .mk x (by omega) (by omega) (by omega) fun y hy=>?_
  have:=szs_mem x.kids y hy
  exact ih y (by omega) (by omega) (hk y hy)
theorem F28_okT {x:Node} (h:okT x = true) (hk:(x.kind == 62 || isE x.kind) = true) (hs:sz x≤5000) {n:Nat} (hn:20000≤n):F28 n x = some (decide (smallP x)):=by
 rw [G28 (b:=100000) (by omega) x (lim_of _ x (Nat.le_refl _) (by omega) h) hs hn,hk,h,Bool.true_and,Bool.and_true]
theorem ok_src {l:List Node} (h:∀ y ∈ l,okT y = true∧isItm y.kind = true):okT (srcN l) = true:=by
 refine M.okT_of (by simp [srcN,fieldsB,fldGood,hasName,hasOther,hasN,strEq_self]) ?_ (fun y hy=>(h y hy).1)
 have:l.all (fun y=>isItm y.kind) = true:=List.all_eq_true.2 fun y hy=>(h y hy).2
 simp only [srcN,kidsB,leafK,oneK]
 simp [this]
def Inc (fin:Int) (l:List Token):Prop:=l.Pairwise (fun a b=>a.pos≤b.pos)∧∀ t ∈ l,t.pos≤fin
theorem Inc.tail {fin:Int} {t:Token} {l:List Token} (h:Inc fin (t :: l)):Inc fin l∧t.pos≤posOf fin l:=by
 obtain ⟨h1,h2⟩:=h
 rw [List.pairwise_cons] at h1
 refine ⟨⟨h1.2,fun x hx=>h2 x (List.mem_cons_of_mem _ hx)⟩,?_⟩
 cases l with
 | nil=>exact h2 t (List.mem_cons_self ..)
 | cons x l=>exact h1.1 x (List.mem_cons_self ..)
theorem Inc.le {fin:Int} {l:List Token} (h:Inc fin l):posOf fin l≤fin:=by
 cases l with
 | nil=>exact Int.le_refl _
 | cons x l=>exact h.2 x (List.mem_cons_self ..)
def RepOk (lo fin:Int) (l:List (Int × Int)):Prop:=l.Pairwise (fun a b=>a.2≤b.2)∧∀ r ∈ l,r.1≠0∧lo≤r.2∧r.2≤fin
theorem M.rep_ok {α:Type} (fin:Int):∀ (m:M α) (s:PS),Inc fin s.rest→M.Ends (m.run fin s) fun s'=>∃ l,s'.reps = s.reps ++ l∧RepOk (posOf fin s.rest) fin l
 | .ret a,s,_=>⟨[],by simp,by simp [RepOk]⟩
 | .fail b,s,_=>⟨[],by simp,by simp [RepOk]⟩
 | .out,s,_=>trivial
 | .look k,s,h=>rep_ok fin (k (hdOf s.rest)) s h
 | .adv k,s,h=>by
  obtain ⟨r,i,p⟩:=s
  cases r with
  | nil=>trivial
  | cons t r =>
   have ht:=Inc.tail h
   refine (rep_ok fin k ⟨r,i,p⟩ ht.1).mono fun s' ⟨l,h1,h2⟩=>⟨l,h1,h2.1,fun x hx=>?_⟩
   have:=h2.2 x hx
   have h3:=ht.2
   simp only [posOf] at this ⊢
   exact ⟨this.1,Int.le_trans h3 this.2.1,this.2.2⟩
 | .pos k,s,h=>rep_ok fin (k (posOf fin s.rest)) s h
 | .setI i k,s,h=>rep_ok fin k ⟨s.rest,i,s.reps⟩ h
 | .getI k,s,h=>rep_ok fin (k s.inner) s h
 | .rep b k,s,h=>(rep_ok fin k ⟨s.rest,s.inner,s.reps ++ [(codeOf b s.rest,posOf fin s.rest)]⟩ h).mono fun s' ⟨l,h1,h2⟩=>by
   refine ⟨(codeOf b s.rest,posOf fin s.rest) :: l,by rw [h1]; simp,List.pairwise_cons.2 ⟨fun x hx=>(h2.2 x hx).2.1,h2.1⟩,fun x hx=>?_⟩
   rcases List.mem_cons.1 hx with rfl | hx
   ·exact ⟨by have:=code_ne b s.rest; simpa using this,Int.le_refl _,h.le⟩
   ·exact h2.2 x hx
theorem addD_cases (d:List Diag) (r:Int × Int):addD d r = d∨(addD d r = d ++ [⟨r.1,r.2⟩]∧d.length < 20∧∀ y,d.getLast? = some y→y.pos≠r.2):=by
 unfold addD
 cases h20:decide (20≤(d.length:Int))
 ·have h20':¬ 20≤(d.length:Int):=of_decide_eq_false h20
  simp only [cond_false]
  cases hl:d.getLast? with
  | none=>exact .inr ⟨rfl,by omega,by simp⟩
  | some y =>
   cases hy:y.pos == r.2
   ·exact .inr ⟨by simp [hy],by omega,fun z hz=>by simp only [Option.some.injEq] at hz; subst hz; simpa using hy⟩
   ·exact .inl (by simp [hy])
 ·exact .inl rfl
theorem addDs_ok {lo fin:Int}:∀ (l:List (Int × Int)) (d:List Diag),RepOk lo fin l→d.length≤20→d.Pairwise (fun a b=>a.pos < b.pos)→(∀ x ∈ d,(x.err≠0∧lo≤x.pos∧x.pos≤fin)∧∀ r ∈ l,x.pos≤r.2) →
  (addDs d l).length≤20∧(addDs d l).Pairwise (fun a b=>a.pos < b.pos)∧∀ x ∈ addDs d l,x.err≠0∧lo≤x.pos∧x.pos≤fin
 | [],d,_,h1,h2,h3=>⟨h1,h2,fun x hx=>(h3 x hx).1⟩
 | r :: l,d,hr,h1,h2,h3=>by
  have hr1:=List.pairwise_cons.1 hr.1
  have hr':RepOk lo fin l:=⟨hr1.2,fun x hx=>hr.2 x (List.mem_cons_of_mem _ hx)⟩
  have hsame:(addDs d l).length≤20∧(addDs d l).Pairwise (fun a b=>a.pos < b.pos)∧∀ x ∈ addDs d l,x.err≠0∧lo≤x.pos∧x.pos≤fin :=
   addDs_ok l d hr' h1 h2 fun x hx=>⟨(h3 x hx).1,fun r hr=>(h3 x hx).2 r (List.mem_cons_of_mem _ hr)⟩
  have e:addDs d (r :: l) = addDs (addD d r) l:=rfl
  rw [e]
  rcases addD_cases d r with h | ⟨h,h20,hy⟩
  ·rw [h]
   exact hsame
  ·rw [h]
   have hlt:∀ x ∈ d,x.pos < r.2:=by
    intro x hx
    cases hl:d.getLast? with
    | none =>
     rw [List.getLast?_eq_none_iff] at hl
     rw [hl] at hx
     cases hx
    | some y =>
     have hy':=hy y hl
     have h5:=(h3 y (List.mem_of_getLast? hl)).2 r (List.mem_cons_self ..)
     obtain ⟨d',rfl⟩:∃ d',d = d' ++ [y]:=List.getLast?_eq_some_iff.1 hl
     rcases List.mem_append.1 hx with hx | hx
     ·have:=(List.pairwise_append.1 h2).2.2 x hx y (by simp)
      omega
     ·rw [List.mem_singleton.1 hx]
      omega
   refine addDs_ok l _ hr' (by simp; omega) (List.pairwise_append.2 ⟨h2,by simp,fun x hx y hy=>?_⟩) fun x hx=>?_
   ·rw [List.mem_singleton.1 hy]
    exact hlt x hx
   ·rcases List.mem_append.1 hx with hx | hx
    ·exact ⟨(h3 x hx).1,fun r hr=>(h3 x hx).2 r (List.mem_cons_of_mem _ hr)⟩
    ·rw [List.mem_singleton.1 hx]
     exact ⟨hr.2 r (List.mem_cons_self ..),fun y hy=>hr1.1 y hy⟩
theorem Read.diags {n:Nat} {s:ByteArray} {ts:List Token} (hs:Lexed s ts) {l:List Node} {p:List (Int × Int)} (hr:Read n ts s.size l p) :
  (addDs [] p).length≤20∧(addDs [] p).Pairwise (fun a b=>a.pos < b.pos)∧∀ x ∈ addDs [] p,x.err≠0∧0≤x.pos∧x.pos≤(s.size:Int):=by
 have hle:=hs.lx.le (by rw [← size_tl]; exact Nat.le_refl _)
 have hinc:Inc s.size ts:=⟨hle.1.imp fun h=>by omega,fun t ht=>by have:=hle.2 t ht; omega⟩
 have h:=M.rep_ok s.size (M.source n) ⟨ts,0,[]⟩ hinc
 obtain ⟨i,hi⟩:=hr.run
 rw [hi] at h
 obtain ⟨l',h1,h2⟩:=h
 simp only [List.nil_append] at h1
 subst h1
 have h0:0≤posOf s.size ts:=by
  cases ts with
  | nil=>simp [posOf]
  | cons t r=>have:=(hle.2 t (List.mem_cons_self ..)).1; simp only [posOf]; omega
 have:=addDs_ok p [] h2 (by simp) (by simp) (by simp)
 exact ⟨this.1,this.2.1,fun x hx=>⟨(this.2.2 x hx).1,Int.le_trans h0 (this.2.2 x hx).2.1,(this.2.2 x hx).2.2⟩⟩
end Go.Proofs.YtbecjgckobhmpaaGreatDoor
end
section
namespace Go.Proofs.YtbecjgckobhmpaaGreatDoor
open Go Go.AM Go.Proofs
structure TreeOk (s:ByteArray) (x:Node) (d:List Diag):Prop where
 kids:∃ l,x = srcN l∧(∀ y ∈ l,okT y = true∧isItm y.kind = true)∧szs l≤1500
 small:d = []→smallP x
 len:d.length≤20
 inc:d.Pairwise (fun a b=>a.pos < b.pos)
 ok:∀ y ∈ d,y.err≠0∧0≤y.pos∧y.pos≤(s.size:Int)
theorem F25_all (s:ByteArray) {n:Nat} (h1:9000≤n) (h2:n≤100000000):∃ x d,F25 n s = some (x,d)∧TreeOk s x d:=by
 have one:∀ e p:Int,e≠0→0≤p→p≤(s.size:Int)→TreeOk s (srcN []) [⟨e,p⟩]:=fun e p he h0 hp =>
  ⟨⟨[],rfl,by simp,by simp [szs]⟩,fun h=>by simp at h,by simp,by simp,fun y hy=>by rw [List.mem_singleton.1 hy]; exact ⟨he,h0,hp⟩⟩
 rcases lexR_cases s with ⟨ts,hL,_⟩ | ⟨e,p,h,he,h0,hp⟩
 ·obtain ⟨l,p,hR⟩:=read_some h1 hL.cnt hL.lx.oks s.size
  have hd:=hR.diags hL
  refine ⟨(endP l (addDs [] p)).1,(endP l (addDs [] p)).2,F25_ok h1 h2 hL hR,?_⟩
  have hk:∃ l',srcN l = srcN l'∧(∀ y ∈ l',okT y = true∧isItm y.kind = true)∧szs l'≤1500:=⟨l,rfl,hR.ok,by have:=hR.sz; have:=hL.cnt; omega⟩
  unfold endP
  by_cases h:addDs [] p = []
  ·rw [if_pos h]
   by_cases hsm:smallP (srcN l)
   ·rw [if_pos hsm]
    exact ⟨hk,fun _=>hsm,by simp,by simp,by simp⟩
   ·rw [if_neg hsm]
    exact one 2 0 (by omega) (by omega) (by omega)
  ·rw [if_neg h]
   exact ⟨hk,fun h'=>absurd h' h,hd.1,hd.2.1,hd.2.2⟩
 ·have he0:e≠0:=by omega
  exact ⟨_,_,F25_bad h1 h he0,one e p he0 h0 hp⟩
theorem F29_all (s:ByteArray) {n:Nat} (h1:9000≤n):∃ x d,F29 n s = some (x,d)∧((d = []∧okE x∧smallP x)∨(∃ e p,d = [⟨e,p⟩]∧e≠0∧0≤p∧p≤(s.size:Int)∧x = zeroN)):=by
 rcases lexR_cases s with ⟨ts,hL,_⟩ | ⟨e,p,h,he,h0,hp⟩
 ·refine ⟨_,_,F29_ok h1 hL,?_⟩
  have ht:=whole_some h1 hL.cnt s.size
  have hsuf:=M.run_suf s.size (M.whole n) ⟨ts,0,[]⟩
  cases hr:(M.whole n).run s.size ⟨ts,0,[]⟩ with
  | ok x s' =>
   obtain ⟨d,hd,hq⟩:=M.post_whole n s.size ⟨ts,0,[]⟩ x s' hL.lx.oks hr
   simp only
   by_cases hsm:smallP x
   ·rw [if_pos hsm]
    exact .inl ⟨by first | rfl | trivial,hq.1,hsm⟩
   ·rw [if_neg hsm]
    exact .inr ⟨2,0,rfl,by omega,by omega,by omega,by first | rfl | trivial⟩
  | bad b s' =>
   rw [hr] at hsuf
   simp only
   refine .inr ⟨_,_,rfl,by have:=code_ne b s'.rest; simpa using this,?_,?_,by first | rfl | trivial⟩
   ·have hle:=hL.lx.le (by rw [← size_tl]; exact Nat.le_refl _)
    cases hc:s'.rest with
    | nil=>simp [posOf]
    | cons t r =>
     have hm:t ∈ ts:=List.IsSuffix.subset hsuf (by rw [hc]; exact List.mem_cons_self ..)
     have:=(hle.2 t hm).1
     simp only [posOf]
     omega
   ·have hle:=hL.lx.le (by rw [← size_tl]; exact Nat.le_refl _)
    cases hc:s'.rest with
    | nil=>simp [posOf]
    | cons t r =>
     have hm:t ∈ ts:=List.IsSuffix.subset hsuf (by rw [hc]; exact List.mem_cons_self ..)
     have:=(hle.2 t hm).2
     simp only [posOf]
     omega
  | out=>exact absurd hr ht
 ·have he0:e≠0:=by omega
  exact ⟨_,_,F29_bad h1 h he0,.inr ⟨e,p,rfl,he0,h0,hp,rfl⟩⟩
theorem law6 (s t:ByteArray):∃ n,F6 n s t = some true:=by
 refine ⟨20000,?_⟩
 obtain ⟨x,d,h25,hT⟩:=F25_all s (n:=20000) (by omega) (by omega)
 obtain ⟨y,e,h29,hX⟩:=F29_all t (n:=20000) (by omega)
 obtain ⟨l,rfl,hok,hsz⟩:=hT.kids
 have hszl:sz (srcN l)≤1501:=by rw [srcN,M.szL]; omega
 unfold F6
 rw [F24_ok]
 simp only [Option.bind_some]
 cases (decide ((6000:Int) < (s.size:Int)) || decide ((6000:Int) < (t.size:Int)))
 ·rw [h25,h29]
  have c1:((srcN l).kind != 62) = false:=rfl
  have c2:decide (20 < (d.length:Int)) = false:=by have:=hT.len; exact decide_eq_false (by omega)
  have c3:F26 20000 (srcN l) (4000:Int) = some true:=by
   have:=G26 (srcN l) (by omega) (lim:=4000) (by omega) (n:=20000) (by omega)
   rw [decide_eq_true (by omega:sz (srcN l)≤4000)] at this
   exact this
  have c4:=F28_okT (ok_src hok) (x:=srcN l) rfl (by omega) (n:=20000) (by omega)
  have c5:=G27 (srcN l) (by omega) (n:=20000) (by omega)
  simp only [cond_false,Option.bind_some,c1,c2,c3,c4,c5,Bool.not_true]
  have hmid:(bif (d.length:Int) == 0 then (bif !(decide (smallP (srcN l))) then some (.inl ()) else some (.inr ())) else bif decide (smallP (srcN l)) then (bif !(decide (smallP (srcN l))) then some (.inl ()) else some (.inr ())) else some (.inr ()):Option (Unit ⊕ Unit)) = some (.inr ()):=by
   by_cases hsm:smallP (srcN l)
   ·rw [decide_eq_true hsm]
    cases (d.length:Int) == 0 <;> rfl
   ·rw [decide_eq_false hsm]
    have hd:d≠[]:=fun h=>hsm (hT.small h)
    have:((d.length:Int) == 0) = false:=beq_eq_false_iff_ne.2 (by have:=List.length_pos_iff.2 hd; omega)
    rw [this]
    rfl
  rw [hmid]
  simp only [Option.bind_some]
  have hloop:T (iter (σ:=Int × Int) (ρ:=Unit ⊕ Unit) (fun s17=>bif decide (s17.2 < (d.length:Int)) then
     ((idxL d s17.2).bind fun x19 =>
     bif x19.err == 0 then
      (some (.inr (.inl ())))
     else
      ((idxL d s17.2).bind fun x21 =>
      bif decide (x21.pos≤s17.1) then
       (some (.inr (.inl ())))
      else
       ((idxL d s17.2).bind fun x23 =>
       bif decide ((s.size:Int) < x23.pos) then
        (some (.inr (.inl ())))
       else
        ((idxL d s17.2).bind fun x25 =>
        some (.inl (x25.pos,w64 (s17.2 + 1)))))))
    else
     (some (.inr (.inr ())))) 20000 (((-1):Int),(0:Int))) (fun r=>r = .inr ()):=by
   have hlen:=hT.len
   refine iter_inv d (fun (k:Nat) (a:Int)=>(a,(k:Int))) (fun k a=>∀ y ∈ d.drop k,a < y.pos) _ (fun k a z hz ha=>?_) (fun a ha=>?_) 20000 (-1) (by omega) (fun y hy=>by have:=hT.ok y (by simpa using hy); omega)
   ·left
    have hlt:=lt_of_get hz
    have c2:decide ((k:Int) < (d.length:Int)) = true:=by simpa using hlt
    have hzd:d.drop k = z :: d.drop (k + 1):=get_drop hz
    have h1:=hT.ok z (List.mem_of_getElem? hz)
    have h2:=ha z (by rw [hzd]; exact List.mem_cons_self ..)
    have e1:(z.err == 0) = false:=by simpa using h1.1
    have e2:decide (z.pos≤a) = false:=decide_eq_false (by omega)
    have e3:decide ((s.size:Int) < z.pos) = false:=decide_eq_false (by omega)
    simp only [c2,cond_true,idxL_some hz,Option.bind_some,e1,e2,e3,cond_false,w64_nat (k:=k) (by omega)]
    refine ⟨z.pos,rfl,fun u hu=>?_⟩
    have hp:(d.drop k).Pairwise (fun a b=>a.pos < b.pos):=hT.inc.sublist (List.drop_sublist _ _)
    rw [hzd,List.pairwise_cons] at hp
    exact hp.1 u hu
   ·have c2:decide ((d.length:Int) < (d.length:Int)) = false:=by simp
    simp only [c2,cond_false]
    exact ⟨_,rfl,rfl⟩
  obtain ⟨r,hr,rfl⟩:=hloop
  rw [hr]
  simp only [Option.bind_some]
  rcases hX with ⟨rfl,hE,hsm⟩ | ⟨e',p,rfl,he,h0,hp,rfl⟩
  ·have hne:(y.kind != 62) = true:=by
    have:=hE.2
    simp only [isE,Bool.and_eq_true,decide_eq_true_eq] at this
    simp
    omega
   have h28:=F28_okT hE.1 (by rw [hE.2]; simp) (by have:=hsm.1; omega) (n:=20000) (by omega)
   rw [decide_eq_true hsm] at h28
   simp only [List.length_nil,hne,h28,cond_true,Option.bind_some]
   rfl
  ·have e1:(e' != 0) = true:=by simpa using he
   have e2:decide (0≤p) = true:=decide_eq_true h0
   have e3:decide (p≤(t.size:Int)) = true:=decide_eq_true hp
   have e4:F30 20000 zeroN (Node.mk 0 (bs []) (bs []) 0 0 0 false ([]:List Node) 0) = some true:=G30t rfl (by simp [zeroN,M.sz0]) (by simp [zeroN,M.sz0])
   have e5:idxL [(⟨e',p⟩:Diag)] 0 = some ⟨e',p⟩:=rfl
   have e6:(((([(⟨e',p⟩:Diag)]:List Diag).length:Nat):Int) == 0) = false:=rfl
   have e7:(((([(⟨e',p⟩:Diag)]:List Diag).length:Nat):Int) == 1) = true:=rfl
   simp only [e5,e6,e7,e1,e2,e3,e4,cond_true,cond_false,Option.bind_some]
 ·rfl
end Go.Proofs.YtbecjgckobhmpaaGreatDoor
end
