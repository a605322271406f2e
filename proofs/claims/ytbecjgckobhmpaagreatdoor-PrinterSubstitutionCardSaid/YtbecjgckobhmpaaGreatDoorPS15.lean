/-
  Proved here: a part of what the claim needs (texts ZE ZV ZW ZO ZX ZG ZI ZY ZZ ZB ZL ZC ZR ZT ZU ZU2 ZD ZF ZK ZK2 ZK3 ZH ZN ZLA ZLB ZLC ZP ZTK of the prover's own).
-/
import Derived.Test.YtbecjgckobhmpaaGreatDoorPS14
section
namespace Go.AM
open Go
def runF {α A ρ:Type} (f:Nat→A→α→A ⊕ ρ) (fin:A→ρ):Nat→List α→A→ρ
 | _,[],a=>fin a
 | k,x :: r,a=>match f k a x with
  | .inl a'=>runF f fin (k + 1) r a'
  | .inr v=>v
theorem iter_runF {α A ρ σ:Type} {step:σ→Option (σ ⊕ ρ)} (l:List α) (mk:Nat→A→σ) (f:Nat→A→α→A ⊕ ρ) (fin:A→ρ)
  (hin:∀ k a x,l[k]? = some x→step (mk k a) = some (match f k a x with | .inl a'=>.inl (mk (k + 1) a') | .inr v=>.inr v))
  (hend:∀ a,step (mk l.length a) = some (.inr (fin a))) :
  ∀ (n:Nat) (a:A),l.length < n→iter step n (mk 0 a) = some (runF f fin 0 l a):=by
 have key:∀ (r:List α) (k:Nat) (a:A) (n:Nat),l.drop k = r→k≤l.length→r.length < n→iter step n (mk k a) = some (runF f fin k r a):=by
  intro r
  induction r with
  | nil =>
   intro k a n hk hkl hn
   have hkl':k = l.length:=by
    have:=congrArg List.length hk
    simp at this
    omega
   cases n with
   | zero=>simp at hn
   | succ n=>subst hkl'; simp only [iter,hend,runF]
  | cons x r ih =>
   intro k a n hk hkl hn
   have hlt:k < l.length:=by
    have:=congrArg List.length hk
    simp at this
    omega
   have hx:l[k]? = some x:=by
    have:=congrArg (fun z=>z[0]?) hk
    simpa using this
   have hr:l.drop (k + 1) = r:=by
    have:=congrArg (List.drop 1) hk
    simpa [List.drop_drop,Nat.add_comm] using this
   cases n with
   | zero=>simp at hn
   | succ n =>
    simp only [iter,hin k a x hx,runF]
    cases hf:f k a x with
    | inl a'=>simpa using ih (k + 1) a' n hr (by omega) (by simpa using hn)
    | inr v=>rfl
 intro n a hn
 exact key l 0 a n rfl (by omega) hn
theorem runF_all {α:Type} (p:α→Bool):∀ (l:List α) (k:Nat),runF (A:=Unit) (ρ:=Unit ⊕ Unit) (fun _ _ x=>if p x then .inl () else .inr (.inl ())) (fun _=>.inr ()) k l () = if l.all p then .inr () else .inl ()
 | [],_=>rfl
 | x :: r,k=>by
  simp only [runF]
  cases hp:p x
  ·simp [hp]
  ·simp [hp,runF_all p r (k + 1)]
theorem w64_id {x:Int} (h1:-9223372036854775808≤x) (h2:x≤9223372036854775807):w64 x = x:=by
 show (if (true && decide (x % 18446744073709551616 ≥ 9223372036854775808)) = true then x % 18446744073709551616 - 18446744073709551616 else x % 18446744073709551616) = x
 split
 ·rename_i h
  simp at h
  omega
 ·rename_i h
  simp at h
  omega
theorem w64_nat {k:Nat} (h:k < 9223372036854775807):w64 ((k:Int) + 1) = ((k + 1:Nat):Int):=by
 rw [w64_id (by omega) (by omega)]; rfl
theorem idxL_some {α:Type} {l:List α} {k:Nat} {x:α} (h:l[k]? = some x):idxL l (k:Int) = some x:=by
 simp [idxL,h]
theorem idxS_some {s:ByteArray} {k:Nat} {b:UInt8} (h:s.data.toList[k]? = some b):idxS s (k:Int) = some (b.toNat:Int):=by
 have:s[k]? = some b:=by
  have h2:s.data[k]? = some b:=by simpa using h
  exact h2
 simp [idxS,this]
theorem lt_of_get {α:Type} {l:List α} {k:Nat} {x:α} (h:l[k]? = some x):k < l.length:=(List.getElem?_eq_some_iff.1 h).1
theorem some_cond {α:Type} (c:Bool) (a b:α):(bif c then some a else some b) = some (bif c then a else b):=by cases c <;> rfl
theorem bor (c d:Bool):(bif c then c else d) = (c || d):=by cases c <;> rfl
theorem iter_all {α:Type} {step:Int→Option (Int ⊕ (Unit ⊕ Unit))} (l:List α) (p:α→Bool) (hl:l.length≤9223372036854775807)
  (hin:∀ (k:Nat) x,l[k]? = some x→step (k:Int) = some (if p x then .inl (w64 ((k:Int) + 1)) else .inr (.inl ())))
  (hend:step (l.length:Int) = some (.inr (.inr ()))) {n:Nat} (hn:l.length < n) :
  iter step n 0 = some (if l.all p then .inr () else .inl ()):=by
 have:=iter_runF l (fun (k:Nat) (_:Unit)=>(k:Int)) (fun _ _ x=>if p x then .inl () else .inr (.inl ())) (fun _=>.inr ()) (step:=step)
  (fun k a x hx=>by
   rw [hin k x hx,w64_nat (by have:=lt_of_get hx; omega)]
   cases p x <;> rfl)
  (fun _=>hend) n () hn
 rw [runF_all] at this
 exact this
def allI {α:Type} (p:Nat→α→Bool):Nat→List α→Bool
 | _,[]=>true
 | k,x :: r=>p k x && allI p (k + 1) r
theorem runF_allI {α:Type} (p:Nat→α→Bool):∀ (l:List α) (k:Nat),runF (A:=Unit) (ρ:=Unit ⊕ Unit) (fun k _ x=>if p k x then .inl () else .inr (.inl ())) (fun _=>.inr ()) k l () = if allI p k l then .inr () else .inl ()
 | [],_=>rfl
 | x :: r,k=>by
  simp only [runF,allI]
  by_cases hp:p k x = true
  ·simp only [hp,if_true,runF_allI p r (k + 1),Bool.true_and]
  ·simp [hp]
theorem iter_allI {α:Type} {step:Int→Option (Int ⊕ (Unit ⊕ Unit))} (l:List α) (p:Nat→α→Bool) (hl:l.length≤9223372036854775807)
  (hin:∀ (k:Nat) x,l[k]? = some x→step (k:Int) = some (if p k x then .inl (w64 ((k:Int) + 1)) else .inr (.inl ())))
  (hend:step (l.length:Int) = some (.inr (.inr ()))) {n:Nat} (hn:l.length < n) :
  iter step n 0 = some (if allI p 0 l then .inr () else .inl ()):=by
 have:=iter_runF l (fun (k:Nat) (_:Unit)=>(k:Int)) (fun k _ x=>if p k x then .inl () else .inr (.inl ())) (fun _=>.inr ()) (step:=step)
  (fun k a x hx=>by
   rw [hin k x hx,w64_nat (by have:=lt_of_get hx; omega)]
   cases p k x <;> rfl)
  (fun _=>hend) n () hn
 rw [runF_allI] at this
 exact this
theorem iter_inv {α A ρ σ:Type} {step:σ→Option (σ ⊕ ρ)} (l:List α) (mk:Nat→A→σ) (I:Nat→A→Prop) (Q:ρ→Prop)
  (hin:∀ k a x,l[k]? = some x→I k a→(∃ a',step (mk k a) = some (.inl (mk (k + 1) a'))∧I (k + 1) a')∨(∃ r,step (mk k a) = some (.inr r)∧Q r))
  (hend:∀ a,I l.length a→∃ r,step (mk l.length a) = some (.inr r)∧Q r) :
  ∀ (n:Nat) (a:A),l.length < n→I 0 a→∃ r,iter step n (mk 0 a) = some r∧Q r:=by
 have key:∀ (j k:Nat) (a:A) (n:Nat),k + j = l.length→j < n→I k a→∃ r,iter step n (mk k a) = some r∧Q r:=by
  intro j
  induction j with
  | zero =>
   intro k a n hk hn hi
   have hk':k = l.length:=by omega
   subst hk'
   obtain ⟨r,hr,hq⟩:=hend a hi
   cases n with
   | zero=>omega
   | succ n=>exact ⟨r,by simp only [iter,hr],hq⟩
  | succ j ih =>
   intro k a n hk hn hi
   have hlt:k < l.length:=by omega
   cases n with
   | zero=>omega
   | succ n =>
    rcases hin k a l[k] (List.getElem?_eq_getElem hlt) hi with ⟨a',hs,hi'⟩ | ⟨r,hs,hq⟩
    ·obtain ⟨r,hr,hq⟩:=ih (k + 1) a' n (by omega) (by omega) hi'
     exact ⟨r,by simp only [iter,hs]; exact hr,hq⟩
    ·exact ⟨r,by simp only [iter,hs],hq⟩
 intro n a hn hi
 exact key l.length 0 a n (by omega) hn hi
theorem iter_meas {ρ σ:Type} {step:σ→Option (σ ⊕ ρ)} (I:σ→Prop) (m:σ→Nat) (Q:ρ→Prop)
  (h:∀ s,I s→(∃ s',step s = some (.inl s')∧I s'∧m s' < m s)∨(∃ r,step s = some (.inr r)∧Q r)) :
  ∀ (n:Nat) (s:σ),m s < n→I s→∃ r,iter step n s = some r∧Q r:=by
 intro n
 induction n with
 | zero=>intro s hn; omega
 | succ n ih =>
  intro s hn hi
  rcases h s hi with ⟨s',hs,hi',hm⟩ | ⟨r,hs,hq⟩
  ·obtain ⟨r,hr,hq⟩:=ih s' (by omega) hi'
   exact ⟨r,by simp only [iter,hs]; exact hr,hq⟩
  ·exact ⟨r,by simp only [iter,hs],hq⟩
def tl (s:ByteArray):List UInt8:=s.data.toList
theorem cond_not_if {α:Type} (c:Bool) (a b:α):(bif c then some a else some b) = some (if (!c) = true then b else a):=by cases c <;> rfl
theorem cond_not_if2 {α:Type} (c:Bool) (a b:α):(bif !c then some a else some b) = some (if c = true then b else a):=by cases c <;> rfl
theorem bs_tl (s:ByteArray):bs (tl s) = s:=rfl
theorem tl_bs (l:List UInt8):tl (bs l) = l:=rfl
theorem size_tl (s:ByteArray):s.size = (tl s).length:=rfl
theorem size_bs (l:List UInt8):(bs l).size = l.length:=rfl
theorem subS_eq {s:ByteArray} {a b:Nat} (h1:a≤b) (h2:b≤(tl s).length):subS s (a:Int) (b:Int) = some (bs (((tl s).drop a).take (b - a))):=by
 rw [subS,if_pos ⟨by omega,by omega,by rw [size_tl]; omega⟩]
 congr 1
 have:(s.extract a b).data.toList = ((tl s).drop a).take (b - a):=by
  rw [ByteArray.data_extract,Array.toList_extract]
  rfl
 rw [← this]
 rfl
theorem subL_eq {α:Type} {l:List α} {a b:Nat} (h1:a≤b) (h2:b≤l.length):subL l (a:Int) (b:Int) = some ((l.drop a).take (b - a)):=by
 rw [subL,if_pos ⟨by omega,by omega,by omega⟩]
 simp
def T {α:Type} (o:Option α) (Q:α→Prop):Prop:=∃ r,o = some r∧Q r
theorem T.some {α:Type} {v:α} {Q:α→Prop} (h:Q v):T (some v) Q:=⟨v,rfl,h⟩
theorem T.bind {α β:Type} {o:Option α} {f:α→Option β} {P:α→Prop} {Q:β→Prop} (h:T o P) (k:∀ a,P a→T (f a) Q):T (o.bind f) Q:=by
 obtain ⟨a,rfl,ha⟩:=h
 exact k a ha
theorem T.cond {α:Type} {c:Bool} {a b:Option α} {Q:α→Prop} (h1:c = true→T a Q) (h2:c = false→T b Q):T (bif c then a else b) Q:=by
 cases c
 ·exact h2 rfl
 ·exact h1 rfl
theorem T.mono {α:Type} {o:Option α} {P Q:α→Prop} (h:T o P) (k:∀ a,P a→Q a):T o Q:=by
 obtain ⟨a,rfl,ha⟩:=h
 exact ⟨a,rfl,k a ha⟩
theorem T.of_eq {α:Type} {o:Option α} {v:α} (h:o = Option.some v):T o (· = v):=⟨v,h,rfl⟩
theorem idxS_T {s:ByteArray} {i:Int} (h0:0≤i) (h1:i < (s.size:Int)):T (idxS s i) (fun b=>0≤b∧b≤255):=by
 obtain ⟨k,rfl⟩:=Int.eq_ofNat_of_zero_le h0
 have hk:k < (tl s).length:=by rw [← size_tl]; omega
 refine ⟨_,idxS_some (List.getElem?_eq_getElem hk),by omega,?_⟩
 have:=((tl s)[k]).toNat_lt
 omega
theorem idxL_T {α:Type} {l:List α} {i:Int} (h0:0≤i) (h1:i < (l.length:Int)):T (idxL l i) (fun x=>x ∈ l):=by
 obtain ⟨k,rfl⟩:=Int.eq_ofNat_of_zero_le h0
 have hk:k < l.length:=by omega
 exact ⟨_,idxL_some (List.getElem?_eq_getElem hk),List.getElem_mem hk⟩
theorem subS_T {s:ByteArray} {a b:Int} (h0:0≤a) (h1:a≤b) (h2:b≤(s.size:Int)):T (subS s a b) (fun r=>(r.size:Int) = b - a):=by
 obtain ⟨i,rfl⟩:=Int.eq_ofNat_of_zero_le h0
 obtain ⟨j,rfl⟩:=Int.eq_ofNat_of_zero_le (show 0≤b by omega)
 have e:=size_tl s
 refine ⟨_,subS_eq (by omega) (by omega),?_⟩
 show (((bs _).size:Nat):Int) = _
 rw [size_bs]
 simp
 omega
theorem run_T {p:Int→Option Bool} {z lo:Int} (h0:0≤lo) (h1:lo≤z) (hz:z < 9223372036854775807) (hp:∀ i,lo≤i→i < z→T (p i) (fun _=>True)) {n:Nat} (hn:z < n) :
  T (iter (σ:=Int) (ρ:=Int) (fun s1=>bif decide (s1 < z) then ((p s1).bind fun x3=>bif x3 then (some (.inl (w64 (s1 + 1)))) else (some (.inr s1))) else (some (.inr s1))) n lo)
   (fun e=>lo≤e∧e≤z∧(lo < z→p lo = some true→lo < e)):=by
 refine iter_meas (fun s=>lo≤s∧s≤z) (fun s=>(z - s).toNat) _ (fun s hs=>?_) n lo (by omega) ⟨by omega,h1⟩
 by_cases hlt:s < z
 ·have:decide (s < z) = true:=by simpa using hlt
  obtain ⟨b,hb,_⟩:=hp s hs.1 hlt
  rw [this,hb]
  cases b
  ·exact .inr ⟨s,rfl,hs.1,hs.2,fun _ h=>by
    by_cases e:s = lo
    ·subst e; rw [hb] at h; cases h
    ·omega⟩
  ·exact .inl ⟨s + 1,by simp [w64_id (x:=s + 1) (by omega) (by omega)],by omega,by omega⟩
 ·have:decide (s < z) = false:=by simpa using hlt
  rw [this]
  exact .inr ⟨s,rfl,hs.1,hs.2,fun h _=>by omega⟩
theorem runG_T {step:Int→Option (Int ⊕ Int)} {z lo:Int} (h1:lo≤z) {n:Nat} (hn:z - lo < n) (h:∀ i,lo≤i→i≤z→(i < z∧step i = some (.inl (i + 1)))∨step i = some (.inr i)) :
  T (iter step n lo) (fun e=>lo≤e∧e≤z∧(step lo = some (.inl (lo + 1))→lo < e)):=by
 refine iter_meas (fun s=>lo≤s∧s≤z) (fun s=>(z - s).toNat) _ (fun s hs=>?_) n lo (by omega) ⟨by omega,h1⟩
 rcases h s hs.1 hs.2 with ⟨hlt,e⟩ | e
 ·exact .inl ⟨s + 1,e,by omega,by omega⟩
 ·refine .inr ⟨s,e,hs.1,hs.2,fun h=>?_⟩
  by_cases e':s = lo
  ·subst e'; rw [e] at h; cases h
  ·omega
end Go.AM
end
section
namespace Go.Proofs.YtbecjgckobhmpaaGreatDoor
open Go Go.AM Go.Proofs
def isLetI (x:Int):Bool:=((decide (65≤x)) && (decide (x≤90))) || ((decide (97≤x)) && (decide (x≤122)))
def isDigI (x:Int):Bool:=(decide (48≤x)) && (decide (x≤57))
def isWordI (x:Int):Bool:=isLetI x || x == 95 || isDigI x
def nameCs:List UInt8→Bool
 | []=>true
 | b :: r=>isLetI b.toNat && r.all (fun c=>isWordI c.toNat)
def nameB (s:List UInt8):Bool:=decide (1≤s.length) && decide (s.length≤16) && !(keyNames.any (s == ·)) && nameCs s
def nameP (k:Nat) (b:UInt8):Bool:=!((!isLetI b.toNat) && (((k:Int) == 0) || (((b.toNat:Int) != 95) && ((decide ((b.toNat:Int) < 48)) || (decide (57 < (b.toNat:Int)))))))
theorem nameP_succ (k:Nat) (b:UInt8):nameP (k + 1) b = isWordI b.toNat:=by
 have:(((k + 1:Nat):Int) == 0) = false:=by simp; omega
 simp only [nameP,this,isWordI,isDigI]
 generalize (b.toNat:Int) = z
 cases isLetI z
 ·by_cases h:z = 95
  ·simp [h]
  ·have h95:(z == 95) = false:=by simpa using h
   have h95':(z != 95) = true:=by simpa using h
   rw [h95,h95']
   by_cases h1:z < 48
   ·have:¬ 48≤z:=by omega
    simp [h1,this]
   ·have h48:48≤z:=by omega
    by_cases h2:57 < z
    ·have:¬ z≤57:=by omega
     simp [h2,this]
    ·have h57:z≤57:=by omega
     simp [h1,h2,h48,h57]
 ·simp
theorem allI_nameP:∀ (l:List UInt8) (k:Nat),allI nameP (k + 1) l = l.all (fun c=>isWordI c.toNat)
 | [],_=>rfl
 | b :: r,k=>by simp only [allI,List.all_cons,nameP_succ,allI_nameP r (k + 1)]
theorem allI_name (l:List UInt8):allI nameP 0 l = nameCs l:=by
 cases l with
 | nil=>rfl
 | cons b r =>
  simp only [allI,nameCs,allI_nameP]
  congr 1
  simp [nameP]
theorem F157_eq (s:ByteArray) {n:Nat} (hn:20≤n):F157 n s = some (nameB (tl s)):=by
 unfold F157
 rw [size_tl]
 by_cases h1:(tl s).length < 1
 ·have:(tl s).length = 0:=by omega
  simp [nameB,this]
 by_cases h2:16 < (tl s).length
 ·have:¬ (tl s).length≤16:=by omega
  have h3:(16:Int) < ((tl s).length:Int):=by omega
  simp [nameB,this,h3]
 have e1:(decide (((tl s).length:Int) < 1) || decide (16 < ((tl s).length:Int))) = false:=by simp; omega
 rw [e1]
 have hk:isKey s = keyNames.any (tl s == ·):=rfl
 rw [hk]
 cases hkey:keyNames.any (tl s == ·)
 ·simp only [cond_false]
  rw [iter_allI (tl s) nameP (by omega) (fun k b hb=>by
    have hlt:=lt_of_get hb
    have:decide ((k:Int) < ((tl s).length:Int)) = true:=by simpa using hlt
    rw [this,idxS_some hb]
    simp only [cond_true,Option.bind_some]
    show (bif (!isLetI b.toNat) && _ then _ else _) = _
    simp only [nameP]
    exact cond_not_if _ _ _) (by simp) (by omega)]
  rw [allI_name]
  have h1':1≤(tl s).length:=by omega
  have h2':(tl s).length≤16:=by omega
  cases hc:nameCs (tl s) <;> simp [nameB,hkey,hc,h1',h2']
 ·simp [nameB,hkey]
def cutB:List UInt8→List UInt8 × Option (List UInt8)
 | []=>([],none)
 | b :: r=>if b == 46 then ([],some r) else (b :: (cutB r).1,(cutB r).2)
theorem cutB_spec:∀ (l:List UInt8),((cutB l).2 = none→(cutB l).1 = l∧idxByte l 46 = -1)∧(∀ r,(cutB l).2 = some r→l = (cutB l).1 ++ 46 :: r∧idxByte l 46 = ((cutB l).1.length:Int))
 | []=>by simp [cutB,idxByte]
 | b :: r=>by
  have ih:=cutB_spec r
  by_cases hb:(b == 46) = true
  ·have:b = 46:=by simpa using hb
   subst this
   simp [cutB,idxByte]
  ·simp only [cutB,idxByte,hb]
   refine ⟨fun h=>?_,fun r' h=>?_⟩
   ·obtain ⟨h1,h2⟩:=ih.1 h
    simp [h1,h2]
   ·obtain ⟨h1,h2⟩:=ih.2 r' h
    refine ⟨by simp [← h1],?_⟩
    rw [h2]
    have:(((cutB r).1.length:Int) == -1) = false:=by simp
    simp [this]
theorem F196_eq (s:ByteArray) (hs:(tl s).length≤9223372036854775807):F196 s (bs [46]) = some (bs (cutB (tl s)).1,bs ((cutB (tl s)).2.getD []),(cutB (tl s)).2.isSome):=by
 have hi:index1F s (bs [46]) = some (idxByte (tl s) 46):=rfl
 unfold F196 F222
 rw [hi]
 simp only [Option.bind_some]
 have sp:=cutB_spec (tl s)
 cases hc:(cutB (tl s)).2 with
 | none =>
  obtain ⟨h1,h2⟩:=sp.1 hc
  rw [h2,h1]
  simp [bs_tl]
 | some r =>
  obtain ⟨h1,h2⟩:=sp.2 r hc
  rw [h2]
  have hl:=congrArg List.length h1
  simp only [List.length_append,List.length_cons] at hl
  have e1:decide (0≤((cutB (tl s)).1.length:Int)) = true:=by simp
  rw [e1,size_bs]
  simp only [cond_true,List.length_cons,List.length_nil,Nat.zero_add]
  rw [show ((1:Nat):Int) = 1 from rfl,w64_nat (by omega)]
  have a1:subS s 0 ((cutB (tl s)).1.length:Int) = some (bs (cutB (tl s)).1):=by
   have:=subS_eq (s:=s) (a:=0) (b:=(cutB (tl s)).1.length) (by omega) (by omega)
   rw [show ((0:Nat):Int) = 0 from rfl] at this
   rw [this]
   congr 2
   generalize (cutB (tl s)).1 = z at h1 ⊢
   rw [h1]
   simp
  have a2:subS s (((cutB (tl s)).1.length + 1:Nat):Int) (s.size:Int) = some (bs r):=by
   rw [size_tl,subS_eq (by omega) (by omega)]
   congr 2
   generalize (cutB (tl s)).1 = z at h1 ⊢
   rw [h1]
   rw [List.take_of_length_le (by simp; omega)]
   simp [List.drop_append]
  rw [a1,a2]
  simp
def pathN:Nat→List UInt8→Bool
 | 0,_=>false
 | k + 1,s=>nameB (cutB s).1 && (match (cutB s).2 with | none=>true | some r=>pathN k r)
def pathB (s:List UInt8):Bool:=pathN 3 s
theorem cutB_len (l:List UInt8) (r:List UInt8) (h:(cutB l).2 = some r):r.length < l.length:=by
 have:=congrArg List.length ((cutB_spec l).2 r h).1
 simp at this
 omega
def F155s (n:Nat) (s1:ByteArray × Int):Option ((ByteArray × Int) ⊕ (Bool ⊕ Unit)):=bif decide (s1.2 < 3) then
   ((F196 s1.1 (bs [46])).bind fun x3 =>
   (F157 n x3.1).bind fun x4 =>
   bif !x4 then
    (some (.inr (.inl false)))
   else
    (bif !x3.2.2 then
     (some (.inr (.inl true)))
    else
     (some (.inl (x3.2.1,w64 (s1.2 + 1))))))
  else
   (some (.inr (.inr ())))
def finB:Bool ⊕ Unit→Option Bool
 | .inl a=>some a
 | .inr _=>some false
theorem F155_key {n:Nat} (hn:20≤n):∀ (k m:Nat) (t:List UInt8),k≤3→k < m→t.length≤9223372036854775807→(iter (F155s n) m (bs t,(3:Int) - (k:Int))).bind finB = some (pathN k t):=by
 intro k
 induction k with
 | zero =>
  intro m t _ hm ht
  cases m with
  | zero=>omega
  | succ m=>simp [iter,F155s,finB,pathN]
 | succ k ih =>
  intro m t hk hm ht
  cases m with
  | zero=>omega
  | succ m =>
   have e1:decide ((3:Int) - ((k + 1:Nat):Int) < 3) = true:=by simp; omega
   simp only [iter,F155s,e1,cond_true]
   rw [F196_eq (bs t) ht]
   simp only [Option.bind_some,F157_eq _ hn,tl_bs]
   cases hnm:nameB (cutB t).1
   ·simp [finB,pathN,hnm]
   ·cases hc:(cutB t).2 with
    | none=>simp [finB,pathN,hnm,hc]
    | some r =>
     have hl:=cutB_len t r hc
     have e2:w64 ((3:Int) - ((k + 1:Nat):Int) + 1) = (3:Int) - (k:Int):=by
      rw [w64_id (by omega) (by omega)]; omega
     simp only [Bool.not_true,cond_false,Option.isSome_some,Option.getD_some,e2]
     have:=ih m r (by omega) (by omega) (by omega)
     rw [this]
     simp [pathN,hnm,hc]
theorem F155_eq (s:ByteArray) (hs:(tl s).length≤9223372036854775807) {n:Nat} (hn:20≤n):F155 n s = some (pathB (tl s)):=by
 have h:=F155_key hn 3 n (tl s) (by omega) (by omega) hs
 have e:F155 n s = (iter (F155s n) n (s,0)).bind finB:=by
  unfold F155
  congr 1
 rw [e]
 exact h
def levelI (s:ByteArray):Int :=
 bif strEq s (bs [61,61,62]) then 2 else bif strEq s (bs [124,124]) then 3 else bif strEq s (bs [38,38]) then 4
 else bif (strEq s (bs [61,61]) || (strEq s (bs [33,61]) || (strEq s (bs [60]) || strEq s (bs [60,61])))) then 5
 else bif strEq s (bs [124]) then 6 else bif strEq s (bs [94]) then 7 else bif strEq s (bs [38]) then 8
 else bif (strEq s (bs [43]) || strEq s (bs [45])) then 9 else bif strEq s (bs [42]) then 10 else 0
theorem F156_eq (s:ByteArray):F156 s = some (levelI s):=by
 unfold F156 levelI
 simp only [Option.bind_some,some_cond,bor]
def inR (n:Int):Bool:=(decide (0≤n)) && (decide (n≤999999999))
theorem F154_eq (i:Int):F154 i = some (inR i):=rfl
def isE (k:Int):Bool:=(decide (1≤k)) && (decide (k≤8))
theorem F62_eq (x:Node):F62 x = some (isE x.kind):=rfl
def fldGood (x:Node):Bool :=
 bif x.kind == 1 then inR x.n
 else bif (x.kind == 2 || (x.kind == 24 || (x.kind == 25 || x.kind == 33))) then pathB (tl x.name)
 else bif x.kind == 5 then levelI x.name != 0
 else bif (x.kind == 7 || (x.kind == 8 || (x.kind == 58 || x.kind == 52))) then nameB (tl x.name) && inR x.n
 else bif x.kind == 35 then nameB (tl x.name) && inR x.n
 else bif x.kind == 21 then (x.n == 0) || (x.n == 1)
 else bif (x.kind == 27 || (x.kind == 28 || (x.kind == 51 || x.kind == 53))) then nameB (tl x.name)
 else bif x.kind == 50 then nameB (tl x.name) && (inR x.n && (inR x.len && (inR x.init && (strEq x.other (bs []) || ((x.n == 0) && nameB (tl x.other))))))
 else bif x.kind == 57 then nameB (tl x.name) && (strEq x.other (bs []) || nameB (tl x.other))
 else bif x.kind == 60 then nameB (tl x.name) && nameB (tl x.other)
 else bif x.kind == 61 then nameB (tl x.name) && (pathB (tl x.other) && ((x.n == 0) || (x.n == 1)))
 else true
def hasName (k:Int):Bool:=k == 2 || k == 24 || k == 25 || k == 33 || k == 5 || k == 7 || k == 8 || k == 58 || k == 52 || k == 35 || k == 27 || k == 28 || k == 51 || k == 53 || k == 50 || k == 57 || k == 60 || k == 61
def hasOther (k:Int):Bool:=k == 50 || k == 57 || k == 60 || k == 61
def hasN (k:Int):Bool:=k == 1 || k == 7 || k == 8 || k == 58 || k == 52 || k == 35 || k == 21 || k == 50 || k == 61
def fieldsB (x:Node):Bool :=
 fldGood x && ((hasName x.kind || strEq x.name (bs [])) && ((hasOther x.kind || strEq x.other (bs [])) && ((hasN x.kind || x.n == 0)
  && ((x.kind == 50 || x.len == 0) && ((x.kind == 50 || x.init == 0) && (x.kind == 50 || x.kind == 35 || x.ghost == false))))))
theorem strEq_self (s:ByteArray):strEq s s = true:=by simp [strEq]
theorem nbeq {a b:Int} (h:¬ a = b):(a == b) = false:=by simpa using h
theorem F97_eq (x:Node) (h1:(tl x.name).length≤9223372036854775807) (h2:(tl x.other).length≤9223372036854775807) {n:Nat} (hn:20≤n):F97 n x = some (fieldsB x):=by
 unfold F97
 simp only [F157_eq _ hn,F155_eq _ h1 hn,F155_eq _ h2 hn,F156_eq,F154_eq,Option.bind_some,some_cond,bor]
 congr 1
 by_cases k1:x.kind = 1
 ·simp [k1,fieldsB,fldGood,hasName,hasOther,hasN]
 by_cases k2:x.kind = 2
 ·simp [k2,fieldsB,fldGood,hasName,hasOther,hasN,strEq_self]
 by_cases k24:x.kind = 24
 ·simp [k24,fieldsB,fldGood,hasName,hasOther,hasN,strEq_self]
 by_cases k25:x.kind = 25
 ·simp [k25,fieldsB,fldGood,hasName,hasOther,hasN,strEq_self]
 by_cases k33:x.kind = 33
 ·simp [k33,fieldsB,fldGood,hasName,hasOther,hasN,strEq_self]
 by_cases k5:x.kind = 5
 ·simp [k5,fieldsB,fldGood,hasName,hasOther,hasN,strEq_self]
 by_cases k7:x.kind = 7
 ·simp [k7,fieldsB,fldGood,hasName,hasOther,hasN]
  cases nameB (tl x.name) <;> simp [strEq_self]
 by_cases k8:x.kind = 8
 ·simp [k8,fieldsB,fldGood,hasName,hasOther,hasN]
  cases nameB (tl x.name) <;> simp [strEq_self]
 by_cases k58:x.kind = 58
 ·simp [k58,fieldsB,fldGood,hasName,hasOther,hasN]
  cases nameB (tl x.name) <;> simp [strEq_self]
 by_cases k52:x.kind = 52
 ·simp [k52,fieldsB,fldGood,hasName,hasOther,hasN]
  cases nameB (tl x.name) <;> simp [strEq_self]
 by_cases k35:x.kind = 35
 ·simp [k35,fieldsB,fldGood,hasName,hasOther,hasN]
  cases nameB (tl x.name) <;> simp [strEq_self]
 by_cases k21:x.kind = 21
 ·simp [k21,fieldsB,fldGood,hasName,hasOther,hasN]
 by_cases k27:x.kind = 27
 ·simp [k27,fieldsB,fldGood,hasName,hasOther,hasN,strEq_self]
 by_cases k28:x.kind = 28
 ·simp [k28,fieldsB,fldGood,hasName,hasOther,hasN,strEq_self]
 by_cases k51:x.kind = 51
 ·simp [k51,fieldsB,fldGood,hasName,hasOther,hasN,strEq_self]
 by_cases k53:x.kind = 53
 ·simp [k53,fieldsB,fldGood,hasName,hasOther,hasN,strEq_self]
 by_cases k50:x.kind = 50
 ·simp [k50,fieldsB,fldGood,hasName,hasOther,hasN]
  cases nameB (tl x.name) <;> cases inR x.n <;> cases inR x.len <;> cases inR x.init <;> cases strEq x.other (bs []) <;> cases x.n == 0 <;> simp [strEq_self]
 by_cases k57:x.kind = 57
 ·simp [k57,fieldsB,fldGood,hasName,hasOther,hasN]
  cases nameB (tl x.name) <;> cases strEq x.other (bs []) <;> simp [strEq_self]
 by_cases k60:x.kind = 60
 ·simp [k60,fieldsB,fldGood,hasName,hasOther,hasN]
  cases nameB (tl x.name) <;> simp [strEq_self]
 by_cases k61:x.kind = 61
 ·simp [k61,fieldsB,fldGood,hasName,hasOther,hasN]
  cases nameB (tl x.name) <;> simp [strEq_self]
 simp [nbeq k1,nbeq k2,nbeq k24,nbeq k25,nbeq k33,nbeq k5,nbeq k7,nbeq k8,nbeq k58,nbeq k52,nbeq k35,nbeq k21,nbeq k27,nbeq k28,nbeq k51,nbeq k53,nbeq k50,nbeq k57,nbeq k60,nbeq k61,fieldsB,fldGood,hasName,hasOther,hasN]
def isStmt (k:Int):Bool:=((decide (20≤k)) && (decide (k≤35))) && (k != 34)
def isDecl (k:Int):Bool:=k == 51 || (k == 50 || (k == 53 || (k == 54 || (k == 55 || (k == 56 || k == 57)))))
def isItm (k:Int):Bool:=(k == 60) || (k == 61)
def leafK (k:Int):Bool:=k == 1 || (k == 26 || (k == 30 || (k == 24 || (k == 25 || (k == 27 || (k == 28 || (k == 35 || (k == 58 || (k == 52 || (k == 50 || k == 63))))))))))
def oneK (k:Int):Bool:=k == 4 || (k == 7 || (k == 8 || (k == 20 || (k == 29 || (k == 54 || (k == 55 || k == 53))))))
def eX (x:Node):Bool:=isE x.kind
def kX (k:Int) (x:Node):Bool:=x.kind == k
def enX (x:Node):Bool:=isE x.kind || x.kind == 63
def pairsB:List Node→Bool
 | []=>true
 | [_]=>false
 | a :: b :: r=>(a.kind == 2) && (isE b.kind && pairsB r)
def ex1 (p:Node→Bool):List Node→Bool
 | [a]=>p a
 | _=>false
def ex2 (p q:Node→Bool):List Node→Bool
 | [a,b]=>p a && q b
 | _=>false
def ex3 (p q r:Node→Bool):List Node→Bool
 | [a,b,c]=>p a && (q b && r c)
 | _=>false
def plainX (x:Node):Bool:=(x.kind == 2) && x.kids.isEmpty
def atomK:List Node→Bool
 | a :: r=>enX a && pairsB r
 | []=>false
def casK:List Node→Bool
 | a :: b :: c :: d :: r=>(kX 2 a && (eX b && (eX c && kX 2 d))) && pairsB r
 | _=>false
def procK (l:List Node):Bool:=match l.getLast? with
 | some b=>(b.kind == 34) && l.dropLast.all (kX 58)
 | none=>false
def kidsB (x:Node):Bool :=
 bif leafK x.kind then x.kids.isEmpty
 else bif x.kind == 2 then x.kids.isEmpty || ex1 eX x.kids
 else bif x.kind == 3 then ex1 (kX 2) x.kids
 else bif oneK x.kind then ex1 eX x.kids
 else bif x.kind == 5 then ex2 eX eX x.kids
 else bif x.kind == 6 then ex3 eX eX eX x.kids
 else bif x.kind == 21 then !x.kids.isEmpty && pairsB x.kids
 else bif x.kind == 22 then atomK x.kids
 else bif x.kind == 23 then casK x.kids
 else bif x.kind == 31 then ex3 eX (kX 34) (kX 34) x.kids
 else bif x.kind == 32 then ex3 eX enX (kX 34) x.kids
 else bif x.kind == 33 then x.kids.all eX
 else bif x.kind == 34 then x.kids.all (fun y=>isStmt y.kind)
 else bif x.kind == 51 then x.kids.all (kX 52)
 else bif x.kind == 56 then !x.kids.isEmpty && x.kids.all plainX
 else bif x.kind == 57 then procK x.kids
 else bif x.kind == 60 then x.kids.all (fun y=>isDecl y.kind)
 else bif x.kind == 61 then x.kids.all (kX 1)
 else bif x.kind == 62 then x.kids.all (fun y=>isItm y.kind)
 else false
theorem len0 (l:List Node):((l.length:Int) == 0) = l.isEmpty:=by cases l <;> simp; omega
theorem len0lt (l:List Node):decide (0 < (l.length:Int)) = !l.isEmpty:=by cases l <;> simp
theorem all_loop {p:Node→Bool} {g:Node→Option Bool} (hg:∀ y,g y = some (p y)) (l:List Node) (hl:l.length≤9223372036854775807) {n:Nat} (hn:l.length < n) :
  ((iter (σ:=Int) (ρ:=Unit ⊕ Unit) (fun s1=>bif decide (s1 < (l.length:Int)) then
   ((idxL l s1).bind fun x3 =>
   (g x3).bind fun x5 =>
   bif !x5 then
    (some (.inr (.inl ())))
   else
    (some (.inl (w64 (s1 + 1)))))
  else
   (some (.inr (.inr ())))) n (0:Int)).bind fun r7=>match r7 with
 | .inl _=>some false
 | .inr _=>some true) = some (l.all p):=by
 rw [iter_all l p hl (fun k x hx=>by
  have hlt:=lt_of_get hx
  have c1:decide ((k:Int) < (l.length:Int)) = true:=by simpa using hlt
  rw [c1,idxL_some hx]
  simp only [cond_true,Option.bind_some,hg]
  cases p x <;> rfl) (by simp) hn]
 cases l.all p <;> rfl
theorem F99_1_eq (l:List Node) (hl:l.length≤9223372036854775807) {n:Nat} (hn:l.length < n):F99_1 n l = some (l.all eX):=all_loop (fun _=>rfl) l hl hn
theorem F99_2_eq (l:List Node) (hl:l.length≤9223372036854775807) {n:Nat} (hn:l.length < n):F99_2 n l = some (l.all (fun y=>isStmt y.kind)):=all_loop (fun _=>rfl) l hl hn
theorem F99_3_eq (l:List Node) (k:Int) (hl:l.length≤9223372036854775807) {n:Nat} (hn:l.length < n):F99_3 n l k = some (l.all (kX k)):=all_loop (fun _=>rfl) l hl hn
theorem F164_eq (x:Node):F164 x = some (plainX x):=by
 unfold F164 plainX
 rw [len0]
 cases x.kind == 2 <;> rfl
theorem F99_4_eq (l:List Node) (hl:l.length≤9223372036854775807) {n:Nat} (hn:l.length < n):F99_4 n l = some (l.all plainX):=all_loop F164_eq l hl hn
theorem F165_eq (x:Node):F165 x = some (isDecl x.kind):=by
 unfold F165 isDecl
 cases x.kind == 51 <;> cases x.kind == 50 <;> cases x.kind == 53 <;> cases x.kind == 54 <;> cases x.kind == 55 <;> cases x.kind == 56 <;> cases x.kind == 57 <;> rfl
theorem F99_5_eq (l:List Node) (hl:l.length≤9223372036854775807) {n:Nat} (hn:l.length < n):F99_5 n l = some (l.all (fun y=>isDecl y.kind)):=all_loop F165_eq l hl hn
theorem F99_6_eq (l:List Node) (hl:l.length≤9223372036854775807) {n:Nat} (hn:l.length < n):F99_6 n l = some (l.all (fun y=>isItm y.kind)):=all_loop (fun _=>rfl) l hl hn
def prP (k:Nat) (x:Node):Bool:=isE x.kind && (!(k % 2 == 0) || x.kind == 2)
theorem pairs_all:∀ (l:List Node) (k:Nat),k % 2 = 0→(allI prP k l && (l.length % 2 == 0)) = pairsB l
 | [],_,_=>rfl
 | [a],k,h=>by simp [allI,pairsB]
 | a :: b :: r,k,h=>by
  have ih:=pairs_all r (k + 2) (by omega)
  have h1:(k + 1) % 2 = 1:=by omega
  have h2:((r.length + 1 + 1) % 2 == 0) = (r.length % 2 == 0):=by
   have:(r.length + 1 + 1) % 2 = r.length % 2:=by omega
   rw [this]
  simp only [allI,pairsB,List.length_cons,h2,← ih,prP,h,h1]
  by_cases ha:a.kind = 2
  ·simp [ha,isE,Bool.and_assoc]
  ·simp [nbeq ha]
theorem pr_step {α:Type} (e p k2:Bool) (a b:α):(bif !e then some b else bif p then (bif !k2 then some b else some a) else some a) = some (if (e && (!p || k2)) = true then a else b):=by
 cases e <;> cases p <;> cases k2 <;> rfl
theorem F160_eq (l:List Node) (hl:l.length≤9223372036854775807) {n:Nat} (hn:l.length < n):F160 n l = some (pairsB l):=by
 unfold F160
 rw [iter_allI l prP hl (fun k x hx=>by
  have hlt:=lt_of_get hx
  have c1:decide ((k:Int) < (l.length:Int)) = true:=by simpa using hlt
  have c2:(Int.tmod (k:Int) 2 == 0) = (k % 2 == 0):=by
   have:Int.tmod (k:Int) 2 = ((k % 2:Nat):Int):=(Int.ofNat_tmod k 2).symm
   rw [this]
   cases h:k % 2 <;> simp
   omega
  rw [c1,idxL_some hx,c2]
  simp only [cond_true,Option.bind_some,F62_eq,prP]
  exact pr_step _ _ _ _ _) (by simp) hn]
 have c3:(Int.tmod (l.length:Int) 2 == 0) = (l.length % 2 == 0):=by
  have:Int.tmod (l.length:Int) 2 = ((l.length % 2:Nat):Int):=(Int.ofNat_tmod l.length 2).symm
  rw [this]
  cases h:l.length % 2 <;> simp
  omega
 rw [← pairs_all l 0 rfl,c3]
 cases allI prP 0 l <;> simp
theorem F158_gen (l:List Node) (ps:List Pred) (fs:List (Node→Bool)) (hlen:l.length = ps.length) (hl:l.length < 100) (h:∀ (k:Nat) p,ps[k]? = some p→∀ y,p.p y = some ((fs.getD k (fun _=>false)) y)) {n:Nat} (hn:l.length < n) :
  F158 n l ps = some (allI (fun k y=>(fs.getD k (fun _=>false)) y) 0 l):=by
 unfold F158
 have e:((l.length:Int) != (ps.length:Int)) = false:=by simp [hlen]
 rw [e]
 simp only [cond_false]
 rw [iter_allI l (fun k y=>(fs.getD k (fun _=>false)) y) (by omega) (fun k x hx=>by
  have hlt:=lt_of_get hx
  have c1:decide ((k:Int) < (l.length:Int)) = true:=by simpa using hlt
  have hp:ps[k]? = some (ps[k]'(by omega)):=List.getElem?_eq_getElem (by omega)
  rw [c1,idxL_some hx,idxL_some hp]
  simp only [cond_true,Option.bind_some,h k _ hp x]
  exact cond_not_if2 _ _ _) (by simp) hn]
 cases allI (fun k y=>(fs.getD k (fun _=>false)) y) 0 l <;> rfl
theorem F158_ne (l:List Node) (ps:List Pred) (h:l.length≠ps.length) (n:Nat):F158 n l ps = some false:=by
 unfold F158
 have e:((l.length:Int) != (ps.length:Int)) = true:=by simp; omega
 rw [e]
 rfl
theorem F158_1 (l:List Node) (p:Pred) (f:Node→Bool) (hp:∀ y,p.p y = some (f y)) {n:Nat} (hn:10≤n):F158 n l [p] = some (ex1 f l):=by
 match l with
 | []=>exact F158_ne _ _ (by simp) n
 | [a] =>
  rw [F158_gen [a] [p] [f] rfl (by simp) (fun k q hq y=>by
   match k with
   | 0=>obtain rfl:=Option.some.inj hq; exact hp y
   | k + 1=>simp at hq) (by simp; omega)]
  simp [allI,ex1]
 | a :: b :: r=>exact F158_ne _ _ (by simp) n
theorem F158_2 (l:List Node) (p q:Pred) (f g:Node→Bool) (hp:∀ y,p.p y = some (f y)) (hq:∀ y,q.p y = some (g y)) {n:Nat} (hn:10≤n):F158 n l [p,q] = some (ex2 f g l):=by
 match l with
 | []=>exact F158_ne _ _ (by simp) n
 | [a]=>exact F158_ne _ _ (by simp) n
 | [a,b] =>
  rw [F158_gen [a,b] [p,q] [f,g] rfl (by simp) (fun k z hz y=>by
   match k with
   | 0=>obtain rfl:=Option.some.inj hz; exact hp y
   | 1=>obtain rfl:=Option.some.inj hz; exact hq y
   | k + 2=>simp at hz) (by simp; omega)]
  simp [allI,ex2]
 | a :: b :: c :: r=>exact F158_ne _ _ (by simp) n
theorem F158_3 (l:List Node) (p q u:Pred) (f g h:Node→Bool) (hp:∀ y,p.p y = some (f y)) (hq:∀ y,q.p y = some (g y)) (hu:∀ y,u.p y = some (h y)) {n:Nat} (hn:10≤n):F158 n l [p,q,u] = some (ex3 f g h l):=by
 match l with
 | []=>exact F158_ne _ _ (by simp) n
 | [a]=>exact F158_ne _ _ (by simp) n
 | [a,b]=>exact F158_ne _ _ (by simp) n
 | [a,b,c] =>
  rw [F158_gen [a,b,c] [p,q,u] [f,g,h] rfl (by simp) (fun k z hz y=>by
   match k with
   | 0=>obtain rfl:=Option.some.inj hz; exact hp y
   | 1=>obtain rfl:=Option.some.inj hz; exact hq y
   | 2=>obtain rfl:=Option.some.inj hz; exact hu y
   | k + 3=>simp at hz) (by simp; omega)]
  simp [allI,ex3]
 | a :: b :: c :: d :: r=>exact F158_ne _ _ (by simp) n
theorem F158_4 (a b c d:Node) (p q u v:Pred) (f g h i:Node→Bool) (hp:∀ y,p.p y = some (f y)) (hq:∀ y,q.p y = some (g y)) (hu:∀ y,u.p y = some (h y)) (hv:∀ y,v.p y = some (i y)) {n:Nat} (hn:10≤n) :
  F158 n [a,b,c,d] [p,q,u,v] = some (f a && (g b && (h c && i d))):=by
 rw [F158_gen [a,b,c,d] [p,q,u,v] [f,g,h,i] rfl (by simp) (fun k z hz y=>by
  match k with
  | 0=>obtain rfl:=Option.some.inj hz; exact hp y
  | 1=>obtain rfl:=Option.some.inj hz; exact hq y
  | 2=>obtain rfl:=Option.some.inj hz; exact hu y
  | 3=>obtain rfl:=Option.some.inj hz; exact hv y
  | k + 4=>simp at hz) (by simp; omega)]
 simp [allI]
theorem F198_eq (x:Node):F198 x = some (enX x):=by
 unfold F198 enX
 rw [F62_eq]
 simp only [Option.bind_some,F161]
 cases isE x.kind <;> rfl
theorem ctrue (a b:Bool):(bif a then true else b) = (a || b):=by cases a <;> rfl
theorem cfalse (a b:Bool):(bif a then b else false) = (a && b):=by cases a <;> rfl
theorem subL_tail {a:Node} {r:List Node}:subL (a :: r) 1 ((a :: r).length:Int) = some r:=by
 have:=subL_eq (l:=a :: r) (a:=1) (b:=(a :: r).length) (by simp) (by simp)
 rw [show ((1:Nat):Int) = 1 from rfl] at this
 rw [this]
 simp
theorem atom_eq (n:Nat) (l:List Node) (hl:l.length≤9223372036854775807) (hk:l.length < n):(bif !l.isEmpty then
           (idxL l 0).bind fun x38 =>
            (F62 x38).bind fun x39 =>
             bif x39 then
              (subL l 1 (l.length:Int)).bind fun x41=>(F160 n x41).bind fun x16=>some x16
             else
              (idxL l 0).bind fun x43 =>
               (F161 x43).bind fun x44 =>
                bif x44 then
                 (subL l 1 (l.length:Int)).bind fun x41=>(F160 n x41).bind fun x16=>some x16
                else some false
          else some false) = some (atomK l):=by
 cases l with
 | nil=>rfl
 | cons a r =>
  have h1:idxL (a :: r) 0 = some a:=rfl
  simp only [List.length_cons] at hl hk
  simp only [h1,F62_eq,Option.bind_some,subL_tail,F160_eq r (by omega) (show r.length < n by omega),atomK,enX,F161]
  cases isE a.kind <;> cases a.kind == 63 <;> simp
theorem cas_eq (n:Nat) (l:List Node) (hl:l.length≤9223372036854775807) (hk:l.length < n) (hn':10≤n):(bif decide (4≤(l.length:Int)) then
            (subL l 0 4).bind fun x50 =>
             (F158 n x50 [PF98_8,PF98_9,PF98_10,PF98_11]).bind fun x51 =>
              bif x51 then
               (subL l 4 (l.length:Int)).bind fun x41=>(F160 n x41).bind fun x16=>some x16
              else some false
           else some false) = some (casK l):=by
 match l with
 | []=>rfl
 | [_]=>rfl
 | [_,_]=>rfl
 | [_,_,_]=>rfl
 | a :: b :: c :: d :: r =>
  have c1:decide (4≤((a :: b :: c :: d :: r).length:Int)) = true:=by simp; omega
  have s1:subL (a :: b :: c :: d :: r) 0 4 = some [a,b,c,d]:=by
   have:=subL_eq (l:=a :: b :: c :: d :: r) (a:=0) (b:=4) (by simp) (by simp)
   rw [show ((0:Nat):Int) = 0 from rfl,show ((4:Nat):Int) = 4 from rfl] at this
   rw [this]
   simp
  have s2:subL (a :: b :: c :: d :: r) 4 ((a :: b :: c :: d :: r).length:Int) = some r:=by
   have:=subL_eq (l:=a :: b :: c :: d :: r) (a:=4) (b:=(a :: b :: c :: d :: r).length) (by simp) (by simp)
   rw [show ((4:Nat):Int) = 4 from rfl] at this
   rw [this]
   simp
  simp only [List.length_cons] at hl hk
  rw [c1,s1,s2]
  simp only [cond_true,Option.bind_some,F158_4 a b c d PF98_8 PF98_9 PF98_10 PF98_11 (kX 2) eX eX (kX 2) (fun _=>rfl) (fun _=>rfl) (fun _=>rfl) (fun _=>rfl) hn',F160_eq r (by omega) (show r.length < n by omega),casK]
  cases (kX 2 a && (eX b && (eX c && kX 2 d))) <;> rfl
theorem last_eq {l:List Node} (h:l≠[]) (hl:l.length≤9223372036854775807):w64 ((l.length:Int) - 1) = ((l.length - 1:Nat):Int):=by
 have:0 < l.length:=List.length_pos_iff.2 h
 rw [w64_id (by omega) (by omega)]
 omega
theorem idx_last {l:List Node} (h:l≠[]) (hl:l.length≤9223372036854775807):idxL l (w64 ((l.length:Int) - 1)) = some (l.getLast h):=by
 have:0 < l.length:=List.length_pos_iff.2 h
 rw [last_eq h hl,idxL_some (x:=l.getLast h)]
 rw [← List.getLast?_eq_getElem?,List.getLast?_eq_some_getLast h]
theorem sub_last {l:List Node} (h:l≠[]) (hl:l.length≤9223372036854775807):subL l 0 (w64 ((l.length:Int) - 1)) = some l.dropLast:=by
 rw [last_eq h hl]
 have:=subL_eq (l:=l) (a:=0) (b:=l.length - 1) (by omega) (by omega)
 rw [show ((0:Nat):Int) = 0 from rfl] at this
 rw [this]
 simp [List.dropLast_eq_take]
theorem proc_eq (n:Nat) (l:List Node) (hl:l.length≤9223372036854775807) (hk:l.length < n):(bif decide (0≤w64 ((l.length:Int) - 1)) then
                   (idxL l (w64 ((l.length:Int) - 1))).bind fun x70 =>
                    bif x70.kind == 34 then
                     (subL l 0 (w64 ((l.length:Int) - 1))).bind fun x72 =>
                      (F99_3 n x72 58).bind fun x16=>some x16
                    else some false
                  else some false) = some (procK l):=by
 by_cases h:l = []
 ·subst h; rfl
 ·have c1:decide (0≤w64 ((l.length:Int) - 1)) = true:=by
   rw [last_eq h hl]; simp
  have hd:l.dropLast.length≤l.length:=by simp
  rw [c1,idx_last h hl,sub_last h hl]
  simp only [cond_true,Option.bind_some,F99_3_eq l.dropLast 58 (by omega) (show l.dropLast.length < n by omega),procK,List.getLast?_eq_some_getLast h]
  cases (l.getLast h).kind == 34 <;> rfl
theorem F98_eq (x:Node) (hl:x.kids.length≤9223372036854775807) {n:Nat} (hn:20≤n) (hk:x.kids.length < n):F98 n x = some (kidsB x):=by
 have hn':10≤n:=by omega
 unfold F98
 simp only [Option.bind_some,len0,len0lt,
  F158_1 x.kids PF98_0 eX (fun _=>rfl) hn',F158_1 x.kids PF98_1 (kX 2) (fun _=>rfl) hn',F158_1 x.kids PF98_2 eX (fun _=>rfl) hn',
  F158_2 x.kids PF98_3 PF98_4 eX eX (fun _=>rfl) (fun _=>rfl) hn',F158_3 x.kids PF98_5 PF98_6 PF98_7 eX eX eX (fun _=>rfl) (fun _=>rfl) (fun _=>rfl) hn',
  F158_3 x.kids PF98_12 PF98_13 PF98_14 eX (kX 34) (kX 34) (fun _=>rfl) (fun _=>rfl) (fun _=>rfl) hn',
  F158_3 x.kids PF98_15 PF98_16 PF98_17 eX enX (kX 34) (fun _=>rfl) F198_eq (fun _=>rfl) hn',
  F160_eq x.kids hl hk,F99_1_eq x.kids hl hk,F99_2_eq x.kids hl hk,F99_3_eq x.kids _ hl hk,F99_4_eq x.kids hl hk,F99_5_eq x.kids hl hk,F99_6_eq x.kids hl hk,some_cond,bor]
 rw [atom_eq n x.kids hl hk,cas_eq n x.kids hl hk hn',proc_eq n x.kids hl hk]
 simp only [some_cond]
 unfold kidsB leafK oneK
 simp only [ctrue,cfalse]
end Go.Proofs.YtbecjgckobhmpaaGreatDoor
end
section
namespace Go.Proofs.YtbecjgckobhmpaaGreatDoor
open Go Go.AM Go.Proofs
abbrev Bytes:=List UInt8
def wordsL (l:List Bytes):Bytes:=joinL [32] (l.filter (fun s=>!s.isEmpty))
def onlyL (c:Bool) (l:List Bytes):Bytes:=bif c then wordsL l else []
def numL (n:Int):Bytes:=digs 20 n.toNat
def ruleI (s:ByteArray):ByteArray × Int × Int × Int:=(ruleTab.find? (fun r=>strEq r.1 s)).getD (bs [],0,0,0)
def levI (x:Node):Int :=
 bif x.kind == 7 || x.kind == 8 then 0 else bif x.kind == 6 then 1 else bif x.kind == 5 then (ruleI x.name).2.1 else bif x.kind == 4 then 11 else 12
def opd (a:Int × Bytes) (req:Int):Bytes:=bif decide (a.1 < req) then [40] ++ (a.2 ++ [41]) else a.2
def nth (ks:List (Int × Bytes)) (i:Nat):Int × Bytes:=ks.getD i (0,[])
def txtOf (k:Int) (nm:ByteArray) (n:Int) (ks:List (Int × Bytes)):Bytes :=
 bif k == 1 then numL n
 else bif k == 2 then (bif ks.isEmpty then tl nm else tl nm ++ ([91] ++ (opd (nth ks 0) 0 ++ [93])))
 else bif k == 3 then [111,108,100,40] ++ (opd (nth ks 0) 0 ++ [41])
 else bif k == 4 then [33] ++ opd (nth ks 0) 11
 else bif k == 5 then wordsL [opd (nth ks 0) (ruleI nm).2.2.1,tl nm,opd (nth ks 1) (ruleI nm).2.2.2]
 else bif k == 6 then wordsL [opd (nth ks 0) 2,[63],opd (nth ks 1) 1,[58],opd (nth ks 2) 1]
 else bif k == 7 then wordsL [[97,108,108],tl nm,[60],numL n,[58],opd (nth ks 0) 0]
 else bif k == 8 then wordsL [[115,111,109,101],tl nm,[60],numL n,[58],opd (nth ks 0) 0]
 else []
mutual
def txt:Node→Bytes
 | ⟨k,nm,_,n,_,_,_,ks,_⟩=>txtOf k nm n (txts ks)
def txts:List Node→List (Int × Bytes)
 | []=>[]
 | x :: r=>(levI x,txt x) :: txts r
end
theorem txt_eq (x:Node):txt x = txtOf x.kind x.name x.n (txts x.kids):=by cases x; rfl
mutual
def sz:Node→Nat
 | ⟨_,_,_,_,_,_,_,ks,_⟩=>1 + szs ks
def szs:List Node→Nat
 | []=>0
 | x :: r=>sz x + szs r
end
theorem sz_eq (x:Node):sz x = 1 + szs x.kids:=by cases x; rfl
theorem sz_pos (x:Node):1≤sz x:=by rw [sz_eq]; omega
theorem szs_mem:(l:List Node)→∀ x ∈ l,sz x≤szs l
 | [],x,h=>by cases h
 | y :: r,x,h=>by
  simp only [szs]
  rcases List.mem_cons.1 h with rfl | h
  ·omega
  ·have:=szs_mem r x h; omega
theorem szs_len:(l:List Node)→l.length≤szs l
 | []=>by simp [szs]
 | y :: r=>by simp only [szs,List.length_cons]; have:=szs_len r; have:=sz_pos y; omega
theorem szs_append:(a b:List Node)→szs (a ++ b) = szs a + szs b
 | [],b=>by simp [szs]
 | x :: r,b=>by simp [szs,szs_append r b]; omega
def sizedL (x:Node):Bytes:=wordsL [tl x.name,[58],numL x.n]
def commasL (l:List Bytes):Bytes:=joinL [44,32] l
def pairL:List Bytes→List Bytes
 | a :: b :: r=>wordsL [a,[58,61],b] :: pairL r
 | _=>[]
def assignsL (l:List Bytes):Bytes:=commasL (pairL l)
def sharedL (x:Node):Bytes :=
 wordsL [onlyL x.ghost [[103,104,111,115,116]],[115,104,97,114,101,100],bif x.len != 0 then tl x.name ++ ([91] ++ (numL x.len ++ [93])) else tl x.name,[58],
  bif strEq x.other (bs []) then numL x.n else tl x.other,onlyL (x.init != 0) [[61],numL x.init]]
def tx (ks:List Node):List Bytes:=ks.map txt
def tnth (ks:List Node) (i:Nat):Bytes:=(tx ks).getD i []
def stmtL (x:Node):Bytes :=
 bif x.kind == 20 then wordsL [[97,115,115,101,114,116],tnth x.kids 0]
 else bif x.kind == 29 then wordsL [[97,119,97,105,116],tnth x.kids 0]
 else bif x.kind == 26 then [102,101,110,99,101]
 else bif x.kind == 30 then [115,107,105,112]
 else bif x.kind == 21 then wordsL [onlyL (x.n == 1) [[114,101,108,101,97,115,101]],assignsL (tx (x.kids.take 2)),onlyL (decide (2 < (x.kids.length:Int))) [[119,105,116,104],assignsL (tx (x.kids.drop 2))]]
 else bif x.kind == 22 then wordsL [[97,116,111,109,105,99],[123],assignsL (tx (x.kids.drop 1)),[125],onlyL ((x.kids.head?.map Node.kind).getD 0 != 63) [[119,104,101,110],tnth x.kids 0]]
 else bif x.kind == 23 then wordsL [[99,97,115],commasL (tx (x.kids.take 3)),[105,110,116,111],tnth x.kids 3,onlyL (decide (4 < (x.kids.length:Int))) [[119,105,116,104],assignsL (tx (x.kids.drop 4))]]
 else bif x.kind == 24 then wordsL [[97,99,113,117,105,114,101],tl x.name]
 else bif x.kind == 25 then wordsL [[102,114,101,101],tl x.name]
 else bif x.kind == 27 then wordsL [[115,112,97,119,110],tl x.name]
 else bif x.kind == 28 then wordsL [[106,111,105,110],tl x.name]
 else bif x.kind == 33 then wordsL [[99,97,108,108],tl x.name ++ ([40] ++ (commasL (tx x.kids) ++ [41]))]
 else []
def simpL (x:Node):Bytes :=
 bif x.kind == 61 then wordsL [onlyL (x.n == 1) [[97,115,108,101,101,112]],[116,104,114,101,97,100],tl x.name,[61],tl x.other ++ ([40] ++ (commasL (tx x.kids) ++ [41]))]
 else bif x.kind == 52 then sizedL x
 else bif x.kind == 50 then sharedL x
 else bif x.kind == 53 then wordsL [[108,111,99,107],tl x.name,[105,110,118,97,114,105,97,110,116],tnth x.kids 0]
 else bif x.kind == 54 then wordsL [[114,101,108,121],tnth x.kids 0]
 else bif x.kind == 55 then wordsL [[103,117,97,114,97,110,116,101,101],tnth x.kids 0]
 else bif x.kind == 56 then wordsL [[102,114,97,109,101],commasL (tx x.kids)]
 else bif x.kind == 35 then wordsL [onlyL x.ghost [[103,104,111,115,116]],[108,111,99,97,108],sizedL x]
 else stmtL x
def headL (x:Node):Bytes :=
 bif x.kind == 60 then wordsL [[109,111,100,117,108,101],tl x.name,[111,119,110,101,114],tl x.other]
 else bif x.kind == 51 then wordsL [[114,101,99,111,114,100],tl x.name]
 else bif x.kind == 57 then wordsL [[112,114,111,99],tl x.name ++ ([40] ++ (commasL (x.kids.dropLast.map sizedL) ++ [41])),onlyL (!(strEq x.other (bs []))) [[108,111,99,107,101,100],tl x.other]]
 else bif x.kind == 31 then wordsL [[105,102],tnth x.kids 0]
 else wordsL [[119,104,105,108,101],tnth x.kids 0,onlyL ((x.kids[1]?.map Node.kind).getD 0 != 63) [[118,97,114,105,97,110,116],tnth x.kids 1]]
abbrev Lines:=List (Nat × Bytes)
def openL (d:Nat) (h:Bytes):Nat × Bytes:=(d,wordsL [h,[123]])
def elseE (ks:List Node):Bool:=(ks[2]?.map (fun y:Node=>y.kids.isEmpty)).getD true
def nthI (l:List Lines) (i:Nat):Lines:=l.getD i []
mutual
def itm (d:Nat):Node→Lines
 | ⟨k,nm,o,n,l,i,g,ks,p⟩ =>
  bif k == 60 || k == 51 then openL d (headL ⟨k,nm,o,n,l,i,g,ks,p⟩) :: (itms (d + 1) ks ++ [(d,[125])])
  else bif k == 57 then openL d (headL ⟨k,nm,o,n,l,i,g,ks,p⟩) :: (nthI (inns (d + 1) ks) (ks.length - 1) ++ [(d,[125])])
  else bif k == 31 then openL d (headL ⟨k,nm,o,n,l,i,g,ks,p⟩) :: (nthI (inns (d + 1) ks) 1 ++ ((bif elseE ks then [] else (d,[125,32,101,108,115,101,32,123]) :: nthI (inns (d + 1) ks) 2) ++ [(d,[125])]))
  else bif k == 32 then openL d (headL ⟨k,nm,o,n,l,i,g,ks,p⟩) :: (nthI (inns (d + 1) ks) 2 ++ [(d,[125])])
  else [(d,simpL ⟨k,nm,o,n,l,i,g,ks,p⟩ ++ [59])]
def itms (d:Nat):List Node→Lines
 | []=>[]
 | x :: r=>itm d x ++ itms d r
def inn (d:Nat):Node→Lines
 | ⟨_,_,_,_,_,_,_,ks,_⟩=>itms d ks
def inns (d:Nat):List Node→List Lines
 | []=>[]
 | x :: r=>inn d x :: inns d r
end
def lineT (p:Nat × Bytes):Bytes:=repL [32,32] p.1 ++ (p.2 ++ [10])
def linesT (l:Lines):Bytes:=l.flatMap lineT
def srcT (x:Node):Bytes:=linesT (itms 0 x.kids)
end Go.Proofs.YtbecjgckobhmpaaGreatDoor
end
section
namespace Go.Proofs.YtbecjgckobhmpaaGreatDoor
open Go Go.AM Go.Proofs
mutual
def okT:Node→Bool
 | ⟨k,nm,o,n,l,i,g,ks,p⟩=>fieldsB ⟨k,nm,o,n,l,i,g,ks,p⟩ && (kidsB ⟨k,nm,o,n,l,i,g,ks,p⟩ && okTs ks)
def okTs:List Node→Bool
 | []=>true
 | x :: r=>okT x && okTs r
end
theorem okTs_all:(l:List Node)→okTs l = l.all okT
 | []=>by simp [okTs]
 | x :: r=>by simp [okTs,okTs_all r]
theorem okT_eq (x:Node):okT x = (fieldsB x && (kidsB x && x.kids.all okT)):=by
 cases x; simp [okT,okTs_all]
inductive Lim (b:Nat):Node→Prop where
 | mk (x:Node) (h1:(tl x.name).length≤b) (h2:(tl x.other).length≤b) (h3:x.kids.length≤b) (h4:∀ y ∈ x.kids,Lim b y):Lim b x
theorem Lim.mono {b c:Nat} (h:b≤c) {x:Node} (hx:Lim b x):Lim c x:=by
 induction hx with
 | mk x h1 h2 h3 h4 ih=>exact .mk x (by omega) (by omega) (by omega) ih
theorem F64_eq {b:Nat} (hb:b≤9223372036854775807):∀ (m:Nat) (x:Node),sz x≤m→Lim b x→∀ n,30 + 3 * sz x≤n→F64 n x = some (okT x):=by
 intro m
 induction m with
 | zero=>intro x hx; have:=sz_pos x; omega
 | succ m ih =>
  intro x hx hlim n hn
  obtain ⟨_,h1,h2,h3,h4⟩:=hlim
  have hlen:=szs_len x.kids
  have hsz:=sz_eq x
  obtain ⟨n,rfl⟩:∃ m,n = m + 2:=⟨n - 2,by omega⟩
  have e99:F99 (n + 1) x.kids = some (x.kids.all okT):=by
   show F99_step (F99 n) (F64 n) n x.kids = _
   unfold F99_step
   rw [iter_all x.kids okT (by omega) (fun k y hy=>by
    have hlt:=lt_of_get hy
    have hm:y ∈ x.kids:=List.mem_of_getElem? hy
    have hys:=szs_mem x.kids y hm
    have c1:decide ((k:Int) < (x.kids.length:Int)) = true:=by simpa using hlt
    rw [c1,idxL_some hy]
    simp only [cond_true,Option.bind_some,ih y (by omega) (h4 y hm) n (by omega)]
    cases okT y <;> rfl) (by simp) (by omega)]
   cases x.kids.all okT <;> rfl
  show F64_step (F99 (n + 1)) (F64 (n + 1)) (n + 1) x = _
  unfold F64_step
  rw [F97_eq x (by omega) (by omega) (by omega),F98_eq x (by omega) (by omega) (by omega),e99,okT_eq]
  simp only [Option.bind_some]
  cases fieldsB x <;> cases kidsB x <;> simp
def okE (x:Node):Prop:=okT x = true∧isE x.kind = true
theorem okT_parts {x:Node} (h:okT x = true):fieldsB x = true∧kidsB x = true∧∀ y ∈ x.kids,okT y = true:=by
 rw [okT_eq] at h
 simp only [Bool.and_eq_true,List.all_eq_true] at h
 exact ⟨h.1,h.2.1,h.2.2⟩
theorem ex1_iff {p:Node→Bool} {l:List Node} (h:ex1 p l = true):∃ a,l = [a]∧p a = true:=by
 match l,h with
 | [a],h=>exact ⟨a,rfl,h⟩
theorem ex2_iff {p q:Node→Bool} {l:List Node} (h:ex2 p q l = true):∃ a b,l = [a,b]∧p a = true∧q b = true:=by
 match l,h with
 | [a,b],h=>simp only [ex2,Bool.and_eq_true] at h; exact ⟨a,b,rfl,h⟩
theorem ex3_iff {p q r:Node→Bool} {l:List Node} (h:ex3 p q r l = true):∃ a b c,l = [a,b,c]∧p a = true∧q b = true∧r c = true:=by
 match l,h with
 | [a,b,c],h=>simp only [ex3,Bool.and_eq_true] at h; exact ⟨a,b,c,rfl,h⟩
theorem isE_cases {k:Int} (h:isE k = true):k = 1∨k = 2∨k = 3∨k = 4∨k = 5∨k = 6∨k = 7∨k = 8:=by
 simp only [isE,Bool.and_eq_true,decide_eq_true_eq] at h
 omega
theorem okE_ind {P:Node→Prop}
  (c1:∀ x,x.kind = 1→x.kids = []→inR x.n = true→P x)
  (c2:∀ x,x.kind = 2→x.kids = []→pathB (tl x.name) = true→P x)
  (c2':∀ x a,x.kind = 2→x.kids = [a]→pathB (tl x.name) = true→okE a→P a→P x)
  (c3:∀ x a,x.kind = 3→x.kids = [a]→okE a→P a→P x)
  (c4:∀ x a,x.kind = 4→x.kids = [a]→okE a→P a→P x)
  (c5:∀ x a b,x.kind = 5→x.kids = [a,b]→levelI x.name≠0→okE a→P a→okE b→P b→P x)
  (c6:∀ x a b c,x.kind = 6→x.kids = [a,b,c]→okE a→P a→okE b→P b→okE c→P c→P x)
  (c7:∀ x a,(x.kind = 7∨x.kind = 8)→x.kids = [a]→nameB (tl x.name) = true→inR x.n = true→okE a→P a→P x) :
  ∀ x,okE x→P x:=by
 have key:∀ m x,sz x≤m→okE x→P x:=by
  intro m
  induction m with
  | zero=>intro x hx; have:=sz_pos x; omega
  | succ m ih =>
   intro x hx hE
   obtain ⟨hT,he⟩:=hE
   obtain ⟨hf,hk,hks⟩:=okT_parts hT
   have hsz:=sz_eq x
   have kid:∀ y,y ∈ x.kids→isE y.kind = true→okE y∧P y:=fun y hy hye=>by
    have h0:okE y:=⟨hks y hy,hye⟩
    have:=szs_mem x.kids y hy
    exact ⟨h0,ih y (by omega) h0⟩
   rcases isE_cases he with h | h | h | h | h | h | h | h
   ·simp [fieldsB,fldGood,h] at hf
    simp [kidsB,leafK,h] at hk
    exact c1 x h hk hf.1
   ·simp [fieldsB,fldGood,h] at hf
    simp [kidsB,leafK,h] at hk
    rcases hk with hk | hk
    ·exact c2 x h hk hf.1
    ·obtain ⟨a,ha,hea⟩:=ex1_iff hk
     obtain ⟨k1,k2⟩:=kid a (by simp [ha]) hea
     exact c2' x a h ha hf.1 k1 k2
   ·simp [kidsB,leafK,h] at hk
    obtain ⟨a,ha,hea⟩:=ex1_iff hk
    have hea':a.kind = 2:=by simpa [kX] using hea
    obtain ⟨k1,k2⟩:=kid a (by simp [ha]) (by rw [hea']; rfl)
    exact c3 x a h ha k1 k2
   ·simp [kidsB,leafK,oneK,h] at hk
    obtain ⟨a,ha,hea⟩:=ex1_iff hk
    obtain ⟨k1,k2⟩:=kid a (by simp [ha]) hea
    exact c4 x a h ha k1 k2
   ·simp [fieldsB,fldGood,h] at hf
    simp [kidsB,leafK,oneK,h] at hk
    obtain ⟨a,b,ha,hea,heb⟩:=ex2_iff hk
    obtain ⟨k1,k2⟩:=kid a (by simp [ha]) hea
    obtain ⟨k3,k4⟩:=kid b (by simp [ha]) heb
    exact c5 x a b h ha hf.1 k1 k2 k3 k4
   ·simp [kidsB,leafK,oneK,h] at hk
    obtain ⟨a,b,c,ha,hea,heb,hec⟩:=ex3_iff hk
    obtain ⟨k1,k2⟩:=kid a (by simp [ha]) hea
    obtain ⟨k3,k4⟩:=kid b (by simp [ha]) heb
    obtain ⟨k5,k6⟩:=kid c (by simp [ha]) hec
    exact c6 x a b c h ha k1 k2 k3 k4 k5 k6
   ·simp [fieldsB,fldGood,h] at hf
    simp [kidsB,leafK,oneK,h] at hk
    obtain ⟨a,ha,hea⟩:=ex1_iff hk
    obtain ⟨k1,k2⟩:=kid a (by simp [ha]) hea
    exact c7 x a (.inl h) ha hf.1.1 hf.1.2 k1 k2
   ·simp [fieldsB,fldGood,h] at hf
    simp [kidsB,leafK,oneK,h] at hk
    obtain ⟨a,ha,hea⟩:=ex1_iff hk
    obtain ⟨k1,k2⟩:=kid a (by simp [ha]) hea
    exact c7 x a (.inr h) ha hf.1.1 hf.1.2 k1 k2
 exact fun x hx=>key (sz x) x (Nat.le_refl _) hx
theorem nameB_len {s:Bytes} (h:nameB s = true):1≤s.length∧s.length≤16:=by
 simp [nameB] at h
 exact ⟨by omega,h.1.1.2⟩
theorem pathN_len:∀ (k:Nat) {s:Bytes},pathN k s = true→1≤s.length∧s.length≤17 * k
 | 0,s,h=>by simp [pathN] at h
 | k + 1,s,h=>by
  simp only [pathN,Bool.and_eq_true] at h
  have h1:=nameB_len h.1
  have sp:=cutB_spec s
  cases hc:(cutB s).2 with
  | none=>rw [(sp.1 hc).1] at h1; omega
  | some r =>
   have h2:=h.2
   rw [hc] at h2
   have h3:=pathN_len k h2
   have:=congrArg List.length (sp.2 r hc).1
   simp at this
   omega
theorem pathB_len {s:Bytes} (h:pathB s = true):1≤s.length∧s.length≤51:=pathN_len 3 h
theorem level_cases {s:ByteArray} (h:levelI s≠0):tl s ∈ [[61,61,62],[124,124],[38,38],[61,61],[33,61],[60],[60,61],[124],[94],[38],[43],[45],[42]]:=by
 have e:∀ l:List UInt8,strEq s (bs l) = decide (tl s = l):=fun l=>Bool.eq_iff_iff.2 (by rw [decide_eq_true_iff]; simp [strEq,bs,tl])
 simp only [levelI,e] at h
 simp only [List.mem_cons,List.not_mem_nil,or_false]
 by_cases h1:tl s = [61,61,62]
 ·exact .inl h1
 by_cases h2:tl s = [124,124]
 ·simp [h2]
 by_cases h3:tl s = [38,38]
 ·simp [h3]
 by_cases h4:tl s = [61,61]
 ·simp [h4]
 by_cases h5:tl s = [33,61]
 ·simp [h5]
 by_cases h6:tl s = [60]
 ·simp [h6]
 by_cases h7:tl s = [60,61]
 ·simp [h7]
 by_cases h8:tl s = [124]
 ·simp [h8]
 by_cases h9:tl s = [94]
 ·simp [h9]
 by_cases h10:tl s = [38]
 ·simp [h10]
 by_cases h11:tl s = [43]
 ·simp [h11]
 by_cases h12:tl s = [45]
 ·simp [h12]
 by_cases h13:tl s = [42]
 ·simp [h13]
 simp [h1,h2,h3,h4,h5,h6,h7,h8,h9,h10,h11,h12,h13] at h
theorem level_len {s:ByteArray} (h:levelI s≠0):1≤(tl s).length∧(tl s).length≤3:=by
 have:=level_cases h
 simp only [List.mem_cons,List.not_mem_nil,or_false] at this
 rcases this with h | h | h | h | h | h | h | h | h | h | h | h | h <;> rw [h] <;> simp
theorem digs_len:∀ (f u:Nat),(digs f u).length≤f
 | 0,_=>by simp [digs]
 | f + 1,u=>by
  simp only [digs]
  split
  ·simp
  ·have:=digs_len f (u / 10); simp; omega
theorem digs_pos (f u:Nat):1≤(digs (f + 1) u).length:=by
 simp only [digs]
 split <;> simp
theorem numL_len (n:Int):1≤(numL n).length∧(numL n).length≤20:=⟨digs_pos 19 _,digs_len 20 _⟩
theorem joinL_len (sep:Bytes):∀ (l:List Bytes),(joinL sep l).length≤(l.map List.length).sum + sep.length * l.length
 | []=>by simp [joinL]
 | [x]=>by simp [joinL]
 | x :: y :: r=>by
  have:=joinL_len sep (y :: r)
  simp only [joinL,List.length_append,List.map_cons,List.sum_cons,List.length_cons] at *
  have e:sep.length * (r.length + 1 + 1) = sep.length * (r.length + 1) + sep.length:=by rw [Nat.mul_succ]
  omega
theorem filter_sum (l:List Bytes) (p:Bytes→Bool):((l.filter p).map List.length).sum≤(l.map List.length).sum:=by
 induction l with
 | nil=>simp
 | cons x r ih =>
  simp only [List.filter_cons]
  split <;> simp <;> omega
theorem wordsL_len (l:List Bytes):(wordsL l).length≤(l.map List.length).sum + l.length:=by
 have h1:=joinL_len [32] (l.filter (fun s=>!s.isEmpty))
 have h2:=filter_sum l (fun s=>!s.isEmpty)
 have h3:=List.length_filter_le (fun s:Bytes=>!s.isEmpty) l
 refine Nat.le_trans h1 ?_
 simp only [List.length_cons,List.length_nil]
 omega
theorem opd_len (a:Int × Bytes) (r:Int):(opd a r).length≤a.2.length + 2:=by
 unfold opd
 cases decide (a.1 < r) <;> simp
theorem txt_len:∀ x,okE x→(txt x).length≤80 * sz x:=by
 apply okE_ind
 ·intro x h hk hn
  have:=numL_len x.n
  rw [txt_eq,sz_eq,hk]
  simp [txtOf,h]
  omega
 ·intro x h hk hn
  have:=pathB_len hn
  rw [txt_eq,sz_eq,hk]
  simp [txtOf,h,txts]
  omega
 ·intro x a h hk hn _ ih
  have:=pathB_len hn
  have:=opd_len (levI a,txt a) 0
  rw [txt_eq,sz_eq,hk]
  simp [txtOf,h,txts,nth,szs] at *
  omega
 ·intro x a h hk _ ih
  have:=opd_len (levI a,txt a) 0
  rw [txt_eq,sz_eq,hk]
  simp [txtOf,h,txts,nth,szs] at *
  omega
 ·intro x a h hk _ ih
  have:=opd_len (levI a,txt a) 11
  rw [txt_eq,sz_eq,hk]
  simp [txtOf,h,txts,nth,szs] at *
  omega
 ·intro x a b h hk hl _ iha _ ihb
  have:=level_len hl
  have h1:=opd_len (levI a,txt a) (ruleI x.name).2.2.1
  have h2:=opd_len (levI b,txt b) (ruleI x.name).2.2.2
  have h3:=wordsL_len [opd (levI a,txt a) (ruleI x.name).2.2.1,tl x.name,opd (levI b,txt b) (ruleI x.name).2.2.2]
  rw [txt_eq,sz_eq,hk]
  simp [txtOf,h,txts,nth,szs] at *
  omega
 ·intro x a b c h hk _ iha _ ihb _ ihc
  have h1:=opd_len (levI a,txt a) 2
  have h2:=opd_len (levI b,txt b) 1
  have h4:=opd_len (levI c,txt c) 1
  have h3:=wordsL_len [opd (levI a,txt a) 2,[63],opd (levI b,txt b) 1,[58],opd (levI c,txt c) 1]
  rw [txt_eq,sz_eq,hk]
  simp [txtOf,h,txts,nth,szs] at *
  omega
 ·intro x a h hk hnm hn _ ih
  have:=nameB_len hnm
  have:=numL_len x.n
  have h1:=opd_len (levI a,txt a) 0
  have h2:=wordsL_len [[97,108,108],tl x.name,[60],numL x.n,[58],opd (levI a,txt a) 0]
  have h3:=wordsL_len [[115,111,109,101],tl x.name,[60],numL x.n,[58],opd (levI a,txt a) 0]
  rw [txt_eq,sz_eq,hk]
  rcases h with h | h <;> simp [txtOf,h,txts,nth,szs] at * <;> omega
end Go.Proofs.YtbecjgckobhmpaaGreatDoor
end
section
namespace Go.Proofs.YtbecjgckobhmpaaGreatDoor
open Go Go.AM Go.Proofs
theorem joinF_eq {xs:List ByteArray} {sep:ByteArray} (h1:xs.length≤1000000) (h2:(joinL (tl sep) (xs.map tl)).length≤1000000000):joinF xs sep = some (bs (joinL (tl sep) (xs.map tl))):=by
 show (if xs.length≤140737488355328∧(joinL (tl sep) (xs.map tl)).length≤140737488355328 then some (bs (joinL (tl sep) (xs.map tl))) else none) = _
 rw [if_pos ⟨by omega,by omega⟩]
theorem joinL_nil:∀ (l:List Bytes),joinL [] l = l.flatten
 | []=>rfl
 | [x]=>by simp [joinL]
 | x :: y :: r=>by
  have:=joinL_nil (y :: r)
  simp only [joinL,this,List.flatten_cons,List.nil_append]
theorem F82_eq {l:List ByteArray} (h1:l.length≤1000) (h2:((l.map tl).flatten).length≤1000000000):F82 l = some (bs ((l.map tl).flatten)):=by
 have e:=joinL_nil (l.map tl)
 unfold F82
 rw [joinF_eq (by omega) (by rw [show tl (bs []) = [] from rfl,e]; exact h2)]
 simp only [Option.bind_some,show tl (bs []) = [] from rfl,e]
theorem filter_ne (l:List ByteArray):(l.filter (fun s=>!(strEq s (bs [])))).map tl = (l.map tl).filter (fun s=>!s.isEmpty):=by
 rw [List.filter_map]
 congr 1
 apply List.filter_congr
 intro s _
 simp only [Function.comp]
 congr 1
 have:strEq s (bs []) = (tl s == []):=rfl
 rw [this]
 cases tl s <;> rfl
theorem F85_eq {l:List ByteArray} (h1:l.length≤1000) (h2:(wordsL (l.map tl)).length≤1000000000) {n:Nat} (hn:l.length < n):F85 n l = some (bs (wordsL (l.map tl))):=by
 unfold F85
 obtain ⟨r,hr,rfl⟩:=iter_inv (step:=fun s1:List ByteArray × Int=>bif decide (s1.2 < (l.length:Int)) then
   ((idxL l s1.2).bind fun x3 =>
   bif !(strEq x3 (bs [])) then
    ((appL 16 s1.1 ([x3]:List ByteArray)).bind fun x5 =>
    some (.inl (x5,w64 (s1.2 + 1))))
   else
    (some (.inl (s1.1,w64 (s1.2 + 1)))))
  else
   (some (.inr s1.1))) l (fun (k:Nat) (a:List ByteArray)=>(a,(k:Int))) (fun k a=>a = (l.take k).filter (fun s=>!(strEq s (bs [])))) (fun r=>r = l.filter (fun s=>!(strEq s (bs []))))
  (fun k a x hx ha=>by
   have hlt:=lt_of_get hx
   have c1:decide ((k:Int) < (l.length:Int)) = true:=by simpa using hlt
   have ht:l.take (k + 1) = l.take k ++ [x]:=by
    rw [List.take_add_one,hx]; rfl
   simp only [c1,cond_true,idxL_some hx,Option.bind_some,w64_nat (k:=k) (by omega)]
   left
   cases he:strEq x (bs [])
   ·have hal:a.length≤k:=by
     rw [ha]
     refine Nat.le_trans (List.length_filter_le _ _) ?_
     simp; omega
    simp only [Bool.not_false,cond_true,appL]
    rw [if_pos (by simp; omega)]
    exact ⟨a ++ [x],rfl,by rw [ht,List.filter_append,← ha]; simp [he]⟩
   ·simp only [Bool.not_true,cond_false]
    exact ⟨a,rfl,by rw [ht,List.filter_append,← ha]; simp [he]⟩)
  (fun a ha=>⟨a,by simp,by rw [ha]; simp⟩) n [] hn (by simp)
 erw [hr]
 simp only [Option.bind_some]
 have e:(l.filter (fun s=>!(strEq s (bs [])))).map tl = (l.map tl).filter (fun s=>!s.isEmpty):=filter_ne l
 rw [joinF_eq (by have:=List.length_filter_le (fun s=>!(strEq s (bs []))) l; omega) (by rw [e]; exact h2)]
 simp only [Option.bind_some,e]
 rfl
theorem F84_eq (s:ByteArray) {n:Nat} (hn:14≤n):F84 n s = some ((ruleI s).1,(ruleI s).2.1,(ruleI s).2.2.1,(ruleI s).2.2.2):=by
 unfold F84
 have hlen:ruleTab.length = 13:=by kernel_rfl
 have:=iter_runF (step:=fun s2:Int=>bif decide (s2 < 13) then
   ((idxL ruleTab s2).bind fun x4 =>
   bif strEq x4.1 s then
    (some (.inr (.inl (x4.1,x4.2.1,x4.2.2.1,x4.2.2.2))))
   else
    (some (.inl (w64 (s2 + 1)))))
  else
   (some (.inr (.inr ())):Option (Int ⊕ ((ByteArray × Int × Int × Int) ⊕ Unit)))) ruleTab (fun (k:Nat) (_:Unit)=>(k:Int)) (fun _ _ x=>if strEq x.1 s then .inr (.inl x) else .inl ()) (fun _=>.inr ())
  (fun k a x hx=>by
   have hlt:=lt_of_get hx
   have c1:decide ((k:Int) < 13) = true:=by simp; omega
   simp only [c1,cond_true,idxL_some hx,Option.bind_some,w64_nat (k:=k) (by omega)]
   cases strEq x.1 s <;> rfl) (fun _=>by rw [hlen]; rfl) n () (by omega)
 erw [this]
 have key:∀ (l:List (ByteArray × Int × Int × Int)) (k:Nat),runF (A:=Unit) (ρ:=(ByteArray × Int × Int × Int) ⊕ Unit) (fun _ _ x=>if strEq x.1 s then .inr (.inl x) else .inl ()) (fun _=>.inr ()) k l () = match l.find? (fun r=>strEq r.1 s) with | some r=>.inl r | none=>.inr ():=by
  intro l
  induction l with
  | nil=>intro k; rfl
  | cons x r ih =>
   intro k
   simp only [runF,List.find?_cons]
   by_cases hx:strEq x.1 s = true
   ·simp [hx]
   ·simp only [Bool.not_eq_true] at hx
    simp only [hx]
    simpa using ih (k + 1)
 rw [key]
 simp only [Option.bind_some,ruleI]
 cases ruleTab.find? (fun r=>strEq r.1 s) <;> rfl
theorem F134_eq (x:Node) {n:Nat} (hn:14≤n):F134 n x = some (levI x):=by
 unfold F134 levI
 simp only [Option.bind_some,F84_eq _ hn,some_cond,bor]
theorem itoa_eq {n:Int} (h:inR n = true):itoaF n = some (bs (numL n)):=by
 simp only [inR,Bool.and_eq_true,decide_eq_true_eq] at h
 unfold itoaF
 rw [if_pos (by omega)]
 rfl
theorem F83_of {x:Node} {n:Nat} (hn:14≤n) (h:F54 n x = some (bs (txt x))) (hl:(txt x).length≤100000) (r:Int):F83 (n + 1) x r = some (bs (opd (levI x,txt x) r)):=by
 show F83_step (F83 n) (F54 n) n x r = _
 unfold F83_step
 rw [F134_eq x hn,h]
 simp only [Option.bind_some,opd]
 cases decide (levI x < r)
 ·rfl
 ·simp only [cond_true]
  rw [F82_eq (by simp) (by simp [tl,bs]; omega)]
  simp [bs,tl]
theorem F54_eq:∀ x,okE x→sz x≤200→∀ n,30 + 2 * sz x≤n→F54 n x = some (bs (txt x)):=by
 have len:∀ y,okE y→sz y≤200→(txt y).length≤16000:=fun y hy hs=>by have:=txt_len y hy; omega
 have opl:∀ y (r:Int),okE y→sz y≤200→(opd (levI y,txt y) r).length≤16002:=fun y r hy hs=>by
  have h1:=len y hy hs
  have h2:=opd_len (levI y,txt y) r
  simp at h2
  omega
 apply okE_ind
 ·intro x h hk hn hs n hf
  obtain ⟨n,rfl⟩:∃ m,n = m + 1:=⟨n - 1,by omega⟩
  show F54_step (F83 n) (F54 n) n x = _
  unfold F54_step
  rw [txt_eq]
  simp [h,itoa_eq hn,txtOf]
 ·intro x h hk hn hs n hf
  obtain ⟨n,rfl⟩:∃ m,n = m + 1:=⟨n - 1,by omega⟩
  show F54_step (F83 n) (F54 n) n x = _
  unfold F54_step
  rw [txt_eq]
  simp [h,hk,txtOf,txts,bs_tl]
 ·intro x a h hk hn ha ih hs n hf
  have hsz:sz x = 1 + sz a:=by rw [sz_eq,hk]; simp [szs]
  obtain ⟨n,rfl⟩:∃ m,n = m + 2:=⟨n - 2,by omega⟩
  have ea:=F83_of (n:=n) (by omega) (ih (by omega) n (by omega)) (by have:=len a ha (by omega); omega) 0
  have h1:=opl a 0 ha (by omega)
  have h2:=pathB_len hn
  show F54_step (F83 (n + 1)) (F54 (n + 1)) (n + 1) x = _
  unfold F54_step
  rw [txt_eq]
  simp only [h,hk,idxL]
  simp [txtOf,txts,nth,ea]
  rw [F82_eq (by simp) (by simp [tl,bs] at *; omega)]
  simp [bs,tl]
 ·intro x a h hk ha ih hs n hf
  have hsz:sz x = 1 + sz a:=by rw [sz_eq,hk]; simp [szs]
  obtain ⟨n,rfl⟩:∃ m,n = m + 2:=⟨n - 2,by omega⟩
  have ea:=F83_of (n:=n) (by omega) (ih (by omega) n (by omega)) (by have:=len a ha (by omega); omega) 0
  have h1:=opl a 0 ha (by omega)
  show F54_step (F83 (n + 1)) (F54 (n + 1)) (n + 1) x = _
  unfold F54_step
  rw [txt_eq]
  simp only [h,hk,idxL]
  simp [txtOf,txts,nth,ea]
  rw [F82_eq (by simp) (by simp [tl,bs] at *; omega)]
  simp [bs,tl]
 ·intro x a h hk ha ih hs n hf
  have hsz:sz x = 1 + sz a:=by rw [sz_eq,hk]; simp [szs]
  obtain ⟨n,rfl⟩:∃ m,n = m + 2:=⟨n - 2,by omega⟩
  have ea:=F83_of (n:=n) (by omega) (ih (by omega) n (by omega)) (by have:=len a ha (by omega); omega) 11
  have h1:=opl a 11 ha (by omega)
  show F54_step (F83 (n + 1)) (F54 (n + 1)) (n + 1) x = _
  unfold F54_step
  rw [txt_eq]
  simp only [h,hk,idxL]
  simp [txtOf,txts,nth,ea]
  rw [F82_eq (by simp) (by simp [tl,bs] at *; omega)]
  simp [bs,tl]
 ·intro x a b h hk hl ha iha hb ihb hs n hf
  have hsz:sz x = 1 + (sz a + sz b):=by rw [sz_eq,hk]; simp [szs]
  obtain ⟨n,rfl⟩:∃ m,n = m + 2:=⟨n - 2,by omega⟩
  have ea:=F83_of (n:=n) (by omega) (iha (by omega) n (by omega)) (by have:=len a ha (by omega); omega) (ruleI x.name).2.2.1
  have eb:=F83_of (n:=n) (by omega) (ihb (by omega) n (by omega)) (by have:=len b hb (by omega); omega) (ruleI x.name).2.2.2
  have h1:=opl a (ruleI x.name).2.2.1 ha (by omega)
  have h2:=opl b (ruleI x.name).2.2.2 hb (by omega)
  have h3:=level_len hl
  have h4:=wordsL_len [opd (levI a,txt a) (ruleI x.name).2.2.1,tl x.name,opd (levI b,txt b) (ruleI x.name).2.2.2]
  show F54_step (F83 (n + 1)) (F54 (n + 1)) (n + 1) x = _
  unfold F54_step
  rw [txt_eq]
  simp only [h,hk,F84_eq _ (show 14≤n + 1 by omega),idxL]
  simp [txtOf,txts,nth,ea,eb]
  rw [F85_eq (by simp) (by simp [tl,bs] at *; omega) (by simp; omega)]
  simp [bs,tl]
 ·intro x a b c h hk ha iha hb ihb hc ihc hs n hf
  have hsz:sz x = 1 + (sz a + (sz b + sz c)):=by rw [sz_eq,hk]; simp [szs]
  obtain ⟨n,rfl⟩:∃ m,n = m + 2:=⟨n - 2,by omega⟩
  have ea:=F83_of (n:=n) (by omega) (iha (by omega) n (by omega)) (by have:=len a ha (by omega); omega) 2
  have eb:=F83_of (n:=n) (by omega) (ihb (by omega) n (by omega)) (by have:=len b hb (by omega); omega) 1
  have ec:=F83_of (n:=n) (by omega) (ihc (by omega) n (by omega)) (by have:=len c hc (by omega); omega) 1
  have h1:=opl a 2 ha (by omega)
  have h2:=opl b 1 hb (by omega)
  have h3:=opl c 1 hc (by omega)
  have h4:=wordsL_len [opd (levI a,txt a) 2,[63],opd (levI b,txt b) 1,[58],opd (levI c,txt c) 1]
  show F54_step (F83 (n + 1)) (F54 (n + 1)) (n + 1) x = _
  unfold F54_step
  rw [txt_eq]
  simp only [h,hk,idxL]
  simp [txtOf,txts,nth,ea,eb,ec]
  rw [F85_eq (by simp) (by simp [tl,bs] at *; omega) (by simp; omega)]
  simp [bs,tl]
 ·intro x a h hk hnm hn ha ih hs n hf
  have hsz:sz x = 1 + sz a:=by rw [sz_eq,hk]; simp [szs]
  obtain ⟨n,rfl⟩:∃ m,n = m + 2:=⟨n - 2,by omega⟩
  have ea:=F83_of (n:=n) (by omega) (ih (by omega) n (by omega)) (by have:=len a ha (by omega); omega) 0
  have h1:=opl a 0 ha (by omega)
  have h2:=nameB_len hnm
  have h3:=numL_len x.n
  have h4:=wordsL_len [[97,108,108],tl x.name,[60],numL x.n,[58],opd (levI a,txt a) 0]
  have h5:=wordsL_len [[115,111,109,101],tl x.name,[60],numL x.n,[58],opd (levI a,txt a) 0]
  show F54_step (F83 (n + 1)) (F54 (n + 1)) (n + 1) x = _
  unfold F54_step
  rw [txt_eq]
  rcases h with h | h
  ·simp only [h,hk,idxL,itoa_eq hn]
   simp [txtOf,txts,nth,ea]
   rw [F85_eq (by simp) (by simp [tl,bs] at *; omega) (by simp; omega)]
   simp [bs,tl]
  ·simp only [h,hk,idxL,itoa_eq hn]
   simp [txtOf,txts,nth,ea]
   rw [F85_eq (by simp) (by simp [tl,bs] at *; omega) (by simp; omega)]
   simp [bs,tl]
end Go.Proofs.YtbecjgckobhmpaaGreatDoor
end
section
namespace Go.Proofs.YtbecjgckobhmpaaGreatDoor
open Go Go.AM Go.Proofs
def plainC (b:UInt8):Prop:=b≠32∧b≠10∧b≠123∧b≠125
inductive GX:Bytes→Prop where
 | tok (c:Bytes) (h0:c≠[]) (h:∀ b ∈ c,plainC b):GX c
 | app {a b:Bytes} (ha:GX a) (hb:GX b):GX (a ++ b)
 | sp {a b:Bytes} (ha:GX a) (hb:GX b):GX (a ++ 32 :: b)
def GE (c:Bytes):Prop:=c = []∨GX c
theorem GX.ne {c:Bytes} (h:GX c):c≠[]:=by
 induction h with
 | tok c h0 h=>exact h0
 | app ha hb ih1 ih2=>simp [ih1]
 | sp ha hb ih1 ih2=>simp
theorem joinL_blank:∀ (l:List Bytes),(∀ s ∈ l,GX s)→l≠[]→GX (joinL [32] l)
 | [],_,h=>absurd rfl h
 | [x],h,_=>h x (by simp)
 | x :: y :: r,h,_=>by
  have:=joinL_blank (y :: r) (fun s hs=>h s (by simp [hs])) (by simp)
  simp only [joinL]
  exact .sp (h x (by simp)) this
theorem words_GX (l:List Bytes) (h:∀ s ∈ l,GE s) (h2:∃ s ∈ l,s≠[]):GX (wordsL l):=by
 refine joinL_blank _ (fun s hs=>?_) ?_
 ·simp only [List.mem_filter] at hs
  rcases h s hs.1 with rfl | h
  ·simp at hs
  ·exact h
 ·obtain ⟨s,hs,hne⟩:=h2
  have:s ∈ l.filter (fun s=>!s.isEmpty):=by
   simp only [List.mem_filter]
   refine ⟨hs,?_⟩
   cases s with
   | nil=>exact absurd rfl hne
   | cons _ _=>rfl
  intro e
  rw [e] at this
  cases this
theorem plain_word {b:UInt8} (h:isWordI b.toNat = true):plainC b:=by
 refine ⟨?_,?_,?_,?_⟩ <;> rintro rfl <;> revert h <;> decide
theorem plain_let {b:UInt8} (h:isLetI b.toNat = true):plainC b:=by
 refine ⟨?_,?_,?_,?_⟩ <;> rintro rfl <;> revert h <;> decide
theorem name_GX {s:Bytes} (h:nameB s = true):GX s:=by
 simp only [nameB,Bool.and_eq_true] at h
 have hc:=h.2
 cases s with
 | nil=>simp at h
 | cons b r =>
  simp only [nameCs,Bool.and_eq_true,List.all_eq_true] at hc
  refine .tok _ (by simp) (fun c hcm=>?_)
  rcases List.mem_cons.1 hcm with rfl | hcm
  ·exact plain_let hc.1
  ·exact plain_word (hc.2 c hcm)
theorem tok1 {b:UInt8} (h:plainC b):GX [b]:=.tok _ (by simp) (by simpa using h)
theorem path_GX:∀ (k:Nat) {s:Bytes},pathN k s = true→GX s
 | 0,s,h=>by simp [pathN] at h
 | k + 1,s,h=>by
  simp only [pathN,Bool.and_eq_true] at h
  have h1:=name_GX h.1
  have spc:=cutB_spec s
  cases hc:(cutB s).2 with
  | none=>rw [(spc.1 hc).1] at h1; exact h1
  | some r =>
   have h2:=h.2
   rw [hc] at h2
   have h3:=path_GX k h2
   rw [(spc.2 r hc).1]
   exact .app h1 (GX.app (tok1 (by simp [plainC])) h3)
theorem digs_GX:∀ (f u:Nat),∀ b ∈ digs f u,plainC b
 | 0,_,b,h=>by simp [digs] at h
 | f + 1,u,b,h=>by
  have key:∀ v,v < 10→plainC (UInt8.ofNat (48 + v)):=by
   intro v hv
   have:v = 0∨v = 1∨v = 2∨v = 3∨v = 4∨v = 5∨v = 6∨v = 7∨v = 8∨v = 9:=by omega
   rcases this with rfl | rfl | rfl | rfl | rfl | rfl | rfl | rfl | rfl | rfl <;> simp [plainC]
  simp only [digs] at h
  split at h
  ·rename_i hu
   simp only [List.mem_singleton] at h
   subst h
   exact key u hu
  ·simp only [List.mem_append,List.mem_singleton] at h
   rcases h with h | rfl
   ·exact digs_GX f _ b h
   ·exact key _ (by omega)
theorem num_GX (n:Int):GX (numL n):=by
 refine .tok _ ?_ (digs_GX 20 _)
 intro e
 have:=(numL_len n).1
 rw [e] at this
 simp at this
theorem op_GX {s:ByteArray} (h:levelI s≠0):GX (tl s):=by
 have:=level_cases h
 simp only [List.mem_cons,List.not_mem_nil,or_false] at this
 rcases this with h | h | h | h | h | h | h | h | h | h | h | h | h <;> rw [h] <;> exact .tok _ (by simp) (by simp [plainC])
theorem opd_GX {a:Int × Bytes} (r:Int) (h:GX a.2):GX (opd a r):=by
 unfold opd
 cases decide (a.1 < r)
 ·exact h
 ·exact GX.app (tok1 (by simp [plainC])) (GX.app h (tok1 (by simp [plainC])))
theorem txt_GX:∀ x,okE x→GX (txt x):=by
 apply okE_ind
 ·intro x h hk hn
  rw [txt_eq]; simp [txtOf,h]
  exact num_GX _
 ·intro x h hk hn
  rw [txt_eq,hk]; simp [txtOf,h,txts]
  exact path_GX 3 hn
 ·intro x a h hk hn _ ih
  rw [txt_eq,hk]; simp [txtOf,h,txts,nth]
  exact .app (path_GX 3 hn) (GX.app (tok1 (by simp [plainC])) (.app (opd_GX _ ih) (tok1 (by simp [plainC]))))
 ·intro x a h hk _ ih
  rw [txt_eq,hk]; simp [txtOf,h,txts,nth]
  exact GX.app (a:=[111,108,100,40]) (.tok _ (by simp) (by simp [plainC])) (.app (opd_GX _ ih) (tok1 (by simp [plainC])))
 ·intro x a h hk _ ih
  rw [txt_eq,hk]; simp [txtOf,h,txts,nth]
  exact GX.app (a:=[33]) (tok1 (by simp [plainC])) (opd_GX _ ih)
 ·intro x a b h hk hl _ iha _ ihb
  rw [txt_eq,hk]; simp [txtOf,h,txts,nth]
  refine words_GX _ ?_ ⟨tl x.name,by simp,(op_GX hl).ne⟩
  simp only [List.mem_cons,List.not_mem_nil,or_false,forall_eq_or_imp,forall_eq]
  exact ⟨.inr (opd_GX _ iha),.inr (op_GX hl),.inr (opd_GX _ ihb)⟩
 ·intro x a b c h hk _ iha _ ihb _ ihc
  rw [txt_eq,hk]; simp [txtOf,h,txts,nth]
  refine words_GX _ ?_ ⟨[63],by simp,by simp⟩
  simp only [List.mem_cons,List.not_mem_nil,or_false,forall_eq_or_imp,forall_eq]
  exact ⟨.inr (opd_GX _ iha),.inr (tok1 (by simp [plainC])),.inr (opd_GX _ ihb),.inr (tok1 (by simp [plainC])),.inr (opd_GX _ ihc)⟩
 ·intro x a h hk hnm hn _ ih
  rw [txt_eq,hk]
  rcases h with h | h <;> simp [txtOf,h,txts,nth] <;> refine words_GX _ ?_ ⟨[60],by simp,by simp⟩ <;>
   simp only [List.mem_cons,List.not_mem_nil,or_false,forall_eq_or_imp,forall_eq] <;>
   exact ⟨.inr (.tok _ (by simp) (by simp [plainC])),.inr (name_GX hnm),.inr (tok1 (by simp [plainC])),.inr (num_GX _),.inr (tok1 (by simp [plainC])),.inr (opd_GX _ ih)⟩
inductive LB:Bytes→Int→Prop where
 | gx {c:Bytes} (h:GX c):LB c 0
 | lb:LB [123] 1
 | rb:LB [125] (-1)
 | app {a b:Bytes} {i j:Int} (ha:LB a i) (hb:LB b j):LB (a ++ b) (i + j)
 | sp {a b:Bytes} {i j:Int} (ha:LB a i) (hb:LB b j):LB (a ++ 32 :: b) (i + j)
def nd:Bytes→Bool
 | a :: b :: r=>!(a == 32 && b == 32) && nd (b :: r)
 | _=>true
def net:Bytes→Int
 | []=>0
 | b :: r=>(if b = 123 then 1 else if b = 125 then -1 else 0) + net r
theorem net_append:∀ (a b:Bytes),net (a ++ b) = net a + net b
 | [],b=>by simp [net]
 | x :: r,b=>by simp only [List.cons_append,net,net_append r b]; omega
theorem nd_append:∀ (a b:Bytes),nd a = true→nd b = true→(a.getLast?≠some 32∨b.head?≠some 32)→nd (a ++ b) = true
 | [],b,_,hb,_=>hb
 | [x],b,_,hb,h=>by
  cases b with
  | nil=>rfl
  | cons y r =>
   simp only [List.cons_append,List.nil_append,nd,hb,Bool.and_true]
   simp at h
   simp
   exact h
 | x :: y :: r,b,ha,hb,h=>by
  simp only [nd,Bool.and_eq_true] at ha
  have:=nd_append (y :: r) b ha.2 hb (by simpa using h)
  simp only [List.cons_append,nd,Bool.and_eq_true]
  exact ⟨ha.1,this⟩
theorem net_plain:∀ (c:Bytes),(∀ b ∈ c,plainC b)→net c = 0
 | [],_=>rfl
 | b :: r,h=>by
  have h1:=h b (by simp)
  simp [net,h1.2.2.1,h1.2.2.2,net_plain r (fun x hx=>h x (by simp [hx]))]
theorem nd_plain:∀ (c:Bytes),(∀ b ∈ c,plainC b)→nd c = true
 | [],_=>rfl
 | [_],_=>rfl
 | a :: b :: r,h=>by
  have h1:=h a (by simp)
  simp [nd,h1.1,nd_plain (b :: r) (fun x hx=>h x (by simp [hx]))]
structure Fine (c:Bytes) (i:Int):Prop where
 ne:c≠[]
 hd:c.head?≠some 32
 la:c.getLast?≠some 32
 nl:10 ∉ c
 nd:nd c = true
 nt:net c = i
theorem Fine.app {a b:Bytes} {i j:Int} (ha:Fine a i) (hb:Fine b j):Fine (a ++ b) (i + j) where
 ne:=by simp [ha.ne]
 hd:=by
  obtain ⟨x,r,rfl⟩:=List.exists_cons_of_ne_nil ha.ne
  simpa using ha.hd
 la:=by
  rw [List.getLast?_append]
  cases h:b.getLast? with
  | none=>rw [List.getLast?_eq_none_iff] at h; exact absurd h hb.ne
  | some v=>have:=hb.la; rw [h] at this; simpa using this
 nl:=by simp [ha.nl,hb.nl]
 nd:=nd_append a b ha.nd hb.nd (.inl ha.la)
 nt:=by rw [net_append,ha.nt,hb.nt]
theorem Fine.sp {a b:Bytes} {i j:Int} (ha:Fine a i) (hb:Fine b j):Fine (a ++ 32 :: b) (i + j) where
 ne:=by simp
 hd:=by
  obtain ⟨x,r,rfl⟩:=List.exists_cons_of_ne_nil ha.ne
  simpa using ha.hd
 la:=by
  obtain ⟨x,r,rfl⟩:=List.exists_cons_of_ne_nil hb.ne
  have:=hb.la
  rw [List.getLast?_append]
  simp at this ⊢
  exact this
 nl:=by simp [ha.nl,hb.nl]
 nd:=by
  refine nd_append a (32 :: b) ha.nd ?_ (.inl ha.la)
  obtain ⟨x,r,rfl⟩:=List.exists_cons_of_ne_nil hb.ne
  have h1:=hb.hd
  have h2:=hb.nd
  simp at h1
  simp [Go.Proofs.YtbecjgckobhmpaaGreatDoor.nd,h1,h2]
 nt:=by rw [net_append,ha.nt]; simp [net,hb.nt]
theorem Fine.tok {c:Bytes} (h0:c≠[]) (h:∀ b ∈ c,plainC b):Fine c 0 where
 ne:=h0
 hd:=by
  obtain ⟨x,r,rfl⟩:=List.exists_cons_of_ne_nil h0
  simpa using (h x (by simp)).1
 la:=by
  intro e
  exact (h 32 (List.mem_of_getLast? e)).1 rfl
 nl:=fun e=>(h 10 e).2.1 rfl
 nd:=nd_plain c h
 nt:=net_plain c h
theorem GX.fine {c:Bytes} (h:GX c):Fine c 0:=by
 induction h with
 | tok c h0 h=>exact .tok h0 h
 | app _ _ ih1 ih2=>simpa using ih1.app ih2
 | sp _ _ ih1 ih2=>simpa using ih1.sp ih2
theorem LB.fine {c:Bytes} {i:Int} (h:LB c i):Fine c i:=by
 induction h with
 | gx h=>exact h.fine
 | lb=>exact ⟨by simp,by simp,by simp,by simp,rfl,rfl⟩
 | rb=>exact ⟨by simp,by simp,by simp,by simp,rfl,rfl⟩
 | app _ _ ih1 ih2=>exact ih1.app ih2
 | sp _ _ ih1 ih2=>exact ih1.sp ih2
theorem GX.hd125 {c:Bytes} (h:GX c):c.head?≠some 125:=by
 induction h with
 | tok c h0 h =>
  obtain ⟨x,r,rfl⟩:=List.exists_cons_of_ne_nil h0
  simpa using (h x (by simp)).2.2.2
 | app ha hb ih1 ih2 =>
  obtain ⟨x,r,rfl⟩:=List.exists_cons_of_ne_nil ha.ne
  simpa using ih1
 | sp ha hb ih1 ih2 =>
  obtain ⟨x,r,rfl⟩:=List.exists_cons_of_ne_nil ha.ne
  simpa using ih1
theorem hd_app {a b:Bytes} (h:a≠[]):(a ++ b).head? = a.head?:=by
 obtain ⟨x,r,rfl⟩:=List.exists_cons_of_ne_nil h
 rfl
inductive Lay:Int→Lines→Int→Prop where
 | nil (o:Int):Lay o [] o
 | cons {o o' i:Int} {d:Nat} {c:Bytes} {r:Lines} (hc:LB c i) (hd:(d:Int) = o - (if c.head? = some 125 then 1 else 0)) (hr:Lay (o + i) r o'):Lay o ((d,c) :: r) o'
theorem Lay.append {o1 o2 o3:Int} {a b:Lines} (ha:Lay o1 a o2) (hb:Lay o2 b o3):Lay o1 (a ++ b) o3:=by
 induction ha with
 | nil o=>exact hb
 | cons hc hd hr ih=>exact .cons hc hd (ih hb)
theorem Lay.one {d:Nat} {c:Bytes} (h:LB c 0) (h2:c.head?≠some 125):Lay d [(d,c)] d :=
 .cons h (by rw [if_neg h2]; omega) (by simpa using Lay.nil _)
theorem Lay.open {d:Nat} {h:Bytes} (hg:GX h) {r:Lines} {o:Int} (hr:Lay ((d:Int) + 1) r o):Lay d (openL d h :: r) o:=by
 have e:wordsL [h,[123]] = h ++ 32 :: [123]:=by
  obtain ⟨x,t,rfl⟩:=List.exists_cons_of_ne_nil hg.ne
  simp [wordsL,joinL]
 unfold openL
 rw [e]
 refine .cons (.sp (.gx hg) .lb) ?_ (by simpa using hr)
 rw [hd_app hg.ne,if_neg hg.hd125]
 omega
end Go.Proofs.YtbecjgckobhmpaaGreatDoor
end
section
namespace Go.Proofs.YtbecjgckobhmpaaGreatDoor
open Go Go.AM Go.Proofs
theorem w1 {a:Bytes} (h:GX a) {l:List Bytes} (hl:∀ s ∈ l,GE s):GX (wordsL (a :: l)) :=
 words_GX _ (fun s hs=>by
  rcases List.mem_cons.1 hs with rfl | hs
  ·exact .inr h
  ·exact hl s hs) ⟨a,by simp,h.ne⟩
theorem gc {a:Bytes} (h:GE a) {l:List Bytes} (hl:∀ s ∈ l,GE s):∀ s ∈ a :: l,GE s:=fun s hs=>by
 rcases List.mem_cons.1 hs with rfl | hs
 ·exact h
 ·exact hl s hs
theorem w2 {a b:Bytes} (h0:GE a) (h:GX b) {l:List Bytes} (hl:∀ s ∈ l,GE s):GX (wordsL (a :: b :: l)) :=
 words_GX _ (gc h0 (gc (.inr h) hl)) ⟨b,by simp,h.ne⟩
theorem o1 {c:Bool} {a:Bytes} (h:GX a) {l:List Bytes} (hl:∀ s ∈ l,GE s):GE (onlyL c (a :: l)):=by
 cases c
 ·exact .inl rfl
 ·exact .inr (w1 h hl)
end Go.Proofs.YtbecjgckobhmpaaGreatDoor
end
section
namespace Go.Proofs.YtbecjgckobhmpaaGreatDoor
open Go Go.AM Go.Proofs
def Sh (s:ByteArray):Prop:=(tl s).length≤100000
theorem sc {a:ByteArray} (h:Sh a) {l:List ByteArray} (hl:∀ s ∈ l,Sh s):∀ s ∈ a :: l,Sh s:=fun s hs=>by
 rcases List.mem_cons.1 hs with rfl | hs
 ·exact h
 ·exact hl s hs
end Go.Proofs.YtbecjgckobhmpaaGreatDoor
end
section
namespace Go.Proofs.YtbecjgckobhmpaaGreatDoor
open Go Go.AM Go.Proofs
theorem idx0 {l:List Node} {y:Node} (h:l[0]? = some y):idxL l 0 = some y:=idxL_some (k:=0) h
theorem idx1 {l:List Node} {y:Node} (h:l[1]? = some y):idxL l 1 = some y:=idxL_some (k:=1) h
theorem idx2 {l:List Node} {y:Node} (h:l[2]? = some y):idxL l 2 = some y:=idxL_some (k:=2) h
theorem idx3 {l:List Node} {y:Node} (h:l[3]? = some y):idxL l 3 = some y:=idxL_some (k:=3) h
end Go.Proofs.YtbecjgckobhmpaaGreatDoor
end
section
namespace Go.Proofs.YtbecjgckobhmpaaGreatDoor
open Go Go.AM Go.Proofs
theorem szs_take {l:List Node} {k:Nat} {x:Node} (h:l[k]? = some x):szs (l.take k) + sz x≤szs l:=by
 have hlt:=lt_of_get h
 have e:l = l.take k ++ (x :: l.drop (k + 1)):=by
  have hx:l[k] = x:=by
   have:=List.getElem?_eq_getElem hlt
   rw [h] at this
   exact (Option.some.inj this).symm
  rw [← hx,List.getElem_cons_drop hlt]
  simp
 have h2:=congrArg szs e
 rw [szs_append] at h2
 simp only [szs] at h2
 omega
end Go.Proofs.YtbecjgckobhmpaaGreatDoor
end
section
namespace Go.Proofs.YtbecjgckobhmpaaGreatDoor
open Go Go.AM Go.Proofs
variable {s:ByteArray} {n:Nat}
theorem run_bind {p:Int→Option Bool} {z lo:Int} (h0:0≤lo) (h1:lo≤z) (hz:z < 9223372036854775807) (hp:∀ i,lo≤i→i < z→T (p i) (fun _=>True)) {n:Nat} (hn:z < n) :
  T ((iter (σ:=Int) (ρ:=Int) (fun s1=>bif decide (s1 < z) then ((p s1).bind fun x3=>bif x3 then (some (.inl (w64 (s1 + 1)))) else (some (.inr s1))) else (some (.inr s1))) n lo).bind fun r5=>some r5)
   (fun e=>lo≤e∧e≤z∧(lo < z→p lo = some true→lo < e)) :=
 (run_T h0 h1 hz hp hn).bind fun _ h=>T.some h
theorem symTab_sz:∀ x ∈ symTab,1≤x.size∧x.size≤3:=by
 have:symTab.all (fun x=>decide (1≤x.size∧x.size≤3)) = true:=by kernel_rfl
 intro x hx
 simpa using List.all_eq_true.1 this x hx
theorem F113_T {t:ByteArray} {a:Int} (h0:0≤a) (h1:a≤(s.size:Int)) (hs:s.size≤4000) (ht:t.size≤3):T (F113 s a t) (fun r=>r = true→a + (t.size:Int)≤(s.size:Int)):=by
 unfold F113
 rw [w64_id (by omega) (by omega)]
 refine T.cond (fun hc=>?_) (fun _=>T.some (by simp))
 have hc':a + (t.size:Int)≤(s.size:Int):=by simpa using hc
 exact (subS_T h0 (by omega) hc').bind fun _ _=>T.some (fun _=>hc')
theorem F113_47 {a:Int} (h0:0≤a) (h:F113 s a (bs [47,47]) = some true):idxS s a = some 47:=by
 unfold F113 at h
 rcases csplit h with ⟨_,h⟩ | ⟨_,h⟩
 ·obtain ⟨x,hx,h⟩:=obind h
  simp only [Option.some.injEq] at h
  obtain ⟨k,rfl⟩:=Int.eq_ofNat_of_zero_le h0
  have hx':=hx
  unfold subS at hx'
  split at hx'
  ·rename_i hc
   obtain ⟨j,hj⟩:=Int.eq_ofNat_of_zero_le (show 0≤w64 ((k:Int) + ((bs [47,47]).size:Int)) by omega)
   rw [hj] at hx hc
   rw [subS_eq (by omega) (by rw [← size_tl]; omega)] at hx
   obtain rfl:=Option.some.inj hx
   have h2:((tl s).drop k).take (j - k) = [47,47]:=by simpa [strEq,bs] using h
   have h3:(((tl s).drop k).take (j - k))[0]? = some 47:=by rw [h2]; rfl
   have h4:(tl s)[k]? = some 47:=by
    rw [List.getElem?_take] at h3
    split at h3
    ·simpa using h3
    ·cases h3
   rw [idxS_some h4]
   rfl
  ·cases hx'
 ·cases h
theorem F74_T (hs:s.size≤4000) (hn:5000≤n) {a:Int} (h0:0≤a) (h1:a≤(s.size:Int)):T (F74 n s a) (fun e=>a≤e∧e≤(s.size:Int)):=by
 unfold F74
 refine T.bind (P:=fun r=>match r with | .inl e=>a≤e∧e≤(s.size:Int) | .inr e=>a≤e∧e≤(s.size:Int)) ?_ (fun r h=>by
  cases r with
  | inl r=>exact T.some h
  | inr _=>exact T.some h)
 refine iter_meas (fun e=>a≤e∧e≤(s.size:Int)) (fun e=>((s.size:Int) - e).toNat) _ (fun e he=>?_) n a (by omega) ⟨by omega,h1⟩
 by_cases hlt:e < (s.size:Int)
 ·have c1:decide (e < (s.size:Int)) = true:=by simpa using hlt
  obtain ⟨c,hc,hc2⟩:=F113_T (s:=s) (t:=bs [47,47]) (a:=e) (by omega) (by omega) hs (by simp [size_bs])
  rw [c1,hc]
  simp only [cond_true,Option.bind_some]
  cases c
  ·obtain ⟨b,hb,_⟩:=idxS_T (s:=s) (i:=e) (by omega) (by omega)
   rw [hb]
   simp only [cond_false,Option.bind_some,F114]
   rw [w64_id (x:=e + 1) (by omega) (by omega)]
   cases (((b == 32) || (b == 9)) || (b == 10)) || (b == 13)
   ·exact .inr ⟨_,rfl,he⟩
   ·exact .inl ⟨_,rfl,by omega,by omega⟩
  ·have h47:=F113_47 (by omega) hc
   simp only [cond_true]
   obtain ⟨r,hr,h3⟩:=runG_T (step:=fun s5=>bif decide (s5 < (s.size:Int)) then
      ((idxS s s5).bind fun x7 =>
      bif x7 != 10 then
       (some (.inl (w64 (s5 + 1))))
      else
       (some (.inr s5)))
     else
      (some (.inr s5))) (z:=(s.size:Int)) (lo:=e) (n:=n) (by omega) (by omega) (fun i h1 h2=>by
     by_cases hi:i < (s.size:Int)
     ·have c2:decide (i < (s.size:Int)) = true:=by simpa using hi
      obtain ⟨b,hb,_⟩:=idxS_T (s:=s) (i:=i) (by omega) (by omega)
      rw [c2,hb,w64_id (x:=i + 1) (by omega) (by omega)]
      simp only [cond_true,Option.bind_some]
      cases b != 10
      ·exact .inr rfl
      ·exact .inl ⟨hi,rfl⟩
     ·have c2:decide (i < (s.size:Int)) = false:=by simpa using hi
      rw [c2]
      exact .inr rfl)
   rw [hr]
   have h4:=h3.2.2 (by rw [c1,h47,w64_id (x:=e + 1) (by omega) (by omega)]; rfl)
   exact .inl ⟨r,rfl,by omega,by omega⟩
 ·have c1:decide (e < (s.size:Int)) = false:=by simpa using hlt
  rw [c1]
  exact .inr ⟨_,rfl,he⟩
theorem F116_T (hs:s.size≤4000) (hn:5000≤n) {a:Int} (h0:0≤a) (h1:a < (s.size:Int)) (hl:∀ b,idxS s a = some b→F115 b = some true):T (F116 n s a) (fun r=>1≤r.1.text.size∧a + (r.1.text.size:Int)≤(s.size:Int)):=by
 unfold F116
 have e2:∀ i,a≤i→i < (s.size:Int)→w64 (i + 1) = i + 1:=fun i _ _=>w64_id (by omega) (by omega)
 refine T.bind (runG_T (z:=(s.size:Int)) (by omega) (by omega) (fun i h1 h2=>by
  by_cases hi:i < (s.size:Int)
  ·have c2:decide (i < (s.size:Int)) = true:=by simpa using hi
   obtain ⟨b,hb,_⟩:=idxS_T (s:=s) (i:=i) (by omega) (by omega)
   rw [c2,hb,e2 i h1 hi]
   simp only [cond_true,Option.bind_some,F115,F117]
   cases (((decide (97≤b)) && (decide (b≤122))) || ((decide (65≤b)) && (decide (b≤90))))
   ·cases ((decide (48≤b)) && (decide (b≤57)))
    ·cases b == 95
     ·exact .inr rfl
     ·exact .inl ⟨hi,rfl⟩
    ·exact .inl ⟨hi,rfl⟩
   ·exact .inl ⟨hi,rfl⟩
  ·have c2:decide (i < (s.size:Int)) = false:=by simpa using hi
   rw [c2]
   exact .inr rfl)) fun r hr=>?_
 have hlt:a < r:=hr.2.2 (by
  have c2:decide (a < (s.size:Int)) = true:=by simpa using h1
  obtain ⟨b,hb,_⟩:=idxS_T (s:=s) (i:=a) (by omega) (by omega)
  rw [c2,hb,e2 a (by omega) h1]
  simp only [cond_true,Option.bind_some,hl b hb])
 refine (subS_T h0 (by omega) hr.2.1).bind fun x hx=>T.some ?_
 show 1≤x.size∧_ + (x.size:Int)≤_
 omega
theorem F118_T (hs:s.size≤4000) (hn:5000≤n) {a:Int} (h0:0≤a) (h1:a < (s.size:Int)) (hl:∀ b,idxS s a = some b→F117 b = some true):T (F118 n s a) (fun r=>1≤r.1.text.size∧a + (r.1.text.size:Int)≤(s.size:Int)):=by
 unfold F118
 have e2:∀ i,a≤i→i < (s.size:Int)→w64 (i + 1) = i + 1:=fun i _ _=>w64_id (by omega) (by omega)
 refine T.bind (runG_T (z:=(s.size:Int)) (by omega) (by omega) (fun i h1 h2=>by
  by_cases hi:i < (s.size:Int)
  ·have c2:decide (i < (s.size:Int)) = true:=by simpa using hi
   obtain ⟨b,hb,_⟩:=idxS_T (s:=s) (i:=i) (by omega) (by omega)
   rw [c2,hb,e2 i h1 hi]
   simp only [cond_true,Option.bind_some,F117]
   cases ((decide (48≤b)) && (decide (b≤57)))
   ·exact .inr rfl
   ·exact .inl ⟨hi,rfl⟩
  ·have c2:decide (i < (s.size:Int)) = false:=by simpa using hi
   rw [c2]
   exact .inr rfl)) fun r hr=>?_
 have hlt:a < r:=hr.2.2 (by
  have c2:decide (a < (s.size:Int)) = true:=by simpa using h1
  obtain ⟨b,hb,_⟩:=idxS_T (s:=s) (i:=a) (by omega) (by omega)
  rw [c2,hb,e2 a (by omega) h1]
  simp only [cond_true,Option.bind_some,hl b hb])
 refine T.bind (P:=fun _=>True) (T.cond (fun _=>(idxS_T h0 h1).bind fun _ _=>T.some trivial) (fun _=>T.some trivial)) fun j _=>?_
 refine T.bind (P:=fun _=>True) (T.cond (fun hc=>?_) (fun _=>T.some trivial)) fun j _=>?_
 ·have hc':r < (s.size:Int):=by simpa using hc
  refine (idxS_T (by omega) hc').bind fun b _=>?_
  simp only [F115,Option.bind_some]
  refine T.cond (fun _=>T.some trivial) (fun _=>?_)
  exact (idxS_T (by omega) hc').bind fun b _=>T.cond (fun _=>T.some trivial) (fun _=>T.some trivial)
 refine (subS_T h0 (by omega) hr.2.1).bind fun x hx=>T.some ?_
 show 1≤x.size∧_ + (x.size:Int)≤_
 omega
theorem syms_sz:∀ l,F119 = some l→l.length = 27∧∀ x ∈ l,1≤x.size∧x.size≤3:=by
 intro l h
 obtain rfl:=Option.some.inj h
 refine ⟨rfl,?_⟩
 have:∀ l:List ByteArray,l.all (fun x=>decide (1≤x.size∧x.size≤3)) = true→∀ x ∈ l,1≤x.size∧x.size≤3:=by
  intro l h x hx
  simpa using List.all_eq_true.1 h x hx
 exact this _ (by kernel_rfl)
theorem F75_T (hs:s.size≤4000) (hn:5000≤n) {a:Int} (h0:0≤a) (h1:a < (s.size:Int)):T (F75 n s a) (fun r=>r.2 = true→1≤r.1.text.size∧a + (r.1.text.size:Int)≤(s.size:Int)):=by
 unfold F75
 obtain ⟨b,hb,_⟩:=idxS_T (s:=s) (i:=a) (by omega) (by omega)
 rw [hb]
 simp only [Option.bind_some]
 obtain ⟨c1,hc1⟩:∃ c,F115 b = some c:=⟨_,rfl⟩
 obtain ⟨c2,hc2⟩:∃ c,F117 b = some c:=⟨_,rfl⟩
 rw [hc1]
 simp only [Option.bind_some]
 refine T.cond (fun hc=>?_) (fun _=>?_)
 ·subst hc
  exact (F116_T hs hn h0 h1 (fun b' h=>by rw [hb] at h; obtain rfl:=Option.some.inj h; exact hc1)).bind fun r hr=>T.some (fun _=>hr)
 ·rw [hc2]
  simp only [Option.bind_some]
  refine T.cond (fun hc=>?_) (fun _=>?_)
  ·subst hc
   exact (F118_T hs hn h0 h1 (fun b' h=>by rw [hb] at h; obtain rfl:=Option.some.inj h; exact hc2)).bind fun r hr=>T.some (fun _=>hr)
  ·obtain ⟨l,hl⟩:∃ l,F119 = some l:=⟨_,rfl⟩
   obtain ⟨hlen,hsz⟩:=syms_sz l hl
   rw [hl]
   simp only [Option.bind_some]
   refine T.bind (P:=fun r=>match r with | .inl x=>1≤x.size∧a + (x.size:Int)≤(s.size:Int) | .inr _=>True) ?_ (fun r h=>by
    cases r with
    | inl r=>exact T.some (fun _=>h)
    | inr _=>exact T.some (fun h=>by cases h))
   refine iter_meas (fun e=>0≤e∧e≤27) (fun e=>(27 - e).toNat) _ (fun e he=>?_) n 0 (by omega) ⟨by omega,by omega⟩
   by_cases hlt:e < (l.length:Int)
   ·have c1:decide (e < (l.length:Int)) = true:=by simpa using hlt
    obtain ⟨x,hx,hm⟩:=idxL_T (l:=l) he.1 hlt
    have hz:=hsz x hm
    obtain ⟨c,hc,hf⟩:=F113_T (s:=s) (t:=x) (a:=a) h0 (by omega) hs hz.2
    rw [c1,hx]
    simp only [cond_true,Option.bind_some,hc]
    cases c
    ·exact .inl ⟨e + 1,by rw [w64_id (x:=e + 1) (by omega) (by omega)]; rfl,by omega,by omega⟩
    ·exact .inr ⟨.inl x,rfl,hz.1,hf rfl⟩
   ·have c1:decide (e < (l.length:Int)) = false:=by simpa using hlt
    rw [c1]
    exact .inr ⟨.inr (),rfl,trivial⟩
theorem F39_T (hn:5000≤n):T (F39 n s) (fun r=>r.2.1 = 0→s.size≤4000):=by
 unfold F39
 refine T.cond (fun _=>T.some (fun h=>by simp at h)) fun hc=>?_
 have hs:s.size≤4000:=by simp at hc; omega
 refine (F74_T hs hn (by omega) (by omega)).bind fun x2 h2=>?_
 refine T.bind (P:=fun _=>True) ?_ (fun r _=>by
  cases r with
  | inl r=>exact T.some (fun _=>hs)
  | inr _=>exact T.some (fun _=>hs))
 refine iter_meas (fun st=>st.1.length≤1500∧0≤st.2∧st.2≤(s.size:Int)) (fun st=>((s.size:Int) - st.2).toNat) _ (fun st hst=>?_) n _ (by simp; omega) ⟨by simp,by simp; omega,by simp; omega⟩
 by_cases hlt:st.2 < (s.size:Int)
 ·have c1:decide (st.2 < (s.size:Int)) = true:=by simpa using hlt
  rw [c1]
  simp only [cond_true]
  by_cases hm:(1500:Int)≤(st.1.length:Int)
  ·have c2:decide ((1500:Int)≤(st.1.length:Int)) = true:=by simpa using hm
   rw [c2]
   exact .inr ⟨_,rfl,trivial⟩
  ·have c2:decide ((1500:Int)≤(st.1.length:Int)) = false:=by simpa using hm
   rw [c2]
   simp only [cond_false]
   obtain ⟨x6,hx6,h6⟩:=F75_T hs hn hst.2.1 hlt
   rw [hx6]
   simp only [Option.bind_some]
   cases e6:x6.2
   ·exact .inr ⟨_,rfl,trivial⟩
   ·have h7:=h6 e6
    simp only [Bool.not_true,cond_false,appL]
    rw [if_pos (by simp; omega)]
    simp only [Option.bind_some]
    rw [w64_id (x:=st.2 + _) (by omega) (by omega)]
    obtain ⟨y,hy,h8⟩:=F74_T hs hn (a:=st.2 + (x6.1.text.size:Int)) (by omega) (by omega)
    rw [hy]
    exact .inl ⟨_,rfl,⟨by simp; omega,by simp; omega,by simp; omega⟩,by simp; omega⟩
 ·have c1:decide (st.2 < (s.size:Int)) = false:=by simpa using hlt
  rw [c1]
  exact .inr ⟨_,rfl,trivial⟩
end Go.Proofs.YtbecjgckobhmpaaGreatDoor
end
section
namespace Go.Proofs.YtbecjgckobhmpaaGreatDoor
open Go Go.AM Go.Proofs
theorem szs_take_succ {l:List Node} {k:Nat} {x:Node} (h:l[k]? = some x):szs (l.take (k + 1)) = szs (l.take k) + sz x:=by
 rw [List.take_add_one,h,szs_append]
 simp [szs]
theorem F76_T:∀ (D:Nat) (x:Node) (lim:Int),0≤lim→lim≤1000→D≤100→∀ n,2000 + D≤n→T (F76 n x lim (D:Int)) (fun c=>1≤c∧c≤lim + 1∧(c≤lim→c = (sz x:Int))):=by
 intro D
 induction D with
 | zero =>
  intro x lim h0 h1 _ n hn
  obtain ⟨n,rfl⟩:∃ k,n = k + 1:=⟨n - 1,by omega⟩
  show T (F76_step (F76 n) n x lim 0) _
  unfold F76_step
  simp only [BEq.rfl,cond_true]
  rw [w64_id (by omega) (by omega)]
  exact T.some ⟨by omega,by omega,fun h=>by omega⟩
 | succ D ih =>
  intro x lim h0 h1 hD n hn
  obtain ⟨n,rfl⟩:∃ k,n = k + 1:=⟨n - 1,by omega⟩
  show T (F76_step (F76 n) n x lim ((D + 1:Nat):Int)) _
  unfold F76_step
  have c0:((((D + 1:Nat):Int)) == 0) = false:=by simp; omega
  simp only [c0,cond_false]
  refine T.bind (P:=fun c=>1≤c∧c≤lim + 1∧(c≤lim→c = (sz x:Int))) ?_ (fun _ h=>T.some h)
  refine iter_meas (fun s=>∃ i:Nat,s.2 = (i:Int)∧i≤x.kids.length∧1≤s.1∧s.1≤lim + 1∧(i:Int) + 1≤s.1∧(s.1≤lim→s.1 = 1 + (szs (x.kids.take i):Int))) (fun s=>(lim + 1 - s.1).toNat) _ (fun s hs=>?_) n _ (by simp; omega) ⟨0,rfl,by omega,by simp,by simp; omega,by simp,fun _=>by simp [szs]⟩
  obtain ⟨i,hi,hil,h2,h3,h4,h5⟩:=hs
  rw [hi]
  by_cases hc:i < x.kids.length∧s.1≤lim
  ·have c1:(decide ((i:Int) < (x.kids.length:Int)) && decide (s.1≤lim)) = true:=by simp; omega
   have hx:x.kids[i]? = some x.kids[i]:=List.getElem?_eq_getElem hc.1
   have e1:w64 (lim - s.1) = lim - s.1:=w64_id (by omega) (by omega)
   have e2:w64 (((D + 1:Nat):Int) - 1) = (D:Int):=by rw [w64_id (by omega) (by omega)]; omega
   obtain ⟨c,hcc,k1,k2,k3⟩:=ih x.kids[i] (lim - s.1) (by omega) (by omega) (by omega) n (by omega)
   have e3:w64 (s.1 + c) = s.1 + c:=w64_id (by omega) (by omega)
   rw [c1,idxL_some hx]
   simp only [cond_true,Option.bind_some,e1,e2,hcc,e3,w64_nat (k:=i) (by omega)]
   refine .inl ⟨_,rfl,⟨i + 1,rfl,by omega,by omega,by omega,by omega,fun h=>?_⟩,by simp; omega⟩
   have h6:=h5 hc.2
   have h7:=k3 (by simp at h; omega)
   have h8:=szs_take_succ hx
   simp only [] at h ⊢
   omega
  ·have c1:(decide ((i:Int) < (x.kids.length:Int)) && decide (s.1≤lim)) = false:=by simp; omega
   rw [c1]
   refine .inr ⟨_,rfl,by omega,by omega,fun h=>?_⟩
   have hil':i = x.kids.length:=by omega
   have h6:=h5 h
   rw [hil',List.take_length] at h6
   rw [sz_eq]
   omega
theorem F45_T (x:Node) {n:Nat} (hn:3000≤n):T (F45 n x 120) (fun b=>b = true→sz x≤120):=by
 unfold F45
 refine (F76_T 60 x 120 (by omega) (by omega) (by omega) n (by omega)).bind fun c hc=>T.some fun h=>?_
 have h':c≤120:=by simpa using h
 have:=hc.2.2 h'
 omega
mutual
def dp:Node→Nat
 | ⟨_,_,_,_,_,_,_,ks,_⟩=>1 + dps ks
def dps:List Node→Nat
 | []=>0
 | x :: r=>max (dp x) (dps r)
end
theorem dp_eq (x:Node):dp x = 1 + dps x.kids:=by cases x; rfl
theorem dps_le:∀ (l:List Node) (B:Nat),dps l≤B ↔ ∀ y ∈ l,dp y≤B
 | [],B=>by simp [dps]
 | x :: r,B=>by
  simp only [dps,List.mem_cons,forall_eq_or_imp,← dps_le r B]
  omega
theorem dp_pos (x:Node):1≤dp x:=by rw [dp_eq]; omega
theorem F96_T:∀ (m:Nat) (x:Node),sz x≤m→∀ (d c:Nat),c + sz x≤1500→d≤100→∀ n,2000 + sz x≤n →
  T (F96 n x (d:Int) (c:Int)) (fun r=>r.1 = decide (d + dp x≤41)∧(r.1 = true→r.2 = ((c + sz x:Nat):Int))):=by
 intro m
 induction m with
 | zero=>intro x hx; have:=sz_pos x; omega
 | succ m ih =>
  intro x hx d c hc hd n hn
  obtain ⟨n,rfl⟩:∃ k,n = k + 1:=⟨n - 1,by omega⟩
  have hsz:=sz_eq x
  have hdp:=dp_eq x
  have hlen:=szs_len x.kids
  have hpos:=sz_pos x
  show T (F96_step (F96 n) n x (d:Int) (c:Int)) _
  unfold F96_step
  have e1:w64 ((c:Int) + 1) = ((c + 1:Nat):Int):=w64_nat (by omega)
  have c0:decide ((1500:Int) < ((c + 1:Nat):Int)) = false:=by simp; omega
  rw [e1,c0]
  by_cases hd40:40 < d
  ·have c1:decide ((40:Int) < (d:Int)) = true:=by simp; omega
   rw [c1]
   refine T.some ⟨?_,fun h=>by simp at h⟩
   have:=dp_pos x
   simp
   omega
  ·have c1:decide ((40:Int) < (d:Int)) = false:=by simp; omega
   rw [c1]
   simp only [Bool.or_false,cond_false]
   refine T.bind (P:=fun r=>match r with | .inl _=>¬ (d + dp x≤41) | .inr v=>d + dp x≤41∧v = ((c + sz x:Nat):Int)) ?_ (fun r h=>by
    cases r with
    | inl v=>exact T.some ⟨by simpa using h,fun h=>by simp at h⟩
    | inr v=>exact T.some ⟨by simpa using h.1,fun _=>h.2⟩)
   refine iter_inv x.kids (fun (k:Nat) (a:Nat)=>((k:Int),(a:Int))) (fun k a=>a = c + 1 + szs (x.kids.take k)∧∀ y ∈ x.kids.take k,d + 1 + dp y≤41) _ (fun k a y hy ha=>?_) (fun a ha=>?_) n (c + 1) (by omega) ⟨by simp [szs],by simp⟩
   ·have hlt:=lt_of_get hy
    have hm:=List.mem_of_getElem? hy
    have hys:=szs_mem x.kids y hm
    have htk:=szs_take hy
    have c2:decide ((k:Int) < (x.kids.length:Int)) = true:=by simpa using hlt
    obtain ⟨r,hr,hr1,hr2⟩:=ih y (by omega) (d + 1) a (by omega) (by omega) n (by omega)
    simp only [c2,cond_true,idxL_some hy,Option.bind_some,w64_nat (k:=d) (by omega),hr,w64_nat (k:=k) (by omega)]
    cases hb:r.1
    ·right
     refine ⟨_,rfl,?_⟩
     rw [hb] at hr1
     have hr1':¬ (d + 1 + dp y≤41):=by
      have:=hr1.symm
      simpa using this
     have:dp y≤dps x.kids:=(dps_le x.kids (dps x.kids)).1 (Nat.le_refl _) y hm
     show ¬ (d + dp x≤41)
     omega
    ·left
     refine ⟨a + sz y,?_,?_,?_⟩
     ·simp only [Bool.not_true,cond_false]
      rw [hr2 hb]
     ·rw [szs_take_succ hy]; omega
     ·intro z hz
      rw [List.take_add_one,hy] at hz
      simp only [List.mem_append,Option.toList_some,List.mem_singleton] at hz
      rcases hz with hz | rfl
      ·exact ha.2 z hz
      ·rw [hb] at hr1
       simpa using hr1.symm
   ·have c2:decide ((x.kids.length:Int) < (x.kids.length:Int)) = false:=by simp
    simp only [c2,cond_false]
    refine ⟨_,rfl,?_,?_⟩
    ·have:dps x.kids≤40 - d:=(dps_le _ _).2 (fun y hy=>by have:=ha.2 y (by simpa using hy); omega)
     omega
    ·rw [ha.1]
     simp only [List.take_length]
     omega
theorem F59_eq (x:Node) (hs:sz x≤200) {n:Nat} (hn:3000≤n):F59 n x = some (decide (dp x≤40)):=by
 obtain ⟨r,hr,h1,_⟩:=F96_T (sz x) x (Nat.le_refl _) 1 0 (by omega) (by omega) n (by omega)
 unfold F59
 erw [hr]
 simp only [Option.bind_some,h1]
 congr 1
 rw [decide_eq_decide]
 omega
def validB (x:Node):Bool:=(x.kind == 62 || isE x.kind) && (decide (dp x≤40) && okT x)
theorem F28_eq {b:Nat} (hb:b≤9223372036854775807) (x:Node) (hlim:Lim b x) (hs:sz x≤200) {n:Nat} (hn:3000≤n):F28 n x = some (validB x):=by
 unfold F28 validB
 rw [F59_eq x hs hn,F62_eq,F64_eq hb (sz x) x (Nat.le_refl _) hlim n (by omega)]
 simp only [Option.bind_some]
 by_cases h:x.kind = 62
 ·have e:(x.kind != 62) = false:=by simp [h]
  have e2:(x.kind == 62) = true:=by simp [h]
  rw [e,e2]
  cases decide (dp x≤40) <;> rfl
 ·have e:(x.kind != 62) = true:=by simpa using h
  have e2:(x.kind == 62) = false:=nbeq h
  rw [e,e2]
  cases isE x.kind <;> cases decide (dp x≤40) <;> rfl
end Go.Proofs.YtbecjgckobhmpaaGreatDoor
end
section
namespace Go.Proofs.YtbecjgckobhmpaaGreatDoor
open Go Go.AM Go.Proofs
theorem F232_eq:F232 = some (keyNames.map bs):=by kernel_rfl
theorem keys_len:keyNames.length = 37:=by kernel_rfl
theorem F206_eq (s:ByteArray) {n:Nat} (hn:50≤n):F206 n s = some (keyNames.any (tl s == ·)):=by
 unfold F206
 rw [F232_eq]
 simp only [Option.bind_some]
 have hl:(keyNames.map bs).length = 37:=by rw [List.length_map,keys_len]
 rw [iter_all (keyNames.map bs) (fun x=>!(strEq x s)) (by omega) (fun k x hx=>by
  have hlt:=lt_of_get hx
  have c1:decide ((k:Int) < ((keyNames.map bs).length:Int)) = true:=by simpa using hlt
  rw [c1,idxL_some hx]
  simp only [cond_true,Option.bind_some]
  exact cond_not_if _ _ _) (by simp) (by omega)]
 have e:(keyNames.map bs).all (fun x=>!(strEq x s)) = !(keyNames.any (tl s == ·)):=by
  rw [List.all_map,List.not_any_eq_all_not]
  congr 1
  funext l
  simp only [Function.comp,strEq]
  congr 1
  exact Bool.eq_iff_iff.2 (by
   simp only [beq_iff_eq]
   exact eq_comm)
 rw [e]
 cases keyNames.any (tl s == ·) <;> rfl
theorem nameP2 (k:Nat) (b:UInt8):(!((!isLetI b.toNat) && (((k:Int) == 0) || (bif decide ((b.toNat:Int) < 48) then ((b.toNat:Int) != 95) else ((decide (57 < (b.toNat:Int))) && ((b.toNat:Int) != 95)))))) = nameP k b:=by
 unfold nameP
 congr 2
 congr 1
 generalize (b.toNat:Int) = z
 cases decide (z < 48) <;> cases z != 95 <;> cases decide (57 < z) <;> rfl
theorem F174_eq (s:ByteArray) (hs:(tl s).length≤9223372036854775807) {n:Nat} (hn:50≤n) (hl:(tl s).length < n):F174 n s = some (nameB (tl s)):=by
 unfold F174
 rw [iter_allI (tl s) nameP hs (fun k b hb=>by
  have hlt:=lt_of_get hb
  have c1:decide ((k:Int) < (s.size:Int)) = true:=by rw [size_tl]; simpa using hlt
  rw [c1,idxS_some hb]
  simp only [cond_true,Option.bind_some]
  rw [← nameP2]
  exact cond_not_if _ _ _) (by rw [size_tl]; simp) hl,allI_name]
 rw [F206_eq s hn,size_tl]
 cases hc:nameCs (tl s)
 ·simp [nameB,hc]
 ·simp only [if_true,Option.bind_some]
  have e:(decide (1≤((tl s).length:Int)) && decide (((tl s).length:Int)≤16)) = (decide (1≤(tl s).length) && decide ((tl s).length≤16)):=by
   congr 1
   ·rw [decide_eq_decide]; omega
   ·rw [decide_eq_decide]; omega
  rw [e]
  unfold nameB
  rw [hc]
  cases decide (1≤(tl s).length) <;> cases decide ((tl s).length≤16) <;> simp
theorem cutB_none:∀ (a:Bytes),46 ∉ a→cutB a = (a,none)
 | [],_=>rfl
 | b :: r,h=>by
  simp only [List.mem_cons,not_or] at h
  have hb:(b == 46) = false:=by
   cases hbb:b == 46
   ·rfl
   ·exact absurd (by simpa using hbb:b = 46).symm h.1
  simp [cutB,hb,cutB_none r h.2]
theorem cutB_dot:∀ (a r:Bytes),46 ∉ a→cutB (a ++ 46 :: r) = (a,some r)
 | [],r,_=>by simp [cutB]
 | b :: a,r,h=>by
  simp only [List.mem_cons,not_or] at h
  have hb:(b == 46) = false:=by
   cases hbb:b == 46
   ·rfl
   ·exact absurd (by simpa using hbb:b = 46).symm h.1
  simp [cutB,hb,cutB_dot a r h.2]
theorem pathN_succ:∀ (k:Nat) (s:Bytes),pathN k s = true→pathN (k + 1) s = true
 | 0,s,h=>by simp [pathN] at h
 | k + 1,s,h=>by
  rw [pathN,Bool.and_eq_true] at h ⊢
  refine ⟨h.1,?_⟩
  have h2:=h.2
  cases hc:(cutB s).2 with
  | none=>rfl
  | some r =>
   rw [hc] at h2
   exact pathN_succ k r h2
theorem pathN_le {k j:Nat} (h:k≤j) {s:Bytes} (hs:pathN k s = true):pathN j s = true:=by
 induction h with
 | refl=>exact hs
 | step _ ih=>exact pathN_succ _ _ ih
theorem F205_T (s:ByteArray) (hs:(tl s).length≤9223372036854775807) {n:Nat} (hn:50≤n) (hl:(tl s).length < n):T (F205 n s) (fun b=>b = true→pathB (tl s) = true):=by
 unfold F205
 refine T.bind (P:=fun r=>match r with
  | .inl _=>True
  | .inr v=>∃ (c f:Nat),v = ((c:Int),(f:Int))∧f≤(tl s).length∧1≤c∧46 ∉ (tl s).drop f∧∀ j,pathN j ((tl s).drop f) = true→pathN (j + (c - 1)) (tl s) = true) ?_ (fun r h=>by
  cases r with
  | inl _=>exact T.some (fun h=>by cases h)
  | inr v =>
   obtain ⟨c,f,rfl,hf,hc,hd,hp⟩:=h
   refine T.cond (fun h3=>?_) (fun _=>T.some (fun h=>by cases h))
   have h3':c≤3:=by simp at h3; omega
   rw [size_tl,subS_eq hf (by omega)]
   simp only [Option.bind_some]
   have e:((tl s).drop f).take ((tl s).length - f) = (tl s).drop f:=List.take_of_length_le (by simp)
   rw [e,F174_eq _ (by rw [tl_bs]; simp; omega) hn (by rw [tl_bs]; simp; omega)]
   refine T.some (fun hb=>?_)
   rw [tl_bs] at hb
   have h1:pathN 1 ((tl s).drop f) = true:=by
    simp only [pathN]
    rw [cutB_none _ hd]
    simpa using hb
   exact pathN_le (show 1 + (c - 1)≤3 by omega) (hp 1 h1))
 refine iter_inv (tl s) (fun (k:Nat) (a:Nat × Nat)=>((a.1:Int),(a.2:Int),(k:Int))) (fun k a=>a.2≤k∧1≤a.1∧2 * a.1≤a.2 + 2∧46 ∉ ((tl s).take k).drop a.2∧∀ j,pathN j ((tl s).drop a.2) = true→pathN (j + (a.1 - 1)) (tl s) = true) _
  (fun k a b hb ha=>?_) (fun a ha=>?_) n (1,0) hl ⟨by simp,by simp,by simp,by simp,fun j h=>by simpa using h⟩
 ·have hlt:=lt_of_get hb
  have c1:decide ((k:Int) < (s.size:Int)) = true:=by rw [size_tl]; simpa using hlt
  have hi:idxS s (k:Int) = some (b.toNat:Int):=idxS_some hb
  have ht2:(tl s).take (k + 1) = (tl s).take k ++ [b]:=by rw [List.take_add_one,hb]; rfl
  have hlen:((tl s).take k).length = k:=by simp; omega
  have e1:w64 ((k:Int) + 1) = ((k + 1:Nat):Int):=w64_nat (by omega)
  have e2:w64 ((a.1:Int) + 1) = ((a.1 + 1:Nat):Int):=w64_nat (by omega)
  simp only [c1,cond_true,hi,Option.bind_some,e1,e2]
  by_cases h46:b = 46
  ·subst h46
   have c2:((((46:UInt8).toNat:Nat):Int) != 46) = false:=rfl
   rw [c2]
   simp only [cond_false]
   rw [subS_eq ha.1 (by omega)]
   simp only [Option.bind_some]
   rw [F174_eq _ (by rw [tl_bs]; simp; omega) hn (by rw [tl_bs]; simp; omega)]
   simp only [Option.bind_some,tl_bs]
   cases hnm:nameB (((tl s).drop a.2).take (k - a.2))
   ·exact .inr ⟨_,rfl,trivial⟩
   ·left
    have hnl:=(nameB_len hnm).1
    simp only [List.length_take,List.length_drop] at hnl
    refine ⟨(a.1 + 1,k + 1),rfl,by simp,by simp,by simp; omega,?_,fun j hj=>?_⟩
    ·rw [List.drop_eq_nil_of_le (by simp; omega)]
     simp
    ·have hcut:(tl s).drop a.2 = ((tl s).drop a.2).take (k - a.2) ++ 46 :: (tl s).drop (k + 1):=by
      have hx:(tl s)[k] = 46:=by
       have:=List.getElem?_eq_getElem hlt
       rw [hb] at this
       exact (Option.some.inj this).symm
      conv=>lhs; rw [← List.take_append_drop (k - a.2) ((tl s).drop a.2)]
      congr 1
      rw [List.drop_drop,show a.2 + (k - a.2) = k by omega,← List.getElem_cons_drop hlt,hx]
     have hno:46 ∉ ((tl s).drop a.2).take (k - a.2):=by
      have:=ha.2.2.2.1
      rwa [List.drop_take] at this
     have h5:pathN (j + 1) ((tl s).drop a.2) = true:=by
      rw [hcut]
      simp only [pathN]
      rw [cutB_dot _ _ hno]
      simp only [hnm,Bool.true_and]
      exact hj
     have h6:=ha.2.2.2.2 (j + 1) h5
     have h7:j + 1 + (a.1 - 1) = j + (a.1 + 1 - 1):=by omega
     rw [h7] at h6
     exact h6
  ·have c2:(((b.toNat:Nat):Int) != 46) = true:=by
    have:¬ ((b.toNat:Nat):Int) = 46:=by
     intro e
     apply h46
     apply UInt8.toNat.inj
     simp
     omega
    simpa using this
   rw [c2]
   simp only [cond_true]
   left
   refine ⟨(a.1,a.2),rfl,by simp; omega,by simp; omega,by simp; omega,?_,ha.2.2.2.2⟩
   rw [ht2,List.drop_append_of_le_length (by omega)]
   simp only [List.mem_append,List.mem_singleton,not_or]
   exact ⟨ha.2.2.2.1,fun e=>h46 e.symm⟩
 ·have c1:decide (((tl s).length:Int) < (s.size:Int)) = false:=by rw [size_tl]; simp
  simp only [c1,cond_false]
  have h4:=ha.2.2.2.1
  simp only [List.take_length] at h4
  exact ⟨_,rfl,a.1,a.2,rfl,ha.1,ha.2.1,h4,ha.2.2.2.2⟩
theorem F170_T (l:Bytes) (c:Int) (hl:l.length≤100) {n:Nat} (hn:200≤n):T (F170 n (bs l) c) (fun b=>b = true→∃ u ∈ l,((u.toNat:Nat):Int) = c):=by
 unfold F170
 refine T.bind (P:=fun r=>match r with | .inl _=>∃ u ∈ l,((u.toNat:Nat):Int) = c | .inr _=>True) ?_ (fun r h=>by
  cases r with
  | inl _=>exact T.some (fun _=>h)
  | inr _=>exact T.some (fun h=>by cases h))
 refine iter_inv l (fun (k:Nat) (_:Unit)=>(k:Int)) (fun _ _=>True) _ (fun k _ b hb _=>?_) (fun _ _=>?_) n () (by omega) trivial
 ·have hlt:=lt_of_get hb
  have c1:decide ((k:Int) < ((bs l).size:Int)) = true:=by rw [size_bs]; simpa using hlt
  have hi:idxS (bs l) (k:Int) = some (b.toNat:Int):=idxS_some hb
  simp only [c1,cond_true,hi,Option.bind_some,w64_nat (k:=k) (by omega)]
  cases hc:((b.toNat:Nat):Int) == c
  ·exact .inl ⟨(),rfl,trivial⟩
  ·exact .inr ⟨_,rfl,b,List.mem_of_getElem? hb,by simpa using hc⟩
 ·have c1:decide ((l.length:Int) < ((bs l).size:Int)) = false:=by rw [size_bs]; simp
  simp only [c1,cond_false]
  exact ⟨_,rfl,trivial⟩
structure Only (l:Bytes) (x:Node):Prop where
 nm:(∃ u ∈ l,((u.toNat:Nat):Int) = 110)∨strEq x.name (bs []) = true
 ot:(∃ u ∈ l,((u.toNat:Nat):Int) = 111)∨strEq x.other (bs []) = true
 gh:(∃ u ∈ l,((u.toNat:Nat):Int) = 103)∨x.ghost = false
 nn:(∃ u ∈ l,((u.toNat:Nat):Int) = 35)∨x.n = 0
 ln:(∃ u ∈ l,((u.toNat:Nat):Int) = 108)∨x.len = 0
 it:(∃ u ∈ l,((u.toNat:Nat):Int) = 105)∨x.init = 0
 r1:inR x.n = true
 r2:inR x.len = true
 r3:inR x.init = true
theorem F104_T (x:Node) (l:Bytes) (hl:l.length≤100) {n:Nat} (hn:200≤n):T (F104 n x (bs l)) (fun b=>b = true→Only l x):=by
 have no:∀ {P:Prop},(false = true→P):=fun h=>by cases h
 unfold F104
 refine (F170_T l 110 hl hn).bind fun v1 h1=>T.cond (fun _=>T.some no) (fun c1=>?_)
 refine (F170_T l 111 hl hn).bind fun v2 h2=>T.cond (fun _=>T.some no) (fun c2=>?_)
 refine (F170_T l 103 hl hn).bind fun v3 h3=>T.cond (fun _=>T.some no) (fun c3=>?_)
 refine (F170_T l 35 hl hn).bind fun v4 h4=>T.cond (fun _=>T.some no) (fun c4=>?_)
 refine (F170_T l 108 hl hn).bind fun v5 h5=>T.cond (fun _=>T.some no) (fun c5=>?_)
 refine (F170_T l 105 hl hn).bind fun v6 h6=>T.cond (fun _=>T.some no) (fun c6=>?_)
 have e:∀ i,F171 i = some (inR i):=fun _=>rfl
 simp only [e,Option.bind_some]
 refine T.cond (fun r1=>T.cond (fun r2=>T.some fun r3=>?_) (fun _=>T.some no)) (fun _=>T.some no)
 refine ⟨?_,?_,?_,?_,?_,?_,r1,r2,r3⟩
 ·cases v1
  ·right; simpa using c1
  ·exact .inl (h1 rfl)
 ·cases v2
  ·right; simpa using c2
  ·exact .inl (h2 rfl)
 ·cases v3
  ·right; simpa using c3
  ·exact .inl (h3 rfl)
 ·cases v4
  ·right; simpa using c4
  ·exact .inl (h4 rfl)
 ·cases v5
  ·right; simpa using c5
  ·exact .inl (h5 rfl)
 ·cases v6
  ·right; simpa using c6
  ·exact .inl (h6 rfl)
end Go.Proofs.YtbecjgckobhmpaaGreatDoor
end
section
namespace Go.Proofs.YtbecjgckobhmpaaGreatDoor
open Go Go.AM Go.Proofs
def Cls (c:Int) (y:Node):Prop :=
 if c = 1 then okT y = true∧isStmt y.kind = true
 else if c = 2 then okT y = true∧y.kind = 52
 else if c = 3 then okT y = true∧y.kind = 58
 else if c = 4 then okT y = true∧isDecl y.kind = true
 else if c = 5 then okT y = true∧isItm y.kind = true
 else if c = 6 then okT y = true∧y.kind = 1
 else if c = 7 then okT y = true∧y.kind = 2∧y.kids = []
 else okE y
structure Cl (n:Nat) (x:Node):Prop where
 e:T (F106 n x) (fun b=>b = true→okE x)
 r:T (F173 n x) (fun b=>b = true→okT x = true∧x.kind = 2)
 s:T (F202 n x) (fun b=>b = true→okT x = true∧isStmt x.kind = true)
 b:T (F231 n x) (fun b=>b = true→okT x = true∧x.kind = 34)
 d:T (F203 n x) (fun b=>b = true→okT x = true∧isDecl x.kind = true)
 i:T (F204 n x) (fun b=>b = true→okT x = true∧isItm x.kind = true)
theorem okT_mk {x:Node} (hf:fieldsB x = true) (hk:kidsB x = true) (h:∀ y ∈ x.kids,okT y = true):okT x = true:=by
 rw [okT_eq,hf,hk]
 simpa using h
theorem no {P:Prop}:(false = true→P):=fun h=>by cases h
theorem fields_of {l:Bytes} {x:Node} (o:Only l x) (hg:fldGood x = true) (a1:(∃ u ∈ l,((u.toNat:Nat):Int) = 110)→hasName x.kind = true) (a2:(∃ u ∈ l,((u.toNat:Nat):Int) = 111)→hasOther x.kind = true)
  (a3:(∃ u ∈ l,((u.toNat:Nat):Int) = 35)→hasN x.kind = true) (a4:(∃ u ∈ l,((u.toNat:Nat):Int) = 108)→(x.kind == 50) = true) (a5:(∃ u ∈ l,((u.toNat:Nat):Int) = 105)→(x.kind == 50) = true)
  (a6:(∃ u ∈ l,((u.toNat:Nat):Int) = 103)→(x.kind == 50 || x.kind == 35) = true):fieldsB x = true:=by
 unfold fieldsB
 rw [hg]
 simp only [Bool.true_and,Bool.and_eq_true,Bool.or_eq_true]
 refine ⟨o.nm.imp a1 id,o.ot.imp a2 id,o.nn.imp a3 (fun h=>by simpa using h),o.ln.imp a4 (fun h=>by simpa using h),o.it.imp a5 (fun h=>by simpa using h),?_⟩
 rcases o.gh with h | h
 ·have:=a6 h
  simp only [Bool.or_eq_true] at this
  exact .inl this
 ·exact .inr (by simpa using h)
theorem kids0 {x:Node} (h:((x.kids.length:Int) == 0) = true):x.kids = []:=by
 rw [len0] at h
 simpa using h
theorem lenb {l:List Node} {k:Nat} (h:((l.length:Int) == (k:Int)) = true):l.length = k:=by
 simp at h
 omega
theorem list1 {l:List Node} (h:((l.length:Int) == 1) = true):∃ a,l = [a]:=by
 have:=lenb (k:=1) h
 match l,this with
 | [a],_=>exact ⟨a,rfl⟩
theorem list2 {l:List Node} (h:((l.length:Int) == 2) = true):∃ a b,l = [a,b]:=by
 have:=lenb (k:=2) h
 match l,this with
 | [a,b],_=>exact ⟨a,b,rfl⟩
theorem list3 {l:List Node} (h:((l.length:Int) == 3) = true):∃ a b c,l = [a,b,c]:=by
 have:=lenb (k:=3) h
 match l,this with
 | [a,b,c],_=>exact ⟨a,b,c,rfl⟩
theorem leaf_ok {x:Node} (hl:leafK x.kind = true) (hf:fieldsB x = true) (h0:x.kids = []):okT x = true :=
 okT_mk hf (by simp [kidsB,hl,h0]) (by simp [h0])
def Nm (N:Nat) (x:Node):Prop:=(tl x.name).length≤N∧(tl x.other).length≤N
theorem F174k {N n:Nat} (hN:N≤9223372036854775807) (hn:N + 300≤n) {s:ByteArray} (h:(tl s).length≤N):F174 n s = some (nameB (tl s)):=F174_eq s (by omega) (by omega) (by omega)
theorem F205k {N n:Nat} (hN:N≤9223372036854775807) (hn:N + 300≤n) {s:ByteArray} (h:(tl s).length≤N):T (F205 n s) (fun b=>b = true→pathB (tl s) = true):=F205_T s (by omega) (by omega) (by omega)
theorem F230_T {n:Nat} (hn:300≤n) (x:Node):T (F230 n x) (fun b=>b = true→okT x = true∧x.kind = 63):=by
 unfold F230
 refine T.cond (fun h=>?_) (fun _=>T.some no)
 have h:x.kind = 63:=by simpa using h
 refine (F104_T x [] (by simp) (by omega)).bind fun v o=>T.cond (fun hv=>T.some fun h0=>?_) (fun _=>T.some no)
 exact ⟨leaf_ok (by simp [leafK,h]) (fields_of (o hv) (by simp [fldGood,h]) (by simp) (by simp) (by simp) (by simp) (by simp) (by simp)) (kids0 h0),h⟩
theorem F172_T {N n:Nat} (hN:N≤9223372036854775807) (hn:N + 300≤n) {y:Node} (hy:Nm N y) (c:Int) (k:Cl n y):T (F172 (n + 1) c y) (fun b=>b = true→Cls c y):=by
 show T (F172_step (F204 n) (F203 n) (F229 n) (F231 n) (F202 n) (F173 n) (F106 n) (F172 n) (F105 n) n c y) _
 unfold F172_step
 refine T.cond (fun h=>k.s.bind fun b hb=>T.some ?_) (fun h1=>?_)
 ·have:c = 1:=by simpa using h
  simpa [Cls,this] using hb
 have h1:¬ c = 1:=by simpa using h1
 refine T.cond (fun h=>?_) (fun h2=>?_)
 ·have hc:c = 2:=by simpa using h
  refine T.cond (fun h=>?_) (fun _=>T.some no)
  have h:y.kind = 52:=by simpa using h
  refine (F104_T y [110,35] (by simp) (by omega)).bind fun v o=>T.cond (fun hv=>?_) (fun _=>T.some no)
  rw [F174k hN hn hy.1]
  simp only [Option.bind_some]
  refine T.cond (fun hnm=>T.some fun h0=>?_) (fun _=>T.some no)
  have o:=o hv
  simp only [Cls,hc]
  exact ⟨leaf_ok (by simp [leafK,h]) (fields_of o (by simp [fldGood,h,hnm,o.r1]) (by simp [h,hasName]) (by simp) (by simp [h,hasN]) (by simp) (by simp) (by simp)) (kids0 h0),h⟩
 have h2:¬ c = 2:=by simpa using h2
 refine T.cond (fun h=>?_) (fun h3=>?_)
 ·have hc:c = 3:=by simpa using h
  refine T.cond (fun h=>?_) (fun _=>T.some no)
  have h:y.kind = 58:=by simpa using h
  refine (F104_T y [110,35] (by simp) (by omega)).bind fun v o=>T.cond (fun hv=>?_) (fun _=>T.some no)
  rw [F174k hN hn hy.1]
  simp only [Option.bind_some]
  refine T.cond (fun hnm=>T.some fun h0=>?_) (fun _=>T.some no)
  have o:=o hv
  simp only [Cls,hc]
  exact ⟨leaf_ok (by simp [leafK,h]) (fields_of o (by simp [fldGood,h,hnm,o.r1]) (by simp [h,hasName]) (by simp) (by simp [h,hasN]) (by simp) (by simp) (by simp)) (kids0 h0),h⟩
 have h3:¬ c = 3:=by simpa using h3
 refine T.cond (fun h=>k.d.bind fun b hb=>T.some ?_) (fun h4=>?_)
 ·have:c = 4:=by simpa using h
  simpa [Cls,this] using hb
 have h4:¬ c = 4:=by simpa using h4
 refine T.cond (fun h=>k.i.bind fun b hb=>T.some ?_) (fun h5=>?_)
 ·have:c = 5:=by simpa using h
  simpa [Cls,this] using hb
 have h5:¬ c = 5:=by simpa using h5
 refine T.cond (fun h=>?_) (fun h6=>?_)
 ·have hc:c = 6:=by simpa using h
  refine T.cond (fun h=>k.e.bind fun b hb=>T.some fun hb'=>?_) (fun _=>T.some no)
  have h:y.kind = 1:=by simpa using h
  simp only [Cls,hc]
  exact ⟨(hb hb').1,h⟩
 have h6:¬ c = 6:=by simpa using h6
 refine T.cond (fun h=>?_) (fun h7=>?_)
 ·have hc:c = 7:=by simpa using h
  refine k.r.bind fun b hb=>T.cond (fun hb'=>T.some fun h0=>?_) (fun _=>T.some no)
  simp only [Cls,hc]
  exact ⟨(hb hb').1,(hb hb').2,kids0 h0⟩
 have h7:¬ c = 7:=by simpa using h7
 refine k.e.bind fun b hb=>T.some fun hb'=>?_
 simp only [Cls,h1,h2,h3,h4,h5,h6,h7,if_false]
 exact hb hb'
theorem F105_T {N n:Nat} (hN:N≤9223372036854775807) (hn:N + 300≤n) (x:Node) (c:Int) (hk:∀ y ∈ x.kids,Nm N y∧Cl n y) (hl:x.kids.length≤200) :
  T (F105 (n + 2) x c) (fun b=>b = true→∀ y ∈ x.kids,Cls c y):=by
 show T (F105_step (F204 (n + 1)) (F203 (n + 1)) (F229 (n + 1)) (F231 (n + 1)) (F202 (n + 1)) (F173 (n + 1)) (F106 (n + 1)) (F172 (n + 1)) (F105 (n + 1)) (n + 1) x c) _
 unfold F105_step
 refine T.bind (P:=fun r=>match r with | .inl _=>True | .inr _=>∀ y ∈ x.kids,Cls c y) ?_ (fun r h=>by
  cases r with
  | inl _=>exact T.some no
  | inr _=>exact T.some (fun _=>h))
 refine iter_inv x.kids (fun (k:Nat) (_:Unit)=>(k:Int)) (fun k _=>∀ y ∈ x.kids.take k,Cls c y) _ (fun k _ y hy ih=>?_) (fun _ ih=>?_) (n + 1) () (by omega) (by simp)
 ·have hlt:=lt_of_get hy
  have c1:decide ((k:Int) < (x.kids.length:Int)) = true:=by simpa using hlt
  obtain ⟨h1,h2⟩:=hk y (List.mem_of_getElem? hy)
  obtain ⟨v,hv,hq⟩:=F172_T hN hn h1 c h2
  simp only [c1,cond_true,idxL_some hy,Option.bind_some,hv,w64_nat (k:=k) (by omega)]
  cases v
  ·exact .inr ⟨_,rfl,trivial⟩
  ·refine .inl ⟨(),rfl,fun z hz=>?_⟩
   rw [List.take_add_one,hy] at hz
   simp only [List.mem_append,Option.toList_some,List.mem_singleton] at hz
   rcases hz with hz | rfl
   ·exact ih z hz
   ·exact hq rfl
 ·have c1:decide ((x.kids.length:Int) < (x.kids.length:Int)) = false:=by simp
  simp only [c1,cond_false]
  refine ⟨_,rfl,?_⟩
  simpa using ih
theorem allI_snoc {α:Type} (p:Nat→α→Bool):∀ (l:List α) (k:Nat) (x:α),allI p k (l ++ [x]) = (allI p k l && p (k + l.length) x)
 | [],k,x=>by simp [allI]
 | y :: r,k,x=>by
  simp only [List.cons_append,allI,allI_snoc p r (k + 1) x,List.length_cons,Bool.and_assoc]
  rw [show k + 1 + r.length = k + (r.length + 1) by omega]
theorem allI_and {α:Type} (p q:Nat→α→Bool):∀ (l:List α) (k:Nat),allI (fun j y=>p j y && q j y) k l = (allI p k l && allI q k l)
 | [],_=>rfl
 | x :: r,k=>by
  simp only [allI,allI_and p q r (k + 1)]
  cases p k x <;> cases q k x <;> simp
theorem allI_const {α:Type} (q:α→Bool):∀ (l:List α) (k:Nat),allI (fun _ y=>q y) k l = l.all q
 | [],_=>rfl
 | x :: r,k=>by simp only [allI,List.all_cons,allI_const q r (k + 1)]
theorem F229_T {n:Nat} (x:Node) (f:Nat) (hf:f≤x.kids.length) (hk:∀ y ∈ x.kids,Cl n y) (hl:x.kids.length≤200) (hn:300≤n) :
  T (F229 (n + 1) x (f:Int)) (fun b=>b = true→pairsB (x.kids.drop f) = true∧∀ y ∈ x.kids.drop f,okT y = true):=by
 show T (F229_step (F204 n) (F203 n) (F229 n) (F231 n) (F202 n) (F173 n) (F106 n) (F172 n) (F105 n) n x (f:Int)) _
 unfold F229_step
 refine T.bind (P:=fun r=>match r with | .inl _=>True | .inr _=>allI (fun j y=>prP j y && okT y) 0 (x.kids.drop f) = true) ?_ (fun r h=>by
  cases r with
  | inl _=>exact T.some no
  | inr _ =>
   refine T.some (fun hb=>?_)
   rw [allI_and,Bool.and_eq_true,allI_const] at h
   have hb':(x.kids.drop f).length % 2 = 0:=by
    rw [w64_id (by omega) (by omega)] at hb
    have e:((x.kids.length:Int) - (f:Int)) = ((x.kids.length - f:Nat):Int):=by omega
    rw [e] at hb
    have e2:Int.tmod ((x.kids.length - f:Nat):Int) 2 = (((x.kids.length - f) % 2:Nat):Int):=(Int.ofNat_tmod _ 2).symm
    rw [e2] at hb
    simp only [beq_iff_eq] at hb
    rw [List.length_drop]
    omega
   refine ⟨?_,List.all_eq_true.1 h.2⟩
   rw [← pairs_all _ 0 rfl,h.1,hb']
   rfl)
 have hst:((f:Int)) = ((f + 0:Nat):Int):=rfl
 have key:=iter_inv (ρ:=Unit ⊕ Unit) (step:=fun s1:Int=>bif decide (s1 < (x.kids.length:Int)) then
   (bif (Int.tmod (w64 (s1 - (f:Int))) 2) == 0 then
    ((idxL x.kids s1).bind fun x4 =>
    (F173 n x4).bind fun x5 =>
    bif !x5 then
     (some (.inr (.inl ())))
    else
     (bif (Int.tmod (w64 (s1 - (f:Int))) 2) == 1 then
      ((idxL x.kids s1).bind fun x8 =>
      (F106 n x8).bind fun x9 =>
      bif !x9 then
       (some (.inr (.inl ())))
      else
       (some (.inl (w64 (s1 + 1)))))
     else
      (some (.inl (w64 (s1 + 1))))))
   else
    (bif (Int.tmod (w64 (s1 - (f:Int))) 2) == 1 then
     ((idxL x.kids s1).bind fun x11 =>
     (F106 n x11).bind fun x12 =>
     bif !x12 then
      (some (.inr (.inl ())))
     else
      (some (.inl (w64 (s1 + 1)))))
    else
     (some (.inl (w64 (s1 + 1))))))
  else
   (some (.inr (.inr ())))) (x.kids.drop f) (fun (k:Nat) (_:Unit)=>((f + k:Nat):Int)) (fun k _=>allI (fun j y=>prP j y && okT y) 0 ((x.kids.drop f).take k) = true)
  (fun r=>match r with | .inl _=>True | .inr _=>allI (fun j y=>prP j y && okT y) 0 (x.kids.drop f) = true)
  (fun k _ y hy ih=>by
   have hy':x.kids[f + k]? = some y:=by simpa using hy
   have hlt:=lt_of_get hy'
   have hltk:=lt_of_get hy
   have c1:decide (((f + k:Nat):Int) < (x.kids.length:Int)) = true:=decide_eq_true (by omega)
   have K:=hk y (List.mem_of_getElem? hy')
   have e1:w64 (((f + k:Nat):Int) - (f:Int)) = (k:Int):=by rw [w64_id (by omega) (by omega)]; omega
   have e2:Int.tmod (k:Int) 2 = ((k % 2:Nat):Int):=(Int.ofNat_tmod k 2).symm
   have e3:w64 (((f + k:Nat):Int) + 1) = ((f + (k + 1):Nat):Int):=w64_nat (by omega)
   have snoc:prP k y = true→okT y = true→allI (fun j y=>prP j y && okT y) 0 ((x.kids.drop f).take (k + 1)) = true:=fun h1 h2=>by
    rw [List.take_add_one,hy]
    show allI _ 0 (_ ++ [y]) = true
    rw [allI_snoc,ih]
    have:((x.kids.drop f).take k).length = k:=by
     rw [List.length_take]
     omega
    simp [this,h1,h2]
   simp only [c1,cond_true,e1,e2,idxL_some hy',Option.bind_some,e3]
   rcases Nat.mod_two_eq_zero_or_one k with h0 | h1
   ·rw [h0]
    obtain ⟨v,hv,hq⟩:=K.r
    simp only [hv,Option.bind_some]
    cases v
    ·exact .inr ⟨_,rfl,trivial⟩
    ·exact .inl ⟨(),rfl,snoc (by simp [prP,(hq rfl).2,isE]) (hq rfl).1⟩
   ·rw [h1]
    obtain ⟨v,hv,hq⟩:=K.e
    simp only [hv,Option.bind_some]
    cases v
    ·exact .inr ⟨_,rfl,trivial⟩
    ·exact .inl ⟨(),rfl,snoc (by simp [prP,h1,(hq rfl).2]) (hq rfl).1⟩)
  (fun _ ih=>by
   have c1:decide (((f + (x.kids.drop f).length:Nat):Int) < (x.kids.length:Int)) = false:=by simp; omega
   simp only [c1,cond_false]
   rw [List.take_length] at ih
   exact ⟨_,rfl,ih⟩) n () (by simp; omega) (by simp [allI])
 exact key
end Go.Proofs.YtbecjgckobhmpaaGreatDoor
end
section
namespace Go.Proofs.YtbecjgckobhmpaaGreatDoor
open Go Go.AM Go.Proofs
theorem levels_ok:(F73.getD []).all (fun l=>l.all (fun e=>levelI e != 0)) = true:=by kernel_rfl
theorem strEq_eq {a b:ByteArray} (h:strEq a b = true):a = b:=by
 have h':tl a = tl b:=by simpa [strEq,tl] using h
 have:=congrArg bs h'
 rwa [bs_tl,bs_tl] at this
theorem op_T {n:Nat} (hn:300≤n) (s:ByteArray) (x15:List (List ByteArray)) (h15:F73 = some x15) :
  T (iter (σ:=Bool × Int) (ρ:=Bool) (fun s16=>bif decide (s16.2 < (x15.length:Int)) then
        ((iter (σ:=Bool × Int) (ρ:=Bool) (fun s18=>(idxL x15 s16.2).bind fun x19 =>
         bif decide (s18.2 < (x19.length:Int)) then
          (bif s18.1 then
           (some (.inl (true,w64 (s18.2 + 1))))
          else
           ((idxL x15 s16.2).bind fun x22 =>
           (idxL x22 s18.2).bind fun x23 =>
           some (.inl ((strEq x23 s),w64 (s18.2 + 1)))))
         else
          (some (.inr s18.1))) n (s16.1,(0:Int))).bind fun r24 =>
        some (.inl (r24,w64 (s16.2 + 1))))
       else
        (some (.inr s16.1))) n ((strEq s (bs [61,61,62])),(0:Int))) (fun b=>b = true→levelI s≠0):=by
 have hall:∀ l ∈ x15,∀ e ∈ l,strEq e s = true→levelI s≠0:=by
  intro l hl e he h
  have h1:=levels_ok
  rw [h15] at h1
  have h2:=List.all_eq_true.1 (List.all_eq_true.1 h1 l hl) e he
  rw [← strEq_eq h]
  simpa using h2
 have hl8:x15.length = 8:=by
  have:(F73.getD []).length = 8:=by kernel_rfl
  rw [h15] at this
  exact this
 have hl4:∀ l ∈ x15,l.length≤4:=by
  have:(F73.getD []).all (fun l=>decide (l.length≤4)) = true:=by kernel_rfl
  rw [h15] at this
  intro l hl
  simpa using List.all_eq_true.1 this l hl
 refine iter_inv x15 (fun (k:Nat) (a:Bool)=>(a,(k:Int))) (fun _ a=>a = true→levelI s≠0) _ (fun k a l hl ih=>?_) (fun a ih=>?_) n _ (by omega) ?_
 ·have hlt:=lt_of_get hl
  have hm:=List.mem_of_getElem? hl
  have c1:decide ((k:Int) < (x15.length:Int)) = true:=by simpa using hlt
  have t:=iter_inv (ρ:=Bool) (step:=fun s18:Bool × Int=>(idxL x15 (k:Int)).bind fun x19 =>
         bif decide (s18.2 < (x19.length:Int)) then
          (bif s18.1 then
           (some (.inl (true,w64 (s18.2 + 1))))
          else
           ((idxL x15 (k:Int)).bind fun x22 =>
           (idxL x22 s18.2).bind fun x23 =>
           some (.inl ((strEq x23 s),w64 (s18.2 + 1)))))
         else
          (some (.inr s18.1))) l (fun (j:Nat) (a:Bool)=>(a,(j:Int))) (fun _ a=>a = true→levelI s≠0) (fun a=>a = true→levelI s≠0)
   (fun j a e he ih2=>by
    have hlt2:=lt_of_get he
    have hll:=hl4 l hm
    have c2:decide ((j:Int) < (l.length:Int)) = true:=by simpa using hlt2
    simp only [idxL_some hl,Option.bind_some,c2,cond_true,idxL_some he,w64_nat (k:=j) (by omega)]
    left
    cases a
    ·exact ⟨strEq e s,rfl,fun h=>hall l hm e (List.mem_of_getElem? he) h⟩
    ·exact ⟨true,rfl,ih2⟩)
   (fun a ih2=>⟨a,by
    have c2:decide ((l.length:Int) < (l.length:Int)) = false:=by simp
    simp only [idxL_some hl,Option.bind_some,c2,cond_false],ih2⟩) n a (by have:=hl4 l hm; omega) ih
  obtain ⟨r,hr,hq⟩:=t
  left
  refine ⟨r,?_,hq⟩
  simp only [c1,cond_true,w64_nat (k:=k) (by omega)]
  refine Eq.trans (congrArg (fun z=>Option.bind z _) hr) rfl
 ·have c1:decide ((x15.length:Int) < (x15.length:Int)) = false:=by simp
  simp only [c1,cond_false]
  exact ⟨_,rfl,ih⟩
 ·intro h
  have:=strEq_eq h
  rw [this]
  have e:levelI (bs [61,61,62]) = 2:=by kernel_rfl
  rw [e]
  decide
variable {N:Nat} {x:Node}
theorem and_t {a b:Bool} (h:(a && b) = true):a = true∧b = true:=by simpa using h
structure Kids (N M:Nat) (x:Node):Prop where
 hN:N≤9223372036854775807
 hM:N + 300≤M
 nm:Nm N x
 len:x.kids.length≤200
 kids:∀ y ∈ x.kids,Nm N y∧∀ n,M≤n→Cl n y
theorem Kids.all {M:Nat} (K:Kids N M x) {n:Nat} (hn:M≤n) (c:Int):T (F105 (n + 2) x c) (fun b=>b = true→∀ y ∈ x.kids,Cls c y) :=
 F105_T K.hN (by have:=K.hM; omega) x c (fun y hy=>⟨(K.kids y hy).1,(K.kids y hy).2 n hn⟩) K.len
theorem ref_T {M:Nat} (K:Kids N M x) {n:Nat} (hn:M + 3≤n):T (F173 n x) (fun b=>b = true→okT x = true∧x.kind = 2):=by
 obtain ⟨n,rfl⟩:∃ k,n = k + 3:=⟨n - 3,by omega⟩
 have hM:=K.hM
 show T (F173_step (F204 (n + 2)) (F203 (n + 2)) (F229 (n + 2)) (F231 (n + 2)) (F202 (n + 2)) (F173 (n + 2)) (F106 (n + 2)) (F172 (n + 2)) (F105 (n + 2)) (n + 2) x) _
 unfold F173_step
 refine T.cond (fun h=>?_) (fun _=>T.some no)
 have h:x.kind = 2:=by simpa using h
 refine (F104_T x [110] (by simp) (by omega)).bind fun v o=>T.cond (fun hv=>?_) (fun _=>T.some no)
 refine (F205k K.hN (by omega) K.nm.1).bind fun w hw=>T.cond (fun hw'=>?_) (fun _=>T.some no)
 refine T.cond (fun hl=>?_) (fun _=>T.some no)
 refine (K.all (by omega) 0).bind fun z hz=>T.some fun hz'=>?_
 have hE:=hz hz'
 have o:=o hv
 refine ⟨okT_mk (fields_of o (by simp [fldGood,h,hw hw']) (by simp [h,hasName]) (by simp) (by simp) (by simp) (by simp) (by simp)) ?_ (fun y hy=>(hE y hy).1),h⟩
 have hl':x.kids.length≤1:=by simp at hl; omega
 match hx:x.kids,hl' with
 | [],_=>simp [kidsB,leafK,h,hx]
 | [a],_ =>
  rw [hx] at hE
  have:=(hE a (by simp)).2
  simp [kidsB,leafK,h,hx,ex1,eX,this]
theorem expr_T {M:Nat} (K:Kids N M x) {n:Nat} (hn:M + 4≤n):T (F106 n x) (fun b=>b = true→okE x):=by
 obtain ⟨n,rfl⟩:∃ k,n = k + 3:=⟨n - 3,by omega⟩
 have hM:=K.hM
 have e1:∀ {k:Int},x.kind = k→(1≤k∧k≤8)→okT x = true→okE x:=fun h1 h2 h3=>⟨h3,by rw [h1]; simp [isE]; omega⟩
 have kid0:∀ {l:List Node},x.kids = l→(∀ y ∈ x.kids,Cls 0 y)→∀ y ∈ l,okE y:=fun h1 h2 y hy=>h2 y (by rw [h1]; exact hy)
 show T (F106_step (F204 (n + 2)) (F203 (n + 2)) (F229 (n + 2)) (F231 (n + 2)) (F202 (n + 2)) (F173 (n + 2)) (F106 (n + 2)) (F172 (n + 2)) (F105 (n + 2)) (n + 2) x) _
 unfold F106_step
 refine T.cond (fun h=>?_) (fun _=>T.cond (fun h=>?_) (fun _=>T.cond (fun h=>?_) (fun _=>T.cond (fun h=>?_) (fun _=>T.cond (fun h=>?_) (fun _=>T.cond (fun h=>?_) (fun _=>?_))))))
 ·have h:x.kind = 1:=by simpa using h
  refine (F104_T x [35] (by simp) (by omega)).bind fun v o=>T.some fun hb=>?_
  obtain ⟨hv,h0⟩:=and_t hb
  have o:=o hv
  exact e1 h (by omega) (leaf_ok (by simp [leafK,h]) (fields_of o (by simp [fldGood,h,o.r1]) (by simp) (by simp) (by simp [h,hasN]) (by simp) (by simp) (by simp)) (kids0 h0))
 ·have h:x.kind = 2:=by simpa using h
  exact (ref_T K (by omega)).bind fun v hv=>T.some fun hb=>e1 h (by omega) (hv hb).1
 ·have h:x.kind = 3:=by simpa using h
  refine (F104_T x [] (by simp) (by omega)).bind fun v o=>T.cond (fun hv=>?_) (fun _=>T.some no)
  obtain ⟨hv,hl⟩:=and_t hv
  obtain ⟨a,ha⟩:=list1 hl
  have i0:idxL x.kids 0 = some a:=idx0 (by simp [ha])
  rw [i0]
  simp only [Option.bind_some]
  refine (((K.kids a (by simp [ha])).2 (n + 2) (by omega)).r).bind fun w hw=>T.some fun hb=>?_
  obtain ⟨k1,k2⟩:=hw hb
  exact e1 h (by omega) (okT_mk (fields_of (o hv) (by simp [fldGood,h]) (by simp) (by simp) (by simp) (by simp) (by simp) (by simp)) (by simp [kidsB,leafK,h,ha,ex1,kX,k2]) (by rw [ha]; simpa using k1))
 ·have h:x.kind = 4:=by simpa using h
  refine (F104_T x [] (by simp) (by omega)).bind fun v o=>T.cond (fun hv=>?_) (fun _=>T.some no)
  obtain ⟨hv,hl⟩:=and_t hv
  obtain ⟨a,ha⟩:=list1 hl
  refine (K.all (by omega) 0).bind fun w hw=>T.some fun hb=>?_
  have hE:=kid0 ha (hw hb)
  have:=(hE a (by simp)).2
  exact e1 h (by omega) (okT_mk (fields_of (o hv) (by simp [fldGood,h]) (by simp) (by simp) (by simp) (by simp) (by simp) (by simp)) (by simp [kidsB,leafK,oneK,h,ha,ex1,eX,this]) (by rw [ha]; exact fun y hy=>(hE y hy).1))
 ·have h:x.kind = 5:=by simpa using h
  obtain ⟨x15,h15⟩:∃ l,F73 = some l:=⟨_,rfl⟩
  rw [h15]
  simp only [Option.bind_some]
  refine (op_T (by omega) x.name x15 h15).bind fun w hw=>T.cond (fun hw'=>?_) (fun _=>T.some no)
  refine (F104_T x [110] (by simp) (by omega)).bind fun v o=>T.cond (fun hv=>?_) (fun _=>T.some no)
  obtain ⟨hv,hl⟩:=and_t hv
  obtain ⟨a,b,ha⟩:=list2 hl
  refine (K.all (by omega) 0).bind fun w2 hw2=>T.some fun hb=>?_
  have hE:=kid0 ha (hw2 hb)
  have e2:=(hE a (by simp)).2
  have e3:=(hE b (by simp)).2
  exact e1 h (by omega) (okT_mk (fields_of (o hv) (by simp [fldGood,h,hw hw']) (by simp [h,hasName]) (by simp) (by simp) (by simp) (by simp) (by simp)) (by simp [kidsB,leafK,oneK,h,ha,ex2,eX,e2,e3]) (by rw [ha]; exact fun y hy=>(hE y hy).1))
 ·have h:x.kind = 6:=by simpa using h
  refine (F104_T x [] (by simp) (by omega)).bind fun v o=>T.cond (fun hv=>?_) (fun _=>T.some no)
  obtain ⟨hv,hl⟩:=and_t hv
  obtain ⟨a,b,c,ha⟩:=list3 hl
  refine (K.all (by omega) 0).bind fun w2 hw2=>T.some fun hb=>?_
  have hE:=kid0 ha (hw2 hb)
  have e2:=(hE a (by simp)).2
  have e3:=(hE b (by simp)).2
  have e4:=(hE c (by simp)).2
  exact e1 h (by omega) (okT_mk (fields_of (o hv) (by simp [fldGood,h]) (by simp) (by simp) (by simp) (by simp) (by simp) (by simp)) (by simp [kidsB,leafK,oneK,h,ha,ex3,eX,e2,e3,e4]) (by rw [ha]; exact fun y hy=>(hE y hy).1))
 ·simp only [some_cond,bor,Option.bind_some]
  refine T.cond (fun h=>?_) (fun _=>T.some no)
  have h:x.kind = 7∨x.kind = 8:=by simpa using h
  refine (F104_T x [110,35] (by simp) (by omega)).bind fun v o=>T.cond (fun hv=>?_) (fun _=>T.some no)
  rw [F174k K.hN (by omega) K.nm.1]
  simp only [Option.bind_some]
  refine T.cond (fun hnl=>?_) (fun _=>T.some no)
  obtain ⟨hnm,hl⟩:=and_t hnl
  obtain ⟨a,ha⟩:=list1 hl
  refine (K.all (by omega) 0).bind fun w hw=>T.some fun hb=>?_
  have hE:=kid0 ha (hw hb)
  have e2:=(hE a (by simp)).2
  have o:=o hv
  rcases h with h | h
  ·exact e1 h (by omega) (okT_mk (fields_of o (by simp [fldGood,h,hnm,o.r1]) (by simp [h,hasName]) (by simp) (by simp [h,hasN]) (by simp) (by simp) (by simp)) (by simp [kidsB,leafK,oneK,h,ha,ex1,eX,e2]) (by rw [ha]; exact fun y hy=>(hE y hy).1))
  ·exact e1 h (by omega) (okT_mk (fields_of o (by simp [fldGood,h,hnm,o.r1]) (by simp [h,hasName]) (by simp) (by simp [h,hasN]) (by simp) (by simp) (by simp)) (by simp [kidsB,leafK,oneK,h,ha,ex1,eX,e2]) (by rw [ha]; exact fun y hy=>(hE y hy).1))
theorem block_T {M:Nat} (K:Kids N M x) {n:Nat} (hn:M + 3≤n):T (F231 n x) (fun b=>b = true→okT x = true∧x.kind = 34):=by
 obtain ⟨n,rfl⟩:∃ k,n = k + 3:=⟨n - 3,by omega⟩
 have hM:=K.hM
 show T (F231_step (F204 (n + 2)) (F203 (n + 2)) (F229 (n + 2)) (F231 (n + 2)) (F202 (n + 2)) (F173 (n + 2)) (F106 (n + 2)) (F172 (n + 2)) (F105 (n + 2)) (n + 2) x) _
 unfold F231_step
 refine T.cond (fun h=>?_) (fun _=>T.some no)
 have h:x.kind = 34:=by simpa using h
 refine (F104_T x [] (by simp) (by omega)).bind fun v o=>T.cond (fun hv=>?_) (fun _=>T.some no)
 refine (K.all (by omega) 1).bind fun z hz=>T.some fun hz'=>?_
 have hE:∀ y ∈ x.kids,okT y = true∧isStmt y.kind = true:=fun y hy=>by simpa [Cls] using hz hz' y hy
 refine ⟨okT_mk (fields_of (o hv) (by simp [fldGood,h]) (by simp) (by simp) (by simp) (by simp) (by simp) (by simp)) ?_ (fun y hy=>(hE y hy).1),h⟩
 simp [kidsB,leafK,oneK,h]
 exact fun y hy=>(hE y hy).2
theorem item_T {M:Nat} (K:Kids N M x) {n:Nat} (hn:M + 3≤n):T (F204 n x) (fun b=>b = true→okT x = true∧isItm x.kind = true):=by
 obtain ⟨n,rfl⟩:∃ k,n = k + 3:=⟨n - 3,by omega⟩
 have hM:=K.hM
 show T (F204_step (F204 (n + 2)) (F203 (n + 2)) (F229 (n + 2)) (F231 (n + 2)) (F202 (n + 2)) (F173 (n + 2)) (F106 (n + 2)) (F172 (n + 2)) (F105 (n + 2)) (n + 2) x) _
 unfold F204_step
 refine T.cond (fun h=>?_) (fun _=>T.cond (fun h=>?_) (fun _=>T.some no))
 ·have h:x.kind = 60:=by simpa using h
  refine (F104_T x [110,111] (by simp) (by omega)).bind fun v o=>T.cond (fun hv=>?_) (fun _=>T.some no)
  rw [F174k K.hN (by omega) K.nm.1,F174k K.hN (by omega) K.nm.2]
  simp only [Option.bind_some]
  refine T.cond (fun hn1=>T.cond (fun hn2=>?_) (fun _=>T.some no)) (fun _=>T.some no)
  refine (K.all (by omega) 4).bind fun z hz=>T.some fun hz'=>?_
  have hE:∀ y ∈ x.kids,okT y = true∧isDecl y.kind = true:=fun y hy=>by simpa [Cls] using hz hz' y hy
  refine ⟨okT_mk (fields_of (o hv) (by simp [fldGood,h,hn1,hn2]) (by simp [h,hasName]) (by simp [h,hasOther]) (by simp) (by simp) (by simp) (by simp)) ?_ (fun y hy=>(hE y hy).1),by simp [isItm,h]⟩
  simp [kidsB,leafK,oneK,h]
  exact fun y hy=>(hE y hy).2
 ·have h:x.kind = 61:=by simpa using h
  refine (F104_T x [110,111,35] (by simp) (by omega)).bind fun v o=>T.cond (fun hv=>?_) (fun _=>T.some no)
  obtain ⟨hv,h1⟩:=and_t hv
  rw [F174k K.hN (by omega) K.nm.1]
  simp only [Option.bind_some]
  refine T.cond (fun hn1=>?_) (fun _=>T.some no)
  refine (F205k K.hN (by omega) K.nm.2).bind fun w hw=>T.cond (fun hw'=>?_) (fun _=>T.some no)
  refine (K.all (by omega) 6).bind fun z hz=>T.some fun hz'=>?_
  have hE:∀ y ∈ x.kids,okT y = true∧y.kind = 1:=fun y hy=>by simpa [Cls] using hz hz' y hy
  have o:=o hv
  have h01:x.n = 0∨x.n = 1:=by
   have:=o.r1
   simp only [inR,Bool.and_eq_true,decide_eq_true_eq] at this
   simp at h1
   omega
  refine ⟨okT_mk (fields_of o (by simp [fldGood,h,hn1,hw hw']; exact h01) (by simp [h,hasName]) (by simp [h,hasOther]) (by simp [h,hasN]) (by simp) (by simp) (by simp)) ?_ (fun y hy=>(hE y hy).1),by simp [isItm,h]⟩
  simp [kidsB,leafK,oneK,h,kX]
  exact fun y hy=>(hE y hy).2
end Go.Proofs.YtbecjgckobhmpaaGreatDoor
end
section
namespace Go.Proofs.YtbecjgckobhmpaaGreatDoor
open Go Go.AM Go.Proofs
variable {N:Nat} {x:Node}
theorem Kids.pairs {M:Nat} (K:Kids N M x) {n:Nat} (hn:M≤n) (f:Nat) (hf:f≤x.kids.length) :
  T (F229 (n + 1) x (f:Int)) (fun b=>b = true→pairsB (x.kids.drop f) = true∧∀ y ∈ x.kids.drop f,okT y = true) :=
 F229_T x f hf (fun y hy=>(K.kids y hy).2 n hn) K.len (by have:=K.hM; omega)
theorem stmt_T {M:Nat} (K:Kids N M x) {n:Nat} (hn:M + 4≤n):T (F202 n x) (fun b=>b = true→okT x = true∧isStmt x.kind = true):=by
 obtain ⟨n,rfl⟩:∃ k,n = k + 3:=⟨n - 3,by omega⟩
 have hM:=K.hM
 have e1:∀ {k:Int},x.kind = k→isStmt k = true→okT x = true→okT x = true∧isStmt x.kind = true:=fun h1 h2 h3=>⟨h3,by rw [h1]; exact h2⟩
 have kid0:∀ {l:List Node},x.kids = l→(∀ y ∈ x.kids,Cls 0 y)→∀ y ∈ l,okE y:=fun h1 h2 y hy=>h2 y (by rw [h1]; exact hy)
 have KC:∀ y ∈ x.kids,Cl (n + 2) y:=fun y hy=>(K.kids y hy).2 (n + 2) (by omega)
 show T (F202_step (F204 (n + 2)) (F203 (n + 2)) (F229 (n + 2)) (F231 (n + 2)) (F202 (n + 2)) (F173 (n + 2)) (F106 (n + 2)) (F172 (n + 2)) (F105 (n + 2)) (n + 2) x) _
 unfold F202_step
 simp only [some_cond,bor,Option.bind_some]
 refine T.cond (fun h=>?_) (fun _=>?_)
 ·have h:x.kind = 20∨x.kind = 29:=by simpa using h
  refine (F104_T x [] (by simp) (by omega)).bind fun v o=>T.cond (fun hv=>?_) (fun _=>T.some no)
  obtain ⟨hv,hl⟩:=and_t hv
  obtain ⟨a,ha⟩:=list1 hl
  refine (K.all (by omega) 0).bind fun w hw=>T.some fun hb=>?_
  have hE:=kid0 ha (hw hb)
  have e2:=(hE a (by simp)).2
  rcases h with h | h
  ·exact e1 h rfl (okT_mk (fields_of (o hv) (by simp [fldGood,h]) (by simp) (by simp) (by simp) (by simp) (by simp) (by simp)) (by simp [kidsB,leafK,oneK,h,ha,ex1,eX,e2]) (by rw [ha]; exact fun y hy=>(hE y hy).1))
  ·exact e1 h rfl (okT_mk (fields_of (o hv) (by simp [fldGood,h]) (by simp) (by simp) (by simp) (by simp) (by simp) (by simp)) (by simp [kidsB,leafK,oneK,h,ha,ex1,eX,e2]) (by rw [ha]; exact fun y hy=>(hE y hy).1))
 refine T.cond (fun h=>?_) (fun _=>?_)
 ·have h:x.kind = 26∨x.kind = 30:=by simpa using h
  refine (F104_T x [] (by simp) (by omega)).bind fun v o=>T.some fun hb=>?_
  obtain ⟨hv,h0⟩:=and_t hb
  rcases h with h | h
  ·exact e1 h rfl (leaf_ok (by simp [leafK,h]) (fields_of (o hv) (by simp [fldGood,h]) (by simp) (by simp) (by simp) (by simp) (by simp) (by simp)) (kids0 h0))
  ·exact e1 h rfl (leaf_ok (by simp [leafK,h]) (fields_of (o hv) (by simp [fldGood,h]) (by simp) (by simp) (by simp) (by simp) (by simp) (by simp)) (kids0 h0))
 refine T.cond (fun h=>?_) (fun _=>?_)
 ·have h:x.kind = 21:=by simpa using h
  refine (F104_T x [35] (by simp) (by omega)).bind fun v o=>T.cond (fun hv=>?_) (fun _=>T.some no)
  obtain ⟨hv,hl⟩:=and_t hv
  obtain ⟨hv,h1⟩:=and_t hv
  have hl2:2≤x.kids.length:=by simp at hl; omega
  refine (K.pairs (n:=n + 1) (by omega) 0 (by omega)).bind fun w hw=>T.some fun hb=>?_
  obtain ⟨p1,p2⟩:=hw hb
  simp only [List.drop_zero] at p1 p2
  have o:=o hv
  have h01:x.n = 0∨x.n = 1:=by
   have:=o.r1
   simp only [inR,Bool.and_eq_true,decide_eq_true_eq] at this
   simp at h1
   omega
  refine e1 h rfl (okT_mk (fields_of o (by simp [fldGood,h]; exact h01) (by simp) (by simp) (by simp [h,hasN]) (by simp) (by simp) (by simp)) ?_ p2)
  have hne:x.kids≠[]:=by intro e; rw [e] at hl2; simp at hl2
  simp [kidsB,leafK,oneK,h,p1,hne]
 refine T.cond (fun h=>?_) (fun _=>?_)
 ·have h:x.kind = 22:=by simpa using h
  refine (F104_T x [] (by simp) (by omega)).bind fun v o=>T.cond (fun hv=>?_) (fun _=>T.some no)
  obtain ⟨hv,hl⟩:=and_t hv
  have hl1:1≤x.kids.length:=by simp at hl; omega
  obtain ⟨a,r,ha⟩:∃ a r,x.kids = a :: r:=by
   cases hx:x.kids with
   | nil=>rw [hx] at hl1; simp at hl1
   | cons a r=>exact ⟨a,r,rfl⟩
  have i0:idxL x.kids 0 = some a:=idx0 (by simp [ha])
  rw [i0]
  simp only [Option.bind_some]
  have fin:∀ w:Bool,(w = true→pairsB (x.kids.drop 1) = true∧∀ y ∈ x.kids.drop 1,okT y = true)→w = true→okT a = true→(isE a.kind = true∨a.kind = 63)→okT x = true∧isStmt x.kind = true:=by
   intro w hw hb hta hka
   obtain ⟨p1,p2⟩:=hw hb
   rw [ha] at p1 p2
   simp only [List.drop_succ_cons,List.drop_zero] at p1 p2
   refine e1 h rfl (okT_mk (fields_of (o hv) (by simp [fldGood,h]) (by simp) (by simp) (by simp) (by simp) (by simp) (by simp)) ?_ ?_)
   ·simp [kidsB,leafK,oneK,h,ha,atomK,enX,p1]
    exact hka
   ·rw [ha]
    intro y hy
    rcases List.mem_cons.1 hy with rfl | hy
    ·exact hta
    ·exact p2 y hy
  refine (F230_T (by omega) a).bind fun w hw=>T.cond (fun hw'=>?_) (fun _=>?_)
  ·refine (K.pairs (n:=n + 1) (by omega) 1 hl1).bind fun w2 hw2=>T.some fun hb=>fin w2 hw2 hb (hw hw').1 (.inr (hw hw').2)
  ·refine ((KC a (by simp [ha])).e).bind fun w hw=>T.cond (fun hw'=>?_) (fun _=>T.some no)
   refine (K.pairs (n:=n + 1) (by omega) 1 hl1).bind fun w2 hw2=>T.some fun hb=>fin w2 hw2 hb (hw hw').1 (.inl (hw hw').2)
 refine T.cond (fun h=>?_) (fun _=>?_)
 ·have h:x.kind = 23:=by simpa using h
  refine (F104_T x [] (by simp) (by omega)).bind fun v o=>T.cond (fun hv=>?_) (fun _=>T.some no)
  obtain ⟨hv,hl⟩:=and_t hv
  have hl4:4≤x.kids.length:=by simp at hl; omega
  obtain ⟨a,b,c,d,r,ha⟩:∃ a b c d r,x.kids = a :: b :: c :: d :: r:=by
   match hx:x.kids,hl4 with
   | a :: b :: c :: d :: r,_=>exact ⟨a,b,c,d,r,rfl⟩
  have i0:idxL x.kids 0 = some a:=idx0 (by simp [ha])
  have i1:idxL x.kids 1 = some b:=idx1 (by simp [ha])
  have i2:idxL x.kids 2 = some c:=idx2 (by simp [ha])
  have i3:idxL x.kids 3 = some d:=idx3 (by simp [ha])
  rw [i0,i1,i2,i3]
  simp only [Option.bind_some]
  refine ((KC a (by simp [ha])).r).bind fun w1 h1=>T.cond (fun h1'=>?_) (fun _=>T.some no)
  refine ((KC b (by simp [ha])).e).bind fun w2 h2=>T.cond (fun h2'=>?_) (fun _=>T.some no)
  refine ((KC c (by simp [ha])).e).bind fun w3 h3=>T.cond (fun h3'=>?_) (fun _=>T.some no)
  refine ((KC d (by simp [ha])).r).bind fun w4 h4=>T.cond (fun h4'=>?_) (fun _=>T.some no)
  refine (K.pairs (n:=n + 1) (by omega) 4 hl4).bind fun w5 h5=>T.some fun hb=>?_
  obtain ⟨p1,p2⟩:=h5 hb
  rw [ha] at p1 p2
  simp only [List.drop_succ_cons,List.drop_zero] at p1 p2
  refine e1 h rfl (okT_mk (fields_of (o hv) (by simp [fldGood,h]) (by simp) (by simp) (by simp) (by simp) (by simp) (by simp)) ?_ ?_)
  ·simp [kidsB,leafK,oneK,h,ha,casK,kX,eX,p1,(h1 h1').2,(h2 h2').2,(h3 h3').2,(h4 h4').2]
  ·rw [ha]
   intro y hy
   simp only [List.mem_cons] at hy
   rcases hy with rfl | rfl | rfl | rfl | hy
   ·exact (h1 h1').1
   ·exact (h2 h2').1
   ·exact (h3 h3').1
   ·exact (h4 h4').1
   ·exact p2 y hy
 refine T.cond (fun h=>?_) (fun _=>?_)
 ·have h:x.kind = 24∨x.kind = 25:=by simpa using h
  refine (F104_T x [110] (by simp) (by omega)).bind fun v o=>T.cond (fun hv=>?_) (fun _=>T.some no)
  refine (F205k K.hN (by omega) K.nm.1).bind fun w hw=>T.some fun hb=>?_
  obtain ⟨hw',h0⟩:=and_t hb
  rcases h with h | h
  ·exact e1 h rfl (leaf_ok (by simp [leafK,h]) (fields_of (o hv) (by simp [fldGood,h,hw hw']) (by simp [h,hasName]) (by simp) (by simp) (by simp) (by simp) (by simp)) (kids0 h0))
  ·exact e1 h rfl (leaf_ok (by simp [leafK,h]) (fields_of (o hv) (by simp [fldGood,h,hw hw']) (by simp [h,hasName]) (by simp) (by simp) (by simp) (by simp) (by simp)) (kids0 h0))
 refine T.cond (fun h=>?_) (fun _=>?_)
 ·have h:x.kind = 27∨x.kind = 28:=by simpa using h
  refine (F104_T x [110] (by simp) (by omega)).bind fun v o=>T.cond (fun hv=>?_) (fun _=>T.some no)
  rw [F174k K.hN (by omega) K.nm.1]
  simp only [Option.bind_some]
  refine T.some fun hb=>?_
  obtain ⟨hw',h0⟩:=and_t hb
  rcases h with h | h
  ·exact e1 h rfl (leaf_ok (by simp [leafK,h]) (fields_of (o hv) (by simp [fldGood,h,hw']) (by simp [h,hasName]) (by simp) (by simp) (by simp) (by simp) (by simp)) (kids0 h0))
  ·exact e1 h rfl (leaf_ok (by simp [leafK,h]) (fields_of (o hv) (by simp [fldGood,h,hw']) (by simp [h,hasName]) (by simp) (by simp) (by simp) (by simp) (by simp)) (kids0 h0))
 refine T.cond (fun h=>?_) (fun _=>?_)
 ·have h:x.kind = 31:=by simpa using h
  refine (F104_T x [] (by simp) (by omega)).bind fun v o=>T.cond (fun hv=>?_) (fun _=>T.some no)
  obtain ⟨hv,hl⟩:=and_t hv
  obtain ⟨a,b,c,ha⟩:=list3 hl
  have i0:idxL x.kids 0 = some a:=idx0 (by simp [ha])
  have i1:idxL x.kids 1 = some b:=idx1 (by simp [ha])
  have i2:idxL x.kids 2 = some c:=idx2 (by simp [ha])
  rw [i0,i1,i2]
  simp only [Option.bind_some]
  refine ((KC a (by simp [ha])).e).bind fun w1 h1=>T.cond (fun h1'=>?_) (fun _=>T.some no)
  refine ((KC b (by simp [ha])).b).bind fun w2 h2=>T.cond (fun h2'=>?_) (fun _=>T.some no)
  refine ((KC c (by simp [ha])).b).bind fun w3 h3=>T.some fun h3'=>?_
  refine e1 h rfl (okT_mk (fields_of (o hv) (by simp [fldGood,h]) (by simp) (by simp) (by simp) (by simp) (by simp) (by simp)) (by simp [kidsB,leafK,oneK,h,ha,ex3,eX,kX,(h1 h1').2,(h2 h2').2,(h3 h3').2]) ?_)
  rw [ha]
  intro y hy
  simp only [List.mem_cons,List.not_mem_nil,or_false] at hy
  rcases hy with rfl | rfl | rfl
  ·exact (h1 h1').1
  ·exact (h2 h2').1
  ·exact (h3 h3').1
 refine T.cond (fun h=>?_) (fun _=>?_)
 ·have h:x.kind = 32:=by simpa using h
  refine (F104_T x [] (by simp) (by omega)).bind fun v o=>T.cond (fun hv=>?_) (fun _=>T.some no)
  obtain ⟨hv,hl⟩:=and_t hv
  obtain ⟨a,b,c,ha⟩:=list3 hl
  have i0:idxL x.kids 0 = some a:=idx0 (by simp [ha])
  have i1:idxL x.kids 1 = some b:=idx1 (by simp [ha])
  have i2:idxL x.kids 2 = some c:=idx2 (by simp [ha])
  rw [i0,i1,i2]
  simp only [Option.bind_some]
  have fin:okE a→okT b = true→(isE b.kind = true∨b.kind = 63)→okT c = true∧c.kind = 34→okT x = true∧isStmt x.kind = true:=by
   intro h1 h2 h3 h4
   refine e1 h rfl (okT_mk (fields_of (o hv) (by simp [fldGood,h]) (by simp) (by simp) (by simp) (by simp) (by simp) (by simp)) (by simp [kidsB,leafK,oneK,h,ha,ex3,eX,enX,kX,h1.2,h4.2]; exact h3) ?_)
   rw [ha]
   intro y hy
   simp only [List.mem_cons,List.not_mem_nil,or_false] at hy
   rcases hy with rfl | rfl | rfl
   ·exact h1.1
   ·exact h2
   ·exact h4.1
  refine ((KC a (by simp [ha])).e).bind fun w1 h1=>T.cond (fun h1'=>?_) (fun _=>T.some no)
  refine (F230_T (by omega) b).bind fun w2 h2=>T.cond (fun h2'=>?_) (fun _=>?_)
  ·exact ((KC c (by simp [ha])).b).bind fun w3 h3=>T.some fun h3'=>fin (h1 h1') (h2 h2').1 (.inr (h2 h2').2) (h3 h3')
  ·refine ((KC b (by simp [ha])).e).bind fun w2 h2=>T.cond (fun h2'=>?_) (fun _=>T.some no)
   exact ((KC c (by simp [ha])).b).bind fun w3 h3=>T.some fun h3'=>fin (h1 h1') (h2 h2').1 (.inl (h2 h2').2) (h3 h3')
 refine T.cond (fun h=>?_) (fun _=>?_)
 ·have h:x.kind = 33:=by simpa using h
  refine (F104_T x [110] (by simp) (by omega)).bind fun v o=>T.cond (fun hv=>?_) (fun _=>T.some no)
  refine (F205k K.hN (by omega) K.nm.1).bind fun w hw=>T.cond (fun hw'=>?_) (fun _=>T.some no)
  refine (K.all (by omega) 0).bind fun z hz=>T.some fun hz'=>?_
  have hE:=kid0 rfl (hz hz')
  refine e1 h rfl (okT_mk (fields_of (o hv) (by simp [fldGood,h,hw hw']) (by simp [h,hasName]) (by simp) (by simp) (by simp) (by simp) (by simp)) ?_ (fun y hy=>(hE y hy).1))
  simp [kidsB,leafK,oneK,h]
  exact fun y hy=>(hE y hy).2
 refine T.cond (fun h=>?_) (fun _=>T.some no)
 have h:x.kind = 35:=by simpa using h
 refine (F104_T x [110,35,103] (by simp) (by omega)).bind fun v o=>T.cond (fun hv=>?_) (fun _=>T.some no)
 rw [F174k K.hN (by omega) K.nm.1]
 simp only [Option.bind_some]
 refine T.some fun hb=>?_
 obtain ⟨hw',h0⟩:=and_t hb
 have o:=o hv
 exact e1 h rfl (leaf_ok (by simp [leafK,h]) (fields_of o (by simp [fldGood,h,hw',o.r1]) (by simp [h,hasName]) (by simp) (by simp [h,hasN]) (by simp) (by simp) (by simp [h])) (kids0 h0))
theorem decl_T {M:Nat} (K:Kids N M x) {n:Nat} (hn:M + 4≤n):T (F203 n x) (fun b=>b = true→okT x = true∧isDecl x.kind = true):=by
 obtain ⟨n,rfl⟩:∃ k,n = k + 3:=⟨n - 3,by omega⟩
 have hM:=K.hM
 have hlen:=K.len
 have e1:∀ {k:Int},x.kind = k→isDecl k = true→okT x = true→okT x = true∧isDecl x.kind = true:=fun h1 h2 h3=>⟨h3,by rw [h1]; exact h2⟩
 have kid0:∀ {l:List Node},x.kids = l→(∀ y ∈ x.kids,Cls 0 y)→∀ y ∈ l,okE y:=fun h1 h2 y hy=>h2 y (by rw [h1]; exact hy)
 have KC:∀ y ∈ x.kids,Cl (n + 2) y:=fun y hy=>(K.kids y hy).2 (n + 2) (by omega)
 show T (F203_step (F204 (n + 2)) (F203 (n + 2)) (F229 (n + 2)) (F231 (n + 2)) (F202 (n + 2)) (F173 (n + 2)) (F106 (n + 2)) (F172 (n + 2)) (F105 (n + 2)) (n + 2) x) _
 unfold F203_step
 refine T.cond (fun h=>?_) (fun _=>?_)
 ·have h:x.kind = 51:=by simpa using h
  refine (F104_T x [110] (by simp) (by omega)).bind fun v o=>T.cond (fun hv=>?_) (fun _=>T.some no)
  rw [F174k K.hN (by omega) K.nm.1]
  simp only [Option.bind_some]
  refine T.cond (fun hn1=>?_) (fun _=>T.some no)
  refine (K.all (by omega) 2).bind fun z hz=>T.some fun hz'=>?_
  have hE:∀ y ∈ x.kids,okT y = true∧y.kind = 52:=fun y hy=>by simpa [Cls] using hz hz' y hy
  refine e1 h rfl (okT_mk (fields_of (o hv) (by simp [fldGood,h,hn1]) (by simp [h,hasName]) (by simp) (by simp) (by simp) (by simp) (by simp)) ?_ (fun y hy=>(hE y hy).1))
  simp [kidsB,leafK,oneK,h,kX]
  exact fun y hy=>(hE y hy).2
 refine T.cond (fun h=>?_) (fun _=>?_)
 ·have h:x.kind = 50:=by simpa using h
  refine (F104_T x [110,111,35,108,105,103] (by simp) (by omega)).bind fun v o=>T.cond (fun hv=>?_) (fun _=>T.some no)
  rw [F174k K.hN (by omega) K.nm.1,F174k K.hN (by omega) K.nm.2]
  simp only [Option.bind_some]
  have o:=o hv
  refine T.cond (fun hn1=>T.cond (fun hoe=>T.some fun h0=>?_) (fun _=>T.cond (fun hn0=>T.some fun hb=>?_) (fun _=>T.some no))) (fun _=>T.some no)
  ·exact e1 h rfl (leaf_ok (by simp [leafK,h]) (fields_of o (by simp [fldGood,h,hn1,o.r1,o.r2,o.r3,hoe]) (by simp [h,hasName]) (by simp [h,hasOther]) (by simp [h,hasN]) (by simp [h]) (by simp [h]) (by simp [h])) (kids0 h0))
  ·obtain ⟨hn2,h0⟩:=and_t hb
   have hn0':x.n = 0:=by simpa using hn0
   have r1:=o.r1
   exact e1 h rfl (leaf_ok (by simp [leafK,h]) (fields_of o (by simp [fldGood,h,hn1,o.r1,o.r2,o.r3,hn2]; exact .inr hn0') (by simp [h,hasName]) (by simp [h,hasOther]) (by simp [h,hasN]) (by simp [h]) (by simp [h]) (by simp [h])) (kids0 h0))
 refine T.cond (fun h=>?_) (fun _=>?_)
 ·have h:x.kind = 53:=by simpa using h
  refine (F104_T x [110] (by simp) (by omega)).bind fun v o=>T.cond (fun hv=>?_) (fun _=>T.some no)
  rw [F174k K.hN (by omega) K.nm.1]
  simp only [Option.bind_some]
  refine T.cond (fun hnl=>?_) (fun _=>T.some no)
  obtain ⟨hn1,hl⟩:=and_t hnl
  obtain ⟨a,ha⟩:=list1 hl
  refine (K.all (by omega) 0).bind fun w hw=>T.some fun hb=>?_
  have hE:=kid0 ha (hw hb)
  have e2:=(hE a (by simp)).2
  exact e1 h rfl (okT_mk (fields_of (o hv) (by simp [fldGood,h,hn1]) (by simp [h,hasName]) (by simp) (by simp) (by simp) (by simp) (by simp)) (by simp [kidsB,leafK,oneK,h,ha,ex1,eX,e2]) (by rw [ha]; exact fun y hy=>(hE y hy).1))
 simp only [some_cond,bor,Option.bind_some]
 refine T.cond (fun h=>?_) (fun _=>?_)
 ·have h:x.kind = 54∨x.kind = 55:=by simpa using h
  refine (F104_T x [] (by simp) (by omega)).bind fun v o=>T.cond (fun hv=>?_) (fun _=>T.some no)
  obtain ⟨hv,hl⟩:=and_t hv
  obtain ⟨a,ha⟩:=list1 hl
  refine (K.all (by omega) 0).bind fun w hw=>T.some fun hb=>?_
  have hE:=kid0 ha (hw hb)
  have e2:=(hE a (by simp)).2
  rcases h with h | h
  ·exact e1 h rfl (okT_mk (fields_of (o hv) (by simp [fldGood,h]) (by simp) (by simp) (by simp) (by simp) (by simp) (by simp)) (by simp [kidsB,leafK,oneK,h,ha,ex1,eX,e2]) (by rw [ha]; exact fun y hy=>(hE y hy).1))
  ·exact e1 h rfl (okT_mk (fields_of (o hv) (by simp [fldGood,h]) (by simp) (by simp) (by simp) (by simp) (by simp) (by simp)) (by simp [kidsB,leafK,oneK,h,ha,ex1,eX,e2]) (by rw [ha]; exact fun y hy=>(hE y hy).1))
 refine T.cond (fun h=>?_) (fun _=>?_)
 ·have h:x.kind = 56:=by simpa using h
  refine (F104_T x [] (by simp) (by omega)).bind fun v o=>T.cond (fun hv=>?_) (fun _=>T.some no)
  obtain ⟨hv,hl⟩:=and_t hv
  refine (K.all (by omega) 7).bind fun w hw=>T.some fun hb=>?_
  have hE:∀ y ∈ x.kids,okT y = true∧y.kind = 2∧y.kids = []:=fun y hy=>by simpa [Cls] using hw hb y hy
  have hne:x.kids≠[]:=by intro e; rw [e] at hl; simp at hl
  refine e1 h rfl (okT_mk (fields_of (o hv) (by simp [fldGood,h]) (by simp) (by simp) (by simp) (by simp) (by simp) (by simp)) ?_ (fun y hy=>(hE y hy).1))
  simp [kidsB,leafK,oneK,h,hne,plainX]
  exact fun y hy=>(hE y hy).2
 refine T.cond (fun h=>?_) (fun _=>T.some no)
 have h:x.kind = 57:=by simpa using h
 by_cases hne:x.kids = []
 ·have c1:((x.kids.length:Int) == 0) = true:=by simp [hne]
  rw [c1]
  exact T.some no
 have c1:((x.kids.length:Int) == 0) = false:=by
  have:0 < x.kids.length:=List.length_pos_iff.2 hne
  exact nbeq (by omega)
 have i1:=idx_last hne (by omega)
 have s1:=sub_last hne (by omega)
 rw [c1,i1,s1,F174k K.hN (by omega) K.nm.1,F174k K.hN (by omega) K.nm.2]
 simp only [cond_false,Option.bind_some]
 have hbm:x.kids.getLast hne ∈ x.kids:=List.getLast_mem hne
 refine T.bind (P:=fun r=>match r with
  | .inl _=>True
  | .inr _=>Only [110,111] x∧nameB (tl x.name) = true∧(strEq x.other (bs []) = true∨nameB (tl x.other) = true)∧okT (x.kids.getLast hne) = true∧(x.kids.getLast hne).kind = 34) ?_ (fun r hr=>?_)
 ·refine (F104_T x [110,111] (by simp) (by omega)).bind fun v o=>T.cond (fun _=>T.some trivial) (fun hv=>?_)
  have hv:v = true:=by simpa using hv
  refine T.cond (fun _=>T.some trivial) (fun hn1=>?_)
  have hn1:nameB (tl x.name) = true:=by simpa using hn1
  refine T.cond (fun _=>?_) (fun hoe=>?_)
  ·refine T.cond (fun _=>T.some trivial) (fun hn2=>?_)
   have hn2:nameB (tl x.other) = true:=by simpa using hn2
   refine ((KC _ hbm).b).bind fun w hw=>?_
   cases w
   ·exact T.some trivial
   ·exact T.some ⟨o hv,hn1,.inr hn2,hw rfl⟩
  ·have hoe:strEq x.other (bs []) = true:=by simpa using hoe
   refine ((KC _ hbm).b).bind fun w hw=>?_
   cases w
   ·exact T.some trivial
   ·exact T.some ⟨o hv,hn1,.inl hoe,hw rfl⟩
 ·cases r with
  | inl _=>exact T.some no
  | inr _ =>
   obtain ⟨o,hn1,hn2,hb1,hb2⟩:=hr
   have hsub:∀ y ∈ x.kids.dropLast,y ∈ x.kids:=fun y hy=>List.dropLast_subset _ hy
   have t:=F105_T K.hN (n:=n) (by omega) (Node.mk 0 (bs []) (bs []) 0 0 0 false x.kids.dropLast 0) 3 (fun y hy=>⟨(K.kids y (hsub y hy)).1,(K.kids y (hsub y hy)).2 n (by omega)⟩) (by simp; omega)
   refine t.bind fun w hw=>T.some fun hb=>?_
   have hE:∀ y ∈ x.kids.dropLast,okT y = true∧y.kind = 58:=fun y hy=>by simpa [Cls] using hw hb y hy
   refine e1 h rfl (okT_mk (fields_of o (by simp [fldGood,h,hn1]; exact hn2) (by simp [h,hasName]) (by simp [h,hasOther]) (by simp) (by simp) (by simp) (by simp)) ?_ ?_)
   ·simp [kidsB,leafK,oneK,h,procK,List.getLast?_eq_some_getLast hne,hb2,kX]
    exact fun y hy=>(hE y hy).2
   ·intro y hy
    rw [← List.dropLast_concat_getLast hne] at hy
    simp only [List.mem_append,List.mem_singleton] at hy
    rcases hy with hy | rfl
    ·exact (hE y hy).1
    ·exact hb1
theorem cl_all {b:Nat} (hb:b≤9223372036854775807):∀ (m:Nat) (x:Node),sz x≤m→sz x≤200→Lim b x→∀ n,b + 300 + 8 * sz x≤n→Cl n x:=by
 intro m
 induction m with
 | zero=>intro x hx; have:=sz_pos x; omega
 | succ m ih =>
  intro x hx h200 hlim n hn
  obtain ⟨_,h1,h2,h3,h4⟩:=hlim
  have hsz:=sz_eq x
  have hlen:=szs_len x.kids
  have hpos:=sz_pos x
  have K:Kids b (b + 300 + 8 * (sz x - 1)) x:=⟨hb,by omega,⟨h1,h2⟩,by omega,fun y hy=>by
   have hys:=szs_mem x.kids y hy
   have hl:=h4 y hy
   refine ⟨?_,fun n' hn'=>ih y (by omega) (by omega) hl n' (by omega)⟩
   cases hl with
   | mk _ a1 a2 _ _=>exact ⟨a1,a2⟩⟩
  exact ⟨expr_T K (by omega),ref_T K (by omega),stmt_T K (by omega),block_T K (by omega),decl_T K (by omega),item_T K (by omega)⟩
end Go.Proofs.YtbecjgckobhmpaaGreatDoor
end
section
namespace Go.Proofs.YtbecjgckobhmpaaGreatDoor
open Go Go.AM Go.Proofs
theorem Lay.nl {o o':Int} {ls:Lines} (h:Lay o ls o'):∀ p ∈ ls,10 ∉ p.2:=by
 induction h with
 | nil o=>intro p hp; cases hp
 | cons hc hd hr ih =>
  intro p hp
  rcases List.mem_cons.1 hp with rfl | hp
  ·exact hc.fine.nl
  ·exact ih p hp
end Go.Proofs.YtbecjgckobhmpaaGreatDoor
end
section
namespace Go.Proofs.YtbecjgckobhmpaaGreatDoor
open Go Go.AM Go.Proofs
end Go.Proofs.YtbecjgckobhmpaaGreatDoor
end
section
namespace Go.Proofs.YtbecjgckobhmpaaGreatDoor
open Go Go.AM Go.Proofs
theorem cat_eq {a b:ByteArray} (h:(tl a).length + (tl b).length≤1000000000000000):catS a b = some (bs (tl a ++ tl b)):=by
 unfold catS
 rw [if_pos (by rw [size_tl,size_tl]; omega)]
 rfl
theorem op_all:([[61,61,62],[124,124],[38,38],[61,61],[33,61],[60],[60,61],[124],[94],[38],[43],[45],[42]]:List Bytes).all (fun l=>F189 (bs l) == some (ruleI (bs l)).2.1 && F131 (bs l) == some ((ruleI (bs l)).2.2.1,(ruleI (bs l)).2.2.2)) = true:=by kernel_rfl
theorem op_eq {s:ByteArray} (h:levelI s≠0):F189 s = some (ruleI s).2.1∧F131 s = some ((ruleI s).2.2.1,(ruleI s).2.2.2):=by
 have:=List.all_eq_true.1 op_all _ (level_cases h)
 rw [bs_tl] at this
 simpa using this
theorem words_ne {l:List Bytes} (h:∀ s ∈ l,s≠[]):wordsL l = joinL [32] l:=by
 unfold wordsL
 rw [List.filter_eq_self.2 (fun s hs=>by have:=h s hs; simpa using this)]
theorem F188_eq {x:Node} (h:x.kind = 5→levelI x.name≠0):F188 x = some (levI x):=by
 unfold F188 levI
 by_cases h5:x.kind = 5
 ·have:=(op_eq (h h5)).1
  simp [h5,this]
 ·have e5:(x.kind == 5) = false:=nbeq h5
  simp only [e5,cond_false,some_cond,bor,Option.bind_some]
theorem okE_op {x:Node} (h:okE x):x.kind = 5→levelI x.name≠0:=fun h5=>by
 have:=(okT_parts h.1).1
 simp [fieldsB,fldGood,h5] at this
 exact this.1
theorem F130_of {x:Node} {n:Nat} (hx:okE x) (h:F80 n x = some (bs (txt x))) (hl:(txt x).length≤100000) (r:Int):F130 (n + 1) x r = some (bs (opd (levI x,txt x) r)):=by
 show F130_step (F130 n) (F80 n) n x r = _
 unfold F130_step
 rw [F188_eq (okE_op hx),h]
 simp only [Option.bind_some,opd]
 cases decide (levI x < r)
 ·rfl
 ·simp only [cond_true]
  rw [cat_eq (by simp [tl_bs]; omega)]
  simp only [Option.bind_some]
  rw [cat_eq (by simp [tl_bs]; omega)]
  simp [tl_bs]
theorem F80_eq:∀ x,okE x→sz x≤200→∀ n,30 + 2 * sz x≤n→F80 n x = some (bs (txt x)):=by
 have len:∀ y,okE y→sz y≤200→(txt y).length≤16000:=fun y hy hs=>by have:=txt_len y hy; omega
 have opl:∀ y (r:Int),okE y→sz y≤200→(opd (levI y,txt y) r).length≤16002:=fun y r hy hs=>by
  have h1:=len y hy hs
  have h2:=opd_len (levI y,txt y) r
  simp at h2
  omega
 have opn:∀ y (r:Int),okE y→opd (levI y,txt y) r≠[]:=fun y r hy=>(opd_GX r (txt_GX y hy)).ne
 apply okE_ind
 ·intro x h hk hn hs n hf
  obtain ⟨n,rfl⟩:∃ m,n = m + 1:=⟨n - 1,by omega⟩
  show F80_step (F130 n) (F80 n) n x = _
  unfold F80_step
  rw [txt_eq]
  simp [h,itoa_eq hn,txtOf]
 ·intro x h hk hn hs n hf
  obtain ⟨n,rfl⟩:∃ m,n = m + 1:=⟨n - 1,by omega⟩
  show F80_step (F130 n) (F80 n) n x = _
  unfold F80_step
  rw [txt_eq]
  simp [h,hk,txtOf,txts,bs_tl]
 ·intro x a h hk hn ha ih hs n hf
  have hsz:sz x = 1 + sz a:=by rw [sz_eq,hk]; simp [szs]
  obtain ⟨n,rfl⟩:∃ m,n = m + 2:=⟨n - 2,by omega⟩
  have ea:=F130_of (n:=n) ha (ih (by omega) n (by omega)) (by have:=len a ha (by omega); omega) 0
  have h1:=opl a 0 ha (by omega)
  have h2:=pathB_len hn
  have i0:idxL x.kids 0 = some a:=idx0 (by simp [hk])
  have c0:((x.kids.length:Int) == 0) = false:=by simp [hk]
  show F80_step (F130 (n + 1)) (F80 (n + 1)) (n + 1) x = _
  unfold F80_step
  rw [txt_eq]
  simp only [h,c0,i0,ea,Int.reduceBEq,cond_true,cond_false,Option.bind_some]
  simp (disch:=(simp only [tl_bs,List.length_append,List.length_cons,List.length_nil]; omega)) only [cat_eq,tl_bs,Option.bind_some]
  simp [txtOf,txts,nth,hk]
 ·intro x a h hk ha ih hs n hf
  have hsz:sz x = 1 + sz a:=by rw [sz_eq,hk]; simp [szs]
  obtain ⟨n,rfl⟩:∃ m,n = m + 2:=⟨n - 2,by omega⟩
  have ea:=F130_of (n:=n) ha (ih (by omega) n (by omega)) (by have:=len a ha (by omega); omega) 0
  have h1:=opl a 0 ha (by omega)
  have i0:idxL x.kids 0 = some a:=idx0 (by simp [hk])
  show F80_step (F130 (n + 1)) (F80 (n + 1)) (n + 1) x = _
  unfold F80_step
  rw [txt_eq]
  simp only [h,i0,ea,Int.reduceBEq,cond_true,cond_false,Option.bind_some]
  simp (disch:=(simp only [tl_bs,List.length_append,List.length_cons,List.length_nil]; omega)) only [cat_eq,tl_bs,Option.bind_some]
  simp [txtOf,txts,nth,hk]
 ·intro x a h hk ha ih hs n hf
  have hsz:sz x = 1 + sz a:=by rw [sz_eq,hk]; simp [szs]
  obtain ⟨n,rfl⟩:∃ m,n = m + 2:=⟨n - 2,by omega⟩
  have ea:=F130_of (n:=n) ha (ih (by omega) n (by omega)) (by have:=len a ha (by omega); omega) 11
  have h1:=opl a 11 ha (by omega)
  have i0:idxL x.kids 0 = some a:=idx0 (by simp [hk])
  show F80_step (F130 (n + 1)) (F80 (n + 1)) (n + 1) x = _
  unfold F80_step
  rw [txt_eq]
  simp only [h,i0,ea,Int.reduceBEq,cond_true,cond_false,Option.bind_some]
  simp (disch:=(simp only [tl_bs,List.length_append,List.length_cons,List.length_nil]; omega)) only [cat_eq,tl_bs,Option.bind_some]
  simp [txtOf,txts,nth,hk]
 ·intro x a b h hk hl ha iha hb ihb hs n hf
  have hsz:sz x = 1 + (sz a + sz b):=by rw [sz_eq,hk]; simp [szs]
  obtain ⟨n,rfl⟩:∃ m,n = m + 2:=⟨n - 2,by omega⟩
  have ea:=F130_of (n:=n) ha (iha (by omega) n (by omega)) (by have:=len a ha (by omega); omega) (ruleI x.name).2.2.1
  have eb:=F130_of (n:=n) hb (ihb (by omega) n (by omega)) (by have:=len b hb (by omega); omega) (ruleI x.name).2.2.2
  have h1:=opl a (ruleI x.name).2.2.1 ha (by omega)
  have h2:=opl b (ruleI x.name).2.2.2 hb (by omega)
  have h3:=level_len hl
  have i0:idxL x.kids 0 = some a:=idx0 (by simp [hk])
  have i1:idxL x.kids 1 = some b:=idx1 (by simp [hk])
  have hw:=words_ne (l:=[opd (levI a,txt a) (ruleI x.name).2.2.1,tl x.name,opd (levI b,txt b) (ruleI x.name).2.2.2]) (by
   simp only [List.mem_cons,List.not_mem_nil,or_false,forall_eq_or_imp,forall_eq]
   exact ⟨opn a _ ha,(op_GX hl).ne,opn b _ hb⟩)
  show F80_step (F130 (n + 1)) (F80 (n + 1)) (n + 1) x = _
  unfold F80_step
  rw [txt_eq]
  simp only [h,i0,i1,(op_eq hl).2,ea,eb,Int.reduceBEq,cond_true,cond_false,Option.bind_some]
  simp (disch:=(simp only [tl_bs,List.length_append,List.length_cons,List.length_nil]; omega)) only [cat_eq,tl_bs,Option.bind_some]
  simp [txtOf,txts,nth,hk,hw,joinL]
 ·intro x a b c h hk ha iha hb ihb hc ihc hs n hf
  have hsz:sz x = 1 + (sz a + (sz b + sz c)):=by rw [sz_eq,hk]; simp [szs]
  obtain ⟨n,rfl⟩:∃ m,n = m + 2:=⟨n - 2,by omega⟩
  have ea:=F130_of (n:=n) ha (iha (by omega) n (by omega)) (by have:=len a ha (by omega); omega) 2
  have eb:=F130_of (n:=n) hb (ihb (by omega) n (by omega)) (by have:=len b hb (by omega); omega) 1
  have ec:=F130_of (n:=n) hc (ihc (by omega) n (by omega)) (by have:=len c hc (by omega); omega) 1
  have h1:=opl a 2 ha (by omega)
  have h2:=opl b 1 hb (by omega)
  have h3:=opl c 1 hc (by omega)
  have i0:idxL x.kids 0 = some a:=idx0 (by simp [hk])
  have i1:idxL x.kids 1 = some b:=idx1 (by simp [hk])
  have i2:idxL x.kids 2 = some c:=idx2 (by simp [hk])
  have hw:=words_ne (l:=[opd (levI a,txt a) 2,[63],opd (levI b,txt b) 1,[58],opd (levI c,txt c) 1]) (by
   simp only [List.mem_cons,List.not_mem_nil,or_false,forall_eq_or_imp,forall_eq]
   exact ⟨opn a _ ha,by simp,opn b _ hb,by simp,opn c _ hc⟩)
  show F80_step (F130 (n + 1)) (F80 (n + 1)) (n + 1) x = _
  unfold F80_step
  rw [txt_eq]
  simp only [h,i0,i1,i2,ea,eb,ec,Int.reduceBEq,cond_true,cond_false,Option.bind_some]
  simp (disch:=(simp only [tl_bs,List.length_append,List.length_cons,List.length_nil]; omega)) only [cat_eq,tl_bs,Option.bind_some]
  simp [txtOf,txts,nth,hk,hw,joinL]
 ·intro x a h hk hnm hn ha ih hs n hf
  have hsz:sz x = 1 + sz a:=by rw [sz_eq,hk]; simp [szs]
  obtain ⟨n,rfl⟩:∃ m,n = m + 2:=⟨n - 2,by omega⟩
  have ea:=F130_of (n:=n) ha (ih (by omega) n (by omega)) (by have:=len a ha (by omega); omega) 0
  have h1:=opl a 0 ha (by omega)
  have h2:=nameB_len hnm
  have h3:=numL_len x.n
  have i0:idxL x.kids 0 = some a:=idx0 (by simp [hk])
  have hw:∀ w:Bytes,w≠[]→wordsL [w,tl x.name,[60],numL x.n,[58],opd (levI a,txt a) 0] = joinL [32] [w,tl x.name,[60],numL x.n,[58],opd (levI a,txt a) 0]:=fun w hw=>words_ne (by
   simp only [List.mem_cons,List.not_mem_nil,or_false,forall_eq_or_imp,forall_eq]
   exact ⟨hw,(name_GX hnm).ne,by simp,(num_GX _).ne,by simp,opn a _ ha⟩)
  show F80_step (F130 (n + 1)) (F80 (n + 1)) (n + 1) x = _
  unfold F80_step
  rw [txt_eq]
  rcases h with h | h
  ·simp only [h,i0,ea,itoa_eq hn,Int.reduceBEq,cond_false,Option.bind_some]
   simp (disch:=(simp only [tl_bs,List.length_append,List.length_cons,List.length_nil]; omega)) only [cat_eq,tl_bs,Option.bind_some]
   simp [txtOf,txts,nth,hk,hw,joinL]
  ·simp only [h,i0,ea,itoa_eq hn,Int.reduceBEq,cond_true,cond_false,Option.bind_some]
   simp (disch:=(simp only [tl_bs,List.length_append,List.length_cons,List.length_nil]; omega)) only [cat_eq,tl_bs,Option.bind_some]
   simp [txtOf,txts,nth,hk,hw,joinL]
end Go.Proofs.YtbecjgckobhmpaaGreatDoor
end
section
namespace Go.Proofs.YtbecjgckobhmpaaGreatDoor
open Go Go.AM Go.Proofs
section
variable {x:Node}
end
end Go.Proofs.YtbecjgckobhmpaaGreatDoor
end
section
namespace Go.Proofs.YtbecjgckobhmpaaGreatDoor
open Go Go.AM Go.Proofs
end Go.Proofs.YtbecjgckobhmpaaGreatDoor
end
section
namespace Go.Proofs.YtbecjgckobhmpaaGreatDoor
open Go Go.AM Go.Proofs
set_option maxRecDepth 100000
theorem F17_all:(fun n=>F17 (n + 120)) = (fun _=>some true):=by kernel_rfl
theorem F17_eq {n:Nat} (hn:120≤n):F17 n = some true:=by
 obtain ⟨m,rfl⟩:∃ m,n = m + 120:=⟨n - 120,by omega⟩
 exact congrFun F17_all m
end Go.Proofs.YtbecjgckobhmpaaGreatDoor
end
section
namespace Go.Proofs.YtbecjgckobhmpaaGreatDoor
open Go Go.AM Go.Proofs
theorem F61_T:∀ (m:Nat) (x:Node),sz x≤m→∀ (lim D:Nat),sz x≤lim→lim≤1500→D≤100→∀ n,2000 + sz x≤n →
  T (F61 n x (lim:Int) (D:Int)) (fun r=>r.2 = decide (dp x≤D)∧(r.2 = true→r.1 = (sz x:Int))):=by
 intro m
 induction m with
 | zero=>intro x hx; have:=sz_pos x; omega
 | succ m ih =>
  intro x hx lim D hlim hl hD n hn
  obtain ⟨n,rfl⟩:∃ k,n = k + 1:=⟨n - 1,by omega⟩
  have hsz:=sz_eq x
  have hdp:=dp_eq x
  have hlen:=szs_len x.kids
  have hpos:=sz_pos x
  show T (F61_step (F61 n) n x (lim:Int) (D:Int)) _
  unfold F61_step
  refine T.cond (fun hc=>T.some ⟨?_,fun h=>by simp at h⟩) (fun hc=>?_)
  ·have hc:D = 0:=by simp at hc; omega
   have:=dp_pos x
   simp
   omega
  have hc:1≤D:=by simp at hc; omega
  refine T.bind (P:=fun r=>match r with | .inl _=>¬ (dp x≤D) | .inr v=>dp x≤D∧v = (sz x:Int)) ?_ (fun r h=>by
   cases r with
   | inl v=>exact T.some ⟨by simpa using h,fun h=>by simp at h⟩
   | inr v=>exact T.some ⟨by simpa using h.1,fun _=>h.2⟩)
  refine iter_inv x.kids (fun (k:Nat) (a:Nat)=>((a:Int),(k:Int))) (fun k a=>a = 1 + szs (x.kids.take k)∧∀ y ∈ x.kids.take k,dp y + 1≤D) _ (fun k a y hy ha=>?_) (fun a ha=>?_) n 1 (by omega) ⟨by simp [szs],by simp⟩
  ·have hlt:=lt_of_get hy
   have hm:=List.mem_of_getElem? hy
   have hys:=szs_mem x.kids y hm
   have htk:=szs_take hy
   have c2:(decide ((k:Int) < (x.kids.length:Int)) && decide ((a:Int)≤(lim:Int))) = true:=by simp; omega
   have e1:w64 ((lim:Int) - (a:Int)) = ((lim - a:Nat):Int):=by rw [w64_id (by omega) (by omega)]; omega
   have e2:w64 ((D:Int) - 1) = ((D - 1:Nat):Int):=by rw [w64_id (by omega) (by omega)]; omega
   obtain ⟨r,hr,hr1,hr2⟩:=ih y (by omega) (lim - a) (D - 1) (by omega) (by omega) (by omega) n (by omega)
   simp only [c2,cond_true,idxL_some hy,Option.bind_some,e1,e2,hr,w64_nat (k:=k) (by omega)]
   cases hb:r.2
   ·right
    refine ⟨_,rfl,?_⟩
    rw [hb] at hr1
    have hr1':¬ (dp y≤D - 1):=by
     have:=hr1.symm
     simpa using this
    have:dp y≤dps x.kids:=(dps_le x.kids (dps x.kids)).1 (Nat.le_refl _) y hm
    show ¬ (dp x≤D)
    omega
   ·left
    have e3:w64 ((a:Int) + r.1) = ((a + sz y:Nat):Int):=by rw [hr2 hb,w64_id (by omega) (by omega)]; omega
    refine ⟨a + sz y,?_,?_,?_⟩
    ·simp only [Bool.not_true,cond_false,e3]
    ·rw [szs_take_succ hy]; omega
    ·intro z hz
     rw [List.take_add_one,hy] at hz
     simp only [List.mem_append,Option.toList_some,List.mem_singleton] at hz
     rcases hz with hz | rfl
     ·exact ha.2 z hz
     ·rw [hb] at hr1
      have:dp z≤D - 1:=by simpa using hr1.symm
      omega
  ·have c2:(decide ((x.kids.length:Int) < (x.kids.length:Int)) && decide ((a:Int)≤(lim:Int))) = false:=by simp
   simp only [c2,cond_false]
   refine ⟨_,rfl,?_,?_⟩
   ·have:dps x.kids≤D - 1:=(dps_le _ _).2 (fun y hy=>by have:=ha.2 y (by simpa using hy); omega)
    omega
   ·rw [ha.1]
    simp only [List.take_length]
    omega
theorem F27_eq (x:Node) (hs:sz x≤200) {n:Nat} (hn:3000≤n):F27 n x = some (decide (dp x≤40)):=by
 obtain ⟨r,hr,h1,h2⟩:=F61_T (sz x) x (Nat.le_refl _) 1500 40 (by omega) (by omega) (by omega) n (by omega)
 unfold F27
 erw [hr]
 simp only [Option.bind_some]
 congr 1
 cases hb:r.2
 ·rw [hb] at h1
  rw [← h1]
  rfl
 ·rw [h2 hb,← h1,hb]
  simp
  omega
theorem F31_T {b:Nat} (hb:b≤9223372036854775807) (x:Node) (hlim:Lim b x) (hs:sz x≤200) {n:Nat} (hn:b + 5000≤n):T (F31 n x) (fun v=>v = true→validB x = true):=by
 unfold F31
 rw [F27_eq x hs (by omega)]
 simp only [Option.bind_some]
 refine T.cond (fun hd=>?_) (fun _=>T.some no)
 refine T.bind (P:=fun v=>v = true→(x.kind == 62 || isE x.kind) = true∧okT x = true) ?_ (fun v hv=>T.some fun h=>?_)
 ·unfold F69
  refine T.cond (fun h=>?_) (fun _=>?_)
  ·have h:x.kind = 62:=by simpa using h
   refine (F104_T x [] (by simp) (by omega)).bind fun v o=>T.cond (fun hv=>?_) (fun _=>T.some no)
   obtain ⟨n,rfl⟩:∃ k,n = k + 2:=⟨n - 2,by omega⟩
   have hlen:=szs_len x.kids
   have hsz:=sz_eq x
   obtain ⟨_,h1,h2,h3,h4⟩:=hlim
   refine (F105_T (N:=b) hb (n:=n) (by omega) x 5 (fun y hy=>?_) (by omega)).bind fun w hw=>T.some fun hb'=>?_
   ·have hys:=szs_mem x.kids y hy
    have hl:=h4 y hy
    refine ⟨?_,cl_all hb (sz y) y (Nat.le_refl _) (by omega) hl n (by omega)⟩
    cases hl with
    | mk _ a1 a2 _ _=>exact ⟨a1,a2⟩
   ·have hE:∀ y ∈ x.kids,okT y = true∧isItm y.kind = true:=fun y hy=>by simpa [Cls] using hw hb' y hy
    refine ⟨by simp [h],okT_mk (fields_of (o hv) (by simp [fldGood,h]) (by simp) (by simp) (by simp) (by simp) (by simp) (by simp)) ?_ (fun y hy=>(hE y hy).1)⟩
    simp [kidsB,leafK,oneK,h]
    exact fun y hy=>(hE y hy).2
  ·refine ((cl_all hb (sz x) x (Nat.le_refl _) hs hlim n (by omega)).e).bind fun v hv=>T.some fun h=>?_
   obtain ⟨h1,h2⟩:=hv h
   exact ⟨by simp [h2],h1⟩
 ·obtain ⟨h1,h2⟩:=hv h
  simp [validB,h2,hd]
  simpa using h1
theorem F78_T2 {s:ByteArray} {n:Nat} (hn:5000≤n):T (F78 n s) (fun r=>r.2 = 0→r.1 = s∧∃ q,F39 n s = some q∧q.2.1 = 0):=by
 unfold F78
 obtain ⟨q,hq,_⟩:=F39_T (s:=s) hn
 rw [hq]
 simp only [Option.bind_some]
 refine T.cond (fun _=>T.some (fun h=>by simp at h)) (fun h=>T.some fun _=>⟨rfl,q,rfl,by simpa using h⟩)
end Go.Proofs.YtbecjgckobhmpaaGreatDoor
end
section
namespace Go.Proofs.YtbecjgckobhmpaaGreatDoor
open Go Go.AM Go.Proofs
def ltr (b:UInt8):Bool:=(decide (65≤b.toNat) && decide (b.toNat≤90)) || (decide (97≤b.toNat) && decide (b.toNat≤122))
def dgt (b:UInt8):Bool:=decide (48≤b.toNat) && decide (b.toNat≤57)
def wrd (b:UInt8):Bool:=ltr b || (dgt b || b.toNat == 95)
def wht (b:UInt8):Bool:=b.toNat == 32 || (b.toNat == 9 || (b.toNat == 10 || b.toNat == 13))
def nol (b:UInt8):Bool:=b.toNat != 10
def two (l:List UInt8):Bool:=([47,47]:List UInt8).isPrefixOf l
def skp:Bool→List UInt8→List UInt8
 | _,[]=>[]
 | true,b :: l=>if nol b then skp true l else skp false l
 | false,b :: l=>if wht b then skp false l else if two (b :: l) then skp true l else b :: l
theorem skp_nil (c:Bool):skp c [] = []:=by cases c <;> rfl
theorem skp_wht:∀ l,skp false l = skp false (l.dropWhile wht)
 | []=>rfl
 | b :: l=>by
  rw [List.dropWhile_cons]
  split
  ·rename_i h
   simp only [skp,h,if_true]
   exact skp_wht l
  ·rfl
theorem wht_nol {b:UInt8} (h:¬ nol b = true):wht b = true:=by
 simp [nol] at h
 simp [wht,h]
theorem skp_cmt:∀ l,skp true l = skp false (l.dropWhile nol)
 | []=>rfl
 | b :: l=>by
  rw [List.dropWhile_cons]
  split
  ·rename_i h
   simp only [skp,h,if_true]
   exact skp_cmt l
  ·rename_i h
   simp only [skp,wht_nol h,if_true]
   rw [if_neg h]
theorem two_cons {b:UInt8} {l:List UInt8} (h:two (b :: l) = true):b = 47:=by
 simp [two,List.isPrefixOf] at h
 exact h.1.symm
theorem skp_two:∀ l,two l = true→skp false l = skp false (l.dropWhile nol)
 | [],h=>by simp [two] at h
 | b :: l,h=>by
  have hb:=two_cons h
  subst hb
  have h1:wht 47 = false:=by decide
  have h2:nol 47 = true:=by decide
  rw [List.dropWhile_cons,if_pos h2,← skp_cmt]
  simp [skp,h1,h]
theorem skp_fix:∀ l,l.takeWhile wht = []→two l = false→skp false l = l
 | [],_,_=>rfl
 | b :: l,h1,h2=>by
  rw [List.takeWhile_cons] at h1
  split at h1
  ·cases h1
  ·rename_i h
   simp only [skp,h2]
   rw [if_neg h]
   rfl
theorem skp_suf:∀ (l:List UInt8) (c:Bool),∃ p,l = p ++ skp c l
 | [],c=>⟨[],by rw [skp_nil]; rfl⟩
 | b :: l,true=>by
  simp only [skp]
  split
  ·obtain ⟨p,hp⟩:=skp_suf l true
   exact ⟨b :: p,by rw [List.cons_append,← hp]⟩
  ·obtain ⟨p,hp⟩:=skp_suf l false
   exact ⟨b :: p,by rw [List.cons_append,← hp]⟩
 | b :: l,false=>by
  simp only [skp]
  split
  ·obtain ⟨p,hp⟩:=skp_suf l false
   exact ⟨b :: p,by rw [List.cons_append,← hp]⟩
  ·split
   ·obtain ⟨p,hp⟩:=skp_suf l true
    exact ⟨b :: p,by rw [List.cons_append,← hp]⟩
   ·exact ⟨[],rfl⟩
theorem skp_len (c:Bool) (l:List UInt8):(skp c l).length≤l.length:=by
 obtain ⟨p,hp⟩:=skp_suf l c
 have:=congrArg List.length hp
 rw [List.length_append] at this
 omega
theorem take_tw {α:Type} (p:α→Bool):∀ l:List α,l.take (l.takeWhile p).length = l.takeWhile p
 | []=>rfl
 | b :: l=>by
  rw [List.takeWhile_cons]
  split
  ·rw [List.length_cons,List.take_succ_cons,take_tw p l]
  ·rfl
theorem drop_tw {α:Type} (p:α→Bool):∀ l:List α,l.drop (l.takeWhile p).length = l.dropWhile p
 | []=>rfl
 | b :: l=>by
  rw [List.takeWhile_cons,List.dropWhile_cons]
  split
  ·rw [List.length_cons,List.drop_succ_cons,drop_tw p l]
  ·rfl
theorem mem_tw {α:Type} {p:α→Bool} {y:α}:∀ {l:List α},y ∈ l.takeWhile p→p y = true
 | [],h=>by cases h
 | b :: l,h=>by
  rw [List.takeWhile_cons] at h
  split at h
  ·rename_i hb
   rcases List.mem_cons.1 h with rfl | h
   ·exact hb
   ·exact mem_tw h
  ·cases h
theorem len_tw {α:Type} (p:α→Bool) (l:List α):(l.takeWhile p).length≤l.length:=by
 have:=congrArg List.length (List.takeWhile_append_dropWhile (p:=p) (l:=l))
 rw [List.length_append] at this
 omega
theorem tw_app {α:Type} {p:α→Bool} {b:List α}:∀ {l:List α},(∃ y ∈ l,p y = false)→(l ++ b).takeWhile p = l.takeWhile p∧(l ++ b).dropWhile p = l.dropWhile p ++ b∧l.dropWhile p≠[]
 | [],h=>by obtain ⟨y,hy,_⟩:=h; cases hy
 | x :: l,h=>by
  rw [List.cons_append,List.takeWhile_cons,List.takeWhile_cons,List.dropWhile_cons,List.dropWhile_cons]
  split
  ·rename_i hx
   obtain ⟨y,hy,h1⟩:=h
   rcases List.mem_cons.1 hy with rfl | hy
   ·rw [hx] at h1; cases h1
   ·obtain ⟨e1,e2,e3⟩:=tw_app (b:=b) ⟨y,hy,h1⟩
    exact ⟨by rw [e1],e2,e3⟩
  ·exact ⟨rfl,rfl,by simp⟩
def symL:List (List UInt8):=[[61,61,62],[61,61],[58,61],[33,61],[60,61],[38,38],[124,124],[123],[125],[40],[41],[91],[93],[59],[58],[44],[46],[63],[61],[33],[60],[38],[124],[94],[43],[45],[42]]
theorem symL_ok:∀ t ∈ symL,1≤t.length∧t.length≤3∧∀ y ∈ t,y≠10:=by decide
def numOk (b:UInt8) (l:List UInt8):Bool :=
 decide ((l.takeWhile dgt).length≤9) && (((b.toNat != 48) || (l.takeWhile dgt).length == 1) && (l.dropWhile dgt).head?.all (fun c=>!wrd c))
def tokL:List UInt8→Option (Nat × Nat)
 | []=>none
 | b :: l =>
  bif ltr b then (bif decide (((b :: l).takeWhile wrd).length≤16) then some (1,((b :: l).takeWhile wrd).length) else none)
  else bif dgt b then (bif numOk b (b :: l) then some (2,((b :: l).takeWhile dgt).length) else none)
  else (symL.find? (fun t=>t.isPrefixOf (b :: l))).map fun t=>(3,t.length)
theorem tokL_cons (b:UInt8) (l:List UInt8):tokL (b :: l) =
  (bif ltr b then (bif decide (((b :: l).takeWhile wrd).length≤16) then some (1,((b :: l).takeWhile wrd).length) else none)
  else bif dgt b then (bif numOk b (b :: l) then some (2,((b :: l).takeWhile dgt).length) else none)
  else (symL.find? (fun t=>t.isPrefixOf (b :: l))).map fun t=>(3,t.length)):=rfl
theorem tokL_spec {l:List UInt8} {k m:Nat} (h:tokL l = some (k,m)):1≤m∧m≤l.length∧(∀ y ∈ l.take m,y≠10)∧1≤k∧k≤3:=by
 cases l with
 | nil=>cases h
 | cons b l =>
  rw [tokL_cons] at h
  cases h1:ltr b
  ·rw [h1,cond_false] at h
   cases h2:dgt b
   ·rw [h2,cond_false] at h
    cases h3:symL.find? (fun t=>t.isPrefixOf (b :: l)) with
    | none=>rw [h3] at h; cases h
    | some t =>
     rw [h3] at h
     simp only [Option.map_some,Option.some.injEq,Prod.mk.injEq] at h
     obtain ⟨rfl,rfl⟩:=h
     have hm:=List.mem_of_find?_eq_some h3
     have hp:=List.find?_some h3
     obtain ⟨r,hr⟩:=List.isPrefixOf_iff_prefix.1 hp
     have hs:=symL_ok t hm
     rw [← hr]
     refine ⟨hs.1,by rw [List.length_append]; omega,?_,by omega,by omega⟩
     rw [List.take_left]
     exact hs.2.2
   ·rw [h2,cond_true] at h
    cases h3:numOk b (b :: l)
    ·rw [h3] at h; cases h
    ·rw [h3,cond_true] at h
     simp only [Option.some.injEq,Prod.mk.injEq] at h
     obtain ⟨rfl,rfl⟩:=h
     refine ⟨?_,len_tw _ _,?_,by omega,by omega⟩
     ·rw [List.takeWhile_cons,if_pos h2]; simp
     ·rw [take_tw]
      intro y hy e
      subst e
      have:=mem_tw hy
      revert this
      decide
  ·rw [h1,cond_true] at h
   cases h3:decide (((b :: l).takeWhile wrd).length≤16)
   ·rw [h3] at h; cases h
   ·rw [h3,cond_true] at h
    simp only [Option.some.injEq,Prod.mk.injEq] at h
    obtain ⟨rfl,rfl⟩:=h
    refine ⟨?_,len_tw _ _,?_,by omega,by omega⟩
    ·rw [List.takeWhile_cons,if_pos (by simp [wrd,h1])]; simp
    ·rw [take_tw]
     intro y hy e
     subst e
     have:=mem_tw hy
     revert this
     decide
theorem find_congr {α:Type} {p q:α→Bool}:∀ {S:List α},(∀ t ∈ S,p t = q t)→S.find? p = S.find? q
 | [],_=>rfl
 | x :: S,h=>by
  rw [List.find?_cons,List.find?_cons,h x (List.mem_cons_self ..),find_congr fun t ht=>h t (List.mem_cons_of_mem _ ht)]
theorem pre_app {t l b:List UInt8} (h10:(10:UInt8) ∈ l) (ht:∀ y ∈ t,y≠10):t.isPrefixOf (l ++ b) = t.isPrefixOf l:=by
 rw [Bool.eq_iff_iff,List.isPrefixOf_iff_prefix,List.isPrefixOf_iff_prefix]
 constructor
 ·intro h
  by_cases hl:t.length≤l.length
  ·exact List.prefix_of_prefix_length_le h (List.prefix_append l b) hl
  ·have h2:l <+: t:=List.prefix_of_prefix_length_le (List.prefix_append l b) h (by omega)
   exact absurd rfl (ht 10 (h2.subset h10))
 ·exact fun h=>h.trans (List.prefix_append l b)
theorem tokL_app {l b:List UInt8} (h10:(10:UInt8) ∈ l):tokL (l ++ b) = tokL l:=by
 cases l with
 | nil=>cases h10
 | cons x r =>
  have e1:=tw_app (p:=wrd) (b:=b) (l:=x :: r) ⟨10,h10,by decide⟩
  have e2:=tw_app (p:=dgt) (b:=b) (l:=x :: r) ⟨10,h10,by decide⟩
  have e3:symL.find? (fun t=>t.isPrefixOf (x :: r ++ b)) = symL.find? (fun t=>t.isPrefixOf (x :: r)) :=
   find_congr fun t ht=>pre_app h10 (symL_ok t ht).2.2
  have e4:numOk x (x :: r ++ b) = numOk x (x :: r):=by
   unfold numOk
   rw [e2.1,e2.2.1]
   cases hd:(x :: r).dropWhile dgt with
   | nil=>exact absurd hd e2.2.2
   | cons y z=>rfl
  show (bif ltr x then (bif decide (((x :: r ++ b).takeWhile wrd).length≤16) then some (1,((x :: r ++ b).takeWhile wrd).length) else none)
   else bif dgt x then (bif numOk x (x :: r ++ b) then some (2,((x :: r ++ b).takeWhile dgt).length) else none)
   else (symL.find? (fun t=>t.isPrefixOf (x :: r ++ b))).map fun t=>(3,t.length)) = _
  rw [e1.1,e2.1,e3,e4]
  rfl
theorem skp_app:∀ (l:List UInt8) (c:Bool) (b:List UInt8),(l.getLast? = some 10∨(l = []∧c = false))→skp c (l ++ b) = bif (skp c l).isEmpty then skp false b else skp c l ++ b
 | [],c,b,h=>by
  rcases h with h | ⟨_,rfl⟩
  ·cases h
  ·rfl
 | x :: l,c,b,h=>by
  have hx:(x :: l).getLast? = some 10:=by
   rcases h with h | ⟨h,_⟩
   ·exact h
   ·cases h
  rw [List.cons_append]
  cases l with
  | nil =>
   have:x = 10:=by simpa using hx
   subst this
   have h1:wht 10 = true:=by decide
   have h2:nol 10 = false:=by decide
   cases c <;> simp [skp,h1,h2]
  | cons y l =>
   have hl:(y :: l).getLast? = some 10:=by rw [List.getLast?_cons_cons] at hx; exact hx
   have i1:=skp_app (y :: l) true b (.inl hl)
   have i2:=skp_app (y :: l) false b (.inl hl)
   have h2:two (x :: (y :: l ++ b)) = two (x :: y :: l):=by simp [two,List.isPrefixOf]
   cases c
   ·rw [skp,skp,h2]
    split
    ·exact i2
    ·split
     ·exact i1
     ·rfl
   ·rw [skp,skp]
    split
    ·exact i1
    ·exact i2
def consT (t:Token):List Token ⊕ (Int × Int)→List Token ⊕ (Int × Int)
 | .inl ts=>.inl (t :: ts)
 | .inr e=>.inr e
def appT (t:List Token):List Token ⊕ (Int × Int)→List Token ⊕ (Int × Int)
 | .inl ts=>.inl (t ++ ts)
 | .inr e=>.inr e
def lexS (N:Nat) (g:List UInt8→List Token ⊕ (Int × Int)) (c:Nat):List UInt8→List Token ⊕ (Int × Int)
 | []=>.inl []
 | b :: r=>if c = 1500 then .inr (2,((N - (b :: r).length:Nat):Int)) else
  match tokL (b :: r) with
  | none=>.inr (10,((N - (b :: r).length:Nat):Int))
  | some km=>consT ⟨(km.1:Int),bs ((b :: r).take km.2),((N - (b :: r).length:Nat):Int)⟩ (g ((b :: r).drop km.2))
def lexG (N:Nat):Nat→Nat→List UInt8→List Token ⊕ (Int × Int)
 | 0,_,_=>.inl []
 | f + 1,c,l=>lexS N (lexG N f (c + 1)) c (skp false l)
theorem lexG_fuel (N:Nat):∀ (f f' c:Nat) (l:List UInt8),l.length < f→l.length < f'→lexG N f c l = lexG N f' c l:=by
 intro f
 induction f with
 | zero=>intro f' c l h; omega
 | succ f ih =>
  intro f' c l h h'
  cases f' with
  | zero=>omega
  | succ f' =>
   simp only [lexG]
   have hk:=skp_len false l
   cases hs:skp false l with
   | nil=>rfl
   | cons b r =>
    rw [hs] at hk
    simp only [lexS]
    split
    ·rfl
    ·cases ht:tokL (b :: r) with
     | none=>rfl
     | some km =>
      have hm:=tokL_spec ht
      simp only
      have hd:=List.length_drop (i:=km.2) (l:=b :: r)
      rw [ih f' (c + 1) _ (by omega) (by omega)]
theorem last_drop {l:List UInt8} {m:Nat} (h:l.getLast? = some 10) (hm:m < l.length):(l.drop m).getLast? = some 10:=by
 rw [List.getLast?_drop,if_neg (by omega)]
 exact h
theorem mem_of_last {l:List UInt8} (h:l.getLast? = some 10):(10:UInt8) ∈ l:=List.mem_of_getLast? h
theorem lexG_app (N:Nat) (b:List UInt8) {f2:Nat} (hf2:b.length < f2):∀ (f f0 c:Nat) (l:List UInt8),(l = []∨l.getLast? = some 10)→l.length < f→(l ++ b).length < f0 →
  lexG N f0 c (l ++ b) = match lexG (N - b.length) f c l with
   | .inr e=>.inr e
   | .inl ts=>appT ts (lexG N f2 (c + ts.length) b):=by
 intro f
 induction f with
 | zero=>intro f0 c l _ h; omega
 | succ f ih =>
  intro f0 c l hl h h0
  cases f0 with
  | zero=>omega
  | succ f0 =>
   rw [List.length_append] at h0
   have hk:=skp_len false l
   have ha:=skp_app l false b (by
    rcases hl with h | h
    ·exact .inr ⟨h,rfl⟩
    ·exact .inl h)
   cases hs:skp false l with
   | nil =>
    rw [hs] at ha
    have ha':skp false (l ++ b) = skp false b:=ha
    have e1:lexG N (f0 + 1) c (l ++ b) = lexG N f2 c b:=by
     rw [← lexG_fuel N (f0 + 1) f2 c b (by omega) hf2]
     simp only [lexG,ha']
    rw [e1]
    simp only [lexG,hs,lexS,List.length_nil,Nat.add_zero]
    cases lexG N f2 c b <;> rfl
   | cons x r =>
    rw [hs] at ha hk
    have ha':skp false (l ++ b) = x :: (r ++ b):=ha
    have hlast:(x :: r).getLast? = some 10:=by
     obtain ⟨p,hp⟩:=skp_suf l false
     rw [hs] at hp
     rcases hl with rfl | hl
     ·rw [skp_nil] at hs; cases hs
     ·rw [hp,List.getLast?_append] at hl
      cases hg:(x :: r).getLast? with
      | none=>simp at hg
      | some v=>rw [hg] at hl; exact hl
    have ht:=tokL_app (b:=b) (mem_of_last hlast)
    rw [List.cons_append] at ht
    have hpos:N - (x :: (r ++ b)).length = N - b.length - (x :: r).length:=by
     simp only [List.length_cons,List.length_append]; omega
    simp only [lexG,ha',hs,lexS,ht,hpos]
    by_cases hc:c = 1500
    ·simp only [if_pos hc]
    ·simp only [if_neg hc]
     cases htk:tokL (x :: r) with
     | none=>rfl
     | some km =>
      have hm:=tokL_spec htk
      have hlt:km.2 < (x :: r).length:=by
       rcases Nat.lt_or_ge km.2 (x :: r).length with h | h
       ·exact h
       ·exact absurd rfl (hm.2.2.1 10 (by rw [List.take_of_length_le h]; exact mem_of_last hlast))
      have ed:(x :: (r ++ b)).drop km.2 = (x :: r).drop km.2 ++ b:=by
       rw [← List.cons_append,List.drop_append_of_le_length (by omega)]
      have et:(x :: (r ++ b)).take km.2 = (x :: r).take km.2:=by
       rw [← List.cons_append,List.take_append_of_le_length (by omega)]
      have hd:=List.length_drop (i:=km.2) (l:=x :: r)
      have i:=ih f0 (c + 1) ((x :: r).drop km.2) (.inr (last_drop hlast hlt)) (by omega) (by rw [List.length_append]; omega)
      simp only [ed,et,i]
      cases lexG (N - b.length) f (c + 1) ((x :: r).drop km.2) with
      | inr e=>rfl
      | inl ts =>
       simp only [consT,List.length_cons]
       rw [show c + 1 + ts.length = c + (ts.length + 1) by omega]
       cases lexG N f2 (c + (ts.length + 1)) b <;> rfl
theorem lexG_low {N N':Nat}:∀ {f c c':Nat} {l:List UInt8} {ts:List Token},lexG N f c l = .inl ts→c'≤c→c≤1500→∃ ts',lexG N' f c' l = .inl ts'
 | 0,_,_,_,_,_,_,_=>⟨[],rfl⟩
 | f + 1,c,c',l,ts,h,h1,h2=>by
  simp only [lexG] at h ⊢
  cases hs:skp false l with
  | nil=>exact ⟨[],rfl⟩
  | cons b r =>
   rw [hs] at h
   simp only [lexS] at h ⊢
   by_cases hc:c = 1500
   ·rw [if_pos hc] at h; cases h
   ·rw [if_neg hc] at h
    rw [if_neg (by omega)]
    cases ht:tokL (b :: r) with
    | none=>rw [ht] at h; cases h
    | some km =>
     rw [ht] at h
     simp only at h ⊢
     cases hg:lexG N f (c + 1) ((b :: r).drop km.2) with
     | inr e=>rw [hg] at h; cases h
     | inl us =>
      obtain ⟨vs,hv⟩:=lexG_low (N':=N') hg (show c' + 1≤c + 1 by omega) (by omega)
      rw [hv]
      exact ⟨_,rfl⟩
end Go.Proofs.YtbecjgckobhmpaaGreatDoor
end
section
namespace Go.Proofs.YtbecjgckobhmpaaGreatDoor
open Go Go.AM Go.Proofs
theorem iter_T {ρ σ:Type} {step:σ→Option (σ ⊕ ρ)} (I:σ→Prop) (m:σ→Nat) (Q:ρ→Prop)
  (h:∀ s,I s→T (step s) (fun r=>match r with | .inl s'=>I s'∧m s' < m s | .inr r=>Q r))
  (n:Nat) (s:σ) (hn:m s < n) (hi:I s):T (iter step n s) Q :=
 iter_meas I m Q (fun s hs=>by
  obtain ⟨r,hr,hq⟩:=h s hs
  cases r with
  | inl s'=>exact .inl ⟨s',hr,hq.1,hq.2⟩
  | inr r=>exact .inr ⟨r,hr,hq⟩) n s hn hi
theorem T.eq {α:Type} {o:Option α} {v:α} (h:T o (fun e=>e = v)):o = Option.some v:=by
 obtain ⟨r,hr,rfl⟩:=h
 exact hr
theorem get_drop {α:Type} {L:List α} {k:Nat} {b:α} (h:L[k]? = some b):L.drop k = b :: L.drop (k + 1):=by
 obtain ⟨hk,rfl⟩:=List.getElem?_eq_some_iff.1 h
 exact List.drop_eq_getElem_cons hk
theorem get_of_drop {α:Type} {L r:List α} {k:Nat} {b:α} (h:L.drop k = b :: r):L[k]? = some b:=by
 rw [← List.head?_drop,h]
 rfl
theorem take_T {L:List UInt8} {step:Int→Option (Int ⊕ Int)} (q:UInt8→Bool)
  (h1:∀ (k:Nat) b,L[k]? = some b→step (k:Int) = some (if q b = true then .inl ((k + 1:Nat):Int) else .inr (k:Int)))
  (h2:step (L.length:Int) = some (.inr (L.length:Int))) {n a:Nat} (ha:a≤L.length) (hn:L.length < n) :
  T (iter step n (a:Int)) (fun e=>e = ((a + ((L.drop a).takeWhile q).length:Nat):Int)):=by
 have key:∀ (j a n:Nat),a + j = L.length→j < n→iter step n (a:Int) = some (((a + ((L.drop a).takeWhile q).length:Nat):Int)):=by
  intro j
  induction j with
  | zero =>
   intro a n h hn
   have:a = L.length:=by omega
   subst this
   cases n with
   | zero=>omega
   | succ n=>simp only [iter,h2,List.drop_length,List.takeWhile_nil,List.length_nil,Nat.add_zero]
  | succ j ih =>
   intro a n h hn
   have hlt:a < L.length:=by omega
   have hg:=List.getElem?_eq_getElem hlt
   cases n with
   | zero=>omega
   | succ n =>
    rw [get_drop hg,List.takeWhile_cons]
    cases hq:q L[a]
    ·simp [iter,h1 a _ hg,hq]
    ·simp only [iter,h1 a _ hg,hq,if_true]
     rw [ih (a + 1) n (by omega) (by omega)]
     have:a + 1 + ((L.drop (a + 1)).takeWhile q).length = a + (L[a] :: (L.drop (a + 1)).takeWhile q).length:=by
      simp only [List.length_cons]; omega
     rw [this]
 exact ⟨_,key (L.length - a) a n (by omega) (by omega),rfl⟩
variable {s:ByteArray} {n:Nat}
theorem i_eq (m c:Nat):((m:Int) == (c:Int)) = (m == c):=by
 rw [Bool.eq_iff_iff]
 simp only [beq_iff_eq]
 omega
theorem i_le (m c:Nat):decide ((m:Int)≤(c:Int)) = decide (m≤c):=by rw [decide_eq_decide]; omega
theorem F136_eq {k:Nat} {b:UInt8} (hb:(tl s)[k]? = some b):F136 s k = some (wht b):=by
 unfold F136
 rw [idxS_some hb]
 have e1:((b.toNat:Int) == 32) = (b.toNat == 32):=i_eq _ 32
 have e2:((b.toNat:Int) == 9) = (b.toNat == 9):=i_eq _ 9
 have e3:((b.toNat:Int) == 10) = (b.toNat == 10):=i_eq _ 10
 have e4:((b.toNat:Int) == 13) = (b.toNat == 13):=i_eq _ 13
 simp only [Option.bind_some,e1,e2,e3,e4]
 unfold wht
 cases b.toNat == 32 <;> cases b.toNat == 9 <;> cases b.toNat == 10 <;> cases b.toNat == 13 <;> rfl
theorem F138_eq {k:Nat} {b:UInt8} (hb:(tl s)[k]? = some b):F138 s k = some (nol b):=by
 unfold F138
 rw [idxS_some hb]
 have e3:((b.toNat:Int) == 10) = (b.toNat == 10):=i_eq _ 10
 simp only [Option.bind_some,bne,e3,nol]
theorem F139_eq (b:UInt8):F139 (b.toNat:Int) = some (ltr b):=by
 unfold F139 ltr
 have e1:decide (65≤(b.toNat:Int)) = decide (65≤b.toNat):=i_le 65 _
 have e2:decide ((b.toNat:Int)≤90) = decide (b.toNat≤90):=i_le _ 90
 have e3:decide (97≤(b.toNat:Int)) = decide (97≤b.toNat):=i_le 97 _
 have e4:decide ((b.toNat:Int)≤122) = decide (b.toNat≤122):=i_le _ 122
 rw [e1,e2,e3,e4]
theorem F141_eq {k:Nat} {b:UInt8} (hb:(tl s)[k]? = some b):F141 s k = some (dgt b):=by
 unfold F141 dgt
 rw [idxS_some hb]
 have e1:decide (48≤(b.toNat:Int)) = decide (48≤b.toNat):=i_le 48 _
 have e2:decide ((b.toNat:Int)≤57) = decide (b.toNat≤57):=i_le _ 57
 simp only [Option.bind_some,e1,e2]
 cases decide (48≤b.toNat) <;> rfl
theorem F140_eq {k:Nat} {b:UInt8} (hb:(tl s)[k]? = some b):F140 s k = some (wrd b):=by
 unfold F140 wrd
 have e1:((b.toNat:Int) == 95) = (b.toNat == 95):=i_eq _ 95
 rw [idxS_some hb]
 simp only [Option.bind_some,F139_eq,F141_eq hb,e1]
 cases ltr b <;> cases dgt b <;> rfl
theorem run_eq {p:Int→Option Bool} {q:UInt8→Bool} (hp:∀ (k:Nat) b,(tl s)[k]? = some b→p (k:Int) = some (q b)) (hs:s.size≤4000) (hn:5000≤n) {a:Nat} (ha:a≤(tl s).length) :
  ((iter (σ:=Int) (ρ:=Int) (fun s1=>bif decide (s1 < (s.size:Int)) then ((p s1).bind fun x3=>bif x3 then (some (.inl (w64 (s1 + 1)))) else (some (.inr s1))) else (some (.inr s1))) n (a:Int)).bind fun r5=>some r5)
   = some ((a + (((tl s).drop a).takeWhile q).length:Nat):Int):=by
 have hz:=size_tl s
 apply T.eq
 refine T.bind (take_T (L:=tl s) q (fun k b hb=>?_) ?_ ha (by omega)) fun e he=>T.some he
 ·have hk:=lt_of_get hb
  have c:decide ((k:Int) < (s.size:Int)) = true:=by rw [hz]; simp; omega
  rw [c,hp k b hb,w64_nat (by omega)]
  cases q b <;> rfl
 ·have c:decide (((tl s).length:Int) < (s.size:Int)) = false:=by rw [hz]; simp
  rw [c]
  rfl
theorem F135_eq (hs:s.size≤4000) (hn:5000≤n) {a:Nat} (ha:a≤(tl s).length):F135 n s a s = some ((a + (((tl s).drop a).takeWhile wrd).length:Nat):Int):=by
 unfold F135
 exact run_eq (fun k b h=>F140_eq h) hs hn ha
theorem F135_1_eq (hs:s.size≤4000) (hn:5000≤n) {a:Nat} (ha:a≤(tl s).length):F135_1 n s a s = some ((a + (((tl s).drop a).takeWhile dgt).length:Nat):Int):=by
 unfold F135_1
 exact run_eq (fun k b h=>F141_eq h) hs hn ha
theorem F135_2_eq (hs:s.size≤4000) (hn:5000≤n) {a:Nat} (ha:a≤(tl s).length):F135_2 n s a s = some ((a + (((tl s).drop a).takeWhile wht).length:Nat):Int):=by
 unfold F135_2
 exact run_eq (fun k b h=>F136_eq h) hs hn ha
theorem F135_3_eq (hs:s.size≤4000) (hn:5000≤n) {a:Nat} (ha:a≤(tl s).length):F135_3 n s a s = some ((a + (((tl s).drop a).takeWhile nol).length:Nat):Int):=by
 unfold F135_3
 exact run_eq (fun k b h=>F138_eq h) hs hn ha
theorem pre_take (t l:List UInt8):(l.take t.length == t) = t.isPrefixOf l:=by
 rw [Bool.eq_iff_iff,List.isPrefixOf_iff_prefix,List.prefix_iff_eq_take,beq_iff_eq]
 exact eq_comm
theorem F137_eq (l:List UInt8):F137 (bs l) (bs [47,47]) = some (two l):=by
 unfold F137 F192
 have e0:((bs [47,47]).size:Int) = ((2:Nat):Int):=rfl
 have e1:((bs l).size:Int) = (l.length:Int):=rfl
 rw [e0,e1]
 by_cases h:2≤l.length
 ·have c:decide (((2:Nat):Int)≤(l.length:Int)) = true:=by simp; omega
  have e:=subS_eq (s:=bs l) (a:=0) (b:=2) (by omega) (by rw [tl_bs]; exact h)
  rw [c,cond_true]
  erw [e]
  simp only [Option.bind_some,tl_bs,List.drop_zero]
  exact congrArg some (pre_take [47,47] l)
 ·have c:decide (((2:Nat):Int)≤(l.length:Int)) = false:=by simp; omega
  rw [c]
  have:two l = false:=by
   rw [two,← pre_take]
   rw [beq_eq_false_iff_ne]
   intro e
   have:=congrArg List.length e
   rw [List.length_take] at this
   simp at this
   omega
  rw [this]
  rfl
theorem drop_step {L:List UInt8} {k:Nat} (q:UInt8→Bool) (hk:k≤L.length):k + ((L.drop k).takeWhile q).length≤L.length∧L.drop (k + ((L.drop k).takeWhile q).length) = (L.drop k).dropWhile q:=by
 constructor
 ·have:=len_tw q (L.drop k)
  rw [List.length_drop] at this
  omega
 ·rw [← List.drop_drop,drop_tw]
theorem F86_eq (hs:s.size≤4000) (hn:5000≤n) {a:Nat} (ha:a≤(tl s).length):F86 n s a = some (((tl s).length - (skp false ((tl s).drop a)).length:Nat):Int):=by
 have hz:=size_tl s
 apply T.eq
 unfold F86
 refine T.bind (P:=fun e=>e = (((tl s).length - (skp false ((tl s).drop a)).length:Nat):Int)) ?_ (fun _ h=>T.some h)
 refine iter_T (fun e=>∃ k:Nat,e = (k:Int)∧k≤(tl s).length∧skp false ((tl s).drop k) = skp false ((tl s).drop a)) (fun e=>((tl s).length - e.toNat)) _ (fun e he=>?_) n a (by omega) ⟨a,rfl,ha,rfl⟩
 obtain ⟨k,rfl,hk,hsk⟩:=he
 obtain ⟨hk2l,hd2⟩:=drop_step wht hk
 have h0:((tl s).drop k).takeWhile wht = [] ↔ (((tl s).drop k).takeWhile wht).length = 0:=List.length_eq_zero_iff.symm
 rw [F135_2_eq hs hn hk]
 simp only [Option.bind_some]
 generalize hk2:k + (((tl s).drop k).takeWhile wht).length = k2 at hk2l hd2
 have es:subS s (k2:Int) (s.size:Int) = some (bs ((tl s).drop k2)):=by
  rw [hz,subS_eq hk2l (Nat.le_refl _),List.take_of_length_le (by rw [List.length_drop]; omega)]
 rw [es]
 simp only [Option.bind_some,F137_eq]
 cases h2:two ((tl s).drop k2)
 ·simp only [cond_false,Option.bind_some]
  cases he:((k2:Int) == (k:Int))
  ·have ne:k2≠k:=by rw [i_eq] at he; simpa using he
   refine T.some ⟨⟨k2,rfl,hk2l,by rw [hd2,← skp_wht,hsk]⟩,?_⟩
   show (tl s).length - k2 < (tl s).length - k
   omega
  ·have eq:k2 = k:=by rw [i_eq] at he; simpa using he
   refine T.some ?_
   have h3:=skp_fix _ (h0.2 (by omega)) (by rw [← eq]; exact h2)
   rw [← hsk,h3,List.length_drop]
   show (k:Int) = _
   omega
 ·simp only [cond_true]
  obtain ⟨hk3l,hd3⟩:=drop_step nol hk2l
  have hpos:1≤(((tl s).drop k2).takeWhile nol).length:=by
   cases hd:(tl s).drop k2 with
   | nil=>rw [hd] at h2; simp [two] at h2
   | cons b r =>
    rw [hd] at h2
    have hb:=two_cons h2
    subst hb
    rw [List.takeWhile_cons,if_pos (by decide)]
    simp
  rw [F135_3_eq hs hn hk2l]
  simp only [Option.bind_some]
  generalize hk3:k2 + (((tl s).drop k2).takeWhile nol).length = k3 at hk3l hd3
  have he:((k3:Int) == (k:Int)) = false:=by rw [i_eq]; simp; omega
  rw [he]
  refine T.some ⟨⟨k3,rfl,hk3l,by rw [hd3,← skp_two _ h2,hd2,← skp_wht,hsk]⟩,?_⟩
  show (tl s).length - k3 < (tl s).length - k
  omega
theorem find_T {S:List ByteArray} {step:Int→Option (Int ⊕ (ByteArray ⊕ Unit))} (p:ByteArray→Bool)
  (h1:∀ (k:Nat) x,S[k]? = some x→T (step (k:Int)) (fun r=>r = if p x = true then .inr (.inl x) else .inl ((k + 1:Nat):Int)))
  (h2:step (S.length:Int) = some (.inr (.inr ()))) (hn:S.length < n) :
  T (iter step n (0:Int)) (fun r=>r = match S.find? p with | some x=>.inl x | none=>.inr ()):=by
 have key:∀ (l:List ByteArray) (k:Nat),runF (A:=Unit) (ρ:=ByteArray ⊕ Unit) (fun _ _ x=>if p x = true then .inr (.inl x) else .inl ()) (fun _=>.inr ()) k l () = match l.find? p with | some x=>.inl x | none=>.inr ():=by
  intro l
  induction l with
  | nil=>intro k; rfl
  | cons x l ih =>
   intro k
   rw [List.find?_cons,runF]
   cases hp:p x
   ·simpa [hp] using ih (k + 1)
   ·simp
 have e:=iter_runF S (fun (k:Nat) (_:Unit)=>(k:Int)) (fun _ _ x=>if p x = true then .inr (.inl x) else .inl ()) (fun _=>.inr ()) (step:=step)
  (fun k a x hx=>by
   rw [T.eq (h1 k x hx)]
   cases p x <;> rfl)
  (fun _=>h2) n () hn
 rw [key] at e
 exact ⟨_,e,rfl⟩
theorem allI_pre {L:List UInt8} {a:Nat}:∀ (t:List UInt8) (k:Nat),allI (fun j c=>L[a + j]? == some c) k t = t.isPrefixOf (L.drop (a + k))
 | [],_=>by simp [allI]
 | c :: t,k=>by
  rw [allI,allI_pre t (k + 1)]
  cases hd:L[a + k]? with
  | none =>
   have:L.drop (a + k) = []:=List.drop_eq_nil_iff.2 (List.getElem?_eq_none_iff.1 hd)
   rw [this]
   rfl
  | some d =>
   rw [get_drop hd,show a + (k + 1) = a + k + 1 by omega]
   show ((some d == some c) && _) = ((c == d) && _)
   congr 1
   rw [Bool.eq_iff_iff]
   simp
   exact eq_comm
theorem symTab_map:symTab.map tl = symL:=by rfl
theorem find_tl {p:List UInt8→Bool}:∀ (S:List ByteArray),(S.find? (fun x=>p (tl x))) = ((S.map tl).find? p).map bs
 | []=>rfl
 | x :: S=>by
  rw [List.find?_cons,List.map_cons,List.find?_cons]
  cases p (tl x)
  ·exact find_tl S
  ·rfl
theorem F142_eq (hs:s.size≤4000) (hn:5000≤n) {a:Nat} (ha:a≤(tl s).length):F142 n s a = some (bs ((symL.find? (fun t=>t.isPrefixOf ((tl s).drop a))).getD [])):=by
 have hz:=size_tl s
 apply T.eq
 unfold F142
 refine T.bind (find_T (S:=symTab) (fun x=>(tl x).isPrefixOf ((tl s).drop a)) (fun k x hx=>?_) ?_ (by simp [symTab]; omega)) fun r hr=>?_
 ·have hk:k < 27:=lt_of_get hx
  have c1:decide ((k:Int) < 27) = true:=by simp; omega
  have hm:=symTab_sz x (List.mem_of_getElem? hx)
  have hxz:=size_tl x
  rw [c1,idxL_some hx,w64_id (x:=(s.size:Int) - (a:Int)) (by omega) (by omega),w64_nat (k:=k) (by omega)]
  simp only [cond_true,Option.bind_some]
  refine T.cond (fun hc=>T.some ?_) (fun hc=>?_)
  ·have hc':(s.size:Int) - (a:Int) < (x.size:Int):=by simpa using hc
   have:(tl x).isPrefixOf ((tl s).drop a) = false:=by
    rw [← pre_take,beq_eq_false_iff_ne]
    intro e
    have:=congrArg List.length e
    rw [List.length_take,List.length_drop] at this
    omega
   simp [this]
  ·have hc':¬ (s.size:Int) - (a:Int) < (x.size:Int):=by simpa using hc
   refine T.bind (T.of_eq (iter_allI (tl x) (fun j c=>(tl s)[a + j]? == some c) (by omega) (fun j c hj=>?_) ?_ (n:=n) (by omega))) fun r hr=>?_
   ·have hjl:=lt_of_get hj
    have c2:decide ((j:Int) < (x.size:Int)) = true:=by simp; omega
    have hlt:a + j < (tl s).length:=by omega
    have hg:=List.getElem?_eq_getElem hlt
    have ew:w64 ((a:Int) + (j:Int)) = ((a + j:Nat):Int):=by rw [w64_id (by omega) (by omega)]; rfl
    rw [c2,ew,idxS_some hg,idxS_some hj,hg]
    simp only [cond_true,Option.bind_some]
    by_cases hcc:(tl s)[a + j] = c
    ·rw [hcc]; simp
    ·have:((((tl s)[a + j]).toNat:Int) != (c.toNat:Int)) = true:=by
      simp only [bne,i_eq,Bool.not_eq_true',beq_eq_false_iff_ne]
      exact fun e=>hcc (UInt8.toNat_inj.1 e)
     rw [this]
     simp [hcc]
   ·have c2:decide (((tl x).length:Int) < (x.size:Int)) = false:=by simp; omega
    rw [c2]
    rfl
   ·rw [hr,allI_pre]
    simp only [Nat.add_zero]
    cases (tl x).isPrefixOf ((tl s).drop a)
    ·exact T.some rfl
    ·exact T.some rfl
 ·have c1:decide (((symTab.length:Nat):Int) < 27) = false:=by simp [symTab]
  rw [c1]
  rfl
 ·rw [hr,find_tl (p:=fun t=>t.isPrefixOf ((tl s).drop a)),symTab_map]
  cases symL.find? (fun t=>t.isPrefixOf ((tl s).drop a)) with
  | none=>exact T.some rfl
  | some t=>exact T.some rfl
theorem F87_eq (hs:s.size≤4000) (hn:5000≤n) {a:Nat} {b:UInt8} {r:List UInt8} (hd:(tl s).drop a = b :: r) :
  F87 n s a = some (match tokL ((tl s).drop a) with | some km=>((km.1:Int),((a + km.2:Nat):Int)) | none=>((0:Int),(a:Int))):=by
 have hz:=size_tl s
 have hb:=get_of_drop hd
 have ha:=lt_of_get hb
 have hw:∀ k:Nat,k≤5000→w64 (((a + k:Nat):Int) - (a:Int)) = (k:Int):=fun k hk=>by
  rw [w64_id (by omega) (by omega)]; omega
 unfold F87
 rw [idxS_some hb]
 simp only [Option.bind_some,F139_eq]
 rw [hd,tokL_cons]
 cases h1:ltr b
 ·simp only [cond_false,F141_eq hb,Option.bind_some]
  cases h2:dgt b
  ·simp only [cond_false,F142_eq hs hn (Nat.le_of_lt ha),hd,Option.bind_some]
   cases hf:symL.find? (fun t=>t.isPrefixOf (b :: r)) with
   | none=>rfl
   | some t =>
    have hm:=symL_ok t (List.mem_of_find?_eq_some hf)
    have hne:strEq (bs t) (bs []) = false:=by
     cases t with
     | nil=>simp at hm
     | cons x y=>rfl
    have ew:w64 ((a:Int) + ((bs t).size:Int)) = ((a + t.length:Nat):Int):=by
     rw [size_bs,w64_id (by omega) (by omega)]; rfl
    simp only [Option.getD_some,hne,Bool.not_false,cond_true,ew,Option.map_some]
    rfl
  ·simp only [cond_true,F135_1_eq hs hn (Nat.le_of_lt ha),Option.bind_some]
   obtain ⟨hkl,hkd⟩:=drop_step dgt (Nat.le_of_lt ha)
   rw [hd] at hkl hkd ⊢
   unfold numOk
   rw [← hkd]
   generalize hk:((b :: r).takeWhile dgt).length = k at hkl hkd ⊢
   have hk1:1≤k:=by rw [← hk,List.takeWhile_cons,if_pos h2]; simp
   rw [hw k (by omega)]
   by_cases h9:9 < k
   ·have c1:decide (9 < (k:Int)) = true:=by simp; omega
    have c2:decide (k≤9) = false:=by simp; omega
    rw [c1,c2]
    rfl
   ·have c1:decide (9 < (k:Int)) = false:=by simp; omega
    have c2:decide (k≤9) = true:=by simp; omega
    rw [c1,c2]
    have e48:((b.toNat:Int) == 48) = (b.toNat == 48):=i_eq _ 48
    have e1:decide (1 < (k:Int)) = !(k == 1):=by rw [Bool.eq_iff_iff]; simp; omega
    simp only [cond_false,Option.bind_some,e48,e1,Bool.true_and]
    have e3:((b.toNat != 48) || (k == 1)) = !((b.toNat == 48) && !(k == 1)):=by
     simp only [bne]; cases b.toNat == 48 <;> cases k == 1 <;> rfl
    rw [e3]
    cases (b.toNat == 48) && !(k == 1)
    ·simp only [cond_false,Bool.not_false,Bool.true_and]
     rw [List.head?_drop]
     by_cases hlt:a + k < (tl s).length
     ·have hg:=List.getElem?_eq_getElem hlt
      have c3:decide (((a + k:Nat):Int) < (s.size:Int)) = true:=by simp; omega
      rw [c3,F140_eq hg,hg]
      simp only [cond_true,Option.bind_some,Option.all_some]
      cases wrd (tl s)[a + k] <;> rfl
     ·have c3:decide (((a + k:Nat):Int) < (s.size:Int)) = false:=by simp; omega
      rw [c3,List.getElem?_eq_none (by omega)]
      rfl
    ·rfl
 ·simp only [cond_true,F135_eq hs hn (Nat.le_of_lt ha),Option.bind_some]
  obtain ⟨hkl,_⟩:=drop_step wrd (Nat.le_of_lt ha)
  rw [hd] at hkl ⊢
  generalize hk:((b :: r).takeWhile wrd).length = k at hkl ⊢
  rw [hw k (by omega)]
  by_cases h16:16 < k
  ·have c1:decide (16 < (k:Int)) = true:=by simp; omega
   have c2:decide (k≤16) = false:=by simp; omega
   rw [c1,c2]
   rfl
  ·have c1:decide (16 < (k:Int)) = false:=by simp; omega
   have c2:decide (k≤16) = true:=by simp; omega
   rw [c1,c2]
   rfl
def outT (acc:List Token):List Token ⊕ (Int × Int)→List Token × Int × Int
 | .inl ts=>(acc ++ ts,0,0)
 | .inr e=>([],e.1,e.2)
def lexR (s:ByteArray):List Token × Int × Int :=
 if 4000 < s.size then ([],2,0) else outT [] (lexG s.size (s.size + 1) 0 (tl s))
theorem out_cons (acc:List Token) (t:Token) (r:List Token ⊕ (Int × Int)):outT acc (consT t r) = outT (acc ++ [t]) r:=by
 cases r with
 | inl ts=>simp [outT,consT]
 | inr e=>rfl
theorem F55_eq (hn:5000≤n):F55 n s = some (lexR s):=by
 have hz:=size_tl s
 apply T.eq
 unfold F55 lexR
 by_cases h4:4000 < s.size
 ·have c:decide ((4000:Int) < (s.size:Int)) = true:=by simp; omega
  rw [c,if_pos h4]
  exact T.some rfl
 have c:decide ((4000:Int) < (s.size:Int)) = false:=by simp; omega
 have hs:s.size≤4000:=by omega
 rw [c,if_neg h4]
 simp only [cond_false]
 refine T.bind (P:=fun r=>r = outT [] (lexG s.size (s.size + 1) 0 (tl s))) ?_ (fun r h=>T.some h)
 refine iter_T (fun st=>∃ (k f:Nat),st.2 = (k:Int)∧k≤(tl s).length∧st.1.length≤1500∧((tl s).drop k).length < f∧outT st.1 (lexG s.size f st.1.length ((tl s).drop k)) = outT [] (lexG s.size (s.size + 1) 0 (tl s))) (fun st=>(tl s).length - st.2.toNat) _ (fun st hst=>?_) n _ (by simp; omega) ⟨0,s.size + 1,rfl,by omega,by simp,by simp; omega,by simp⟩
 obtain ⟨k,f,hk,hkl,h15,hf,hout⟩:=hst
 rw [hk,F86_eq hs hn hkl]
 simp only [Option.bind_some]
 obtain ⟨f,rfl⟩:∃ g,f = g + 1:=⟨f - 1,by omega⟩
 simp only [lexG] at hout
 have hlen:=skp_len false ((tl s).drop k)
 rw [List.length_drop] at hlen
 obtain ⟨p,hp⟩:=skp_suf ((tl s).drop k) false
 have hp1:=congrArg List.length hp
 rw [List.length_append,List.length_drop] at hp1
 have hdr:(tl s).drop ((tl s).length - (skp false ((tl s).drop k)).length) = skp false ((tl s).drop k):=by
  have:(tl s).length - (skp false ((tl s).drop k)).length = k + p.length:=by omega
  rw [this,← List.drop_drop]
  conv=>lhs; rw [hp]
  exact List.drop_left
 cases hsk:skp false ((tl s).drop k) with
 | nil =>
  rw [hsk] at hout
  have c1:((((tl s).length - ([]:List UInt8).length:Nat):Int) == (s.size:Int)) = true:=by simp; omega
  rw [c1]
  simp only [lexS,outT,List.append_nil] at hout
  exact T.some hout
 | cons b r =>
  rw [hsk] at hout hdr hlen
  have hbl:1≤(b :: r).length:=by simp
  generalize hj:(tl s).length - (b :: r).length = j at hdr ⊢
  have hjl:j + (b :: r).length = (tl s).length:=by omega
  have c1:((j:Int) == (s.size:Int)) = false:=by rw [i_eq]; simp; omega
  rw [c1]
  simp only [cond_false]
  have hpos:s.size - (b :: r).length = j:=by omega
  simp only [lexS,hpos] at hout
  by_cases h1500:st.1.length = 1500
  ·have c2:((st.1.length:Int) == 1500) = true:=by simp; omega
   rw [c2]
   rw [if_pos h1500] at hout
   exact T.some hout
  have c2:((st.1.length:Int) == 1500) = false:=by simp; omega
  rw [c2,F87_eq hs hn hdr,hdr]
  rw [if_neg h1500] at hout
  simp only [cond_false,Option.bind_some]
  cases htk:tokL (b :: r) with
  | none =>
   rw [htk] at hout
   exact T.some hout
  | some km =>
   rw [htk] at hout
   have hm:=tokL_spec htk
   simp only at hout ⊢
   have c3:((km.1:Int) == 0) = false:=by simp; omega
   rw [c3,subS_eq (by omega) (by omega),hdr]
   simp only [cond_false,Option.bind_some,appL]
   rw [if_pos (by simp; omega)]
   rw [out_cons] at hout
   refine T.some ⟨⟨j + km.2,f,rfl,by omega,by simp; omega,?_,?_⟩,?_⟩
   ·rw [← List.drop_drop,hdr,List.length_drop]
    rw [List.length_drop] at hf
    omega
   ·rw [← List.drop_drop,hdr]
    have e1:j + km.2 - j = km.2:=by omega
    rw [e1,List.length_append]
    exact hout
   ·show (tl s).length - (((j + km.2:Nat):Int)).toNat < (tl s).length - ((k:Int)).toNat
    simp only [Int.toNat_natCast]
    omega
end Go.Proofs.YtbecjgckobhmpaaGreatDoor
end
section
namespace Go.Proofs.YtbecjgckobhmpaaGreatDoor
open Go Go.AM Go.Proofs
variable {s:ByteArray} {n:Nat}
theorem F113_eq {t:ByteArray} {a:Nat} (ha:a≤(tl s).length) (hs:s.size≤4000) (ht:t.size≤3):F113 s a t = some ((tl t).isPrefixOf ((tl s).drop a)):=by
 have hz:=size_tl s
 have htz:=size_tl t
 unfold F113
 have ew:w64 ((a:Int) + (t.size:Int)) = ((a + (tl t).length:Nat):Int):=by rw [w64_id (by omega) (by omega)]; omega
 rw [ew]
 by_cases h:a + (tl t).length≤(tl s).length
 ·have c:decide (((a + (tl t).length:Nat):Int)≤(s.size:Int)) = true:=by simp; omega
  rw [c,subS_eq (by omega) h]
  simp only [cond_true,Option.bind_some]
  rw [show a + (tl t).length - a = (tl t).length by omega]
  exact congrArg some (pre_take (tl t) _)
 ·have c:decide (((a + (tl t).length:Nat):Int)≤(s.size:Int)) = false:=by simp; omega
  rw [c]
  have:(tl t).isPrefixOf ((tl s).drop a) = false:=by
   rw [← pre_take,beq_eq_false_iff_ne]
   intro e
   have:=congrArg List.length e
   rw [List.length_take,List.length_drop] at this
   omega
  rw [this]
  rfl
theorem F114_eq (b:UInt8):F114 (b.toNat:Int) = some (wht b):=by
 unfold F114 wht
 have e1:((b.toNat:Int) == 32) = (b.toNat == 32):=i_eq _ 32
 have e2:((b.toNat:Int) == 9) = (b.toNat == 9):=i_eq _ 9
 have e3:((b.toNat:Int) == 10) = (b.toNat == 10):=i_eq _ 10
 have e4:((b.toNat:Int) == 13) = (b.toNat == 13):=i_eq _ 13
 rw [e1,e2,e3,e4]
 simp only [Bool.or_assoc]
theorem F115_eq (b:UInt8):F115 (b.toNat:Int) = some (ltr b):=by
 unfold F115 ltr
 have e1:decide (65≤(b.toNat:Int)) = decide (65≤b.toNat):=i_le 65 _
 have e2:decide ((b.toNat:Int)≤90) = decide (b.toNat≤90):=i_le _ 90
 have e3:decide (97≤(b.toNat:Int)) = decide (97≤b.toNat):=i_le 97 _
 have e4:decide ((b.toNat:Int)≤122) = decide (b.toNat≤122):=i_le _ 122
 rw [e1,e2,e3,e4,Bool.or_comm]
theorem F117_eq (b:UInt8):F117 (b.toNat:Int) = some (dgt b):=by
 unfold F117 dgt
 have e1:decide (48≤(b.toNat:Int)) = decide (48≤b.toNat):=i_le 48 _
 have e2:decide ((b.toNat:Int)≤57) = decide (b.toNat≤57):=i_le _ 57
 rw [e1,e2]
theorem F74_eq (hs:s.size≤4000) (hn:5000≤n) {a:Nat} (ha:a≤(tl s).length):F74 n s a = some (((tl s).length - (skp false ((tl s).drop a)).length:Nat):Int):=by
 have hz:=size_tl s
 apply T.eq
 unfold F74
 refine T.bind (P:=fun r=>match r with | .inl e=>e = (((tl s).length - (skp false ((tl s).drop a)).length:Nat):Int) | .inr e=>e = (((tl s).length - (skp false ((tl s).drop a)).length:Nat):Int)) ?_ (fun r h=>by
  cases r with
  | inl r=>exact T.some h
  | inr r=>exact T.some h)
 refine iter_T (fun e=>∃ k:Nat,e = (k:Int)∧k≤(tl s).length∧skp false ((tl s).drop k) = skp false ((tl s).drop a)) (fun e=>((tl s).length - e.toNat)) _ (fun e he=>?_) n a (by omega) ⟨a,rfl,ha,rfl⟩
 obtain ⟨k,rfl,hk,hsk⟩:=he
 by_cases hlt:k < (tl s).length
 ·have hg:=List.getElem?_eq_getElem hlt
  have hd:=get_drop hg
  have c1:decide ((k:Int) < (s.size:Int)) = true:=by simp; omega
  rw [c1,F113_eq hk hs (by simp [size_bs])]
  have e2:(tl (bs [47,47])).isPrefixOf ((tl s).drop k) = two ((tl s).drop k):=rfl
  rw [e2]
  simp only [cond_true,Option.bind_some]
  cases h2:two ((tl s).drop k)
  ·rw [idxS_some hg]
   simp only [cond_false,Option.bind_some,F114_eq,w64_nat (k:=k) (by omega)]
   cases hw:wht (tl s)[k]
   ·refine T.some ?_
    have h3:=skp_fix ((tl s).drop k) (by rw [hd,List.takeWhile_cons,if_neg (by simp [hw])]) h2
    show (k:Int) = _
    rw [← hsk,h3,List.length_drop]
    omega
   ·refine T.some ⟨⟨k + 1,rfl,by omega,?_⟩,?_⟩
    ·rw [← hsk,hd]
     simp only [skp,hw,if_true]
    ·show (tl s).length - (k + 1) < (tl s).length - k
     omega
  ·simp only [cond_true]
   obtain ⟨hk3l,hd3⟩:=drop_step nol hk
   have hpos:1≤(((tl s).drop k).takeWhile nol).length:=by
    rw [hd] at h2 ⊢
    have hb:=two_cons h2
    rw [hb,List.takeWhile_cons,if_pos (by decide)]
    simp
   refine T.bind (take_T (L:=tl s) nol (fun j b hb=>?_) ?_ hk (by omega)) fun e he=>?_
   ·have hjl:=lt_of_get hb
    have c:decide ((j:Int) < (s.size:Int)) = true:=by simp; omega
    have e3:((b.toNat:Int) == 10) = (b.toNat == 10):=i_eq _ 10
    rw [c,idxS_some hb,w64_nat (by omega)]
    simp only [cond_true,Option.bind_some,bne,e3]
    have:nol b = !(b.toNat == 10):=rfl
    rw [this]
    cases b.toNat == 10 <;> rfl
   ·have c:decide (((tl s).length:Int) < (s.size:Int)) = false:=by simp; omega
    rw [c]
    rfl
   ·subst he
    generalize hk3:k + (((tl s).drop k).takeWhile nol).length = k3 at hk3l hd3
    refine T.some ⟨⟨k3,rfl,hk3l,by rw [hd3,← skp_two _ h2,hsk]⟩,?_⟩
    show (tl s).length - k3 < (tl s).length - k
    omega
 ·have c1:decide ((k:Int) < (s.size:Int)) = false:=by simp; omega
  rw [c1]
  refine T.some ?_
  have:(tl s).drop k = []:=List.drop_eq_nil_iff.2 (by omega)
  show (k:Int) = _
  rw [← hsk,this,skp_nil]
  simp
  omega
theorem F116_eq (hs:s.size≤4000) (hn:5000≤n) {a:Nat} (ha:a≤(tl s).length) :
  F116 n s a = some (⟨1,bs (((tl s).drop a).takeWhile wrd),(a:Int)⟩,decide ((((tl s).drop a).takeWhile wrd).length≤16)):=by
 have hz:=size_tl s
 apply T.eq
 unfold F116
 refine T.bind (take_T (L:=tl s) wrd (fun j b hb=>?_) ?_ ha (by omega)) fun e he=>?_
 ·have hjl:=lt_of_get hb
  have c:decide ((j:Int) < (s.size:Int)) = true:=by simp; omega
  have e3:((b.toNat:Int) == 95) = (b.toNat == 95):=i_eq _ 95
  rw [c,idxS_some hb,w64_nat (by omega)]
  simp only [cond_true,Option.bind_some,F115_eq,F117_eq,e3]
  have hw:wrd b = (ltr b || (dgt b || b.toNat == 95)):=rfl
  rw [hw]
  cases ltr b <;> cases dgt b <;> cases b.toNat == 95 <;> rfl
 ·have c:decide (((tl s).length:Int) < (s.size:Int)) = false:=by simp; omega
  rw [c]
  rfl
 ·subst he
  obtain ⟨hkl,_⟩:=drop_step wrd ha
  rw [subS_eq (by omega) hkl]
  simp only [Option.bind_some]
  rw [w64_id (by omega) (by omega),Nat.add_sub_cancel_left,take_tw]
  refine T.some ?_
  congr 1
  rw [decide_eq_decide]
  omega
theorem F118_eq (hs:s.size≤4000) (hn:5000≤n) {a:Nat} {b:UInt8} {r:List UInt8} (hd:(tl s).drop a = b :: r) (hb2:dgt b = true) :
  F118 n s a = some (⟨2,bs (((tl s).drop a).takeWhile dgt),(a:Int)⟩,numOk b ((tl s).drop a)):=by
 have hz:=size_tl s
 have hb:=get_of_drop hd
 have ha:=lt_of_get hb
 apply T.eq
 unfold F118
 refine T.bind (take_T (L:=tl s) dgt (fun j b hb=>?_) ?_ (Nat.le_of_lt ha) (by omega)) fun e he=>?_
 ·have hjl:=lt_of_get hb
  have c:decide ((j:Int) < (s.size:Int)) = true:=by simp; omega
  rw [c,idxS_some hb,w64_nat (by omega)]
  simp only [cond_true,Option.bind_some,F117_eq]
  cases dgt b <;> rfl
 ·have c:decide (((tl s).length:Int) < (s.size:Int)) = false:=by simp; omega
  rw [c]
  rfl
 ·subst he
  obtain ⟨hkl,hkd⟩:=drop_step dgt (Nat.le_of_lt ha)
  have htk:=take_tw dgt ((tl s).drop a)
  have hnd:∀ c,(((tl s).drop a).dropWhile dgt).head? = some c→dgt c = false:=by
   intro c hc
   have:=List.head?_dropWhile_not dgt ((tl s).drop a)
   rw [hc] at this
   simpa using this
  unfold numOk
  rw [← hkd] at hnd ⊢
  have hk1:1≤(((tl s).drop a).takeWhile dgt).length:=by rw [hd,List.takeWhile_cons,if_pos hb2]; simp
  rw [subS_eq (by omega) hkl,Nat.add_sub_cancel_left,htk,idxS_some hb]
  generalize hk:(((tl s).drop a).takeWhile dgt).length = k at hkl hkd hk1 hnd ⊢
  have ew:w64 (((a + k:Nat):Int) - (a:Int)) = (k:Int):=by rw [w64_id (by omega) (by omega)]; omega
  have ew2:w64 ((a:Int) + 1) = ((a + 1:Nat):Int):=w64_nat (by omega)
  rw [ew,ew2]
  have e9:decide ((k:Int)≤9) = decide (k≤9):=i_le k 9
  have e48:((b.toNat:Int) == 48) = (b.toNat == 48):=i_eq _ 48
  have e1:(((a + k:Nat):Int) == ((a + 1:Nat):Int)) = (k == 1):=by
   rw [i_eq,Bool.eq_iff_iff]; simp only [beq_iff_eq]; omega
  simp only [Option.bind_some,e9,bne,e48,e1]
  have ej:(bif decide (k≤9) then some ((!(b.toNat == 48)) || (k == 1)) else some false) = some (decide (k≤9) && ((!(b.toNat == 48)) || (k == 1))):=by
   cases decide (k≤9) <;> rfl
  rw [ej]
  simp only [Option.bind_some]
  rw [List.head?_drop] at hnd ⊢
  by_cases hlt:a + k < (tl s).length
  ·have hg:=List.getElem?_eq_getElem hlt
   have hdg:=hnd _ hg
   have c3:decide (((a + k:Nat):Int) < (s.size:Int)) = true:=by simp; omega
   have e95:((((tl s)[a + k]).toNat:Int) == 95) = (((tl s)[a + k]).toNat == 95):=i_eq _ 95
   rw [c3,idxS_some hg,hg]
   simp only [cond_true,Option.bind_some,F115_eq,e95,Option.all_some,wrd,hdg,Bool.false_or]
   cases ltr (tl s)[a + k] <;> cases ((tl s)[a + k]).toNat == 95 <;> cases decide (k≤9) <;> cases b.toNat == 48 <;> cases k == 1 <;> exact T.some rfl
  ·have c3:decide (((a + k:Nat):Int) < (s.size:Int)) = false:=by simp; omega
   rw [c3,List.getElem?_eq_none (by omega)]
   simp only [cond_false,Option.bind_some,Option.all_none,Bool.and_true]
   exact T.some rfl
def symR:List ByteArray:=[(bs [61,61,62]),(bs [58,61]),(bs [61,61]),(bs [33,61]),(bs [60,61]),(bs [38,38]),(bs [124,124]),(bs [123]),(bs [125]),(bs [40]),(bs [41]),(bs [91]),(bs [93]),(bs [59]),(bs [58]),(bs [44]),(bs [46]),(bs [63]),(bs [61]),(bs [33]),(bs [60]),(bs [38]),(bs [124]),(bs [94]),(bs [43]),(bs [45]),(bs [42])]
theorem symR_sz:∀ x ∈ symR,1≤x.size∧x.size≤3:=by
 have:symR.all (fun x=>decide (1≤x.size∧x.size≤3)) = true:=by rfl
 intro x hx
 simpa using List.all_eq_true.1 this x hx
theorem symR_find (l:List UInt8):(symR.map tl).find? (fun t=>t.isPrefixOf l) = symL.find? (fun t=>t.isPrefixOf l):=by
 show ([61,61,62] :: [58,61] :: [61,61] :: symL.drop 3:List (List UInt8)).find? _ = ([61,61,62] :: [61,61] :: [58,61] :: symL.drop 3:List (List UInt8)).find? _
 simp only [List.find?_cons]
 cases h1:([61,61,62]:List UInt8).isPrefixOf l
 ·cases h2:([58,61]:List UInt8).isPrefixOf l
  ·cases h3:([61,61]:List UInt8).isPrefixOf l <;> rfl
  ·cases h3:([61,61]:List UInt8).isPrefixOf l
   ·rfl
   ·cases l with
    | nil=>simp at h2
    | cons x l =>
     simp [List.isPrefixOf] at h2 h3
     exact absurd (h2.1.trans h3.1.symm) (by decide)
 ·rfl
theorem F75_eq (hs:s.size≤4000) (hn:5000≤n) {a:Nat} {b:UInt8} {r:List UInt8} (hd:(tl s).drop a = b :: r) :
  T (F75 n s a) (fun q=>match tokL ((tl s).drop a) with | some km=>q = (⟨(km.1:Int),bs (((tl s).drop a).take km.2),(a:Int)⟩,true) | none=>q.2 = false):=by
 have hz:=size_tl s
 have hb:=get_of_drop hd
 have ha:=lt_of_get hb
 unfold F75
 rw [idxS_some hb]
 simp only [Option.bind_some,F115_eq,F117_eq]
 rw [hd,tokL_cons]
 cases h1:ltr b
 ·simp only [cond_false]
  cases h2:dgt b
  ·simp only [cond_false,F119,Option.bind_some]
   refine T.bind (find_T (S:=symR) (fun x=>(tl x).isPrefixOf ((tl s).drop a)) (fun k x hx=>?_) ?_ (by simp [symR]; omega)) fun q hq=>?_
   ·have hk:=lt_of_get hx
    have hk27:k < 27:=hk
    have c1:decide ((k:Int) < (symR.length:Int)) = true:=by simp; omega
    have hm:=symR_sz x (List.mem_of_getElem? hx)
    show T (bif decide ((k:Int) < (symR.length:Int)) then ((idxL symR (k:Int)).bind fun x13 =>
     (F113 s (a:Int) x13).bind fun x14 =>
     bif x14 then
      ((idxL symR (k:Int)).bind fun x16 =>
      some (.inr (.inl x16)))
     else
      (some (.inl (w64 ((k:Int) + 1))))) else some (.inr (.inr ())):Option (Int ⊕ (ByteArray ⊕ Unit))) _
    rw [c1,idxL_some hx,w64_nat (k:=k) (by omega)]
    simp only [cond_true,Option.bind_some]
    rw [F113_eq (Nat.le_of_lt ha) hs hm.2]
    simp only [Option.bind_some]
    cases (tl x).isPrefixOf ((tl s).drop a)
    ·exact T.some rfl
    ·exact T.some rfl
   ·rfl
   ·rw [hq,find_tl (p:=fun t=>t.isPrefixOf ((tl s).drop a)),symR_find,hd]
    cases hf:symL.find? (fun t=>t.isPrefixOf (b :: r)) with
    | none=>exact T.some rfl
    | some t =>
     have hp:=List.find?_some hf
     have ht:=List.prefix_iff_eq_take.1 (List.isPrefixOf_iff_prefix.1 hp)
     refine T.some ?_
     simp only [Option.map_some]
     rw [← ht]
     rfl
  ·simp only [cond_true]
   rw [F118_eq hs hn hd h2,hd]
   simp only [Option.bind_some]
   cases numOk b (b :: r)
   ·exact T.some rfl
   ·refine T.some ?_
    simp only [cond_true]
    rw [take_tw]
    rfl
 ·simp only [cond_true]
  rw [F116_eq hs hn (Nat.le_of_lt ha),hd]
  simp only [Option.bind_some]
  cases decide (((b :: r).takeWhile wrd).length≤16)
  ·exact T.some rfl
  ·refine T.some ?_
   simp only [cond_true]
   rw [take_tw]
   rfl
theorem F39_eq (hn:5000≤n):F39 n s = some (lexR s):=by
 have hz:=size_tl s
 apply T.eq
 unfold F39 lexR
 by_cases h4:4000 < s.size
 ·have c:decide ((4000:Int) < (s.size:Int)) = true:=by simp; omega
  rw [c,if_pos h4]
  exact T.some rfl
 have c:decide ((4000:Int) < (s.size:Int)) = false:=by simp; omega
 have hs:s.size≤4000:=by omega
 rw [c,if_neg h4]
 simp only [cond_false]
 have e0:F74 n s (0:Int) = some (((tl s).length - (skp false ((tl s).drop 0)).length:Nat):Int):=F74_eq (a:=0) hs hn (by omega)
 rw [e0]
 simp only [Option.bind_some]
 have hdr:∀ k,k≤(tl s).length→(tl s).drop ((tl s).length - (skp false ((tl s).drop k)).length) = skp false ((tl s).drop k)∧k≤(tl s).length - (skp false ((tl s).drop k)).length:=by
  intro k hk
  obtain ⟨p,hp⟩:=skp_suf ((tl s).drop k) false
  have hp1:=congrArg List.length hp
  rw [List.length_append,List.length_drop] at hp1
  have e:(tl s).length - (skp false ((tl s).drop k)).length = k + p.length:=by omega
  constructor
  ·rw [e,← List.drop_drop]
   conv=>lhs; rw [hp]
   exact List.drop_left
  ·omega
 refine T.bind (P:=fun r=>(match r with | .inl e=>(([]:List Token),e.1,e.2) | .inr l=>(l,(0:Int),(0:Int))) = outT [] (lexG s.size (s.size + 1) 0 (tl s))) ?_ (fun r h=>by
  cases r with
  | inl e=>exact T.some h
  | inr l=>exact T.some h)
 refine iter_T (fun st=>∃ (k f:Nat),st.2 = (k:Int)∧k≤(tl s).length∧st.1.length≤1500∧((tl s).drop k).length≤f∧outT st.1 (lexS s.size (lexG s.size f (st.1.length + 1)) st.1.length ((tl s).drop k)) = outT [] (lexG s.size (s.size + 1) 0 (tl s))) (fun st=>(tl s).length - st.2.toNat) _ (fun st hst=>?_) n _ ?_ ⟨(tl s).length - (skp false ((tl s).drop 0)).length,s.size,rfl,by omega,by simp,?_,?_⟩
 ·obtain ⟨k,f,hk,hkl,h15,hf,hout⟩:=hst
  rw [hk]
  cases hd:(tl s).drop k with
  | nil =>
   have hk2:k = (tl s).length:=by
    have:=List.drop_eq_nil_iff.1 hd
    omega
   have c1:decide ((k:Int) < (s.size:Int)) = false:=by simp; omega
   rw [c1]
   rw [hd] at hout
   simp only [lexS,outT,List.append_nil] at hout
   exact T.some hout
  | cons b r =>
   have hlt:k < (tl s).length:=lt_of_get (get_of_drop hd)
   have hlen:=List.length_drop (i:=k) (l:=tl s)
   have c1:decide ((k:Int) < (s.size:Int)) = true:=by simp; omega
   have hpos:s.size - ((tl s).drop k).length = k:=by omega
   rw [c1]
   rw [hd] at hpos
   rw [hd] at hout
   simp only [lexS,hpos] at hout
   simp only [cond_true]
   by_cases h1500:st.1.length = 1500
   ·have c2:decide ((1500:Int)≤(st.1.length:Int)) = true:=by simp; omega
    rw [c2]
    rw [if_pos h1500] at hout
    exact T.some hout
   have c2:decide ((1500:Int)≤(st.1.length:Int)) = false:=by simp; omega
   rw [c2]
   simp only [cond_false]
   rw [if_neg h1500] at hout
   obtain ⟨q,hq,hq2⟩:=F75_eq hs hn hd
   rw [hq]
   simp only [Option.bind_some]
   rw [hd] at hq2
   cases htk:tokL (b :: r) with
   | none =>
    rw [htk] at hout hq2
    have hq2':q.2 = false:=hq2
    rw [hq2']
    exact T.some hout
   | some km =>
    rw [htk] at hout hq2
    have hq2':q = (⟨(km.1:Int),bs ((b :: r).take km.2),(k:Int)⟩,true):=hq2
    have hm:=tokL_spec htk
    subst hq2'
    simp only [Bool.not_true,cond_false,appL] at hout ⊢
    rw [if_pos (by simp; omega)]
    have hlen2:(tl s).length - k = (b :: r).length:=by rw [← hlen,hd]
    have etz:((bs ((b :: r).take km.2)).size:Int) = (km.2:Int):=by
     rw [size_bs,List.length_take]; omega
    have ew:w64 ((k:Int) + ((bs ((b :: r).take km.2)).size:Int)) = ((k + km.2:Nat):Int):=by
     rw [etz,w64_id (by omega) (by omega)]; rfl
    rw [ew,F74_eq hs hn (a:=k + km.2) (by omega)]
    simp only [Option.bind_some]
    obtain ⟨h5,h6⟩:=hdr (k + km.2) (by omega)
    rw [out_cons] at hout
    have hdk:(tl s).drop (k + km.2) = (b :: r).drop km.2:=by rw [← List.drop_drop,hd]
    have hsl:=skp_len false ((tl s).drop (k + km.2))
    rw [List.length_drop] at hsl
    obtain ⟨f,rfl⟩:∃ g,f = g + 1:=⟨f - 1,by rw [List.length_drop] at hf; omega⟩
    refine T.some ⟨⟨_,f,rfl,by omega,by simp; omega,?_,?_⟩,?_⟩
    ·rw [h5]
     rw [List.length_drop] at hf
     omega
    ·rw [h5,hdk]
     simp only [List.length_append,List.length_cons,List.length_nil]
     simp only [lexG] at hout
     exact hout
    ·show (tl s).length - ((((tl s).length - (skp false ((tl s).drop (k + km.2))).length:Nat):Int)).toNat < (tl s).length - ((k:Int)).toNat
     simp only [Int.toNat_natCast]
     omega
 ·simp only [Int.toNat_natCast]
  omega
 ·rw [(hdr 0 (by omega)).1]
  have:=skp_len false ((tl s).drop 0)
  rw [List.length_drop] at this
  omega
 ·rw [(hdr 0 (by omega)).1]
  simp only [List.drop_zero,List.length_nil]
  rfl
end Go.Proofs.YtbecjgckobhmpaaGreatDoor
end
section
namespace Go.Proofs.YtbecjgckobhmpaaGreatDoor
open Go Go.AM Go.Proofs
theorem WfN.lim4 {x:Node} (h:WfN x):Lim maxLen x:=by
 induction h with
 | mk x h1 h2 h3 h4 h5 h6 h7 h8 h9 ih=>exact .mk x (by rw [← size_tl]; exact h2) (by rw [← size_tl]; exact h3) h7 ih
theorem lexG_err {N:Nat}:∀ {f c:Nat} {l:List UInt8} {e:Int × Int},lexG N f c l = .inr e→e.1 = 2∨e.1 = 10
 | 0,_,_,_,h=>by cases h
 | f + 1,c,l,e,h=>by
  simp only [lexG] at h
  cases hs:skp false l with
  | nil=>rw [hs] at h; cases h
  | cons b r =>
   rw [hs] at h
   simp only [lexS] at h
   by_cases hc:c = 1500
   ·rw [if_pos hc] at h; cases h; exact .inl rfl
   ·rw [if_neg hc] at h
    cases ht:tokL (b :: r) with
    | none=>rw [ht] at h; cases h; exact .inr rfl
    | some km =>
     rw [ht] at h
     simp only at h
     cases hg:lexG N f (c + 1) ((b :: r).drop km.2) with
     | inl e=>rw [hg] at h; cases h
     | inr e' =>
      rw [hg] at h
      cases h
      exact lexG_err hg
theorem lexG_cnt {N:Nat}:∀ {f c:Nat} {l:List UInt8} {ts:List Token},lexG N f c l = .inl ts→c≤1500→c + ts.length≤1500
 | 0,_,_,_,h,hc=>by cases h; simpa using hc
 | f + 1,c,l,ts,h,hc0=>by
  simp only [lexG] at h
  cases hs:skp false l with
  | nil=>rw [hs] at h; cases h; simpa using hc0
  | cons b r =>
   rw [hs] at h
   simp only [lexS] at h
   by_cases hc:c = 1500
   ·rw [if_pos hc] at h; cases h
   ·rw [if_neg hc] at h
    cases ht:tokL (b :: r) with
    | none=>rw [ht] at h; cases h
    | some km =>
     rw [ht] at h
     simp only at h
     cases hg:lexG N f (c + 1) ((b :: r).drop km.2) with
     | inr e=>rw [hg] at h; cases h
     | inl us =>
      rw [hg] at h
      cases h
      have:=lexG_cnt hg (by omega)
      simp only [List.length_cons]
      omega
def Acc (l:List UInt8):Prop:=l.length≤4000∧∃ ts,lexG l.length (l.length + 1) 0 l = .inl ts
theorem acc_iff (l:List UInt8):(lexR (bs l)).2.1 = 0 ↔ Acc l:=by
 unfold lexR Acc
 rw [tl_bs,size_bs]
 by_cases h:4000 < l.length
 ·rw [if_pos h]
  constructor
  ·intro e; cases e
  ·intro e; omega
 ·rw [if_neg h]
  cases hg:lexG l.length (l.length + 1) 0 l with
  | inl ts=>exact ⟨fun _=>⟨by omega,ts,rfl⟩,fun _=>rfl⟩
  | inr e =>
   constructor
   ·intro h0
    have h0':e.1 = 0:=h0
    rcases lexG_err hg with h | h <;> rw [h] at h0' <;> cases h0'
   ·rintro ⟨_,ts,h⟩
    cases h
theorem Acc.part {A B C:List UInt8} (h:Acc (A ++ (B ++ C))) (hA:A = []∨A.getLast? = some 10) (hB:B = []∨B.getLast? = some 10):Acc B:=by
 obtain ⟨hl,ts,h⟩:=h
 simp only [List.length_append] at hl
 rw [lexG_app _ (B ++ C) (f2:=(B ++ C).length + 1) (by omega) (A.length + 1) _ 0 A hA (by omega) (by omega)] at h
 cases h1:lexG ((A ++ (B ++ C)).length - (B ++ C).length) (A.length + 1) 0 A with
 | inr e=>rw [h1] at h; cases h
 | inl t1 =>
  rw [h1] at h
  have hc:=lexG_cnt h1 (by omega)
  simp only at h
  rw [lexG_app _ C (f2:=C.length + 1) (by omega) (B.length + 1) _ _ B hB (by omega) (by omega)] at h
  cases h2:lexG ((A ++ (B ++ C)).length - C.length) (B.length + 1) (0 + t1.length) B with
  | inr e=>rw [h2] at h; cases h
  | inl t2 =>
   exact ⟨by omega,lexG_low h2 (by omega) (by omega)⟩
theorem F51_acc {l:List UInt8} {n:Nat} (hn:5000≤n) (h:Acc l):F51 n (bs l) = some (bs l,0):=by
 unfold F51
 rw [F55_eq hn]
 simp only [Option.bind_some,(acc_iff l).2 h]
 rfl
end Go.Proofs.YtbecjgckobhmpaaGreatDoor
end
section
namespace Go.Proofs.YtbecjgckobhmpaaGreatDoor
open Go Go.AM Go.Proofs
abbrev Tk:=Nat × Bytes
def tkn:Nat→Bytes→Option (List Tk)
 | 0,_=>none
 | f + 1,l=>match skp false l with
  | []=>some []
  | b :: r=>match tokL (b :: r) with
   | none=>none
   | some km=>(tkn f ((b :: r).drop km.2)).map ((km.1,(b :: r).take km.2) :: ·)
def tk (l:Bytes):Option (List Tk):=tkn (l.length + 1) l
theorem tkn_fuel:∀ (f f':Nat) (l:Bytes),l.length < f→l.length < f'→tkn f l = tkn f' l:=by
 intro f
 induction f with
 | zero=>intro f' l h; omega
 | succ f ih =>
  intro f' l h h'
  cases f' with
  | zero=>omega
  | succ f' =>
   simp only [tkn]
   have hk:=skp_len false l
   cases hs:skp false l with
   | nil=>rfl
   | cons b r =>
    rw [hs] at hk
    cases ht:tokL (b :: r) with
    | none=>simp only [ht]
    | some km =>
     have hm:=tokL_spec ht
     simp only [ht]
     have hd:=List.length_drop (i:=km.2) (l:=b :: r)
     rw [ih f' _ (by omega) (by omega)]
theorem tk_eq (l:Bytes):tk l = match skp false l with
  | []=>some []
  | b :: r=>match tokL (b :: r) with
   | none=>none
   | some km=>(tk ((b :: r).drop km.2)).map ((km.1,(b :: r).take km.2) :: ·):=by
 have hk:=skp_len false l
 unfold tk
 rw [tkn]
 cases hs:skp false l with
 | nil=>rfl
 | cons b r =>
  rw [hs] at hk
  cases ht:tokL (b :: r) with
  | none=>simp only [ht]
  | some km =>
   have hm:=tokL_spec ht
   have hd:=List.length_drop (i:=km.2) (l:=b :: r)
   simp only [ht]
   rw [tkn_fuel l.length (((b :: r).drop km.2).length + 1) _ (by omega) (by omega)]
theorem tk_nil:tk [] = some []:=rfl
theorem lexG_tk {N:Nat}:∀ {f c:Nat} {l:Bytes} {ts:List Token},l.length < f→lexG N f c l = .inl ts→c≤1500→∃ us,tk l = some us∧us.length = ts.length∧c + us.length≤1500
 | 0,_,_,_,hf,_,_=>by omega
 | f + 1,c,l,ts,hf,h,hc0=>by
  rw [tk_eq]
  simp only [lexG] at h
  have hk:=skp_len false l
  cases hs:skp false l with
  | nil=>rw [hs] at h; cases h; exact ⟨[],rfl,rfl,by simpa using hc0⟩
  | cons b r =>
   rw [hs] at h hk
   simp only [lexS] at h
   by_cases hc:c = 1500
   ·rw [if_pos hc] at h; cases h
   ·rw [if_neg hc] at h
    cases ht:tokL (b :: r) with
    | none=>rw [ht] at h; cases h
    | some km =>
     rw [ht] at h
     simp only at h
     have hm:=tokL_spec ht
     have hd:=List.length_drop (i:=km.2) (l:=b :: r)
     cases hg:lexG N f (c + 1) ((b :: r).drop km.2) with
     | inr e=>rw [hg] at h; cases h
     | inl vs =>
      rw [hg] at h
      cases h
      obtain ⟨us,h1,h2,h3⟩:=lexG_tk (by omega) hg (by omega)
      exact ⟨(km.1,(b :: r).take km.2) :: us,by simp only [ht,h1,Option.map_some],by simp [h2],by simp only [List.length_cons]; omega⟩
theorem tk_lexG {N:Nat}:∀ {f c:Nat} {l:Bytes} {us:List Tk},l.length < f→tk l = some us→c + us.length≤1500→∃ ts,lexG N f c l = .inl ts
 | 0,_,_,_,hf,_,_=>by omega
 | f + 1,c,l,us,hf,h,hc0=>by
  rw [tk_eq] at h
  simp only [lexG]
  have hk:=skp_len false l
  cases hs:skp false l with
  | nil=>exact ⟨[],rfl⟩
  | cons b r =>
   rw [hs] at h hk
   simp only [lexS]
   cases ht:tokL (b :: r) with
   | none=>simp only [ht] at h; cases h
   | some km =>
    simp only [ht,Option.map_eq_some_iff] at h ⊢
    obtain ⟨vs,h1,rfl⟩:=h
    have hm:=tokL_spec ht
    have hd:=List.length_drop (i:=km.2) (l:=b :: r)
    simp only [List.length_cons] at hc0
    rw [if_neg (by omega)]
    obtain ⟨ts,h2⟩:=tk_lexG (N:=N) (f:=f) (c:=c + 1) (by omega) h1 (by omega)
    rw [h2]
    exact ⟨_,rfl⟩
theorem acc_tk (l:Bytes):Acc l ↔ l.length≤4000∧∃ us,tk l = some us∧us.length≤1500:=by
 constructor
 ·rintro ⟨h,ts,h1⟩
  obtain ⟨us,h2,_,h3⟩:=lexG_tk (by omega) h1 (by omega)
  exact ⟨h,us,h2,by omega⟩
 ·rintro ⟨h,us,h1,h2⟩
  exact ⟨h,tk_lexG (by omega) h1 (by omega)⟩
def nw (r:Bytes):Prop:=∀ b,r.head? = some b→wrd b = false
theorem tk_step {w r:Bytes} {k:Nat} (hs:skp false (w ++ r) = w ++ r) (ht:tokL (w ++ r) = some (k,w.length)):tk (w ++ r) = (tk r).map ((k,w) :: ·):=by
 rw [tk_eq,hs]
 cases hw:w ++ r with
 | nil=>rw [hw] at ht; cases ht
 | cons b z =>
  rw [hw] at ht
  simp only [ht]
  rw [← hw,List.drop_left,List.take_left]
theorem tk_blank (r:Bytes):tk (32 :: r) = tk r:=by
 rw [tk_eq,tk_eq r]
 have:skp false (32 :: r) = skp false r:=by
  have h:wht 32 = true:=by decide
  simp [skp,h]
 rw [this]
theorem skp_head {b:UInt8} {l:Bytes} (h1:wht b = false) (h2:b≠47):skp false (b :: l) = b :: l:=by
 have ht:two (b :: l) = false:=by
  cases h:two (b :: l)
  ·rfl
  ·exact absurd (two_cons h) h2
 simp [skp,h1,ht]
theorem tw_all {α:Type} {p:α→Bool} {r:List α}:∀ {w:List α},(∀ y ∈ w,p y = true)→(∀ b,r.head? = some b→p b = false)→(w ++ r).takeWhile p = w∧(w ++ r).dropWhile p = r
 | [],_,h=>by
  cases r with
  | nil=>exact ⟨rfl,rfl⟩
  | cons b r =>
   have:=h b rfl
   exact ⟨by rw [List.nil_append,List.takeWhile_cons,if_neg (by simp [this])],by rw [List.nil_append,List.dropWhile_cons,if_neg (by simp [this])]⟩
 | x :: w,hw,h=>by
  have hx:=hw x (by simp)
  obtain ⟨e1,e2⟩:=tw_all (w:=w) (fun y hy=>hw y (by simp [hy])) h
  rw [List.cons_append,List.takeWhile_cons,List.dropWhile_cons,if_pos hx,if_pos hx,e1,e2]
  exact ⟨rfl,rfl⟩
theorem ltr_of {b:UInt8} (h:isLetI b.toNat = true):ltr b = true:=by
 simp only [isLetI,ltr,Bool.or_eq_true,Bool.and_eq_true,decide_eq_true_eq] at h ⊢
 omega
theorem wrd_of {b:UInt8} (h:isWordI b.toNat = true):wrd b = true:=by
 simp only [isWordI,isLetI,isDigI,wrd,ltr,dgt,Bool.or_eq_true,Bool.and_eq_true,decide_eq_true_eq,beq_iff_eq] at h ⊢
 omega
theorem ltr_wrd {b:UInt8} (h:ltr b = true):wrd b = true:=by simp [wrd,h]
theorem ltr_skp {b:UInt8} {l:Bytes} (h:ltr b = true):skp false (b :: l) = b :: l:=by
 refine skp_head ?_ (by rintro rfl; revert h; decide)
 cases hw:wht b
 ·rfl
 ·simp only [wht,ltr,Bool.or_eq_true,Bool.and_eq_true,decide_eq_true_eq,beq_iff_eq] at h hw
  omega
theorem dgt_skp {b:UInt8} {l:Bytes} (h:dgt b = true):skp false (b :: l) = b :: l:=by
 refine skp_head ?_ (by rintro rfl; revert h; decide)
 cases hw:wht b
 ·rfl
 ·simp only [wht,dgt,Bool.or_eq_true,Bool.and_eq_true,decide_eq_true_eq,beq_iff_eq] at h hw
  omega
theorem dgt_not_ltr {b:UInt8} (h:dgt b = true):ltr b = false:=by
 cases hw:ltr b
 ·rfl
 ·simp only [ltr,dgt,Bool.or_eq_true,Bool.and_eq_true,decide_eq_true_eq] at h hw
  omega
theorem tk_word {w r:Bytes} (hw:nameCs w = true) (h1:1≤w.length) (h2:w.length≤16) (hr:nw r):tk (w ++ r) = (tk r).map ((1,w) :: ·):=by
 cases w with
 | nil=>simp at h1
 | cons b w =>
  simp only [nameCs,Bool.and_eq_true,List.all_eq_true] at hw
  have hb:=ltr_of hw.1
  have hall:∀ y ∈ b :: w,wrd y = true:=by
   intro y hy
   rcases List.mem_cons.1 hy with rfl | hy
   ·exact ltr_wrd hb
   ·exact wrd_of (hw.2 y hy)
  refine tk_step (ltr_skp hb) ?_
  obtain ⟨e1,_⟩:=tw_all hall hr
  rw [List.cons_append,tokL_cons]
  rw [List.cons_append] at e1
  rw [hb,e1]
  have:decide ((b :: w).length≤16) = true:=by simpa using h2
  simp only [this,cond_true]
theorem tk_name {w r:Bytes} (hw:nameB w = true) (hr:nw r):tk (w ++ r) = (tk r).map ((1,w) :: ·):=by
 simp only [nameB,Bool.and_eq_true,decide_eq_true_eq] at hw
 exact tk_word hw.2 hw.1.1.1 hw.1.1.2 hr
theorem digs_all:∀ (f u:Nat),∀ b ∈ digs f u,dgt b = true
 | 0,u,b,h=>by cases h
 | f + 1,u,b,h=>by
  have hd:∀ k:Nat,k < 10→dgt (UInt8.ofNat (48 + k)) = true:=by decide
  rw [digs] at h
  split at h
  ·rename_i hu
   rw [List.mem_singleton.1 h]
   exact hd u hu
  ·rcases List.mem_append.1 h with h | h
   ·exact digs_all f _ b h
   ·rw [List.mem_singleton.1 h]
    exact hd _ (Nat.mod_lt _ (by omega))
theorem digs_le:∀ (f u k:Nat),u < 10 ^ (k + 1)→(digs f u).length≤k + 1
 | 0,u,k,h=>by simp [digs]
 | f + 1,u,k,h=>by
  rw [digs]
  split
  ·simp
  ·rename_i hu
   cases k with
   | zero=>simp at h; omega
   | succ k =>
    have:u / 10 < 10 ^ (k + 1):=by
     rw [Nat.div_lt_iff_lt_mul (by omega)]
     rw [Nat.pow_succ] at h
     omega
    have:=digs_le f (u / 10) k this
    simp
    omega
theorem digs_head:∀ (f u:Nat),u≠0→u < 10 ^ f→∃ b r,digs f u = b :: r∧b.toNat≠48
 | 0,u,h0,h=>by simp at h; omega
 | f + 1,u,h0,h=>by
  rw [digs]
  split
  ·rename_i hu
   refine ⟨_,_,rfl,?_⟩
   have:∀ k:Nat,k < 10→k≠0→(UInt8.ofNat (48 + k)).toNat≠48:=by decide
   exact this u hu h0
  ·rename_i hu
   have:u / 10 < 10 ^ f:=by
    rw [Nat.div_lt_iff_lt_mul (by omega)]
    rw [Nat.pow_succ] at h
    omega
   obtain ⟨b,r,e,hb⟩:=digs_head f (u / 10) (by omega) this
   rw [e]
   exact ⟨b,r ++ [UInt8.ofNat (48 + u % 10)],rfl,hb⟩
theorem tk_num {n:Int} {r:Bytes} (hn:inR n = true) (hr:nw r):tk (numL n ++ r) = (tk r).map ((2,numL n) :: ·):=by
 have hu:n.toNat < 10 ^ (8 + 1):=by
  simp only [inR,Bool.and_eq_true,decide_eq_true_eq] at hn
  omega
 have hall:=digs_all 20 n.toNat
 have hlen:=digs_le 20 n.toNat 8 hu
 have hpos:=digs_pos 19 n.toNat
 unfold numL
 cases hd:digs 20 n.toNat with
 | nil=>rw [hd] at hpos; simp at hpos
 | cons b w =>
  rw [hd] at hall hlen
  have hb:=hall b (by simp)
  have hr2:∀ c,r.head? = some c→dgt c = false:=fun c hc=>by
   have:=hr c hc
   simp only [wrd,Bool.or_eq_false_iff] at this
   exact this.2.1
  obtain ⟨e1,e2⟩:=tw_all hall hr2
  refine tk_step (dgt_skp hb) ?_
  rw [List.cons_append,tokL_cons]
  rw [List.cons_append] at e1 e2
  rw [dgt_not_ltr hb,hb,e1]
  have hok:numOk b (b :: (w ++ r)) = true:=by
   unfold numOk
   rw [e1,e2]
   simp only [Bool.and_eq_true,decide_eq_true_eq,Bool.or_eq_true,bne_iff_ne,ne_eq,beq_iff_eq]
   refine ⟨by omega,?_,?_⟩
   ·by_cases h48:b.toNat = 48
    ·right
     by_cases h0:n.toNat = 0
     ·have:digs 20 0 = [48]:=rfl
      rw [h0,this] at hd
      cases hd
      rfl
     ·obtain ⟨b',r',e,hb'⟩:=digs_head 20 n.toNat h0 (by omega)
      rw [hd] at e
      cases e
      exact absurd h48 hb'
    ·exact .inl h48
   ·cases hrr:r with
    | nil=>rfl
    | cons c z =>
     have:=hr c (by rw [hrr]; rfl)
     simp [this]
  simp only [hok,cond_true,cond_false]
theorem tk_sym {b:UInt8} {s r:Bytes} (h1:ltr b = false) (h2:dgt b = false) (h3:wht b = false) (h4:b≠47) (hf:symL.find? (fun t=>t.isPrefixOf (b :: s ++ r)) = some (b :: s)):tk (b :: s ++ r) = (tk r).map ((3,b :: s) :: ·):=by
 refine tk_step (skp_head h3 h4) ?_
 rw [List.cons_append,tokL_cons]
 rw [List.cons_append] at hf
 rw [h1,h2,hf]
 rfl
theorem tk_op {s:ByteArray} (h:levelI s≠0) (r:Bytes):tk (tl s ++ 32 :: r) = (tk (32 :: r)).map ((3,tl s) :: ·):=by
 have hc:=level_cases h
 generalize tl s = w at hc
 simp only [List.mem_cons,List.not_mem_nil,or_false] at hc
 rcases hc with rfl | rfl | rfl | rfl | rfl | rfl | rfl | rfl | rfl | rfl | rfl | rfl | rfl <;>
  exact tk_sym (by decide) (by decide) (by decide) (by decide) rfl
def pathT:Nat→Bytes→List Tk
 | 0,_=>[]
 | k + 1,s=>match (cutB s).2 with
  | none=>[(1,(cutB s).1)]
  | some r=>(1,(cutB s).1) :: (3,[46]) :: pathT k r
theorem nw_cons {b:UInt8} {r:Bytes} (h:wrd b = false):nw (b :: r):=fun c hc=>by
 have:b = c:=by simpa using hc
 subst this
 exact h
theorem tk_path:∀ (k:Nat) {s r:Bytes},pathN k s = true→nw r→tk (s ++ r) = (tk r).map (pathT k s ++ ·)
 | 0,s,r,h,_=>by cases h
 | k + 1,s,r,h,hr=>by
  simp only [pathN,Bool.and_eq_true] at h
  obtain ⟨h1,h2⟩:=h
  cases hc:(cutB s).2 with
  | none =>
   have e:=((cutB_spec s).1 hc).1
   rw [e] at h1
   simp only [pathT,hc,e]
   exact tk_name h1 hr
  | some q =>
   rw [hc] at h2
   have e:=((cutB_spec s).2 q hc).1
   simp only [pathT,hc]
   conv=>lhs; rw [e]
   have ih:=tk_path k h2 hr
   rw [List.append_assoc,tk_name (r:=46 :: q ++ r) h1 (nw_cons (by decide))]
   have e46:tk (46 :: q ++ r) = (tk (q ++ r)).map ((3,[46]) :: ·):=tk_sym (s:=[]) (r:=q ++ r) (by decide) (by decide) (by decide) (by decide) rfl
   rw [e46,ih]
   simp only [Option.map_map]
   rfl
def opT (a:Int × List Tk) (req:Int):List Tk:=bif decide (a.1 < req) then (3,[40]) :: (a.2 ++ [(3,[41])]) else a.2
def nthT (ks:List (Int × List Tk)) (i:Nat):Int × List Tk:=ks.getD i (0,[])
def tkOf (k:Int) (nm:ByteArray) (n:Int) (ks:List (Int × List Tk)):List Tk :=
 bif k == 1 then [(2,numL n)]
 else bif k == 2 then (bif ks.isEmpty then pathT 3 (tl nm) else pathT 3 (tl nm) ++ ((3,[91]) :: (opT (nthT ks 0) 0 ++ [(3,[93])])))
 else bif k == 3 then (1,[111,108,100]) :: (3,[40]) :: (opT (nthT ks 0) 0 ++ [(3,[41])])
 else bif k == 4 then (3,[33]) :: opT (nthT ks 0) 11
 else bif k == 5 then opT (nthT ks 0) (ruleI nm).2.2.1 ++ ((3,tl nm) :: opT (nthT ks 1) (ruleI nm).2.2.2)
 else bif k == 6 then opT (nthT ks 0) 2 ++ ((3,[63]) :: (opT (nthT ks 1) 1 ++ ((3,[58]) :: opT (nthT ks 2) 1)))
 else bif k == 7 then (1,[97,108,108]) :: (1,tl nm) :: (3,[60]) :: (2,numL n) :: (3,[58]) :: opT (nthT ks 0) 0
 else bif k == 8 then (1,[115,111,109,101]) :: (1,tl nm) :: (3,[60]) :: (2,numL n) :: (3,[58]) :: opT (nthT ks 0) 0
 else []
mutual
def tkx:Node→List Tk
 | ⟨k,nm,_,n,_,_,_,ks,_⟩=>tkOf k nm n (tkxs ks)
def tkxs:List Node→List (Int × List Tk)
 | []=>[]
 | x :: r=>(levI x,tkx x) :: tkxs r
end
theorem tkx_eq (x:Node):tkx x = tkOf x.kind x.name x.n (tkxs x.kids):=by cases x; rfl
def hd1 (l:Bytes):Prop:=∃ b t,l = b :: t∧b≠61
theorem hd1.ne {l:Bytes} (h:hd1 l):l≠[]:=by obtain ⟨b,t,rfl,_⟩:=h; simp
theorem hd1.app {l:Bytes} (h:hd1 l) (r:Bytes):hd1 (l ++ r):=by
 obtain ⟨b,t,rfl,h⟩:=h
 exact ⟨b,t ++ r,rfl,h⟩
theorem hd1_opd {x:Node} (h:hd1 (txt x)) (req:Int):hd1 (opd (levI x,txt x) req):=by
 unfold opd
 cases decide (levI x < req)
 ·exact h
 ·exact ⟨40,txt x ++ [41],rfl,by decide⟩
theorem name_hd {w:Bytes} (h:nameB w = true):hd1 w:=by
 simp only [nameB,Bool.and_eq_true,decide_eq_true_eq] at h
 cases w with
 | nil=>simp at h
 | cons b w =>
  simp only [nameCs,Bool.and_eq_true] at h
  refine ⟨b,w,rfl,?_⟩
  rintro rfl
  exact absurd h.2.1 (by decide)
theorem path_hd {w:Bytes} (h:pathB w = true):hd1 w:=by
 simp only [pathB,pathN,Bool.and_eq_true] at h
 have h1:=name_hd h.1
 cases hc:(cutB w).2 with
 | none=>rw [((cutB_spec w).1 hc).1] at h1; exact h1
 | some q =>
  rw [((cutB_spec w).2 q hc).1]
  exact h1.app _
theorem num_hd (n:Int):hd1 (numL n):=by
 have hpos:=digs_pos 19 n.toNat
 unfold numL
 cases hd:digs 20 n.toNat with
 | nil=>rw [hd] at hpos; simp at hpos
 | cons b w =>
  refine ⟨b,w,rfl,?_⟩
  rintro rfl
  have:=digs_all 20 n.toNat 61 (by rw [hd]; simp)
  revert this
  decide
theorem op_ne {s:ByteArray} (h:levelI s≠0):tl s≠[]:=fun e=>by
 have:=(level_len h).1
 rw [e] at this
 simp at this
theorem join2 (a b c:Bytes):joinL [32] [a,b,c] = a ++ 32 :: (b ++ 32 :: c):=by simp [joinL]
theorem join5 (a b c d e:Bytes):joinL [32] [a,b,c,d,e] = a ++ 32 :: (b ++ 32 :: (c ++ 32 :: (d ++ 32 :: e))):=by simp [joinL]
theorem join6 (a b c d e f:Bytes):joinL [32] [a,b,c,d,e,f] = a ++ 32 :: (b ++ 32 :: (c ++ 32 :: (d ++ 32 :: (e ++ 32 :: f)))):=by simp [joinL]
theorem txt_hd:∀ x,okE x→hd1 (txt x):=by
 refine okE_ind ?_ ?_ ?_ ?_ ?_ ?_ ?_ ?_
 ·intro x h _ _; rw [txt_eq]; simp only [txtOf,h]; exact num_hd _
 ·intro x h hk hp; rw [txt_eq,hk]; simp [txtOf,h,txts]; exact path_hd hp
 ·intro x a h hk hp _ _; rw [txt_eq,hk]; simp [txtOf,h,txts]; exact (path_hd hp).app _
 ·intro x a h hk _ _; rw [txt_eq,hk]; simp [txtOf,h,txts]; exact ⟨_,_,rfl,by decide⟩
 ·intro x a h hk _ _; rw [txt_eq,hk]; simp [txtOf,h,txts]; exact ⟨_,_,rfl,by decide⟩
 ·intro x a b h hk hl _ ha _ hb
  rw [txt_eq,hk]
  simp only [txtOf,h,txts,nth]
  show hd1 (wordsL [opd (levI a,txt a) _,tl x.name,opd (levI b,txt b) _])
  rw [words_ne (by simp; exact ⟨(hd1_opd ha _).ne,op_ne hl,(hd1_opd hb _).ne⟩),join2]
  exact (hd1_opd ha _).app _
 ·intro x a b c h hk _ ha _ hb _ hc
  rw [txt_eq,hk]
  simp only [txtOf,h,txts,nth]
  show hd1 (wordsL [opd (levI a,txt a) _,[63],opd (levI b,txt b) _,[58],opd (levI c,txt c) _])
  rw [words_ne (by simp; exact ⟨(hd1_opd ha _).ne,(hd1_opd hb _).ne,(hd1_opd hc _).ne⟩),join5]
  exact (hd1_opd ha _).app _
 ·intro x a h hk hn _ _ ha
  rw [txt_eq,hk]
  rcases h with h | h
  ·simp only [txtOf,h,txts,nth]
   show hd1 (wordsL [[97,108,108],tl x.name,[60],numL x.n,[58],opd (levI a,txt a) 0])
   rw [words_ne (by simp; exact ⟨(name_hd hn).ne,(num_hd _).ne,(hd1_opd ha _).ne⟩),join6]
   exact ⟨_,_,rfl,by decide⟩
  ·simp only [txtOf,h,txts,nth]
   show hd1 (wordsL [[115,111,109,101],tl x.name,[60],numL x.n,[58],opd (levI a,txt a) 0])
   rw [words_ne (by simp; exact ⟨(name_hd hn).ne,(num_hd _).ne,(hd1_opd ha _).ne⟩),join6]
   exact ⟨_,_,rfl,by decide⟩
theorem txt5 {x a b:Node} (h:x.kind = 5) (hk:x.kids = [a,b]) (hl:levelI x.name≠0) (ha:okE a) (hb:okE b) :
  txt x = opd (levI a,txt a) (ruleI x.name).2.2.1 ++ 32 :: (tl x.name ++ 32 :: opd (levI b,txt b) (ruleI x.name).2.2.2):=by
 rw [txt_eq,hk]
 simp only [txtOf,h,txts,nth]
 show wordsL [opd (levI a,txt a) _,tl x.name,opd (levI b,txt b) _] = _
 rw [words_ne (by simp; exact ⟨(hd1_opd (txt_hd a ha) _).ne,op_ne hl,(hd1_opd (txt_hd b hb) _).ne⟩),join2]
theorem txt6 {x a b c:Node} (h:x.kind = 6) (hk:x.kids = [a,b,c]) (ha:okE a) (hb:okE b) (hc:okE c) :
  txt x = opd (levI a,txt a) 2 ++ 32 :: ([63] ++ 32 :: (opd (levI b,txt b) 1 ++ 32 :: ([58] ++ 32 :: opd (levI c,txt c) 1))):=by
 rw [txt_eq,hk]
 simp only [txtOf,h,txts,nth]
 show wordsL [opd (levI a,txt a) _,[63],opd (levI b,txt b) _,[58],opd (levI c,txt c) _] = _
 rw [words_ne (by simp; exact ⟨(hd1_opd (txt_hd a ha) _).ne,(hd1_opd (txt_hd b hb) _).ne,(hd1_opd (txt_hd c hc) _).ne⟩),join5]
theorem txt7 {x a:Node} (h:x.kind = 7∨x.kind = 8) (hk:x.kids = [a]) (hn:nameB (tl x.name) = true) (ha:okE a) :
  txt x = (bif x.kind == 7 then [97,108,108] else [115,111,109,101]) ++ 32 :: (tl x.name ++ 32 :: ([60] ++ 32 :: (numL x.n ++ 32 :: ([58] ++ 32 :: opd (levI a,txt a) 0)))):=by
 rw [txt_eq,hk]
 rcases h with h | h
 ·simp only [txtOf,h,txts,nth]
  show wordsL [[97,108,108],tl x.name,[60],numL x.n,[58],opd (levI a,txt a) 0] = _
  rw [words_ne (by simp; exact ⟨(name_hd hn).ne,(num_hd _).ne,(hd1_opd (txt_hd a ha) _).ne⟩),join6]
  rfl
 ·simp only [txtOf,h,txts,nth]
  show wordsL [[115,111,109,101],tl x.name,[60],numL x.n,[58],opd (levI a,txt a) 0] = _
  rw [words_ne (by simp; exact ⟨(name_hd hn).ne,(num_hd _).ne,(hd1_opd (txt_hd a ha) _).ne⟩),join6]
  rfl
theorem tk_opd {x:Node} (h:∀ r,nw r→tk (txt x ++ r) = (tk r).map (tkx x ++ ·)) (req:Int) {r:Bytes} (hr:nw r):tk (opd (levI x,txt x) req ++ r) = (tk r).map (opT (levI x,tkx x) req ++ ·):=by
 unfold opd opT
 cases decide (levI x < req)
 ·exact h r hr
 ·simp only [cond_true,List.append_assoc]
  have e1:tk (40 :: [] ++ (txt x ++ ([41] ++ r))) = (tk (txt x ++ ([41] ++ r))).map ((3,[40]) :: ·):=tk_sym (by decide) (by decide) (by decide) (by decide) rfl
  have e2:tk (41 :: [] ++ r) = (tk r).map ((3,[41]) :: ·):=tk_sym (by decide) (by decide) (by decide) (by decide) rfl
  refine e1.trans ?_
  rw [h ([41] ++ r) (nw_cons (by decide))]
  have e2':tk ([41] ++ r) = (tk r).map ((3,[41]) :: ·):=e2
  rw [e2']
  simp only [Option.map_map]
  congr 1
  funext z
  simp
theorem nw32 (r:Bytes):nw (32 :: r):=nw_cons (by decide)
theorem tk_txt:∀ x,okE x→∀ r,nw r→tk (txt x ++ r) = (tk r).map (tkx x ++ ·):=by
 refine okE_ind ?_ ?_ ?_ ?_ ?_ ?_ ?_ ?_
 ·intro x h _ hn r hr
  rw [txt_eq,tkx_eq]; simp only [txtOf,tkOf,h]
  exact tk_num hn hr
 ·intro x h hk hp r hr
  rw [txt_eq,tkx_eq,hk]; simp only [txtOf,tkOf,h,txts,tkxs]
  exact tk_path 3 hp hr
 ·intro x a h hk hp _ ih r hr
  rw [txt_eq,tkx_eq,hk]; simp only [txtOf,tkOf,h,txts,tkxs,nth,nthT]
  show tk (tl x.name ++ ([91] ++ (opd (levI a,txt a) 0 ++ [93])) ++ r) = (tk r).map (pathT 3 (tl x.name) ++ ((3,[91]) :: (opT (levI a,tkx a) 0 ++ [(3,[93])])) ++ ·)
  have e1:tk (91 :: [] ++ (opd (levI a,txt a) 0 ++ ([93] ++ r))) = _:=tk_sym (by decide) (by decide) (by decide) (by decide) rfl
  have e2:tk (93 :: [] ++ r) = _:=tk_sym (by decide) (by decide) (by decide) (by decide) rfl
  simp only [List.append_assoc]
  rw [tk_path 3 (r:=[91] ++ (opd (levI a,txt a) 0 ++ ([93] ++ r))) hp (nw_cons (by decide))]
  have e1':tk ([91] ++ (opd (levI a,txt a) 0 ++ ([93] ++ r))) = _:=e1
  have e2':tk ([93] ++ r) = _:=e2
  rw [e1',tk_opd ih 0 (r:=[93] ++ r) (nw_cons (by decide)),e2']
  simp only [Option.map_map]
  congr 1
  funext z
  simp
 ·intro x a h hk _ ih r hr
  rw [txt_eq,tkx_eq,hk]; simp only [txtOf,tkOf,h,txts,tkxs,nth,nthT]
  show tk (([111,108,100]:Bytes) ++ ([40] ++ (opd (levI a,txt a) 0 ++ [41])) ++ r) = (tk r).map ((1,[111,108,100]) :: (3,[40]) :: (opT (levI a,tkx a) 0 ++ [(3,[41])]) ++ ·)
  have e1:tk (40 :: [] ++ (opd (levI a,txt a) 0 ++ ([41] ++ r))) = _:=tk_sym (by decide) (by decide) (by decide) (by decide) rfl
  have e2:tk (41 :: [] ++ r) = _:=tk_sym (by decide) (by decide) (by decide) (by decide) rfl
  simp only [List.append_assoc]
  rw [tk_word (w:=[111,108,100]) (r:=[40] ++ (opd (levI a,txt a) 0 ++ ([41] ++ r))) (by decide) (by decide) (by decide) (nw_cons (by decide))]
  have e1':tk ([40] ++ (opd (levI a,txt a) 0 ++ ([41] ++ r))) = _:=e1
  have e2':tk ([41] ++ r) = _:=e2
  rw [e1',tk_opd ih 0 (r:=[41] ++ r) (nw_cons (by decide)),e2']
  simp only [Option.map_map]
  congr 1
  funext z
  simp
 ·intro x a h hk hx ih r hr
  rw [txt_eq,tkx_eq,hk]; simp only [txtOf,tkOf,h,txts,tkxs,nth,nthT]
  show tk ([33] ++ opd (levI a,txt a) 11 ++ r) = (tk r).map ((3,[33]) :: opT (levI a,tkx a) 11 ++ ·)
  obtain ⟨b,t,e,hb⟩:=hd1_opd (txt_hd a hx) 11
  have e1:tk (33 :: [] ++ (opd (levI a,txt a) 11 ++ r)) = _:=tk_sym (by decide) (by decide) (by decide) (by decide) (by
   rw [e]
   have hb':((61:UInt8) == b) = false:=by simpa using fun e=>hb e.symm
   simp [symL,List.find?,List.isPrefixOf,hb'])
  simp only [List.append_assoc]
  have e1':tk ([33] ++ (opd (levI a,txt a) 11 ++ r)) = _:=e1
  rw [e1',tk_opd ih 11 hr]
  simp only [Option.map_map]
  rfl
 ·intro x a b h hk hl ha iha hb ihb r hr
  rw [txt5 h hk hl ha hb,tkx_eq,hk]; simp only [tkOf,h,tkxs,nthT]
  show _ = (tk r).map (opT (levI a,tkx a) (ruleI x.name).2.2.1 ++ ((3,tl x.name) :: opT (levI b,tkx b) (ruleI x.name).2.2.2) ++ ·)
  simp only [List.append_assoc,List.cons_append]
  rw [tk_opd iha _ (nw32 _),tk_blank,tk_op hl,tk_blank,tk_opd ihb _ hr]
  simp only [Option.map_map]
  rfl
 ·intro x a b c h hk ha iha hb ihb hc ihc r hr
  rw [txt6 h hk ha hb hc,tkx_eq,hk]; simp only [tkOf,h,tkxs,nthT]
  show _ = (tk r).map (opT (levI a,tkx a) 2 ++ ((3,[63]) :: (opT (levI b,tkx b) 1 ++ ((3,[58]) :: opT (levI c,tkx c) 1))) ++ ·)
  simp only [List.append_assoc,List.cons_append,List.nil_append]
  have e1:∀ z:Bytes,tk (63 :: 32 :: z) = (tk (32 :: z)).map ((3,[63]) :: ·):=fun z=>tk_sym (s:=[]) (r:=32 :: z) (by decide) (by decide) (by decide) (by decide) rfl
  have e2:∀ z:Bytes,tk (58 :: 32 :: z) = (tk (32 :: z)).map ((3,[58]) :: ·):=fun z=>tk_sym (s:=[]) (r:=32 :: z) (by decide) (by decide) (by decide) (by decide) rfl
  rw [tk_opd iha _ (nw32 _),tk_blank,e1,tk_blank,tk_opd ihb _ (nw32 _),tk_blank,e2,tk_blank,tk_opd ihc _ hr]
  simp only [Option.map_map]
  congr 1
 ·intro x a h hk hn hi ha ih r hr
  rw [txt7 h hk hn ha,tkx_eq,hk]
  have e1:∀ z:Bytes,tk (60 :: 32 :: z) = (tk (32 :: z)).map ((3,[60]) :: ·):=fun z=>tk_sym (s:=[]) (r:=32 :: z) (by decide) (by decide) (by decide) (by decide) rfl
  have e2:∀ z:Bytes,tk (58 :: 32 :: z) = (tk (32 :: z)).map ((3,[58]) :: ·):=fun z=>tk_sym (s:=[]) (r:=32 :: z) (by decide) (by decide) (by decide) (by decide) rfl
  have hw:∀ z:Bytes,tk ((bif x.kind == 7 then [97,108,108] else [115,111,109,101]) ++ 32 :: z) = (tk (32 :: z)).map ((1,bif x.kind == 7 then [97,108,108] else [115,111,109,101]) :: ·):=fun z=>by
   cases x.kind == 7
   ·exact tk_word (w:=[115,111,109,101]) (by decide) (by decide) (by decide) (nw32 z)
   ·exact tk_word (w:=[97,108,108]) (by decide) (by decide) (by decide) (nw32 z)
  have htk:tkOf x.kind x.name x.n (tkxs [a]) = (1,bif x.kind == 7 then [97,108,108] else [115,111,109,101]) :: (1,tl x.name) :: (3,[60]) :: (2,numL x.n) :: (3,[58]) :: opT (levI a,tkx a) 0:=by
   rcases h with h | h <;> simp only [tkOf,h,tkxs,nthT] <;> rfl
  rw [htk]
  simp only [List.append_assoc,List.cons_append,List.nil_append]
  rw [hw,tk_blank,tk_name hn (nw32 _),tk_blank,e1,tk_blank,tk_num hi (nw32 _),tk_blank,e2,tk_blank,tk_opd ih _ hr]
  simp only [Option.map_map]
  rfl
theorem acc_txt {x:Node} (hx:okE x):Acc (txt x) ↔ (txt x).length≤4000∧(tkx x).length≤1500:=by
 have h:=tk_txt x hx [] (fun b hb=>by cases hb)
 rw [List.append_nil,tk_nil] at h
 simp only [Option.map_some,List.append_nil] at h
 rw [acc_tk,h]
 constructor
 ·rintro ⟨h1,us,h2,h3⟩
  obtain rfl:=Option.some.inj h2
  exact ⟨h1,h3⟩
 ·rintro ⟨h1,h2⟩
  exact ⟨h1,_,rfl,h2⟩
end Go.Proofs.YtbecjgckobhmpaaGreatDoor
end
