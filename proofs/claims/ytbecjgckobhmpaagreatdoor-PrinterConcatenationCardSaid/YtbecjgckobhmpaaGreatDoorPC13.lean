/-
  Proved here: a part of what the claim needs (texts ZE ZV ZW ZO ZX ZG ZI ZY ZZ ZB ZL ZC ZR ZT ZU ZU2 ZD ZF ZK ZK2 of the prover's own).
-/
import Derived.Test.YtbecjgckobhmpaaGreatDoorPC12
section
namespace Go.AM
open Go
def runF {α A ρ:Type} (f:Nat→A→α→A ⊕ ρ) (fin:A→ρ):Nat→List α→A→ρ
 | _,[],a=>fin a
 | k,x :: r,a=>match f k a x with
  | .inl a'=>runF f fin (k + 1) r a'
  | .inr v=>v
theorem iter_runF {α A ρ σ:Type} {step:σ→Option (σ ⊕ ρ)} (l:List α) (mk:Nat→A→σ) (f:Nat→A→α→A ⊕ ρ) (fin:A→ρ)
  (hin:∀ k a x,l[k]? = some x→step (mk k a) = some (match f k a x with | .inl a'=>.inl (mk (k + 1) a') | .inr v=>.inr v))
  (hend:∀ a,step (mk l.length a) = some (.inr (fin a))) :
  ∀ (n:Nat) (a:A),l.length < n→iter step n (mk 0 a) = some (runF f fin 0 l a):=by
 have key:∀ (r:List α) (k:Nat) (a:A) (n:Nat),l.drop k = r→k≤l.length→r.length < n→iter step n (mk k a) = some (runF f fin k r a):=by
  intro r
  induction r with
  | nil =>
   intro k a n hk hkl hn
   have hkl':k = l.length:=by
    have:=congrArg List.length hk
    simp at this
    omega
   cases n with
   | zero=>simp at hn
   | succ n=>subst hkl'; simp only [iter,hend,runF]
  | cons x r ih =>
   intro k a n hk hkl hn
   have hlt:k < l.length:=by
    have:=congrArg List.length hk
    simp at this
    omega
   have hx:l[k]? = some x:=by
    have:=congrArg (fun z=>z[0]?) hk
    simpa using this
   have hr:l.drop (k + 1) = r:=by
    have:=congrArg (List.drop 1) hk
    simpa [List.drop_drop,Nat.add_comm] using this
   cases n with
   | zero=>simp at hn
   | succ n =>
    simp only [iter,hin k a x hx,runF]
    cases hf:f k a x with
    | inl a'=>simpa using ih (k + 1) a' n hr (by omega) (by simpa using hn)
    | inr v=>rfl
 intro n a hn
 exact key l 0 a n rfl (by omega) hn
theorem runF_all {α:Type} (p:α→Bool):∀ (l:List α) (k:Nat),runF (A:=Unit) (ρ:=Unit ⊕ Unit) (fun _ _ x=>if p x then .inl () else .inr (.inl ())) (fun _=>.inr ()) k l () = if l.all p then .inr () else .inl ()
 | [],_=>rfl
 | x :: r,k=>by
  simp only [runF]
  cases hp:p x
  ·simp [hp]
  ·simp [hp,runF_all p r (k + 1)]
theorem w64_id {x:Int} (h1:-9223372036854775808≤x) (h2:x≤9223372036854775807):w64 x = x:=by
 show (if (true && decide (x % 18446744073709551616 ≥ 9223372036854775808)) = true then x % 18446744073709551616 - 18446744073709551616 else x % 18446744073709551616) = x
 split
 ·rename_i h
  simp at h
  omega
 ·rename_i h
  simp at h
  omega
theorem w64_nat {k:Nat} (h:k < 9223372036854775807):w64 ((k:Int) + 1) = ((k + 1:Nat):Int):=by
 rw [w64_id (by omega) (by omega)]; rfl
theorem idxL_some {α:Type} {l:List α} {k:Nat} {x:α} (h:l[k]? = some x):idxL l (k:Int) = some x:=by
 simp [idxL,h]
theorem idxS_some {s:ByteArray} {k:Nat} {b:UInt8} (h:s.data.toList[k]? = some b):idxS s (k:Int) = some (b.toNat:Int):=by
 have:s[k]? = some b:=by
  have h2:s.data[k]? = some b:=by simpa using h
  exact h2
 simp [idxS,this]
theorem lt_of_get {α:Type} {l:List α} {k:Nat} {x:α} (h:l[k]? = some x):k < l.length:=(List.getElem?_eq_some_iff.1 h).1
theorem some_cond {α:Type} (c:Bool) (a b:α):(bif c then some a else some b) = some (bif c then a else b):=by cases c <;> rfl
theorem bor (c d:Bool):(bif c then c else d) = (c || d):=by cases c <;> rfl
theorem iter_all {α:Type} {step:Int→Option (Int ⊕ (Unit ⊕ Unit))} (l:List α) (p:α→Bool) (hl:l.length≤9223372036854775807)
  (hin:∀ (k:Nat) x,l[k]? = some x→step (k:Int) = some (if p x then .inl (w64 ((k:Int) + 1)) else .inr (.inl ())))
  (hend:step (l.length:Int) = some (.inr (.inr ()))) {n:Nat} (hn:l.length < n) :
  iter step n 0 = some (if l.all p then .inr () else .inl ()):=by
 have:=iter_runF l (fun (k:Nat) (_:Unit)=>(k:Int)) (fun _ _ x=>if p x then .inl () else .inr (.inl ())) (fun _=>.inr ()) (step:=step)
  (fun k a x hx=>by
   rw [hin k x hx,w64_nat (by have:=lt_of_get hx; omega)]
   cases p x <;> rfl)
  (fun _=>hend) n () hn
 rw [runF_all] at this
 exact this
def allI {α:Type} (p:Nat→α→Bool):Nat→List α→Bool
 | _,[]=>true
 | k,x :: r=>p k x && allI p (k + 1) r
theorem runF_allI {α:Type} (p:Nat→α→Bool):∀ (l:List α) (k:Nat),runF (A:=Unit) (ρ:=Unit ⊕ Unit) (fun k _ x=>if p k x then .inl () else .inr (.inl ())) (fun _=>.inr ()) k l () = if allI p k l then .inr () else .inl ()
 | [],_=>rfl
 | x :: r,k=>by
  simp only [runF,allI]
  by_cases hp:p k x = true
  ·simp only [hp,if_true,runF_allI p r (k + 1),Bool.true_and]
  ·simp [hp]
theorem iter_allI {α:Type} {step:Int→Option (Int ⊕ (Unit ⊕ Unit))} (l:List α) (p:Nat→α→Bool) (hl:l.length≤9223372036854775807)
  (hin:∀ (k:Nat) x,l[k]? = some x→step (k:Int) = some (if p k x then .inl (w64 ((k:Int) + 1)) else .inr (.inl ())))
  (hend:step (l.length:Int) = some (.inr (.inr ()))) {n:Nat} (hn:l.length < n) :
  iter step n 0 = some (if allI p 0 l then .inr () else .inl ()):=by
 have:=iter_runF l (fun (k:Nat) (_:Unit)=>(k:Int)) (fun k _ x=>if p k x then .inl () else .inr (.inl ())) (fun _=>.inr ()) (step:=step)
  (fun k a x hx=>by
   rw [hin k x hx,w64_nat (by have:=lt_of_get hx; omega)]
   cases p k x <;> rfl)
  (fun _=>hend) n () hn
 rw [runF_allI] at this
 exact this
theorem iter_inv {α A ρ σ:Type} {step:σ→Option (σ ⊕ ρ)} (l:List α) (mk:Nat→A→σ) (I:Nat→A→Prop) (Q:ρ→Prop)
  (hin:∀ k a x,l[k]? = some x→I k a→(∃ a',step (mk k a) = some (.inl (mk (k + 1) a'))∧I (k + 1) a')∨(∃ r,step (mk k a) = some (.inr r)∧Q r))
  (hend:∀ a,I l.length a→∃ r,step (mk l.length a) = some (.inr r)∧Q r) :
  ∀ (n:Nat) (a:A),l.length < n→I 0 a→∃ r,iter step n (mk 0 a) = some r∧Q r:=by
 have key:∀ (j k:Nat) (a:A) (n:Nat),k + j = l.length→j < n→I k a→∃ r,iter step n (mk k a) = some r∧Q r:=by
  intro j
  induction j with
  | zero =>
   intro k a n hk hn hi
   have hk':k = l.length:=by omega
   subst hk'
   obtain ⟨r,hr,hq⟩:=hend a hi
   cases n with
   | zero=>omega
   | succ n=>exact ⟨r,by simp only [iter,hr],hq⟩
  | succ j ih =>
   intro k a n hk hn hi
   have hlt:k < l.length:=by omega
   cases n with
   | zero=>omega
   | succ n =>
    rcases hin k a l[k] (List.getElem?_eq_getElem hlt) hi with ⟨a',hs,hi'⟩ | ⟨r,hs,hq⟩
    ·obtain ⟨r,hr,hq⟩:=ih (k + 1) a' n (by omega) (by omega) hi'
     exact ⟨r,by simp only [iter,hs]; exact hr,hq⟩
    ·exact ⟨r,by simp only [iter,hs],hq⟩
 intro n a hn hi
 exact key l.length 0 a n (by omega) hn hi
theorem iter_meas {ρ σ:Type} {step:σ→Option (σ ⊕ ρ)} (I:σ→Prop) (m:σ→Nat) (Q:ρ→Prop)
  (h:∀ s,I s→(∃ s',step s = some (.inl s')∧I s'∧m s' < m s)∨(∃ r,step s = some (.inr r)∧Q r)) :
  ∀ (n:Nat) (s:σ),m s < n→I s→∃ r,iter step n s = some r∧Q r:=by
 intro n
 induction n with
 | zero=>intro s hn; omega
 | succ n ih =>
  intro s hn hi
  rcases h s hi with ⟨s',hs,hi',hm⟩ | ⟨r,hs,hq⟩
  ·obtain ⟨r,hr,hq⟩:=ih s' (by omega) hi'
   exact ⟨r,by simp only [iter,hs]; exact hr,hq⟩
  ·exact ⟨r,by simp only [iter,hs],hq⟩
def tl (s:ByteArray):List UInt8:=s.data.toList
theorem cond_not_if {α:Type} (c:Bool) (a b:α):(bif c then some a else some b) = some (if (!c) = true then b else a):=by cases c <;> rfl
theorem cond_not_if2 {α:Type} (c:Bool) (a b:α):(bif !c then some a else some b) = some (if c = true then b else a):=by cases c <;> rfl
theorem bs_tl (s:ByteArray):bs (tl s) = s:=rfl
theorem tl_bs (l:List UInt8):tl (bs l) = l:=rfl
theorem size_tl (s:ByteArray):s.size = (tl s).length:=rfl
theorem size_bs (l:List UInt8):(bs l).size = l.length:=rfl
theorem subS_eq {s:ByteArray} {a b:Nat} (h1:a≤b) (h2:b≤(tl s).length):subS s (a:Int) (b:Int) = some (bs (((tl s).drop a).take (b - a))):=by
 rw [subS,if_pos ⟨by omega,by omega,by rw [size_tl]; omega⟩]
 congr 1
 have:(s.extract a b).data.toList = ((tl s).drop a).take (b - a):=by
  rw [ByteArray.data_extract,Array.toList_extract]
  rfl
 rw [← this]
 rfl
theorem subL_eq {α:Type} {l:List α} {a b:Nat} (h1:a≤b) (h2:b≤l.length):subL l (a:Int) (b:Int) = some ((l.drop a).take (b - a)):=by
 rw [subL,if_pos ⟨by omega,by omega,by omega⟩]
 simp
def T {α:Type} (o:Option α) (Q:α→Prop):Prop:=∃ r,o = some r∧Q r
theorem T.some {α:Type} {v:α} {Q:α→Prop} (h:Q v):T (some v) Q:=⟨v,rfl,h⟩
theorem T.bind {α β:Type} {o:Option α} {f:α→Option β} {P:α→Prop} {Q:β→Prop} (h:T o P) (k:∀ a,P a→T (f a) Q):T (o.bind f) Q:=by
 obtain ⟨a,rfl,ha⟩:=h
 exact k a ha
theorem T.cond {α:Type} {c:Bool} {a b:Option α} {Q:α→Prop} (h1:c = true→T a Q) (h2:c = false→T b Q):T (bif c then a else b) Q:=by
 cases c
 ·exact h2 rfl
 ·exact h1 rfl
theorem T.mono {α:Type} {o:Option α} {P Q:α→Prop} (h:T o P) (k:∀ a,P a→Q a):T o Q:=by
 obtain ⟨a,rfl,ha⟩:=h
 exact ⟨a,rfl,k a ha⟩
theorem T.of_eq {α:Type} {o:Option α} {v:α} (h:o = Option.some v):T o (· = v):=⟨v,h,rfl⟩
theorem idxS_T {s:ByteArray} {i:Int} (h0:0≤i) (h1:i < (s.size:Int)):T (idxS s i) (fun b=>0≤b∧b≤255):=by
 obtain ⟨k,rfl⟩:=Int.eq_ofNat_of_zero_le h0
 have hk:k < (tl s).length:=by rw [← size_tl]; omega
 refine ⟨_,idxS_some (List.getElem?_eq_getElem hk),by omega,?_⟩
 have:=((tl s)[k]).toNat_lt
 omega
theorem idxL_T {α:Type} {l:List α} {i:Int} (h0:0≤i) (h1:i < (l.length:Int)):T (idxL l i) (fun x=>x ∈ l):=by
 obtain ⟨k,rfl⟩:=Int.eq_ofNat_of_zero_le h0
 have hk:k < l.length:=by omega
 exact ⟨_,idxL_some (List.getElem?_eq_getElem hk),List.getElem_mem hk⟩
theorem subS_T {s:ByteArray} {a b:Int} (h0:0≤a) (h1:a≤b) (h2:b≤(s.size:Int)):T (subS s a b) (fun r=>(r.size:Int) = b - a):=by
 obtain ⟨i,rfl⟩:=Int.eq_ofNat_of_zero_le h0
 obtain ⟨j,rfl⟩:=Int.eq_ofNat_of_zero_le (show 0≤b by omega)
 have e:=size_tl s
 refine ⟨_,subS_eq (by omega) (by omega),?_⟩
 show (((bs _).size:Nat):Int) = _
 rw [size_bs]
 simp
 omega
theorem run_T {p:Int→Option Bool} {z lo:Int} (h0:0≤lo) (h1:lo≤z) (hz:z < 9223372036854775807) (hp:∀ i,lo≤i→i < z→T (p i) (fun _=>True)) {n:Nat} (hn:z < n) :
  T (iter (σ:=Int) (ρ:=Int) (fun s1=>bif decide (s1 < z) then ((p s1).bind fun x3=>bif x3 then (some (.inl (w64 (s1 + 1)))) else (some (.inr s1))) else (some (.inr s1))) n lo)
   (fun e=>lo≤e∧e≤z∧(lo < z→p lo = some true→lo < e)):=by
 refine iter_meas (fun s=>lo≤s∧s≤z) (fun s=>(z - s).toNat) _ (fun s hs=>?_) n lo (by omega) ⟨by omega,h1⟩
 by_cases hlt:s < z
 ·have:decide (s < z) = true:=by simpa using hlt
  obtain ⟨b,hb,_⟩:=hp s hs.1 hlt
  rw [this,hb]
  cases b
  ·exact .inr ⟨s,rfl,hs.1,hs.2,fun _ h=>by
    by_cases e:s = lo
    ·subst e; rw [hb] at h; cases h
    ·omega⟩
  ·exact .inl ⟨s + 1,by simp [w64_id (x:=s + 1) (by omega) (by omega)],by omega,by omega⟩
 ·have:decide (s < z) = false:=by simpa using hlt
  rw [this]
  exact .inr ⟨s,rfl,hs.1,hs.2,fun h _=>by omega⟩
theorem runG_T {step:Int→Option (Int ⊕ Int)} {z lo:Int} (h1:lo≤z) {n:Nat} (hn:z - lo < n) (h:∀ i,lo≤i→i≤z→(i < z∧step i = some (.inl (i + 1)))∨step i = some (.inr i)) :
  T (iter step n lo) (fun e=>lo≤e∧e≤z∧(step lo = some (.inl (lo + 1))→lo < e)):=by
 refine iter_meas (fun s=>lo≤s∧s≤z) (fun s=>(z - s).toNat) _ (fun s hs=>?_) n lo (by omega) ⟨by omega,h1⟩
 rcases h s hs.1 hs.2 with ⟨hlt,e⟩ | e
 ·exact .inl ⟨s + 1,e,by omega,by omega⟩
 ·refine .inr ⟨s,e,hs.1,hs.2,fun h=>?_⟩
  by_cases e':s = lo
  ·subst e'; rw [e] at h; cases h
  ·omega
end Go.AM
end
section
namespace Go.Proofs.YtbecjgckobhmpaaGreatDoor
open Go Go.AM Go.Proofs
def isLetI (x:Int):Bool:=((decide (65≤x)) && (decide (x≤90))) || ((decide (97≤x)) && (decide (x≤122)))
def isDigI (x:Int):Bool:=(decide (48≤x)) && (decide (x≤57))
def isWordI (x:Int):Bool:=isLetI x || x == 95 || isDigI x
def nameCs:List UInt8→Bool
 | []=>true
 | b :: r=>isLetI b.toNat && r.all (fun c=>isWordI c.toNat)
def nameB (s:List UInt8):Bool:=decide (1≤s.length) && decide (s.length≤16) && !(keyNames.any (s == ·)) && nameCs s
def nameP (k:Nat) (b:UInt8):Bool:=!((!isLetI b.toNat) && (((k:Int) == 0) || (((b.toNat:Int) != 95) && ((decide ((b.toNat:Int) < 48)) || (decide (57 < (b.toNat:Int)))))))
theorem nameP_succ (k:Nat) (b:UInt8):nameP (k + 1) b = isWordI b.toNat:=by
 have:(((k + 1:Nat):Int) == 0) = false:=by simp; omega
 simp only [nameP,this,isWordI,isDigI]
 generalize (b.toNat:Int) = z
 cases isLetI z
 ·by_cases h:z = 95
  ·simp [h]
  ·have h95:(z == 95) = false:=by simpa using h
   have h95':(z != 95) = true:=by simpa using h
   rw [h95,h95']
   by_cases h1:z < 48
   ·have:¬ 48≤z:=by omega
    simp [h1,this]
   ·have h48:48≤z:=by omega
    by_cases h2:57 < z
    ·have:¬ z≤57:=by omega
     simp [h2,this]
    ·have h57:z≤57:=by omega
     simp [h1,h2,h48,h57]
 ·simp
theorem allI_nameP:∀ (l:List UInt8) (k:Nat),allI nameP (k + 1) l = l.all (fun c=>isWordI c.toNat)
 | [],_=>rfl
 | b :: r,k=>by simp only [allI,List.all_cons,nameP_succ,allI_nameP r (k + 1)]
theorem allI_name (l:List UInt8):allI nameP 0 l = nameCs l:=by
 cases l with
 | nil=>rfl
 | cons b r =>
  simp only [allI,nameCs,allI_nameP]
  congr 1
  simp [nameP]
theorem F157_eq (s:ByteArray) {n:Nat} (hn:20≤n):F157 n s = some (nameB (tl s)):=by
 unfold F157
 rw [size_tl]
 by_cases h1:(tl s).length < 1
 ·have:(tl s).length = 0:=by omega
  simp [nameB,this]
 by_cases h2:16 < (tl s).length
 ·have:¬ (tl s).length≤16:=by omega
  have h3:(16:Int) < ((tl s).length:Int):=by omega
  simp [nameB,this,h3]
 have e1:(decide (((tl s).length:Int) < 1) || decide (16 < ((tl s).length:Int))) = false:=by simp; omega
 rw [e1]
 have hk:isKey s = keyNames.any (tl s == ·):=rfl
 rw [hk]
 cases hkey:keyNames.any (tl s == ·)
 ·simp only [cond_false]
  rw [iter_allI (tl s) nameP (by omega) (fun k b hb=>by
    have hlt:=lt_of_get hb
    have:decide ((k:Int) < ((tl s).length:Int)) = true:=by simpa using hlt
    rw [this,idxS_some hb]
    simp only [cond_true,Option.bind_some]
    show (bif (!isLetI b.toNat) && _ then _ else _) = _
    simp only [nameP]
    exact cond_not_if _ _ _) (by simp) (by omega)]
  rw [allI_name]
  have h1':1≤(tl s).length:=by omega
  have h2':(tl s).length≤16:=by omega
  cases hc:nameCs (tl s) <;> simp [nameB,hkey,hc,h1',h2']
 ·simp [nameB,hkey]
def cutB:List UInt8→List UInt8 × Option (List UInt8)
 | []=>([],none)
 | b :: r=>if b == 46 then ([],some r) else (b :: (cutB r).1,(cutB r).2)
theorem cutB_spec:∀ (l:List UInt8),((cutB l).2 = none→(cutB l).1 = l∧idxByte l 46 = -1)∧(∀ r,(cutB l).2 = some r→l = (cutB l).1 ++ 46 :: r∧idxByte l 46 = ((cutB l).1.length:Int))
 | []=>by simp [cutB,idxByte]
 | b :: r=>by
  have ih:=cutB_spec r
  by_cases hb:(b == 46) = true
  ·have:b = 46:=by simpa using hb
   subst this
   simp [cutB,idxByte]
  ·simp only [cutB,idxByte,hb]
   refine ⟨fun h=>?_,fun r' h=>?_⟩
   ·obtain ⟨h1,h2⟩:=ih.1 h
    simp [h1,h2]
   ·obtain ⟨h1,h2⟩:=ih.2 r' h
    refine ⟨by simp [← h1],?_⟩
    rw [h2]
    have:(((cutB r).1.length:Int) == -1) = false:=by simp
    simp [this]
theorem F196_eq (s:ByteArray) (hs:(tl s).length≤9223372036854775807):F196 s (bs [46]) = some (bs (cutB (tl s)).1,bs ((cutB (tl s)).2.getD []),(cutB (tl s)).2.isSome):=by
 have hi:index1F s (bs [46]) = some (idxByte (tl s) 46):=rfl
 unfold F196 F222
 rw [hi]
 simp only [Option.bind_some]
 have sp:=cutB_spec (tl s)
 cases hc:(cutB (tl s)).2 with
 | none =>
  obtain ⟨h1,h2⟩:=sp.1 hc
  rw [h2,h1]
  simp [bs_tl]
 | some r =>
  obtain ⟨h1,h2⟩:=sp.2 r hc
  rw [h2]
  have hl:=congrArg List.length h1
  simp only [List.length_append,List.length_cons] at hl
  have e1:decide (0≤((cutB (tl s)).1.length:Int)) = true:=by simp
  rw [e1,size_bs]
  simp only [cond_true,List.length_cons,List.length_nil,Nat.zero_add]
  rw [show ((1:Nat):Int) = 1 from rfl,w64_nat (by omega)]
  have a1:subS s 0 ((cutB (tl s)).1.length:Int) = some (bs (cutB (tl s)).1):=by
   have:=subS_eq (s:=s) (a:=0) (b:=(cutB (tl s)).1.length) (by omega) (by omega)
   rw [show ((0:Nat):Int) = 0 from rfl] at this
   rw [this]
   congr 2
   generalize (cutB (tl s)).1 = z at h1 ⊢
   rw [h1]
   simp
  have a2:subS s (((cutB (tl s)).1.length + 1:Nat):Int) (s.size:Int) = some (bs r):=by
   rw [size_tl,subS_eq (by omega) (by omega)]
   congr 2
   generalize (cutB (tl s)).1 = z at h1 ⊢
   rw [h1]
   rw [List.take_of_length_le (by simp; omega)]
   simp [List.drop_append]
  rw [a1,a2]
  simp
def pathN:Nat→List UInt8→Bool
 | 0,_=>false
 | k + 1,s=>nameB (cutB s).1 && (match (cutB s).2 with | none=>true | some r=>pathN k r)
def pathB (s:List UInt8):Bool:=pathN 3 s
theorem cutB_len (l:List UInt8) (r:List UInt8) (h:(cutB l).2 = some r):r.length < l.length:=by
 have:=congrArg List.length ((cutB_spec l).2 r h).1
 simp at this
 omega
def F155s (n:Nat) (s1:ByteArray × Int):Option ((ByteArray × Int) ⊕ (Bool ⊕ Unit)):=bif decide (s1.2 < 3) then
   ((F196 s1.1 (bs [46])).bind fun x3 =>
   (F157 n x3.1).bind fun x4 =>
   bif !x4 then
    (some (.inr (.inl false)))
   else
    (bif !x3.2.2 then
     (some (.inr (.inl true)))
    else
     (some (.inl (x3.2.1,w64 (s1.2 + 1))))))
  else
   (some (.inr (.inr ())))
def finB:Bool ⊕ Unit→Option Bool
 | .inl a=>some a
 | .inr _=>some false
theorem F155_key {n:Nat} (hn:20≤n):∀ (k m:Nat) (t:List UInt8),k≤3→k < m→t.length≤9223372036854775807→(iter (F155s n) m (bs t,(3:Int) - (k:Int))).bind finB = some (pathN k t):=by
 intro k
 induction k with
 | zero =>
  intro m t _ hm ht
  cases m with
  | zero=>omega
  | succ m=>simp [iter,F155s,finB,pathN]
 | succ k ih =>
  intro m t hk hm ht
  cases m with
  | zero=>omega
  | succ m =>
   have e1:decide ((3:Int) - ((k + 1:Nat):Int) < 3) = true:=by simp; omega
   simp only [iter,F155s,e1,cond_true]
   rw [F196_eq (bs t) ht]
   simp only [Option.bind_some,F157_eq _ hn,tl_bs]
   cases hnm:nameB (cutB t).1
   ·simp [finB,pathN,hnm]
   ·cases hc:(cutB t).2 with
    | none=>simp [finB,pathN,hnm,hc]
    | some r =>
     have hl:=cutB_len t r hc
     have e2:w64 ((3:Int) - ((k + 1:Nat):Int) + 1) = (3:Int) - (k:Int):=by
      rw [w64_id (by omega) (by omega)]; omega
     simp only [Bool.not_true,cond_false,Option.isSome_some,Option.getD_some,e2]
     have:=ih m r (by omega) (by omega) (by omega)
     rw [this]
     simp [pathN,hnm,hc]
theorem F155_eq (s:ByteArray) (hs:(tl s).length≤9223372036854775807) {n:Nat} (hn:20≤n):F155 n s = some (pathB (tl s)):=by
 have h:=F155_key hn 3 n (tl s) (by omega) (by omega) hs
 have e:F155 n s = (iter (F155s n) n (s,0)).bind finB:=by
  unfold F155
  congr 1
 rw [e]
 exact h
def levelI (s:ByteArray):Int :=
 bif strEq s (bs [61,61,62]) then 2 else bif strEq s (bs [124,124]) then 3 else bif strEq s (bs [38,38]) then 4
 else bif (strEq s (bs [61,61]) || (strEq s (bs [33,61]) || (strEq s (bs [60]) || strEq s (bs [60,61])))) then 5
 else bif strEq s (bs [124]) then 6 else bif strEq s (bs [94]) then 7 else bif strEq s (bs [38]) then 8
 else bif (strEq s (bs [43]) || strEq s (bs [45])) then 9 else bif strEq s (bs [42]) then 10 else 0
theorem F156_eq (s:ByteArray):F156 s = some (levelI s):=by
 unfold F156 levelI
 simp only [Option.bind_some,some_cond,bor]
def inR (n:Int):Bool:=(decide (0≤n)) && (decide (n≤999999999))
theorem F154_eq (i:Int):F154 i = some (inR i):=rfl
def isE (k:Int):Bool:=(decide (1≤k)) && (decide (k≤8))
theorem F62_eq (x:Node):F62 x = some (isE x.kind):=rfl
def fldGood (x:Node):Bool :=
 bif x.kind == 1 then inR x.n
 else bif (x.kind == 2 || (x.kind == 24 || (x.kind == 25 || x.kind == 33))) then pathB (tl x.name)
 else bif x.kind == 5 then levelI x.name != 0
 else bif (x.kind == 7 || (x.kind == 8 || (x.kind == 58 || x.kind == 52))) then nameB (tl x.name) && inR x.n
 else bif x.kind == 35 then nameB (tl x.name) && inR x.n
 else bif x.kind == 21 then (x.n == 0) || (x.n == 1)
 else bif (x.kind == 27 || (x.kind == 28 || (x.kind == 51 || x.kind == 53))) then nameB (tl x.name)
 else bif x.kind == 50 then nameB (tl x.name) && (inR x.n && (inR x.len && (inR x.init && (strEq x.other (bs []) || ((x.n == 0) && nameB (tl x.other))))))
 else bif x.kind == 57 then nameB (tl x.name) && (strEq x.other (bs []) || nameB (tl x.other))
 else bif x.kind == 60 then nameB (tl x.name) && nameB (tl x.other)
 else bif x.kind == 61 then nameB (tl x.name) && (pathB (tl x.other) && ((x.n == 0) || (x.n == 1)))
 else true
def hasName (k:Int):Bool:=k == 2 || k == 24 || k == 25 || k == 33 || k == 5 || k == 7 || k == 8 || k == 58 || k == 52 || k == 35 || k == 27 || k == 28 || k == 51 || k == 53 || k == 50 || k == 57 || k == 60 || k == 61
def hasOther (k:Int):Bool:=k == 50 || k == 57 || k == 60 || k == 61
def hasN (k:Int):Bool:=k == 1 || k == 7 || k == 8 || k == 58 || k == 52 || k == 35 || k == 21 || k == 50 || k == 61
def fieldsB (x:Node):Bool :=
 fldGood x && ((hasName x.kind || strEq x.name (bs [])) && ((hasOther x.kind || strEq x.other (bs [])) && ((hasN x.kind || x.n == 0)
  && ((x.kind == 50 || x.len == 0) && ((x.kind == 50 || x.init == 0) && (x.kind == 50 || x.kind == 35 || x.ghost == false))))))
theorem strEq_self (s:ByteArray):strEq s s = true:=by simp [strEq]
theorem nbeq {a b:Int} (h:¬ a = b):(a == b) = false:=by simpa using h
theorem F97_eq (x:Node) (h1:(tl x.name).length≤9223372036854775807) (h2:(tl x.other).length≤9223372036854775807) {n:Nat} (hn:20≤n):F97 n x = some (fieldsB x):=by
 unfold F97
 simp only [F157_eq _ hn,F155_eq _ h1 hn,F155_eq _ h2 hn,F156_eq,F154_eq,Option.bind_some,some_cond,bor]
 congr 1
 by_cases k1:x.kind = 1
 ·simp [k1,fieldsB,fldGood,hasName,hasOther,hasN]
 by_cases k2:x.kind = 2
 ·simp [k2,fieldsB,fldGood,hasName,hasOther,hasN,strEq_self]
 by_cases k24:x.kind = 24
 ·simp [k24,fieldsB,fldGood,hasName,hasOther,hasN,strEq_self]
 by_cases k25:x.kind = 25
 ·simp [k25,fieldsB,fldGood,hasName,hasOther,hasN,strEq_self]
 by_cases k33:x.kind = 33
 ·simp [k33,fieldsB,fldGood,hasName,hasOther,hasN,strEq_self]
 by_cases k5:x.kind = 5
 ·simp [k5,fieldsB,fldGood,hasName,hasOther,hasN,strEq_self]
 by_cases k7:x.kind = 7
 ·simp [k7,fieldsB,fldGood,hasName,hasOther,hasN]
  cases nameB (tl x.name) <;> simp [strEq_self]
 by_cases k8:x.kind = 8
 ·simp [k8,fieldsB,fldGood,hasName,hasOther,hasN]
  cases nameB (tl x.name) <;> simp [strEq_self]
 by_cases k58:x.kind = 58
 ·simp [k58,fieldsB,fldGood,hasName,hasOther,hasN]
  cases nameB (tl x.name) <;> simp [strEq_self]
 by_cases k52:x.kind = 52
 ·simp [k52,fieldsB,fldGood,hasName,hasOther,hasN]
  cases nameB (tl x.name) <;> simp [strEq_self]
 by_cases k35:x.kind = 35
 ·simp [k35,fieldsB,fldGood,hasName,hasOther,hasN]
  cases nameB (tl x.name) <;> simp [strEq_self]
 by_cases k21:x.kind = 21
 ·simp [k21,fieldsB,fldGood,hasName,hasOther,hasN]
 by_cases k27:x.kind = 27
 ·simp [k27,fieldsB,fldGood,hasName,hasOther,hasN,strEq_self]
 by_cases k28:x.kind = 28
 ·simp [k28,fieldsB,fldGood,hasName,hasOther,hasN,strEq_self]
 by_cases k51:x.kind = 51
 ·simp [k51,fieldsB,fldGood,hasName,hasOther,hasN,strEq_self]
 by_cases k53:x.kind = 53
 ·simp [k53,fieldsB,fldGood,hasName,hasOther,hasN,strEq_self]
 by_cases k50:x.kind = 50
 ·simp [k50,fieldsB,fldGood,hasName,hasOther,hasN]
  cases nameB (tl x.name) <;> cases inR x.n <;> cases inR x.len <;> cases inR x.init <;> cases strEq x.other (bs []) <;> cases x.n == 0 <;> simp [strEq_self]
 by_cases k57:x.kind = 57
 ·simp [k57,fieldsB,fldGood,hasName,hasOther,hasN]
  cases nameB (tl x.name) <;> cases strEq x.other (bs []) <;> simp [strEq_self]
 by_cases k60:x.kind = 60
 ·simp [k60,fieldsB,fldGood,hasName,hasOther,hasN]
  cases nameB (tl x.name) <;> simp [strEq_self]
 by_cases k61:x.kind = 61
 ·simp [k61,fieldsB,fldGood,hasName,hasOther,hasN]
  cases nameB (tl x.name) <;> simp [strEq_self]
 simp [nbeq k1,nbeq k2,nbeq k24,nbeq k25,nbeq k33,nbeq k5,nbeq k7,nbeq k8,nbeq k58,nbeq k52,nbeq k35,nbeq k21,nbeq k27,nbeq k28,nbeq k51,nbeq k53,nbeq k50,nbeq k57,nbeq k60,nbeq k61,fieldsB,fldGood,hasName,hasOther,hasN]
def isStmt (k:Int):Bool:=((decide (20≤k)) && (decide (k≤35))) && (k != 34)
def isDecl (k:Int):Bool:=k == 51 || (k == 50 || (k == 53 || (k == 54 || (k == 55 || (k == 56 || k == 57)))))
def isItm (k:Int):Bool:=(k == 60) || (k == 61)
def leafK (k:Int):Bool:=k == 1 || (k == 26 || (k == 30 || (k == 24 || (k == 25 || (k == 27 || (k == 28 || (k == 35 || (k == 58 || (k == 52 || (k == 50 || k == 63))))))))))
def oneK (k:Int):Bool:=k == 4 || (k == 7 || (k == 8 || (k == 20 || (k == 29 || (k == 54 || (k == 55 || k == 53))))))
def eX (x:Node):Bool:=isE x.kind
def kX (k:Int) (x:Node):Bool:=x.kind == k
def enX (x:Node):Bool:=isE x.kind || x.kind == 63
def pairsB:List Node→Bool
 | []=>true
 | [_]=>false
 | a :: b :: r=>(a.kind == 2) && (isE b.kind && pairsB r)
def ex1 (p:Node→Bool):List Node→Bool
 | [a]=>p a
 | _=>false
def ex2 (p q:Node→Bool):List Node→Bool
 | [a,b]=>p a && q b
 | _=>false
def ex3 (p q r:Node→Bool):List Node→Bool
 | [a,b,c]=>p a && (q b && r c)
 | _=>false
def plainX (x:Node):Bool:=(x.kind == 2) && x.kids.isEmpty
def atomK:List Node→Bool
 | a :: r=>enX a && pairsB r
 | []=>false
def casK:List Node→Bool
 | a :: b :: c :: d :: r=>(kX 2 a && (eX b && (eX c && kX 2 d))) && pairsB r
 | _=>false
def procK (l:List Node):Bool:=match l.getLast? with
 | some b=>(b.kind == 34) && l.dropLast.all (kX 58)
 | none=>false
def kidsB (x:Node):Bool :=
 bif leafK x.kind then x.kids.isEmpty
 else bif x.kind == 2 then x.kids.isEmpty || ex1 eX x.kids
 else bif x.kind == 3 then ex1 (kX 2) x.kids
 else bif oneK x.kind then ex1 eX x.kids
 else bif x.kind == 5 then ex2 eX eX x.kids
 else bif x.kind == 6 then ex3 eX eX eX x.kids
 else bif x.kind == 21 then !x.kids.isEmpty && pairsB x.kids
 else bif x.kind == 22 then atomK x.kids
 else bif x.kind == 23 then casK x.kids
 else bif x.kind == 31 then ex3 eX (kX 34) (kX 34) x.kids
 else bif x.kind == 32 then ex3 eX enX (kX 34) x.kids
 else bif x.kind == 33 then x.kids.all eX
 else bif x.kind == 34 then x.kids.all (fun y=>isStmt y.kind)
 else bif x.kind == 51 then x.kids.all (kX 52)
 else bif x.kind == 56 then !x.kids.isEmpty && x.kids.all plainX
 else bif x.kind == 57 then procK x.kids
 else bif x.kind == 60 then x.kids.all (fun y=>isDecl y.kind)
 else bif x.kind == 61 then x.kids.all (kX 1)
 else bif x.kind == 62 then x.kids.all (fun y=>isItm y.kind)
 else false
theorem len0 (l:List Node):((l.length:Int) == 0) = l.isEmpty:=by cases l <;> simp; omega
theorem len0lt (l:List Node):decide (0 < (l.length:Int)) = !l.isEmpty:=by cases l <;> simp
theorem all_loop {p:Node→Bool} {g:Node→Option Bool} (hg:∀ y,g y = some (p y)) (l:List Node) (hl:l.length≤9223372036854775807) {n:Nat} (hn:l.length < n) :
  ((iter (σ:=Int) (ρ:=Unit ⊕ Unit) (fun s1=>bif decide (s1 < (l.length:Int)) then
   ((idxL l s1).bind fun x3 =>
   (g x3).bind fun x5 =>
   bif !x5 then
    (some (.inr (.inl ())))
   else
    (some (.inl (w64 (s1 + 1)))))
  else
   (some (.inr (.inr ())))) n (0:Int)).bind fun r7=>match r7 with
 | .inl _=>some false
 | .inr _=>some true) = some (l.all p):=by
 rw [iter_all l p hl (fun k x hx=>by
  have hlt:=lt_of_get hx
  have c1:decide ((k:Int) < (l.length:Int)) = true:=by simpa using hlt
  rw [c1,idxL_some hx]
  simp only [cond_true,Option.bind_some,hg]
  cases p x <;> rfl) (by simp) hn]
 cases l.all p <;> rfl
theorem F99_1_eq (l:List Node) (hl:l.length≤9223372036854775807) {n:Nat} (hn:l.length < n):F99_1 n l = some (l.all eX):=all_loop (fun _=>rfl) l hl hn
theorem F99_2_eq (l:List Node) (hl:l.length≤9223372036854775807) {n:Nat} (hn:l.length < n):F99_2 n l = some (l.all (fun y=>isStmt y.kind)):=all_loop (fun _=>rfl) l hl hn
theorem F99_3_eq (l:List Node) (k:Int) (hl:l.length≤9223372036854775807) {n:Nat} (hn:l.length < n):F99_3 n l k = some (l.all (kX k)):=all_loop (fun _=>rfl) l hl hn
theorem F164_eq (x:Node):F164 x = some (plainX x):=by
 unfold F164 plainX
 rw [len0]
 cases x.kind == 2 <;> rfl
theorem F99_4_eq (l:List Node) (hl:l.length≤9223372036854775807) {n:Nat} (hn:l.length < n):F99_4 n l = some (l.all plainX):=all_loop F164_eq l hl hn
theorem F165_eq (x:Node):F165 x = some (isDecl x.kind):=by
 unfold F165 isDecl
 cases x.kind == 51 <;> cases x.kind == 50 <;> cases x.kind == 53 <;> cases x.kind == 54 <;> cases x.kind == 55 <;> cases x.kind == 56 <;> cases x.kind == 57 <;> rfl
theorem F99_5_eq (l:List Node) (hl:l.length≤9223372036854775807) {n:Nat} (hn:l.length < n):F99_5 n l = some (l.all (fun y=>isDecl y.kind)):=all_loop F165_eq l hl hn
theorem F99_6_eq (l:List Node) (hl:l.length≤9223372036854775807) {n:Nat} (hn:l.length < n):F99_6 n l = some (l.all (fun y=>isItm y.kind)):=all_loop (fun _=>rfl) l hl hn
def prP (k:Nat) (x:Node):Bool:=isE x.kind && (!(k % 2 == 0) || x.kind == 2)
theorem pairs_all:∀ (l:List Node) (k:Nat),k % 2 = 0→(allI prP k l && (l.length % 2 == 0)) = pairsB l
 | [],_,_=>rfl
 | [a],k,h=>by simp [allI,pairsB]
 | a :: b :: r,k,h=>by
  have ih:=pairs_all r (k + 2) (by omega)
  have h1:(k + 1) % 2 = 1:=by omega
  have h2:((r.length + 1 + 1) % 2 == 0) = (r.length % 2 == 0):=by
   have:(r.length + 1 + 1) % 2 = r.length % 2:=by omega
   rw [this]
  simp only [allI,pairsB,List.length_cons,h2,← ih,prP,h,h1]
  by_cases ha:a.kind = 2
  ·simp [ha,isE,Bool.and_assoc]
  ·simp [nbeq ha]
theorem pr_step {α:Type} (e p k2:Bool) (a b:α):(bif !e then some b else bif p then (bif !k2 then some b else some a) else some a) = some (if (e && (!p || k2)) = true then a else b):=by
 cases e <;> cases p <;> cases k2 <;> rfl
theorem F160_eq (l:List Node) (hl:l.length≤9223372036854775807) {n:Nat} (hn:l.length < n):F160 n l = some (pairsB l):=by
 unfold F160
 rw [iter_allI l prP hl (fun k x hx=>by
  have hlt:=lt_of_get hx
  have c1:decide ((k:Int) < (l.length:Int)) = true:=by simpa using hlt
  have c2:(Int.tmod (k:Int) 2 == 0) = (k % 2 == 0):=by
   have:Int.tmod (k:Int) 2 = ((k % 2:Nat):Int):=(Int.ofNat_tmod k 2).symm
   rw [this]
   cases h:k % 2 <;> simp
   omega
  rw [c1,idxL_some hx,c2]
  simp only [cond_true,Option.bind_some,F62_eq,prP]
  exact pr_step _ _ _ _ _) (by simp) hn]
 have c3:(Int.tmod (l.length:Int) 2 == 0) = (l.length % 2 == 0):=by
  have:Int.tmod (l.length:Int) 2 = ((l.length % 2:Nat):Int):=(Int.ofNat_tmod l.length 2).symm
  rw [this]
  cases h:l.length % 2 <;> simp
  omega
 rw [← pairs_all l 0 rfl,c3]
 cases allI prP 0 l <;> simp
theorem F158_gen (l:List Node) (ps:List Pred) (fs:List (Node→Bool)) (hlen:l.length = ps.length) (hl:l.length < 100) (h:∀ (k:Nat) p,ps[k]? = some p→∀ y,p.p y = some ((fs.getD k (fun _=>false)) y)) {n:Nat} (hn:l.length < n) :
  F158 n l ps = some (allI (fun k y=>(fs.getD k (fun _=>false)) y) 0 l):=by
 unfold F158
 have e:((l.length:Int) != (ps.length:Int)) = false:=by simp [hlen]
 rw [e]
 simp only [cond_false]
 rw [iter_allI l (fun k y=>(fs.getD k (fun _=>false)) y) (by omega) (fun k x hx=>by
  have hlt:=lt_of_get hx
  have c1:decide ((k:Int) < (l.length:Int)) = true:=by simpa using hlt
  have hp:ps[k]? = some (ps[k]'(by omega)):=List.getElem?_eq_getElem (by omega)
  rw [c1,idxL_some hx,idxL_some hp]
  simp only [cond_true,Option.bind_some,h k _ hp x]
  exact cond_not_if2 _ _ _) (by simp) hn]
 cases allI (fun k y=>(fs.getD k (fun _=>false)) y) 0 l <;> rfl
theorem F158_ne (l:List Node) (ps:List Pred) (h:l.length≠ps.length) (n:Nat):F158 n l ps = some false:=by
 unfold F158
 have e:((l.length:Int) != (ps.length:Int)) = true:=by simp; omega
 rw [e]
 rfl
theorem F158_1 (l:List Node) (p:Pred) (f:Node→Bool) (hp:∀ y,p.p y = some (f y)) {n:Nat} (hn:10≤n):F158 n l [p] = some (ex1 f l):=by
 match l with
 | []=>exact F158_ne _ _ (by simp) n
 | [a] =>
  rw [F158_gen [a] [p] [f] rfl (by simp) (fun k q hq y=>by
   match k with
   | 0=>obtain rfl:=Option.some.inj hq; exact hp y
   | k + 1=>simp at hq) (by simp; omega)]
  simp [allI,ex1]
 | a :: b :: r=>exact F158_ne _ _ (by simp) n
theorem F158_2 (l:List Node) (p q:Pred) (f g:Node→Bool) (hp:∀ y,p.p y = some (f y)) (hq:∀ y,q.p y = some (g y)) {n:Nat} (hn:10≤n):F158 n l [p,q] = some (ex2 f g l):=by
 match l with
 | []=>exact F158_ne _ _ (by simp) n
 | [a]=>exact F158_ne _ _ (by simp) n
 | [a,b] =>
  rw [F158_gen [a,b] [p,q] [f,g] rfl (by simp) (fun k z hz y=>by
   match k with
   | 0=>obtain rfl:=Option.some.inj hz; exact hp y
   | 1=>obtain rfl:=Option.some.inj hz; exact hq y
   | k + 2=>simp at hz) (by simp; omega)]
  simp [allI,ex2]
 | a :: b :: c :: r=>exact F158_ne _ _ (by simp) n
theorem F158_3 (l:List Node) (p q u:Pred) (f g h:Node→Bool) (hp:∀ y,p.p y = some (f y)) (hq:∀ y,q.p y = some (g y)) (hu:∀ y,u.p y = some (h y)) {n:Nat} (hn:10≤n):F158 n l [p,q,u] = some (ex3 f g h l):=by
 match l with
 | []=>exact F158_ne _ _ (by simp) n
 | [a]=>exact F158_ne _ _ (by simp) n
 | [a,b]=>exact F158_ne _ _ (by simp) n
 | [a,b,c] =>
  rw [F158_gen [a,b,c] [p,q,u] [f,g,h] rfl (by simp) (fun k z hz y=>by
   match k with
   | 0=>obtain rfl:=Option.some.inj hz; exact hp y
   | 1=>obtain rfl:=Option.some.inj hz; exact hq y
   | 2=>obtain rfl:=Option.some.inj hz; exact hu y
   | k + 3=>simp at hz) (by simp; omega)]
  simp [allI,ex3]
 | a :: b :: c :: d :: r=>exact F158_ne _ _ (by simp) n
theorem F158_4 (a b c d:Node) (p q u v:Pred) (f g h i:Node→Bool) (hp:∀ y,p.p y = some (f y)) (hq:∀ y,q.p y = some (g y)) (hu:∀ y,u.p y = some (h y)) (hv:∀ y,v.p y = some (i y)) {n:Nat} (hn:10≤n) :
  F158 n [a,b,c,d] [p,q,u,v] = some (f a && (g b && (h c && i d))):=by
 rw [F158_gen [a,b,c,d] [p,q,u,v] [f,g,h,i] rfl (by simp) (fun k z hz y=>by
  match k with
  | 0=>obtain rfl:=Option.some.inj hz; exact hp y
  | 1=>obtain rfl:=Option.some.inj hz; exact hq y
  | 2=>obtain rfl:=Option.some.inj hz; exact hu y
  | 3=>obtain rfl:=Option.some.inj hz; exact hv y
  | k + 4=>simp at hz) (by simp; omega)]
 simp [allI]
theorem F198_eq (x:Node):F198 x = some (enX x):=by
 unfold F198 enX
 rw [F62_eq]
 simp only [Option.bind_some,F161]
 cases isE x.kind <;> rfl
theorem ctrue (a b:Bool):(bif a then true else b) = (a || b):=by cases a <;> rfl
theorem cfalse (a b:Bool):(bif a then b else false) = (a && b):=by cases a <;> rfl
theorem subL_tail {a:Node} {r:List Node}:subL (a :: r) 1 ((a :: r).length:Int) = some r:=by
 have:=subL_eq (l:=a :: r) (a:=1) (b:=(a :: r).length) (by simp) (by simp)
 rw [show ((1:Nat):Int) = 1 from rfl] at this
 rw [this]
 simp
theorem atom_eq (n:Nat) (l:List Node) (hl:l.length≤9223372036854775807) (hk:l.length < n):(bif !l.isEmpty then
           (idxL l 0).bind fun x38 =>
            (F62 x38).bind fun x39 =>
             bif x39 then
              (subL l 1 (l.length:Int)).bind fun x41=>(F160 n x41).bind fun x16=>some x16
             else
              (idxL l 0).bind fun x43 =>
               (F161 x43).bind fun x44 =>
                bif x44 then
                 (subL l 1 (l.length:Int)).bind fun x41=>(F160 n x41).bind fun x16=>some x16
                else some false
          else some false) = some (atomK l):=by
 cases l with
 | nil=>rfl
 | cons a r =>
  have h1:idxL (a :: r) 0 = some a:=rfl
  simp only [List.length_cons] at hl hk
  simp only [h1,F62_eq,Option.bind_some,subL_tail,F160_eq r (by omega) (show r.length < n by omega),atomK,enX,F161]
  cases isE a.kind <;> cases a.kind == 63 <;> simp
theorem cas_eq (n:Nat) (l:List Node) (hl:l.length≤9223372036854775807) (hk:l.length < n) (hn':10≤n):(bif decide (4≤(l.length:Int)) then
            (subL l 0 4).bind fun x50 =>
             (F158 n x50 [PF98_8,PF98_9,PF98_10,PF98_11]).bind fun x51 =>
              bif x51 then
               (subL l 4 (l.length:Int)).bind fun x41=>(F160 n x41).bind fun x16=>some x16
              else some false
           else some false) = some (casK l):=by
 match l with
 | []=>rfl
 | [_]=>rfl
 | [_,_]=>rfl
 | [_,_,_]=>rfl
 | a :: b :: c :: d :: r =>
  have c1:decide (4≤((a :: b :: c :: d :: r).length:Int)) = true:=by simp; omega
  have s1:subL (a :: b :: c :: d :: r) 0 4 = some [a,b,c,d]:=by
   have:=subL_eq (l:=a :: b :: c :: d :: r) (a:=0) (b:=4) (by simp) (by simp)
   rw [show ((0:Nat):Int) = 0 from rfl,show ((4:Nat):Int) = 4 from rfl] at this
   rw [this]
   simp
  have s2:subL (a :: b :: c :: d :: r) 4 ((a :: b :: c :: d :: r).length:Int) = some r:=by
   have:=subL_eq (l:=a :: b :: c :: d :: r) (a:=4) (b:=(a :: b :: c :: d :: r).length) (by simp) (by simp)
   rw [show ((4:Nat):Int) = 4 from rfl] at this
   rw [this]
   simp
  simp only [List.length_cons] at hl hk
  rw [c1,s1,s2]
  simp only [cond_true,Option.bind_some,F158_4 a b c d PF98_8 PF98_9 PF98_10 PF98_11 (kX 2) eX eX (kX 2) (fun _=>rfl) (fun _=>rfl) (fun _=>rfl) (fun _=>rfl) hn',F160_eq r (by omega) (show r.length < n by omega),casK]
  cases (kX 2 a && (eX b && (eX c && kX 2 d))) <;> rfl
theorem last_eq {l:List Node} (h:l≠[]) (hl:l.length≤9223372036854775807):w64 ((l.length:Int) - 1) = ((l.length - 1:Nat):Int):=by
 have:0 < l.length:=List.length_pos_iff.2 h
 rw [w64_id (by omega) (by omega)]
 omega
theorem idx_last {l:List Node} (h:l≠[]) (hl:l.length≤9223372036854775807):idxL l (w64 ((l.length:Int) - 1)) = some (l.getLast h):=by
 have:0 < l.length:=List.length_pos_iff.2 h
 rw [last_eq h hl,idxL_some (x:=l.getLast h)]
 rw [← List.getLast?_eq_getElem?,List.getLast?_eq_some_getLast h]
theorem sub_last {l:List Node} (h:l≠[]) (hl:l.length≤9223372036854775807):subL l 0 (w64 ((l.length:Int) - 1)) = some l.dropLast:=by
 rw [last_eq h hl]
 have:=subL_eq (l:=l) (a:=0) (b:=l.length - 1) (by omega) (by omega)
 rw [show ((0:Nat):Int) = 0 from rfl] at this
 rw [this]
 simp [List.dropLast_eq_take]
theorem proc_eq (n:Nat) (l:List Node) (hl:l.length≤9223372036854775807) (hk:l.length < n):(bif decide (0≤w64 ((l.length:Int) - 1)) then
                   (idxL l (w64 ((l.length:Int) - 1))).bind fun x70 =>
                    bif x70.kind == 34 then
                     (subL l 0 (w64 ((l.length:Int) - 1))).bind fun x72 =>
                      (F99_3 n x72 58).bind fun x16=>some x16
                    else some false
                  else some false) = some (procK l):=by
 by_cases h:l = []
 ·subst h; rfl
 ·have c1:decide (0≤w64 ((l.length:Int) - 1)) = true:=by
   rw [last_eq h hl]; simp
  have hd:l.dropLast.length≤l.length:=by simp
  rw [c1,idx_last h hl,sub_last h hl]
  simp only [cond_true,Option.bind_some,F99_3_eq l.dropLast 58 (by omega) (show l.dropLast.length < n by omega),procK,List.getLast?_eq_some_getLast h]
  cases (l.getLast h).kind == 34 <;> rfl
theorem F98_eq (x:Node) (hl:x.kids.length≤9223372036854775807) {n:Nat} (hn:20≤n) (hk:x.kids.length < n):F98 n x = some (kidsB x):=by
 have hn':10≤n:=by omega
 unfold F98
 simp only [Option.bind_some,len0,len0lt,
  F158_1 x.kids PF98_0 eX (fun _=>rfl) hn',F158_1 x.kids PF98_1 (kX 2) (fun _=>rfl) hn',F158_1 x.kids PF98_2 eX (fun _=>rfl) hn',
  F158_2 x.kids PF98_3 PF98_4 eX eX (fun _=>rfl) (fun _=>rfl) hn',F158_3 x.kids PF98_5 PF98_6 PF98_7 eX eX eX (fun _=>rfl) (fun _=>rfl) (fun _=>rfl) hn',
  F158_3 x.kids PF98_12 PF98_13 PF98_14 eX (kX 34) (kX 34) (fun _=>rfl) (fun _=>rfl) (fun _=>rfl) hn',
  F158_3 x.kids PF98_15 PF98_16 PF98_17 eX enX (kX 34) (fun _=>rfl) F198_eq (fun _=>rfl) hn',
  F160_eq x.kids hl hk,F99_1_eq x.kids hl hk,F99_2_eq x.kids hl hk,F99_3_eq x.kids _ hl hk,F99_4_eq x.kids hl hk,F99_5_eq x.kids hl hk,F99_6_eq x.kids hl hk,some_cond,bor]
 rw [atom_eq n x.kids hl hk,cas_eq n x.kids hl hk hn',proc_eq n x.kids hl hk]
 simp only [some_cond]
 unfold kidsB leafK oneK
 simp only [ctrue,cfalse]
end Go.Proofs.YtbecjgckobhmpaaGreatDoor
end
section
namespace Go.Proofs.YtbecjgckobhmpaaGreatDoor
open Go Go.AM Go.Proofs
abbrev Bytes:=List UInt8
def wordsL (l:List Bytes):Bytes:=joinL [32] (l.filter (fun s=>!s.isEmpty))
def onlyL (c:Bool) (l:List Bytes):Bytes:=bif c then wordsL l else []
def numL (n:Int):Bytes:=digs 20 n.toNat
def ruleI (s:ByteArray):ByteArray × Int × Int × Int:=(ruleTab.find? (fun r=>strEq r.1 s)).getD (bs [],0,0,0)
def levI (x:Node):Int :=
 bif x.kind == 7 || x.kind == 8 then 0 else bif x.kind == 6 then 1 else bif x.kind == 5 then (ruleI x.name).2.1 else bif x.kind == 4 then 11 else 12
def opd (a:Int × Bytes) (req:Int):Bytes:=bif decide (a.1 < req) then [40] ++ (a.2 ++ [41]) else a.2
def nth (ks:List (Int × Bytes)) (i:Nat):Int × Bytes:=ks.getD i (0,[])
def txtOf (k:Int) (nm:ByteArray) (n:Int) (ks:List (Int × Bytes)):Bytes :=
 bif k == 1 then numL n
 else bif k == 2 then (bif ks.isEmpty then tl nm else tl nm ++ ([91] ++ (opd (nth ks 0) 0 ++ [93])))
 else bif k == 3 then [111,108,100,40] ++ (opd (nth ks 0) 0 ++ [41])
 else bif k == 4 then [33] ++ opd (nth ks 0) 11
 else bif k == 5 then wordsL [opd (nth ks 0) (ruleI nm).2.2.1,tl nm,opd (nth ks 1) (ruleI nm).2.2.2]
 else bif k == 6 then wordsL [opd (nth ks 0) 2,[63],opd (nth ks 1) 1,[58],opd (nth ks 2) 1]
 else bif k == 7 then wordsL [[97,108,108],tl nm,[60],numL n,[58],opd (nth ks 0) 0]
 else bif k == 8 then wordsL [[115,111,109,101],tl nm,[60],numL n,[58],opd (nth ks 0) 0]
 else []
mutual
def txt:Node→Bytes
 | ⟨k,nm,_,n,_,_,_,ks,_⟩=>txtOf k nm n (txts ks)
def txts:List Node→List (Int × Bytes)
 | []=>[]
 | x :: r=>(levI x,txt x) :: txts r
end
theorem txt_eq (x:Node):txt x = txtOf x.kind x.name x.n (txts x.kids):=by cases x; rfl
mutual
def sz:Node→Nat
 | ⟨_,_,_,_,_,_,_,ks,_⟩=>1 + szs ks
def szs:List Node→Nat
 | []=>0
 | x :: r=>sz x + szs r
end
theorem sz_eq (x:Node):sz x = 1 + szs x.kids:=by cases x; rfl
theorem sz_pos (x:Node):1≤sz x:=by rw [sz_eq]; omega
theorem szs_mem:(l:List Node)→∀ x ∈ l,sz x≤szs l
 | [],x,h=>by cases h
 | y :: r,x,h=>by
  simp only [szs]
  rcases List.mem_cons.1 h with rfl | h
  ·omega
  ·have:=szs_mem r x h; omega
theorem szs_len:(l:List Node)→l.length≤szs l
 | []=>by simp [szs]
 | y :: r=>by simp only [szs,List.length_cons]; have:=szs_len r; have:=sz_pos y; omega
theorem szs_append:(a b:List Node)→szs (a ++ b) = szs a + szs b
 | [],b=>by simp [szs]
 | x :: r,b=>by simp [szs,szs_append r b]; omega
def sizedL (x:Node):Bytes:=wordsL [tl x.name,[58],numL x.n]
def commasL (l:List Bytes):Bytes:=joinL [44,32] l
def pairL:List Bytes→List Bytes
 | a :: b :: r=>wordsL [a,[58,61],b] :: pairL r
 | _=>[]
def assignsL (l:List Bytes):Bytes:=commasL (pairL l)
def sharedL (x:Node):Bytes :=
 wordsL [onlyL x.ghost [[103,104,111,115,116]],[115,104,97,114,101,100],bif x.len != 0 then tl x.name ++ ([91] ++ (numL x.len ++ [93])) else tl x.name,[58],
  bif strEq x.other (bs []) then numL x.n else tl x.other,onlyL (x.init != 0) [[61],numL x.init]]
def tx (ks:List Node):List Bytes:=ks.map txt
def tnth (ks:List Node) (i:Nat):Bytes:=(tx ks).getD i []
def stmtL (x:Node):Bytes :=
 bif x.kind == 20 then wordsL [[97,115,115,101,114,116],tnth x.kids 0]
 else bif x.kind == 29 then wordsL [[97,119,97,105,116],tnth x.kids 0]
 else bif x.kind == 26 then [102,101,110,99,101]
 else bif x.kind == 30 then [115,107,105,112]
 else bif x.kind == 21 then wordsL [onlyL (x.n == 1) [[114,101,108,101,97,115,101]],assignsL (tx (x.kids.take 2)),onlyL (decide (2 < (x.kids.length:Int))) [[119,105,116,104],assignsL (tx (x.kids.drop 2))]]
 else bif x.kind == 22 then wordsL [[97,116,111,109,105,99],[123],assignsL (tx (x.kids.drop 1)),[125],onlyL ((x.kids.head?.map Node.kind).getD 0 != 63) [[119,104,101,110],tnth x.kids 0]]
 else bif x.kind == 23 then wordsL [[99,97,115],commasL (tx (x.kids.take 3)),[105,110,116,111],tnth x.kids 3,onlyL (decide (4 < (x.kids.length:Int))) [[119,105,116,104],assignsL (tx (x.kids.drop 4))]]
 else bif x.kind == 24 then wordsL [[97,99,113,117,105,114,101],tl x.name]
 else bif x.kind == 25 then wordsL [[102,114,101,101],tl x.name]
 else bif x.kind == 27 then wordsL [[115,112,97,119,110],tl x.name]
 else bif x.kind == 28 then wordsL [[106,111,105,110],tl x.name]
 else bif x.kind == 33 then wordsL [[99,97,108,108],tl x.name ++ ([40] ++ (commasL (tx x.kids) ++ [41]))]
 else []
def simpL (x:Node):Bytes :=
 bif x.kind == 61 then wordsL [onlyL (x.n == 1) [[97,115,108,101,101,112]],[116,104,114,101,97,100],tl x.name,[61],tl x.other ++ ([40] ++ (commasL (tx x.kids) ++ [41]))]
 else bif x.kind == 52 then sizedL x
 else bif x.kind == 50 then sharedL x
 else bif x.kind == 53 then wordsL [[108,111,99,107],tl x.name,[105,110,118,97,114,105,97,110,116],tnth x.kids 0]
 else bif x.kind == 54 then wordsL [[114,101,108,121],tnth x.kids 0]
 else bif x.kind == 55 then wordsL [[103,117,97,114,97,110,116,101,101],tnth x.kids 0]
 else bif x.kind == 56 then wordsL [[102,114,97,109,101],commasL (tx x.kids)]
 else bif x.kind == 35 then wordsL [onlyL x.ghost [[103,104,111,115,116]],[108,111,99,97,108],sizedL x]
 else stmtL x
def headL (x:Node):Bytes :=
 bif x.kind == 60 then wordsL [[109,111,100,117,108,101],tl x.name,[111,119,110,101,114],tl x.other]
 else bif x.kind == 51 then wordsL [[114,101,99,111,114,100],tl x.name]
 else bif x.kind == 57 then wordsL [[112,114,111,99],tl x.name ++ ([40] ++ (commasL (x.kids.dropLast.map sizedL) ++ [41])),onlyL (!(strEq x.other (bs []))) [[108,111,99,107,101,100],tl x.other]]
 else bif x.kind == 31 then wordsL [[105,102],tnth x.kids 0]
 else wordsL [[119,104,105,108,101],tnth x.kids 0,onlyL ((x.kids[1]?.map Node.kind).getD 0 != 63) [[118,97,114,105,97,110,116],tnth x.kids 1]]
abbrev Lines:=List (Nat × Bytes)
def openL (d:Nat) (h:Bytes):Nat × Bytes:=(d,wordsL [h,[123]])
def elseE (ks:List Node):Bool:=(ks[2]?.map (fun y:Node=>y.kids.isEmpty)).getD true
def nthI (l:List Lines) (i:Nat):Lines:=l.getD i []
mutual
def itm (d:Nat):Node→Lines
 | ⟨k,nm,o,n,l,i,g,ks,p⟩ =>
  bif k == 60 || k == 51 then openL d (headL ⟨k,nm,o,n,l,i,g,ks,p⟩) :: (itms (d + 1) ks ++ [(d,[125])])
  else bif k == 57 then openL d (headL ⟨k,nm,o,n,l,i,g,ks,p⟩) :: (nthI (inns (d + 1) ks) (ks.length - 1) ++ [(d,[125])])
  else bif k == 31 then openL d (headL ⟨k,nm,o,n,l,i,g,ks,p⟩) :: (nthI (inns (d + 1) ks) 1 ++ ((bif elseE ks then [] else (d,[125,32,101,108,115,101,32,123]) :: nthI (inns (d + 1) ks) 2) ++ [(d,[125])]))
  else bif k == 32 then openL d (headL ⟨k,nm,o,n,l,i,g,ks,p⟩) :: (nthI (inns (d + 1) ks) 2 ++ [(d,[125])])
  else [(d,simpL ⟨k,nm,o,n,l,i,g,ks,p⟩ ++ [59])]
def itms (d:Nat):List Node→Lines
 | []=>[]
 | x :: r=>itm d x ++ itms d r
def inn (d:Nat):Node→Lines
 | ⟨_,_,_,_,_,_,_,ks,_⟩=>itms d ks
def inns (d:Nat):List Node→List Lines
 | []=>[]
 | x :: r=>inn d x :: inns d r
end
theorem inn_eq (d:Nat) (x:Node):inn d x = itms d x.kids:=by cases x; simp [inn]
theorem inns_map (d:Nat):(l:List Node)→inns d l = l.map (fun x=>itms d x.kids)
 | []=>by simp [inns]
 | x :: r=>by simp [inns,inns_map d r,inn_eq]
theorem itm_eq (d:Nat) (x:Node):itm d x =
  (bif x.kind == 60 || x.kind == 51 then openL d (headL x) :: (itms (d + 1) x.kids ++ [(d,[125])])
  else bif x.kind == 57 then openL d (headL x) :: (nthI (inns (d + 1) x.kids) (x.kids.length - 1) ++ [(d,[125])])
  else bif x.kind == 31 then openL d (headL x) :: (nthI (inns (d + 1) x.kids) 1 ++ ((bif elseE x.kids then [] else (d,[125,32,101,108,115,101,32,123]) :: nthI (inns (d + 1) x.kids) 2) ++ [(d,[125])]))
  else bif x.kind == 32 then openL d (headL x) :: (nthI (inns (d + 1) x.kids) 2 ++ [(d,[125])])
  else [(d,simpL x ++ [59])]):=by
 cases x; simp [itm]
def lineT (p:Nat × Bytes):Bytes:=repL [32,32] p.1 ++ (p.2 ++ [10])
def linesT (l:Lines):Bytes:=l.flatMap lineT
def srcT (x:Node):Bytes:=linesT (itms 0 x.kids)
end Go.Proofs.YtbecjgckobhmpaaGreatDoor
end
section
namespace Go.Proofs.YtbecjgckobhmpaaGreatDoor
open Go Go.AM Go.Proofs
mutual
def okT:Node→Bool
 | ⟨k,nm,o,n,l,i,g,ks,p⟩=>fieldsB ⟨k,nm,o,n,l,i,g,ks,p⟩ && (kidsB ⟨k,nm,o,n,l,i,g,ks,p⟩ && okTs ks)
def okTs:List Node→Bool
 | []=>true
 | x :: r=>okT x && okTs r
end
theorem okTs_all:(l:List Node)→okTs l = l.all okT
 | []=>by simp [okTs]
 | x :: r=>by simp [okTs,okTs_all r]
theorem okT_eq (x:Node):okT x = (fieldsB x && (kidsB x && x.kids.all okT)):=by
 cases x; simp [okT,okTs_all]
inductive Lim (b:Nat):Node→Prop where
 | mk (x:Node) (h1:(tl x.name).length≤b) (h2:(tl x.other).length≤b) (h3:x.kids.length≤b) (h4:∀ y ∈ x.kids,Lim b y):Lim b x
theorem Lim.mono {b c:Nat} (h:b≤c) {x:Node} (hx:Lim b x):Lim c x:=by
 induction hx with
 | mk x h1 h2 h3 h4 ih=>exact .mk x (by omega) (by omega) (by omega) ih
theorem F64_eq {b:Nat} (hb:b≤9223372036854775807):∀ (m:Nat) (x:Node),sz x≤m→Lim b x→∀ n,30 + 3 * sz x≤n→F64 n x = some (okT x):=by
 intro m
 induction m with
 | zero=>intro x hx; have:=sz_pos x; omega
 | succ m ih =>
  intro x hx hlim n hn
  obtain ⟨_,h1,h2,h3,h4⟩:=hlim
  have hlen:=szs_len x.kids
  have hsz:=sz_eq x
  obtain ⟨n,rfl⟩:∃ m,n = m + 2:=⟨n - 2,by omega⟩
  have e99:F99 (n + 1) x.kids = some (x.kids.all okT):=by
   show F99_step (F99 n) (F64 n) n x.kids = _
   unfold F99_step
   rw [iter_all x.kids okT (by omega) (fun k y hy=>by
    have hlt:=lt_of_get hy
    have hm:y ∈ x.kids:=List.mem_of_getElem? hy
    have hys:=szs_mem x.kids y hm
    have c1:decide ((k:Int) < (x.kids.length:Int)) = true:=by simpa using hlt
    rw [c1,idxL_some hy]
    simp only [cond_true,Option.bind_some,ih y (by omega) (h4 y hm) n (by omega)]
    cases okT y <;> rfl) (by simp) (by omega)]
   cases x.kids.all okT <;> rfl
  show F64_step (F99 (n + 1)) (F64 (n + 1)) (n + 1) x = _
  unfold F64_step
  rw [F97_eq x (by omega) (by omega) (by omega),F98_eq x (by omega) (by omega) (by omega),e99,okT_eq]
  simp only [Option.bind_some]
  cases fieldsB x <;> cases kidsB x <;> simp
def okE (x:Node):Prop:=okT x = true∧isE x.kind = true
theorem okT_parts {x:Node} (h:okT x = true):fieldsB x = true∧kidsB x = true∧∀ y ∈ x.kids,okT y = true:=by
 rw [okT_eq] at h
 simp only [Bool.and_eq_true,List.all_eq_true] at h
 exact ⟨h.1,h.2.1,h.2.2⟩
theorem ex1_iff {p:Node→Bool} {l:List Node} (h:ex1 p l = true):∃ a,l = [a]∧p a = true:=by
 match l,h with
 | [a],h=>exact ⟨a,rfl,h⟩
theorem ex2_iff {p q:Node→Bool} {l:List Node} (h:ex2 p q l = true):∃ a b,l = [a,b]∧p a = true∧q b = true:=by
 match l,h with
 | [a,b],h=>simp only [ex2,Bool.and_eq_true] at h; exact ⟨a,b,rfl,h⟩
theorem ex3_iff {p q r:Node→Bool} {l:List Node} (h:ex3 p q r l = true):∃ a b c,l = [a,b,c]∧p a = true∧q b = true∧r c = true:=by
 match l,h with
 | [a,b,c],h=>simp only [ex3,Bool.and_eq_true] at h; exact ⟨a,b,c,rfl,h⟩
theorem isE_cases {k:Int} (h:isE k = true):k = 1∨k = 2∨k = 3∨k = 4∨k = 5∨k = 6∨k = 7∨k = 8:=by
 simp only [isE,Bool.and_eq_true,decide_eq_true_eq] at h
 omega
theorem okE_ind {P:Node→Prop}
  (c1:∀ x,x.kind = 1→x.kids = []→inR x.n = true→P x)
  (c2:∀ x,x.kind = 2→x.kids = []→pathB (tl x.name) = true→P x)
  (c2':∀ x a,x.kind = 2→x.kids = [a]→pathB (tl x.name) = true→okE a→P a→P x)
  (c3:∀ x a,x.kind = 3→x.kids = [a]→okE a→P a→P x)
  (c4:∀ x a,x.kind = 4→x.kids = [a]→okE a→P a→P x)
  (c5:∀ x a b,x.kind = 5→x.kids = [a,b]→levelI x.name≠0→okE a→P a→okE b→P b→P x)
  (c6:∀ x a b c,x.kind = 6→x.kids = [a,b,c]→okE a→P a→okE b→P b→okE c→P c→P x)
  (c7:∀ x a,(x.kind = 7∨x.kind = 8)→x.kids = [a]→nameB (tl x.name) = true→inR x.n = true→okE a→P a→P x) :
  ∀ x,okE x→P x:=by
 have key:∀ m x,sz x≤m→okE x→P x:=by
  intro m
  induction m with
  | zero=>intro x hx; have:=sz_pos x; omega
  | succ m ih =>
   intro x hx hE
   obtain ⟨hT,he⟩:=hE
   obtain ⟨hf,hk,hks⟩:=okT_parts hT
   have hsz:=sz_eq x
   have kid:∀ y,y ∈ x.kids→isE y.kind = true→okE y∧P y:=fun y hy hye=>by
    have h0:okE y:=⟨hks y hy,hye⟩
    have:=szs_mem x.kids y hy
    exact ⟨h0,ih y (by omega) h0⟩
   rcases isE_cases he with h | h | h | h | h | h | h | h
   ·simp [fieldsB,fldGood,h] at hf
    simp [kidsB,leafK,h] at hk
    exact c1 x h hk hf.1
   ·simp [fieldsB,fldGood,h] at hf
    simp [kidsB,leafK,h] at hk
    rcases hk with hk | hk
    ·exact c2 x h hk hf.1
    ·obtain ⟨a,ha,hea⟩:=ex1_iff hk
     obtain ⟨k1,k2⟩:=kid a (by simp [ha]) hea
     exact c2' x a h ha hf.1 k1 k2
   ·simp [kidsB,leafK,h] at hk
    obtain ⟨a,ha,hea⟩:=ex1_iff hk
    have hea':a.kind = 2:=by simpa [kX] using hea
    obtain ⟨k1,k2⟩:=kid a (by simp [ha]) (by rw [hea']; rfl)
    exact c3 x a h ha k1 k2
   ·simp [kidsB,leafK,oneK,h] at hk
    obtain ⟨a,ha,hea⟩:=ex1_iff hk
    obtain ⟨k1,k2⟩:=kid a (by simp [ha]) hea
    exact c4 x a h ha k1 k2
   ·simp [fieldsB,fldGood,h] at hf
    simp [kidsB,leafK,oneK,h] at hk
    obtain ⟨a,b,ha,hea,heb⟩:=ex2_iff hk
    obtain ⟨k1,k2⟩:=kid a (by simp [ha]) hea
    obtain ⟨k3,k4⟩:=kid b (by simp [ha]) heb
    exact c5 x a b h ha hf.1 k1 k2 k3 k4
   ·simp [kidsB,leafK,oneK,h] at hk
    obtain ⟨a,b,c,ha,hea,heb,hec⟩:=ex3_iff hk
    obtain ⟨k1,k2⟩:=kid a (by simp [ha]) hea
    obtain ⟨k3,k4⟩:=kid b (by simp [ha]) heb
    obtain ⟨k5,k6⟩:=kid c (by simp [ha]) hec
    exact c6 x a b c h ha k1 k2 k3 k4 k5 k6
   ·simp [fieldsB,fldGood,h] at hf
    simp [kidsB,leafK,oneK,h] at hk
    obtain ⟨a,ha,hea⟩:=ex1_iff hk
    obtain ⟨k1,k2⟩:=kid a (by simp [ha]) hea
    exact c7 x a (.inl h) ha hf.1.1 hf.1.2 k1 k2
   ·simp [fieldsB,fldGood,h] at hf
    simp [kidsB,leafK,oneK,h] at hk
    obtain ⟨a,ha,hea⟩:=ex1_iff hk
    obtain ⟨k1,k2⟩:=kid a (by simp [ha]) hea
    exact c7 x a (.inr h) ha hf.1.1 hf.1.2 k1 k2
 exact fun x hx=>key (sz x) x (Nat.le_refl _) hx
theorem nameB_len {s:Bytes} (h:nameB s = true):1≤s.length∧s.length≤16:=by
 simp [nameB] at h
 exact ⟨by omega,h.1.1.2⟩
theorem pathN_len:∀ (k:Nat) {s:Bytes},pathN k s = true→1≤s.length∧s.length≤17 * k
 | 0,s,h=>by simp [pathN] at h
 | k + 1,s,h=>by
  simp only [pathN,Bool.and_eq_true] at h
  have h1:=nameB_len h.1
  have sp:=cutB_spec s
  cases hc:(cutB s).2 with
  | none=>rw [(sp.1 hc).1] at h1; omega
  | some r =>
   have h2:=h.2
   rw [hc] at h2
   have h3:=pathN_len k h2
   have:=congrArg List.length (sp.2 r hc).1
   simp at this
   omega
theorem pathB_len {s:Bytes} (h:pathB s = true):1≤s.length∧s.length≤51:=pathN_len 3 h
theorem level_cases {s:ByteArray} (h:levelI s≠0):tl s ∈ [[61,61,62],[124,124],[38,38],[61,61],[33,61],[60],[60,61],[124],[94],[38],[43],[45],[42]]:=by
 have e:∀ l:List UInt8,strEq s (bs l) = decide (tl s = l):=fun l=>Bool.eq_iff_iff.2 (by rw [decide_eq_true_iff]; simp [strEq,bs,tl])
 simp only [levelI,e] at h
 simp only [List.mem_cons,List.not_mem_nil,or_false]
 by_cases h1:tl s = [61,61,62]
 ·exact .inl h1
 by_cases h2:tl s = [124,124]
 ·simp [h2]
 by_cases h3:tl s = [38,38]
 ·simp [h3]
 by_cases h4:tl s = [61,61]
 ·simp [h4]
 by_cases h5:tl s = [33,61]
 ·simp [h5]
 by_cases h6:tl s = [60]
 ·simp [h6]
 by_cases h7:tl s = [60,61]
 ·simp [h7]
 by_cases h8:tl s = [124]
 ·simp [h8]
 by_cases h9:tl s = [94]
 ·simp [h9]
 by_cases h10:tl s = [38]
 ·simp [h10]
 by_cases h11:tl s = [43]
 ·simp [h11]
 by_cases h12:tl s = [45]
 ·simp [h12]
 by_cases h13:tl s = [42]
 ·simp [h13]
 simp [h1,h2,h3,h4,h5,h6,h7,h8,h9,h10,h11,h12,h13] at h
theorem level_len {s:ByteArray} (h:levelI s≠0):1≤(tl s).length∧(tl s).length≤3:=by
 have:=level_cases h
 simp only [List.mem_cons,List.not_mem_nil,or_false] at this
 rcases this with h | h | h | h | h | h | h | h | h | h | h | h | h <;> rw [h] <;> simp
theorem digs_len:∀ (f u:Nat),(digs f u).length≤f
 | 0,_=>by simp [digs]
 | f + 1,u=>by
  simp only [digs]
  split
  ·simp
  ·have:=digs_len f (u / 10); simp; omega
theorem digs_pos (f u:Nat):1≤(digs (f + 1) u).length:=by
 simp only [digs]
 split <;> simp
theorem numL_len (n:Int):1≤(numL n).length∧(numL n).length≤20:=⟨digs_pos 19 _,digs_len 20 _⟩
theorem joinL_len (sep:Bytes):∀ (l:List Bytes),(joinL sep l).length≤(l.map List.length).sum + sep.length * l.length
 | []=>by simp [joinL]
 | [x]=>by simp [joinL]
 | x :: y :: r=>by
  have:=joinL_len sep (y :: r)
  simp only [joinL,List.length_append,List.map_cons,List.sum_cons,List.length_cons] at *
  have e:sep.length * (r.length + 1 + 1) = sep.length * (r.length + 1) + sep.length:=by rw [Nat.mul_succ]
  omega
theorem filter_sum (l:List Bytes) (p:Bytes→Bool):((l.filter p).map List.length).sum≤(l.map List.length).sum:=by
 induction l with
 | nil=>simp
 | cons x r ih =>
  simp only [List.filter_cons]
  split <;> simp <;> omega
theorem wordsL_len (l:List Bytes):(wordsL l).length≤(l.map List.length).sum + l.length:=by
 have h1:=joinL_len [32] (l.filter (fun s=>!s.isEmpty))
 have h2:=filter_sum l (fun s=>!s.isEmpty)
 have h3:=List.length_filter_le (fun s:Bytes=>!s.isEmpty) l
 refine Nat.le_trans h1 ?_
 simp only [List.length_cons,List.length_nil]
 omega
theorem opd_len (a:Int × Bytes) (r:Int):(opd a r).length≤a.2.length + 2:=by
 unfold opd
 cases decide (a.1 < r) <;> simp
theorem txt_len:∀ x,okE x→(txt x).length≤80 * sz x:=by
 apply okE_ind
 ·intro x h hk hn
  have:=numL_len x.n
  rw [txt_eq,sz_eq,hk]
  simp [txtOf,h]
  omega
 ·intro x h hk hn
  have:=pathB_len hn
  rw [txt_eq,sz_eq,hk]
  simp [txtOf,h,txts]
  omega
 ·intro x a h hk hn _ ih
  have:=pathB_len hn
  have:=opd_len (levI a,txt a) 0
  rw [txt_eq,sz_eq,hk]
  simp [txtOf,h,txts,nth,szs] at *
  omega
 ·intro x a h hk _ ih
  have:=opd_len (levI a,txt a) 0
  rw [txt_eq,sz_eq,hk]
  simp [txtOf,h,txts,nth,szs] at *
  omega
 ·intro x a h hk _ ih
  have:=opd_len (levI a,txt a) 11
  rw [txt_eq,sz_eq,hk]
  simp [txtOf,h,txts,nth,szs] at *
  omega
 ·intro x a b h hk hl _ iha _ ihb
  have:=level_len hl
  have h1:=opd_len (levI a,txt a) (ruleI x.name).2.2.1
  have h2:=opd_len (levI b,txt b) (ruleI x.name).2.2.2
  have h3:=wordsL_len [opd (levI a,txt a) (ruleI x.name).2.2.1,tl x.name,opd (levI b,txt b) (ruleI x.name).2.2.2]
  rw [txt_eq,sz_eq,hk]
  simp [txtOf,h,txts,nth,szs] at *
  omega
 ·intro x a b c h hk _ iha _ ihb _ ihc
  have h1:=opd_len (levI a,txt a) 2
  have h2:=opd_len (levI b,txt b) 1
  have h4:=opd_len (levI c,txt c) 1
  have h3:=wordsL_len [opd (levI a,txt a) 2,[63],opd (levI b,txt b) 1,[58],opd (levI c,txt c) 1]
  rw [txt_eq,sz_eq,hk]
  simp [txtOf,h,txts,nth,szs] at *
  omega
 ·intro x a h hk hnm hn _ ih
  have:=nameB_len hnm
  have:=numL_len x.n
  have h1:=opd_len (levI a,txt a) 0
  have h2:=wordsL_len [[97,108,108],tl x.name,[60],numL x.n,[58],opd (levI a,txt a) 0]
  have h3:=wordsL_len [[115,111,109,101],tl x.name,[60],numL x.n,[58],opd (levI a,txt a) 0]
  rw [txt_eq,sz_eq,hk]
  rcases h with h | h <;> simp [txtOf,h,txts,nth,szs] at * <;> omega
end Go.Proofs.YtbecjgckobhmpaaGreatDoor
end
section
namespace Go.Proofs.YtbecjgckobhmpaaGreatDoor
open Go Go.AM Go.Proofs
theorem joinF_eq {xs:List ByteArray} {sep:ByteArray} (h1:xs.length≤1000000) (h2:(joinL (tl sep) (xs.map tl)).length≤1000000000):joinF xs sep = some (bs (joinL (tl sep) (xs.map tl))):=by
 show (if xs.length≤140737488355328∧(joinL (tl sep) (xs.map tl)).length≤140737488355328 then some (bs (joinL (tl sep) (xs.map tl))) else none) = _
 rw [if_pos ⟨by omega,by omega⟩]
theorem joinL_nil:∀ (l:List Bytes),joinL [] l = l.flatten
 | []=>rfl
 | [x]=>by simp [joinL]
 | x :: y :: r=>by
  have:=joinL_nil (y :: r)
  simp only [joinL,this,List.flatten_cons,List.nil_append]
theorem F82_eq {l:List ByteArray} (h1:l.length≤1000) (h2:((l.map tl).flatten).length≤1000000000):F82 l = some (bs ((l.map tl).flatten)):=by
 have e:=joinL_nil (l.map tl)
 unfold F82
 rw [joinF_eq (by omega) (by rw [show tl (bs []) = [] from rfl,e]; exact h2)]
 simp only [Option.bind_some,show tl (bs []) = [] from rfl,e]
theorem filter_ne (l:List ByteArray):(l.filter (fun s=>!(strEq s (bs [])))).map tl = (l.map tl).filter (fun s=>!s.isEmpty):=by
 rw [List.filter_map]
 congr 1
 apply List.filter_congr
 intro s _
 simp only [Function.comp]
 congr 1
 have:strEq s (bs []) = (tl s == []):=rfl
 rw [this]
 cases tl s <;> rfl
theorem F85_eq {l:List ByteArray} (h1:l.length≤1000) (h2:(wordsL (l.map tl)).length≤1000000000) {n:Nat} (hn:l.length < n):F85 n l = some (bs (wordsL (l.map tl))):=by
 unfold F85
 obtain ⟨r,hr,rfl⟩:=iter_inv (step:=fun s1:List ByteArray × Int=>bif decide (s1.2 < (l.length:Int)) then
   ((idxL l s1.2).bind fun x3 =>
   bif !(strEq x3 (bs [])) then
    ((appL 16 s1.1 ([x3]:List ByteArray)).bind fun x5 =>
    some (.inl (x5,w64 (s1.2 + 1))))
   else
    (some (.inl (s1.1,w64 (s1.2 + 1)))))
  else
   (some (.inr s1.1))) l (fun (k:Nat) (a:List ByteArray)=>(a,(k:Int))) (fun k a=>a = (l.take k).filter (fun s=>!(strEq s (bs [])))) (fun r=>r = l.filter (fun s=>!(strEq s (bs []))))
  (fun k a x hx ha=>by
   have hlt:=lt_of_get hx
   have c1:decide ((k:Int) < (l.length:Int)) = true:=by simpa using hlt
   have ht:l.take (k + 1) = l.take k ++ [x]:=by
    rw [List.take_add_one,hx]; rfl
   simp only [c1,cond_true,idxL_some hx,Option.bind_some,w64_nat (k:=k) (by omega)]
   left
   cases he:strEq x (bs [])
   ·have hal:a.length≤k:=by
     rw [ha]
     refine Nat.le_trans (List.length_filter_le _ _) ?_
     simp; omega
    simp only [Bool.not_false,cond_true,appL]
    rw [if_pos (by simp; omega)]
    exact ⟨a ++ [x],rfl,by rw [ht,List.filter_append,← ha]; simp [he]⟩
   ·simp only [Bool.not_true,cond_false]
    exact ⟨a,rfl,by rw [ht,List.filter_append,← ha]; simp [he]⟩)
  (fun a ha=>⟨a,by simp,by rw [ha]; simp⟩) n [] hn (by simp)
 erw [hr]
 simp only [Option.bind_some]
 have e:(l.filter (fun s=>!(strEq s (bs [])))).map tl = (l.map tl).filter (fun s=>!s.isEmpty):=filter_ne l
 rw [joinF_eq (by have:=List.length_filter_le (fun s=>!(strEq s (bs []))) l; omega) (by rw [e]; exact h2)]
 simp only [Option.bind_some,e]
 rfl
theorem F126_eq {c:Bool} {l:List ByteArray} (h1:l.length≤1000) (h2:(wordsL (l.map tl)).length≤1000000000) {n:Nat} (hn:l.length < n):F126 n c l = some (bs (onlyL c (l.map tl))):=by
 unfold F126
 cases c
 ·rfl
 ·rw [F85_eq h1 h2 hn]; rfl
theorem F84_eq (s:ByteArray) {n:Nat} (hn:14≤n):F84 n s = some ((ruleI s).1,(ruleI s).2.1,(ruleI s).2.2.1,(ruleI s).2.2.2):=by
 unfold F84
 have hlen:ruleTab.length = 13:=by kernel_rfl
 have:=iter_runF (step:=fun s2:Int=>bif decide (s2 < 13) then
   ((idxL ruleTab s2).bind fun x4 =>
   bif strEq x4.1 s then
    (some (.inr (.inl (x4.1,x4.2.1,x4.2.2.1,x4.2.2.2))))
   else
    (some (.inl (w64 (s2 + 1)))))
  else
   (some (.inr (.inr ())):Option (Int ⊕ ((ByteArray × Int × Int × Int) ⊕ Unit)))) ruleTab (fun (k:Nat) (_:Unit)=>(k:Int)) (fun _ _ x=>if strEq x.1 s then .inr (.inl x) else .inl ()) (fun _=>.inr ())
  (fun k a x hx=>by
   have hlt:=lt_of_get hx
   have c1:decide ((k:Int) < 13) = true:=by simp; omega
   simp only [c1,cond_true,idxL_some hx,Option.bind_some,w64_nat (k:=k) (by omega)]
   cases strEq x.1 s <;> rfl) (fun _=>by rw [hlen]; rfl) n () (by omega)
 erw [this]
 have key:∀ (l:List (ByteArray × Int × Int × Int)) (k:Nat),runF (A:=Unit) (ρ:=(ByteArray × Int × Int × Int) ⊕ Unit) (fun _ _ x=>if strEq x.1 s then .inr (.inl x) else .inl ()) (fun _=>.inr ()) k l () = match l.find? (fun r=>strEq r.1 s) with | some r=>.inl r | none=>.inr ():=by
  intro l
  induction l with
  | nil=>intro k; rfl
  | cons x r ih =>
   intro k
   simp only [runF,List.find?_cons]
   by_cases hx:strEq x.1 s = true
   ·simp [hx]
   ·simp only [Bool.not_eq_true] at hx
    simp only [hx]
    simpa using ih (k + 1)
 rw [key]
 simp only [Option.bind_some,ruleI]
 cases ruleTab.find? (fun r=>strEq r.1 s) <;> rfl
theorem F134_eq (x:Node) {n:Nat} (hn:14≤n):F134 n x = some (levI x):=by
 unfold F134 levI
 simp only [Option.bind_some,F84_eq _ hn,some_cond,bor]
theorem itoa_eq {n:Int} (h:inR n = true):itoaF n = some (bs (numL n)):=by
 simp only [inR,Bool.and_eq_true,decide_eq_true_eq] at h
 unfold itoaF
 rw [if_pos (by omega)]
 rfl
theorem F83_of {x:Node} {n:Nat} (hn:14≤n) (h:F54 n x = some (bs (txt x))) (hl:(txt x).length≤100000) (r:Int):F83 (n + 1) x r = some (bs (opd (levI x,txt x) r)):=by
 show F83_step (F83 n) (F54 n) n x r = _
 unfold F83_step
 rw [F134_eq x hn,h]
 simp only [Option.bind_some,opd]
 cases decide (levI x < r)
 ·rfl
 ·simp only [cond_true]
  rw [F82_eq (by simp) (by simp [tl,bs]; omega)]
  simp [bs,tl]
theorem F54_eq:∀ x,okE x→sz x≤200→∀ n,30 + 2 * sz x≤n→F54 n x = some (bs (txt x)):=by
 have len:∀ y,okE y→sz y≤200→(txt y).length≤16000:=fun y hy hs=>by have:=txt_len y hy; omega
 have opl:∀ y (r:Int),okE y→sz y≤200→(opd (levI y,txt y) r).length≤16002:=fun y r hy hs=>by
  have h1:=len y hy hs
  have h2:=opd_len (levI y,txt y) r
  simp at h2
  omega
 apply okE_ind
 ·intro x h hk hn hs n hf
  obtain ⟨n,rfl⟩:∃ m,n = m + 1:=⟨n - 1,by omega⟩
  show F54_step (F83 n) (F54 n) n x = _
  unfold F54_step
  rw [txt_eq]
  simp [h,itoa_eq hn,txtOf]
 ·intro x h hk hn hs n hf
  obtain ⟨n,rfl⟩:∃ m,n = m + 1:=⟨n - 1,by omega⟩
  show F54_step (F83 n) (F54 n) n x = _
  unfold F54_step
  rw [txt_eq]
  simp [h,hk,txtOf,txts,bs_tl]
 ·intro x a h hk hn ha ih hs n hf
  have hsz:sz x = 1 + sz a:=by rw [sz_eq,hk]; simp [szs]
  obtain ⟨n,rfl⟩:∃ m,n = m + 2:=⟨n - 2,by omega⟩
  have ea:=F83_of (n:=n) (by omega) (ih (by omega) n (by omega)) (by have:=len a ha (by omega); omega) 0
  have h1:=opl a 0 ha (by omega)
  have h2:=pathB_len hn
  show F54_step (F83 (n + 1)) (F54 (n + 1)) (n + 1) x = _
  unfold F54_step
  rw [txt_eq]
  simp only [h,hk,idxL]
  simp [txtOf,txts,nth,ea]
  rw [F82_eq (by simp) (by simp [tl,bs] at *; omega)]
  simp [bs,tl]
 ·intro x a h hk ha ih hs n hf
  have hsz:sz x = 1 + sz a:=by rw [sz_eq,hk]; simp [szs]
  obtain ⟨n,rfl⟩:∃ m,n = m + 2:=⟨n - 2,by omega⟩
  have ea:=F83_of (n:=n) (by omega) (ih (by omega) n (by omega)) (by have:=len a ha (by omega); omega) 0
  have h1:=opl a 0 ha (by omega)
  show F54_step (F83 (n + 1)) (F54 (n + 1)) (n + 1) x = _
  unfold F54_step
  rw [txt_eq]
  simp only [h,hk,idxL]
  simp [txtOf,txts,nth,ea]
  rw [F82_eq (by simp) (by simp [tl,bs] at *; omega)]
  simp [bs,tl]
 ·intro x a h hk ha ih hs n hf
  have hsz:sz x = 1 + sz a:=by rw [sz_eq,hk]; simp [szs]
  obtain ⟨n,rfl⟩:∃ m,n = m + 2:=⟨n - 2,by omega⟩
  have ea:=F83_of (n:=n) (by omega) (ih (by omega) n (by omega)) (by have:=len a ha (by omega); omega) 11
  have h1:=opl a 11 ha (by omega)
  show F54_step (F83 (n + 1)) (F54 (n + 1)) (n + 1) x = _
  unfold F54_step
  rw [txt_eq]
  simp only [h,hk,idxL]
  simp [txtOf,txts,nth,ea]
  rw [F82_eq (by simp) (by simp [tl,bs] at *; omega)]
  simp [bs,tl]
 ·intro x a b h hk hl ha iha hb ihb hs n hf
  have hsz:sz x = 1 + (sz a + sz b):=by rw [sz_eq,hk]; simp [szs]
  obtain ⟨n,rfl⟩:∃ m,n = m + 2:=⟨n - 2,by omega⟩
  have ea:=F83_of (n:=n) (by omega) (iha (by omega) n (by omega)) (by have:=len a ha (by omega); omega) (ruleI x.name).2.2.1
  have eb:=F83_of (n:=n) (by omega) (ihb (by omega) n (by omega)) (by have:=len b hb (by omega); omega) (ruleI x.name).2.2.2
  have h1:=opl a (ruleI x.name).2.2.1 ha (by omega)
  have h2:=opl b (ruleI x.name).2.2.2 hb (by omega)
  have h3:=level_len hl
  have h4:=wordsL_len [opd (levI a,txt a) (ruleI x.name).2.2.1,tl x.name,opd (levI b,txt b) (ruleI x.name).2.2.2]
  show F54_step (F83 (n + 1)) (F54 (n + 1)) (n + 1) x = _
  unfold F54_step
  rw [txt_eq]
  simp only [h,hk,F84_eq _ (show 14≤n + 1 by omega),idxL]
  simp [txtOf,txts,nth,ea,eb]
  rw [F85_eq (by simp) (by simp [tl,bs] at *; omega) (by simp; omega)]
  simp [bs,tl]
 ·intro x a b c h hk ha iha hb ihb hc ihc hs n hf
  have hsz:sz x = 1 + (sz a + (sz b + sz c)):=by rw [sz_eq,hk]; simp [szs]
  obtain ⟨n,rfl⟩:∃ m,n = m + 2:=⟨n - 2,by omega⟩
  have ea:=F83_of (n:=n) (by omega) (iha (by omega) n (by omega)) (by have:=len a ha (by omega); omega) 2
  have eb:=F83_of (n:=n) (by omega) (ihb (by omega) n (by omega)) (by have:=len b hb (by omega); omega) 1
  have ec:=F83_of (n:=n) (by omega) (ihc (by omega) n (by omega)) (by have:=len c hc (by omega); omega) 1
  have h1:=opl a 2 ha (by omega)
  have h2:=opl b 1 hb (by omega)
  have h3:=opl c 1 hc (by omega)
  have h4:=wordsL_len [opd (levI a,txt a) 2,[63],opd (levI b,txt b) 1,[58],opd (levI c,txt c) 1]
  show F54_step (F83 (n + 1)) (F54 (n + 1)) (n + 1) x = _
  unfold F54_step
  rw [txt_eq]
  simp only [h,hk,idxL]
  simp [txtOf,txts,nth,ea,eb,ec]
  rw [F85_eq (by simp) (by simp [tl,bs] at *; omega) (by simp; omega)]
  simp [bs,tl]
 ·intro x a h hk hnm hn ha ih hs n hf
  have hsz:sz x = 1 + sz a:=by rw [sz_eq,hk]; simp [szs]
  obtain ⟨n,rfl⟩:∃ m,n = m + 2:=⟨n - 2,by omega⟩
  have ea:=F83_of (n:=n) (by omega) (ih (by omega) n (by omega)) (by have:=len a ha (by omega); omega) 0
  have h1:=opl a 0 ha (by omega)
  have h2:=nameB_len hnm
  have h3:=numL_len x.n
  have h4:=wordsL_len [[97,108,108],tl x.name,[60],numL x.n,[58],opd (levI a,txt a) 0]
  have h5:=wordsL_len [[115,111,109,101],tl x.name,[60],numL x.n,[58],opd (levI a,txt a) 0]
  show F54_step (F83 (n + 1)) (F54 (n + 1)) (n + 1) x = _
  unfold F54_step
  rw [txt_eq]
  rcases h with h | h
  ·simp only [h,hk,idxL,itoa_eq hn]
   simp [txtOf,txts,nth,ea]
   rw [F85_eq (by simp) (by simp [tl,bs] at *; omega) (by simp; omega)]
   simp [bs,tl]
  ·simp only [h,hk,idxL,itoa_eq hn]
   simp [txtOf,txts,nth,ea]
   rw [F85_eq (by simp) (by simp [tl,bs] at *; omega) (by simp; omega)]
   simp [bs,tl]
end Go.Proofs.YtbecjgckobhmpaaGreatDoor
end
section
namespace Go.Proofs.YtbecjgckobhmpaaGreatDoor
open Go Go.AM Go.Proofs
def plainC (b:UInt8):Prop:=b≠32∧b≠10∧b≠123∧b≠125
inductive GX:Bytes→Prop where
 | tok (c:Bytes) (h0:c≠[]) (h:∀ b ∈ c,plainC b):GX c
 | app {a b:Bytes} (ha:GX a) (hb:GX b):GX (a ++ b)
 | sp {a b:Bytes} (ha:GX a) (hb:GX b):GX (a ++ 32 :: b)
def GE (c:Bytes):Prop:=c = []∨GX c
theorem GX.ne {c:Bytes} (h:GX c):c≠[]:=by
 induction h with
 | tok c h0 h=>exact h0
 | app ha hb ih1 ih2=>simp [ih1]
 | sp ha hb ih1 ih2=>simp
theorem GX.ge_app {a b:Bytes} (ha:GE a) (hb:GX b):GX (a ++ b):=by
 rcases ha with rfl | ha
 ·simpa using hb
 ·exact .app ha hb
theorem joinL_blank:∀ (l:List Bytes),(∀ s ∈ l,GX s)→l≠[]→GX (joinL [32] l)
 | [],_,h=>absurd rfl h
 | [x],h,_=>h x (by simp)
 | x :: y :: r,h,_=>by
  have:=joinL_blank (y :: r) (fun s hs=>h s (by simp [hs])) (by simp)
  simp only [joinL]
  exact .sp (h x (by simp)) this
theorem joinL_comma:∀ (l:List Bytes),(∀ s ∈ l,GX s)→l≠[]→GX (joinL [44,32] l)
 | [],_,h=>absurd rfl h
 | [x],h,_=>h x (by simp)
 | x :: y :: r,h,_=>by
  have:=joinL_comma (y :: r) (fun s hs=>h s (by simp [hs])) (by simp)
  simp only [joinL]
  have h1:GX (x ++ [44]):=.app (h x (by simp)) (.tok _ (by simp) (by simp [plainC]))
  have:=GX.sp h1 this
  simpa using this
theorem commas_GE (l:List Bytes) (h:∀ s ∈ l,GX s):GE (commasL l):=by
 cases l with
 | nil=>exact .inl rfl
 | cons x r=>exact .inr (joinL_comma _ h (by simp))
theorem words_GX (l:List Bytes) (h:∀ s ∈ l,GE s) (h2:∃ s ∈ l,s≠[]):GX (wordsL l):=by
 refine joinL_blank _ (fun s hs=>?_) ?_
 ·simp only [List.mem_filter] at hs
  rcases h s hs.1 with rfl | h
  ·simp at hs
  ·exact h
 ·obtain ⟨s,hs,hne⟩:=h2
  have:s ∈ l.filter (fun s=>!s.isEmpty):=by
   simp only [List.mem_filter]
   refine ⟨hs,?_⟩
   cases s with
   | nil=>exact absurd rfl hne
   | cons _ _=>rfl
  intro e
  rw [e] at this
  cases this
theorem plain_word {b:UInt8} (h:isWordI b.toNat = true):plainC b:=by
 refine ⟨?_,?_,?_,?_⟩ <;> rintro rfl <;> revert h <;> decide
theorem plain_let {b:UInt8} (h:isLetI b.toNat = true):plainC b:=by
 refine ⟨?_,?_,?_,?_⟩ <;> rintro rfl <;> revert h <;> decide
theorem name_GX {s:Bytes} (h:nameB s = true):GX s:=by
 simp only [nameB,Bool.and_eq_true] at h
 have hc:=h.2
 cases s with
 | nil=>simp at h
 | cons b r =>
  simp only [nameCs,Bool.and_eq_true,List.all_eq_true] at hc
  refine .tok _ (by simp) (fun c hcm=>?_)
  rcases List.mem_cons.1 hcm with rfl | hcm
  ·exact plain_let hc.1
  ·exact plain_word (hc.2 c hcm)
theorem tok1 {b:UInt8} (h:plainC b):GX [b]:=.tok _ (by simp) (by simpa using h)
theorem path_GX:∀ (k:Nat) {s:Bytes},pathN k s = true→GX s
 | 0,s,h=>by simp [pathN] at h
 | k + 1,s,h=>by
  simp only [pathN,Bool.and_eq_true] at h
  have h1:=name_GX h.1
  have spc:=cutB_spec s
  cases hc:(cutB s).2 with
  | none=>rw [(spc.1 hc).1] at h1; exact h1
  | some r =>
   have h2:=h.2
   rw [hc] at h2
   have h3:=path_GX k h2
   rw [(spc.2 r hc).1]
   exact .app h1 (GX.app (tok1 (by simp [plainC])) h3)
theorem digs_GX:∀ (f u:Nat),∀ b ∈ digs f u,plainC b
 | 0,_,b,h=>by simp [digs] at h
 | f + 1,u,b,h=>by
  have key:∀ v,v < 10→plainC (UInt8.ofNat (48 + v)):=by
   intro v hv
   have:v = 0∨v = 1∨v = 2∨v = 3∨v = 4∨v = 5∨v = 6∨v = 7∨v = 8∨v = 9:=by omega
   rcases this with rfl | rfl | rfl | rfl | rfl | rfl | rfl | rfl | rfl | rfl <;> simp [plainC]
  simp only [digs] at h
  split at h
  ·rename_i hu
   simp only [List.mem_singleton] at h
   subst h
   exact key u hu
  ·simp only [List.mem_append,List.mem_singleton] at h
   rcases h with h | rfl
   ·exact digs_GX f _ b h
   ·exact key _ (by omega)
theorem num_GX (n:Int):GX (numL n):=by
 refine .tok _ ?_ (digs_GX 20 _)
 intro e
 have:=(numL_len n).1
 rw [e] at this
 simp at this
theorem op_GX {s:ByteArray} (h:levelI s≠0):GX (tl s):=by
 have:=level_cases h
 simp only [List.mem_cons,List.not_mem_nil,or_false] at this
 rcases this with h | h | h | h | h | h | h | h | h | h | h | h | h <;> rw [h] <;> exact .tok _ (by simp) (by simp [plainC])
theorem opd_GX {a:Int × Bytes} (r:Int) (h:GX a.2):GX (opd a r):=by
 unfold opd
 cases decide (a.1 < r)
 ·exact h
 ·exact GX.app (tok1 (by simp [plainC])) (GX.app h (tok1 (by simp [plainC])))
theorem txt_GX:∀ x,okE x→GX (txt x):=by
 apply okE_ind
 ·intro x h hk hn
  rw [txt_eq]; simp [txtOf,h]
  exact num_GX _
 ·intro x h hk hn
  rw [txt_eq,hk]; simp [txtOf,h,txts]
  exact path_GX 3 hn
 ·intro x a h hk hn _ ih
  rw [txt_eq,hk]; simp [txtOf,h,txts,nth]
  exact .app (path_GX 3 hn) (GX.app (tok1 (by simp [plainC])) (.app (opd_GX _ ih) (tok1 (by simp [plainC]))))
 ·intro x a h hk _ ih
  rw [txt_eq,hk]; simp [txtOf,h,txts,nth]
  exact GX.app (a:=[111,108,100,40]) (.tok _ (by simp) (by simp [plainC])) (.app (opd_GX _ ih) (tok1 (by simp [plainC])))
 ·intro x a h hk _ ih
  rw [txt_eq,hk]; simp [txtOf,h,txts,nth]
  exact GX.app (a:=[33]) (tok1 (by simp [plainC])) (opd_GX _ ih)
 ·intro x a b h hk hl _ iha _ ihb
  rw [txt_eq,hk]; simp [txtOf,h,txts,nth]
  refine words_GX _ ?_ ⟨tl x.name,by simp,(op_GX hl).ne⟩
  simp only [List.mem_cons,List.not_mem_nil,or_false,forall_eq_or_imp,forall_eq]
  exact ⟨.inr (opd_GX _ iha),.inr (op_GX hl),.inr (opd_GX _ ihb)⟩
 ·intro x a b c h hk _ iha _ ihb _ ihc
  rw [txt_eq,hk]; simp [txtOf,h,txts,nth]
  refine words_GX _ ?_ ⟨[63],by simp,by simp⟩
  simp only [List.mem_cons,List.not_mem_nil,or_false,forall_eq_or_imp,forall_eq]
  exact ⟨.inr (opd_GX _ iha),.inr (tok1 (by simp [plainC])),.inr (opd_GX _ ihb),.inr (tok1 (by simp [plainC])),.inr (opd_GX _ ihc)⟩
 ·intro x a h hk hnm hn _ ih
  rw [txt_eq,hk]
  rcases h with h | h <;> simp [txtOf,h,txts,nth] <;> refine words_GX _ ?_ ⟨[60],by simp,by simp⟩ <;>
   simp only [List.mem_cons,List.not_mem_nil,or_false,forall_eq_or_imp,forall_eq] <;>
   exact ⟨.inr (.tok _ (by simp) (by simp [plainC])),.inr (name_GX hnm),.inr (tok1 (by simp [plainC])),.inr (num_GX _),.inr (tok1 (by simp [plainC])),.inr (opd_GX _ ih)⟩
inductive LB:Bytes→Int→Prop where
 | gx {c:Bytes} (h:GX c):LB c 0
 | lb:LB [123] 1
 | rb:LB [125] (-1)
 | app {a b:Bytes} {i j:Int} (ha:LB a i) (hb:LB b j):LB (a ++ b) (i + j)
 | sp {a b:Bytes} {i j:Int} (ha:LB a i) (hb:LB b j):LB (a ++ 32 :: b) (i + j)
def nd:Bytes→Bool
 | a :: b :: r=>!(a == 32 && b == 32) && nd (b :: r)
 | _=>true
def net:Bytes→Int
 | []=>0
 | b :: r=>(if b = 123 then 1 else if b = 125 then -1 else 0) + net r
theorem net_append:∀ (a b:Bytes),net (a ++ b) = net a + net b
 | [],b=>by simp [net]
 | x :: r,b=>by simp only [List.cons_append,net,net_append r b]; omega
theorem nd_append:∀ (a b:Bytes),nd a = true→nd b = true→(a.getLast?≠some 32∨b.head?≠some 32)→nd (a ++ b) = true
 | [],b,_,hb,_=>hb
 | [x],b,_,hb,h=>by
  cases b with
  | nil=>rfl
  | cons y r =>
   simp only [List.cons_append,List.nil_append,nd,hb,Bool.and_true]
   simp at h
   simp
   exact h
 | x :: y :: r,b,ha,hb,h=>by
  simp only [nd,Bool.and_eq_true] at ha
  have:=nd_append (y :: r) b ha.2 hb (by simpa using h)
  simp only [List.cons_append,nd,Bool.and_eq_true]
  exact ⟨ha.1,this⟩
theorem net_plain:∀ (c:Bytes),(∀ b ∈ c,plainC b)→net c = 0
 | [],_=>rfl
 | b :: r,h=>by
  have h1:=h b (by simp)
  simp [net,h1.2.2.1,h1.2.2.2,net_plain r (fun x hx=>h x (by simp [hx]))]
theorem nd_plain:∀ (c:Bytes),(∀ b ∈ c,plainC b)→nd c = true
 | [],_=>rfl
 | [_],_=>rfl
 | a :: b :: r,h=>by
  have h1:=h a (by simp)
  simp [nd,h1.1,nd_plain (b :: r) (fun x hx=>h x (by simp [hx]))]
structure Fine (c:Bytes) (i:Int):Prop where
 ne:c≠[]
 hd:c.head?≠some 32
 la:c.getLast?≠some 32
 nl:10 ∉ c
 nd:nd c = true
 nt:net c = i
theorem Fine.app {a b:Bytes} {i j:Int} (ha:Fine a i) (hb:Fine b j):Fine (a ++ b) (i + j) where
 ne:=by simp [ha.ne]
 hd:=by
  obtain ⟨x,r,rfl⟩:=List.exists_cons_of_ne_nil ha.ne
  simpa using ha.hd
 la:=by
  rw [List.getLast?_append]
  cases h:b.getLast? with
  | none=>rw [List.getLast?_eq_none_iff] at h; exact absurd h hb.ne
  | some v=>have:=hb.la; rw [h] at this; simpa using this
 nl:=by simp [ha.nl,hb.nl]
 nd:=nd_append a b ha.nd hb.nd (.inl ha.la)
 nt:=by rw [net_append,ha.nt,hb.nt]
theorem Fine.sp {a b:Bytes} {i j:Int} (ha:Fine a i) (hb:Fine b j):Fine (a ++ 32 :: b) (i + j) where
 ne:=by simp
 hd:=by
  obtain ⟨x,r,rfl⟩:=List.exists_cons_of_ne_nil ha.ne
  simpa using ha.hd
 la:=by
  obtain ⟨x,r,rfl⟩:=List.exists_cons_of_ne_nil hb.ne
  have:=hb.la
  rw [List.getLast?_append]
  simp at this ⊢
  exact this
 nl:=by simp [ha.nl,hb.nl]
 nd:=by
  refine nd_append a (32 :: b) ha.nd ?_ (.inl ha.la)
  obtain ⟨x,r,rfl⟩:=List.exists_cons_of_ne_nil hb.ne
  have h1:=hb.hd
  have h2:=hb.nd
  simp at h1
  simp [Go.Proofs.YtbecjgckobhmpaaGreatDoor.nd,h1,h2]
 nt:=by rw [net_append,ha.nt]; simp [net,hb.nt]
theorem Fine.tok {c:Bytes} (h0:c≠[]) (h:∀ b ∈ c,plainC b):Fine c 0 where
 ne:=h0
 hd:=by
  obtain ⟨x,r,rfl⟩:=List.exists_cons_of_ne_nil h0
  simpa using (h x (by simp)).1
 la:=by
  intro e
  exact (h 32 (List.mem_of_getLast? e)).1 rfl
 nl:=fun e=>(h 10 e).2.1 rfl
 nd:=nd_plain c h
 nt:=net_plain c h
theorem GX.fine {c:Bytes} (h:GX c):Fine c 0:=by
 induction h with
 | tok c h0 h=>exact .tok h0 h
 | app _ _ ih1 ih2=>simpa using ih1.app ih2
 | sp _ _ ih1 ih2=>simpa using ih1.sp ih2
theorem LB.fine {c:Bytes} {i:Int} (h:LB c i):Fine c i:=by
 induction h with
 | gx h=>exact h.fine
 | lb=>exact ⟨by simp,by simp,by simp,by simp,rfl,rfl⟩
 | rb=>exact ⟨by simp,by simp,by simp,by simp,rfl,rfl⟩
 | app _ _ ih1 ih2=>exact ih1.app ih2
 | sp _ _ ih1 ih2=>exact ih1.sp ih2
theorem GX.hd125 {c:Bytes} (h:GX c):c.head?≠some 125:=by
 induction h with
 | tok c h0 h =>
  obtain ⟨x,r,rfl⟩:=List.exists_cons_of_ne_nil h0
  simpa using (h x (by simp)).2.2.2
 | app ha hb ih1 ih2 =>
  obtain ⟨x,r,rfl⟩:=List.exists_cons_of_ne_nil ha.ne
  simpa using ih1
 | sp ha hb ih1 ih2 =>
  obtain ⟨x,r,rfl⟩:=List.exists_cons_of_ne_nil ha.ne
  simpa using ih1
theorem hd_app {a b:Bytes} (h:a≠[]):(a ++ b).head? = a.head?:=by
 obtain ⟨x,r,rfl⟩:=List.exists_cons_of_ne_nil h
 rfl
inductive Lay:Int→Lines→Int→Prop where
 | nil (o:Int):Lay o [] o
 | cons {o o' i:Int} {d:Nat} {c:Bytes} {r:Lines} (hc:LB c i) (hd:(d:Int) = o - (if c.head? = some 125 then 1 else 0)) (hr:Lay (o + i) r o'):Lay o ((d,c) :: r) o'
theorem Lay.append {o1 o2 o3:Int} {a b:Lines} (ha:Lay o1 a o2) (hb:Lay o2 b o3):Lay o1 (a ++ b) o3:=by
 induction ha with
 | nil o=>exact hb
 | cons hc hd hr ih=>exact .cons hc hd (ih hb)
theorem Lay.one {d:Nat} {c:Bytes} (h:LB c 0) (h2:c.head?≠some 125):Lay d [(d,c)] d :=
 .cons h (by rw [if_neg h2]; omega) (by simpa using Lay.nil _)
theorem Lay.open {d:Nat} {h:Bytes} (hg:GX h) {r:Lines} {o:Int} (hr:Lay ((d:Int) + 1) r o):Lay d (openL d h :: r) o:=by
 have e:wordsL [h,[123]] = h ++ 32 :: [123]:=by
  obtain ⟨x,t,rfl⟩:=List.exists_cons_of_ne_nil hg.ne
  simp [wordsL,joinL]
 unfold openL
 rw [e]
 refine .cons (.sp (.gx hg) .lb) ?_ (by simpa using hr)
 rw [hd_app hg.ne,if_neg hg.hd125]
 omega
end Go.Proofs.YtbecjgckobhmpaaGreatDoor
end
section
namespace Go.Proofs.YtbecjgckobhmpaaGreatDoor
open Go Go.AM Go.Proofs
theorem pairs_E:∀ (l:List Node),pairsB l = true→∀ y ∈ l,isE y.kind = true
 | [],_,y,h=>by cases h
 | [a],h,_,_=>by simp [pairsB] at h
 | a :: b :: r,h,y,hy=>by
  simp only [pairsB,Bool.and_eq_true] at h
  simp only [List.mem_cons] at hy
  rcases hy with rfl | rfl | hy
  ·have:y.kind = 2:=by simpa using h.1
   rw [this]; rfl
  ·exact h.2.1
  ·exact pairs_E r h.2.2 y hy
theorem tok_GX {c:Bytes} (h:(c.all fun b=>b != 32 && (b != 10 && (b != 123 && b != 125))) = true) (h0:c.isEmpty = false):GX c:=by
 refine .tok c (by intro e; simp [e] at h0) (fun b hb=>?_)
 have:=List.all_eq_true.1 h b hb
 simp at this
 exact ⟨this.1,this.2.1,this.2.2.1,this.2.2.2⟩
theorem tx_GX {l:List Node} (h:∀ y ∈ l,okE y):∀ s ∈ tx l,GX s:=by
 intro s hs
 simp only [tx,List.mem_map] at hs
 obtain ⟨y,hy,rfl⟩:=hs
 exact txt_GX y (h y hy)
theorem pairL_GX:∀ (l:List Bytes),(∀ s ∈ l,GX s)→∀ s ∈ pairL l,GX s
 | [],_,s,h=>by simp [pairL] at h
 | [_],_,s,h=>by simp [pairL] at h
 | a :: b :: r,hl,s,h=>by
  simp only [pairL,List.mem_cons] at h
  rcases h with rfl | h
  ·refine words_GX _ ?_ ⟨[58,61],by simp,by simp⟩
   simp only [List.mem_cons,List.not_mem_nil,or_false,forall_eq_or_imp,forall_eq]
   exact ⟨.inr (hl a (by simp)),.inr (tok_GX rfl rfl),.inr (hl b (by simp))⟩
  ·exact pairL_GX r (fun s hs=>hl s (by simp [hs])) s h
theorem sized_GX {x:Node} (h:nameB (tl x.name) = true):GX (sizedL x):=by
 refine words_GX _ ?_ ⟨[58],by simp,by simp⟩
 simp only [List.mem_cons,List.not_mem_nil,or_false,forall_eq_or_imp,forall_eq]
 exact ⟨.inr (name_GX h),.inr (tok_GX rfl rfl),.inr (num_GX _)⟩
theorem str_nil {s:ByteArray}:strEq s (bs []) = true ↔ tl s = []:=by simp [strEq,bs,tl]
theorem tn_GX {l:List Node} {i:Nat} {y:Node} (h:l[i]? = some y) (hy:okE y):GX (tnth l i):=by
 have:tnth l i = txt y:=by simp [tnth,tx,h]
 rw [this]
 exact txt_GX y hy
def oneLine (k:Int):Bool:=k == 61 || k == 52 || k == 50 || k == 53 || k == 54 || k == 55 || k == 56 || k == 35 || k == 20 || k == 29 || k == 26 || k == 30 || k == 21 || k == 23 || k == 24 || k == 25 || k == 27 || k == 28 || k == 33
theorem w1 {a:Bytes} (h:GX a) {l:List Bytes} (hl:∀ s ∈ l,GE s):GX (wordsL (a :: l)) :=
 words_GX _ (fun s hs=>by
  rcases List.mem_cons.1 hs with rfl | hs
  ·exact .inr h
  ·exact hl s hs) ⟨a,by simp,h.ne⟩
theorem g0:∀ s ∈ ([]:List Bytes),GE s:=fun _ h=>by cases h
theorem gc {a:Bytes} (h:GE a) {l:List Bytes} (hl:∀ s ∈ l,GE s):∀ s ∈ a :: l,GE s:=fun s hs=>by
 rcases List.mem_cons.1 hs with rfl | hs
 ·exact h
 ·exact hl s hs
theorem w2 {a b:Bytes} (h0:GE a) (h:GX b) {l:List Bytes} (hl:∀ s ∈ l,GE s):GX (wordsL (a :: b :: l)) :=
 words_GX _ (gc h0 (gc (.inr h) hl)) ⟨b,by simp,h.ne⟩
theorem o1 {c:Bool} {a:Bytes} (h:GX a) {l:List Bytes} (hl:∀ s ∈ l,GE s):GE (onlyL c (a :: l)):=by
 cases c
 ·exact .inl rfl
 ·exact .inr (w1 h hl)
theorem call_GX {a b:Bytes} (ha:GX a) (hb:GE b):GX (a ++ ([40] ++ (b ++ [41]))) :=
 .app ha (GX.app (tok_GX rfl rfl) (GX.ge_app hb (tok_GX rfl rfl)))
theorem head_GX {x:Node} (hT:okT x = true) (hk:x.kind = 60∨x.kind = 51∨x.kind = 57∨x.kind = 31∨x.kind = 32):GX (headL x):=by
 obtain ⟨hf,hkd,hks⟩:=okT_parts hT
 have kE:∀ y ∈ x.kids,isE y.kind = true→okE y:=fun y hy he=>⟨hks y hy,he⟩
 rcases hk with h | h | h | h | h
 ·simp [fieldsB,fldGood,h] at hf
  simp only [headL,h]
  exact w1 (tok_GX rfl rfl) (gc (.inr (name_GX hf.1.1)) (gc (.inr (tok_GX rfl rfl)) (gc (.inr (name_GX hf.1.2)) g0)))
 ·simp [fieldsB,fldGood,h] at hf
  simp only [headL,h]
  exact w1 (tok_GX rfl rfl) (gc (.inr (name_GX hf.1)) g0)
 ·simp [fieldsB,fldGood,h] at hf
  simp [kidsB,leafK,oneK,h] at hkd
  simp only [headL,h]
  have hp:∀ y ∈ x.kids.dropLast,nameB (tl y.name) = true:=by
   intro y hy
   simp only [procK] at hkd
   split at hkd
   ·simp only [Bool.and_eq_true,List.all_eq_true,kX,beq_iff_eq] at hkd
    have hk58:=hkd.2 y hy
    have:=(okT_parts (hks y (List.dropLast_subset _ hy))).1
    simp [fieldsB,fldGood,hk58] at this
    exact this.1.1
   ·cases hkd
  refine w1 (tok_GX rfl rfl) (gc (.inr (call_GX (name_GX hf.1.1) (commas_GE _ ?_))) (gc ?_ g0))
  ·intro s hs
   simp only [List.mem_map] at hs
   obtain ⟨y,hy,rfl⟩:=hs
   exact sized_GX (hp y hy)
  ·rcases hf.1.2 with h | h
   ·left; simp [onlyL,h]
   ·exact o1 (tok_GX rfl rfl) (gc (.inr (name_GX h)) g0)
 ·simp [kidsB,leafK,oneK,h] at hkd
  obtain ⟨a,b,c,hx,ha,hb,hc⟩:=ex3_iff hkd
  simp only [headL,h]
  exact w1 (tok_GX rfl rfl) (gc (.inr (tn_GX (y:=a) (by simp [hx]) (kE a (by simp [hx]) ha))) g0)
 ·simp [kidsB,leafK,oneK,h] at hkd
  obtain ⟨a,b,c,hx,ha,hb,hc⟩:=ex3_iff hkd
  simp only [headL,h]
  refine w1 (tok_GX rfl rfl) (gc (.inr (tn_GX (y:=a) (by simp [hx]) (kE a (by simp [hx]) ha))) (gc ?_ g0))
  simp only [enX,Bool.or_eq_true,beq_iff_eq] at hb
  by_cases h63:b.kind = 63
  ·left; simp [onlyL,hx,h63]
  ·have eb:okE b:=kE b (by simp [hx]) (hb.resolve_right h63)
   exact o1 (tok_GX rfl rfl) (gc (.inr (tn_GX (y:=b) (by simp [hx]) eb)) g0)
def itemK (k:Int):Bool:=isStmt k || isDecl k || isItm k || k == 52
theorem stmt_kinds {k:Int} (h:isStmt k = true):oneLine k = true∨k = 22∨k = 31∨k = 32:=by
 simp only [isStmt,Bool.and_eq_true,decide_eq_true_eq,bne_iff_ne] at h
 have:k = 20∨k = 21∨k = 22∨k = 23∨k = 24∨k = 25∨k = 26∨k = 27∨k = 28∨k = 29∨k = 30∨k = 31∨k = 32∨k = 33∨k = 35:=by omega
 rcases this with rfl | rfl | rfl | rfl | rfl | rfl | rfl | rfl | rfl | rfl | rfl | rfl | rfl | rfl | rfl <;> simp [oneLine]
theorem item_kinds {k:Int} (h:itemK k = true):oneLine k = true∨k = 22∨k = 60∨k = 51∨k = 57∨k = 31∨k = 32:=by
 simp only [itemK,Bool.or_eq_true] at h
 rcases h with ((h | h) | h) | h
 ·rcases stmt_kinds h with h | h | h | h <;> simp [h]
 ·simp only [isDecl,Bool.or_eq_true,beq_iff_eq] at h
  rcases h with h | h | h | h | h | h | h <;> simp [h,oneLine]
 ·simp only [isItm,Bool.or_eq_true,beq_iff_eq] at h
  rcases h with h | h <;> simp [h,oneLine]
 ·simp only [beq_iff_eq] at h
  simp [h,oneLine]
end Go.Proofs.YtbecjgckobhmpaaGreatDoor
end
section
namespace Go.Proofs.YtbecjgckobhmpaaGreatDoor
open Go Go.AM Go.Proofs
theorem sum_le (l:List Bytes) (B:Nat) (h:∀ s ∈ l,s.length≤B):(l.map List.length).sum≤l.length * B:=by
 induction l with
 | nil=>simp
 | cons x r ih =>
  have h1:=h x (by simp)
  have h2:=ih (fun s hs=>h s (by simp [hs]))
  simp only [List.map_cons,List.sum_cons,List.length_cons,Nat.add_mul,Nat.one_mul]
  omega
theorem words_le {l:List Bytes} (B:Nat) (h:∀ s ∈ l,s.length≤B):(wordsL l).length≤l.length * B + l.length:=by
 have h1:=wordsL_len l
 have h2:=sum_le l B h
 omega
theorem flat_le (l:List Bytes) (B:Nat) (h:∀ s ∈ l,s.length≤B):l.flatten.length≤l.length * B:=by
 have:=sum_le l B h
 rw [List.length_flatten]
 exact this
theorem only_le {c:Bool} {l:List Bytes} (B:Nat) (h:∀ s ∈ l,s.length≤B):(onlyL c l).length≤l.length * B + l.length:=by
 cases c
 ·simp [onlyL]
 ·exact words_le B h
def Sh (s:ByteArray):Prop:=(tl s).length≤100000
theorem sh_mem {l:List ByteArray} (h:∀ s ∈ l,Sh s):∀ s ∈ l.map tl,s.length≤100000:=by
 intro s hs
 simp only [List.mem_map] at hs
 obtain ⟨t,ht,rfl⟩:=hs
 exact h t ht
theorem F85_sh {l:List ByteArray} (h:∀ s ∈ l,Sh s) (hl:l.length≤10) {n:Nat} (hn:20≤n):F85 n l = some (bs (wordsL (l.map tl))):=by
 have:=words_le 100000 (sh_mem h)
 simp only [List.length_map] at this
 exact F85_eq (by omega) (by omega) (by omega)
theorem F82_sh {l:List ByteArray} (h:∀ s ∈ l,Sh s) (hl:l.length≤10):F82 l = some (bs ((l.map tl).flatten)):=by
 have:=flat_le _ 100000 (sh_mem h)
 simp only [List.length_map] at this
 exact F82_eq (by omega) (by omega)
theorem F126_sh {c:Bool} {l:List ByteArray} (h:∀ s ∈ l,Sh s) (hl:l.length≤10) {n:Nat} (hn:20≤n):F126 n c l = some (bs (onlyL c (l.map tl))):=by
 have:=words_le 100000 (sh_mem h)
 simp only [List.length_map] at this
 exact F126_eq (by omega) (by omega) (by omega)
theorem s0:∀ s ∈ ([]:List ByteArray),Sh s:=fun _ h=>by cases h
theorem sc {a:ByteArray} (h:Sh a) {l:List ByteArray} (hl:∀ s ∈ l,Sh s):∀ s ∈ a :: l,Sh s:=fun s hs=>by
 rcases List.mem_cons.1 hs with rfl | hs
 ·exact h
 ·exact hl s hs
theorem sh_bs {l:Bytes} (h:l.length≤100000):Sh (bs l):=h
theorem sh_name {s:ByteArray} (h:nameB (tl s) = true):Sh s:=by have:=nameB_len h; unfold Sh; omega
theorem sh_path {s:ByteArray} (h:pathB (tl s) = true):Sh s:=by have:=pathB_len h; unfold Sh; omega
theorem sh_num (n:Int):Sh (bs (numL n)):=by have:=numL_len n; exact sh_bs (by omega)
theorem sh_txt {x:Node} (h:okE x) (hs:sz x≤200):Sh (bs (txt x)):=by have:=txt_len x h; exact sh_bs (by omega)
theorem map_loop {α:Type} (l:List α) (g:α→Option ByteArray) (f:α→Bytes) (hg:∀ y ∈ l,g y = some (bs (f y))) (hl:l.length≤1000) {n:Nat} (hn:l.length < n) :
  iter (σ:=(List ByteArray) × Int) (ρ:=((List ByteArray))) (fun s1=>bif decide (s1.2 < (l.length:Int)) then
   ((idxL l s1.2).bind fun x3 =>
   (g x3).bind fun x5 =>
   (appL 16 s1.1 ([x5]:List ByteArray)).bind fun x6 =>
   some (.inl (x6,w64 (s1.2 + 1))))
  else
   (some (.inr s1.1))) n (([]:List ByteArray),(0:Int)) = some (l.map fun y=>bs (f y)):=by
 obtain ⟨r,hr,rfl⟩:=iter_inv (step:=fun s1:List ByteArray × Int=>bif decide (s1.2 < (l.length:Int)) then
   ((idxL l s1.2).bind fun x3 =>
   (g x3).bind fun x5 =>
   (appL 16 s1.1 ([x5]:List ByteArray)).bind fun x6 =>
   some (.inl (x6,w64 (s1.2 + 1))))
  else
   (some (.inr s1.1))) l (fun (k:Nat) (a:List ByteArray)=>(a,(k:Int))) (fun k a=>a = (l.take k).map fun y=>bs (f y)) (fun r=>r = l.map fun y=>bs (f y))
  (fun k a x hx ha=>by
   have hlt:=lt_of_get hx
   have c1:decide ((k:Int) < (l.length:Int)) = true:=by simpa using hlt
   have ht:l.take (k + 1) = l.take k ++ [x]:=by
    rw [List.take_add_one,hx]; rfl
   have hal:a.length≤k:=by rw [ha]; simp; omega
   simp only [c1,cond_true,idxL_some hx,Option.bind_some,w64_nat (k:=k) (by omega),hg x (List.mem_of_getElem? hx),appL]
   rw [if_pos (by simp; omega)]
   exact .inl ⟨a ++ [bs (f x)],rfl,by rw [ht,List.map_append,← ha]; rfl⟩)
  (fun a ha=>⟨a,by simp,by rw [ha]; simp⟩) n [] hn (by simp)
 exact hr
theorem join_map {α:Type} (l:List α) (f:α→Bytes) (B:Nat) (hB:∀ y ∈ l,(f y).length≤B) (hb:l.length * B + 2 * l.length≤1000000000) (hl:l.length≤1000) :
  joinF (l.map fun y=>bs (f y)) (bs [44,32]) = some (bs (commasL (l.map f))):=by
 have e:(l.map fun y=>bs (f y)).map tl = l.map f:=by simp [tl_bs,Function.comp_def]
 have h1:=joinL_len [44,32] (l.map f)
 have h2:=sum_le (l.map f) B (by simpa using hB)
 simp only [List.length_map,List.length_cons,List.length_nil] at h1 h2
 rw [joinF_eq (by simp; omega) (by rw [e]; show (joinL [44,32] _).length≤_; omega),e]
 rfl
theorem F125_eq {x:Node} (h1:nameB (tl x.name) = true) (h2:inR x.n = true) {n:Nat} (hn:20≤n):F125 n x = some (bs (sizedL x)):=by
 unfold F125
 rw [itoa_eq h2]
 simp only [Option.bind_some]
 rw [F85_sh (sc (sh_name h1) (sc (sh_bs (by simp)) (sc (sh_num _) s0))) (by simp) hn]
 simp [sizedL,tl_bs]
theorem sized_len {x:Node} (h1:nameB (tl x.name) = true):(sizedL x).length≤60:=by
 have h:=wordsL_len [tl x.name,[58],numL x.n]
 have h2:=nameB_len h1
 have h3:=numL_len x.n
 unfold sizedL
 simp at h
 omega
theorem F124_eq {l:List Node} (h1:∀ y ∈ l,nameB (tl y.name) = true∧inR y.n = true) (hl:l.length≤200) {n:Nat} (hn:300≤n):F124 n l = some (bs (commasL (l.map sizedL))):=by
 unfold F124
 rw [map_loop l (F125 n) sizedL (fun y hy=>F125_eq (h1 y hy).1 (h1 y hy).2 (by omega)) (by omega) (by omega)]
 simp only [Option.bind_some]
 rw [join_map l sizedL 60 (fun y hy=>sized_len (h1 y hy).1) (by omega) (by omega)]
 rfl
theorem F124_1_eq {l:List Node} (h1:∀ y ∈ l,okE y) (hs:szs l≤200) {n:Nat} (hn:500≤n):F124_1 n l = some (bs (commasL (tx l))):=by
 have hlen:=szs_len l
 unfold F124_1
 rw [map_loop l (F54 n) txt (fun y hy=>by have:=szs_mem l y hy; exact F54_eq y (h1 y hy) (by omega) n (by omega)) (by omega) (by omega)]
 simp only [Option.bind_some]
 rw [join_map l txt 16000 (fun y hy=>by have:=szs_mem l y hy; have:=txt_len y (h1 y hy); omega) (by omega) (by omega)]
 rfl
theorem commas_tx_len {l:List Node} (h1:∀ y ∈ l,okE y) (hs:szs l≤200):(commasL (tx l)).length≤20000:=by
 have hlen:=szs_len l
 have key:∀ l:List Node,(∀ y ∈ l,okE y)→((tx l).map List.length).sum≤80 * szs l:=by
  intro l
  induction l with
  | nil=>intro _; simp [tx]
  | cons x r ih =>
   intro h
   have h2:=ih (fun y hy=>h y (by simp [hy]))
   have h3:=txt_len x (h x (by simp))
   simp only [tx,List.map_cons,List.sum_cons,szs] at *
   omega
 have h2:=key l h1
 have h3:=joinL_len [44,32] (tx l)
 have h4:(tx l).length = l.length:=by simp [tx]
 unfold commasL
 simp only [List.length_cons,List.length_nil] at h3
 omega
def prs:List Node→List (Node × Node)
 | a :: b :: r=>(a,b) :: prs r
 | _=>[]
def prT (p:Node × Node):Bytes:=wordsL [txt p.1,[58,61],txt p.2]
theorem prs_pairL:∀ l:List Node,pairL (tx l) = (prs l).map prT
 | []=>rfl
 | [_]=>rfl
 | a :: b :: r=>by
  have:=prs_pairL r
  simp only [tx,List.map_cons,pairL,prs,prT] at *
  rw [this]
theorem prs_get:∀ (l:List Node) (k:Nat) p,(prs l)[k]? = some p→l[2 * k]? = some p.1∧l[2 * k + 1]? = some p.2
 | [],k,p,h=>by simp [prs] at h
 | [_],k,p,h=>by simp [prs] at h
 | a :: b :: r,0,p,h=>by
  simp [prs] at h
  subst h
  simp
 | a :: b :: r,k + 1,p,h=>by
  simp only [prs,List.getElem?_cons_succ] at h
  have:=prs_get r k p h
  have e1:2 * (k + 1) = 2 * k + 1 + 1:=by omega
  have e2:2 * (k + 1) + 1 = 2 * k + 1 + 1 + 1:=by omega
  rw [e1]
  simp only [List.getElem?_cons_succ]
  exact this
theorem prs_len:∀ (l:List Node),pairsB l = true→l.length = 2 * (prs l).length
 | [],_=>rfl
 | [_],h=>by simp [pairsB] at h
 | a :: b :: r,h=>by
  simp only [pairsB,Bool.and_eq_true] at h
  have:=prs_len r h.2.2
  simp only [prs,List.length_cons]
  omega
theorem F210_eq {l:List Node} (hp:pairsB l = true) (h1:∀ y ∈ l,okE y) (hs:szs l≤200) {n:Nat} (hn:500≤n):F210 n l = some (bs (assignsL (tx l))):=by
 have hlen:=szs_len l
 have hpl:=prs_len l hp
 have hok:∀ p ∈ prs l,(okE p.1∧sz p.1≤200)∧(okE p.2∧sz p.2≤200):=by
  intro p hp
  obtain ⟨k,hk,rfl⟩:=List.mem_iff_getElem.1 hp
  obtain ⟨g1,g2⟩:=prs_get l k _ (List.getElem?_eq_getElem hk)
  have m1:=List.mem_of_getElem? g1
  have m2:=List.mem_of_getElem? g2
  have:=szs_mem l _ m1
  have:=szs_mem l _ m2
  exact ⟨⟨h1 _ m1,by omega⟩,⟨h1 _ m2,by omega⟩⟩
 unfold F210
 obtain ⟨r,hr,rfl⟩:=iter_inv (step:=fun s1:List ByteArray × Int=>bif decide ((w64 (s1.2 + 1)) < (l.length:Int)) then
   ((idxL l s1.2).bind fun x3 =>
   (F54 n x3).bind fun x4 =>
   (idxL l (w64 (s1.2 + 1))).bind fun x5 =>
   (F54 n x5).bind fun x6 =>
   (F85 n ([x4,(bs [58,61]),x6]:List ByteArray)).bind fun x7 =>
   (appL 16 s1.1 ([x7]:List ByteArray)).bind fun x8 =>
   some (.inl (x8,w64 (s1.2 + 2))))
  else
   (some (.inr s1.1))) (prs l) (fun (k:Nat) (a:List ByteArray)=>(a,((2 * k:Nat):Int))) (fun k a=>a = ((prs l).take k).map fun y=>bs (prT y)) (fun r=>r = (prs l).map fun y=>bs (prT y))
  (fun k a p hx ha=>by
   have hlt:=lt_of_get hx
   obtain ⟨g1,g2⟩:=prs_get l k p hx
   obtain ⟨o1,o2⟩:=hok p (List.mem_of_getElem? hx)
   have e1:w64 (((2 * k:Nat):Int) + 1) = ((2 * k + 1:Nat):Int):=w64_nat (by omega)
   have e2:w64 (((2 * k:Nat):Int) + 2) = ((2 * (k + 1):Nat):Int):=by rw [w64_id (by omega) (by omega)]; omega
   have c1:decide (((2 * k + 1:Nat):Int) < (l.length:Int)) = true:=by simp; omega
   have ht:(prs l).take (k + 1) = (prs l).take k ++ [p]:=by
    rw [List.take_add_one,hx]; rfl
   have hal:a.length≤k:=by rw [ha]; simp; omega
   simp only [e1,e2,c1,cond_true,idxL_some g1,idxL_some g2,Option.bind_some,F54_eq p.1 o1.1 o1.2 n (by omega),F54_eq p.2 o2.1 o2.2 n (by omega),
    F85_sh (sc (sh_txt o1.1 o1.2) (sc (sh_bs (l:=[58,61]) (by simp)) (sc (sh_txt o2.1 o2.2) s0))) (by simp) (show 20≤n by omega),appL]
   rw [if_pos (by simp; omega)]
   exact .inl ⟨a ++ [bs (prT p)],rfl,by rw [ht,List.map_append,← ha]; rfl⟩)
  (fun a ha=>⟨a,by
   have e1:w64 (((2 * (prs l).length:Nat):Int) + 1) = ((2 * (prs l).length + 1:Nat):Int):=w64_nat (by omega)
   have c1:decide (((2 * (prs l).length + 1:Nat):Int) < (l.length:Int)) = false:=by simp; omega
   simp only [e1,c1,cond_false],by rw [ha]; simp⟩) n [] (by omega) (by simp)
 erw [hr]
 simp only [Option.bind_some]
 rw [join_map (prs l) prT 40000 (fun p hp=>by
  obtain ⟨o1,o2⟩:=hok p hp
  have t1:=txt_len _ o1.1
  have t2:=txt_len _ o2.1
  have:=wordsL_len [txt p.1,[58,61],txt p.2]
  unfold prT
  simp at this
  omega) (by omega) (by omega)]
 simp only [Option.bind_some,assignsL,prs_pairL]
theorem assigns_len {l:List Node} (h1:∀ y ∈ l,okE y) (hs:szs l≤200):(assignsL (tx l)).length≤30000:=by
 have key:∀ (m:Nat) (l:List Node),l.length≤m→(∀ y ∈ l,okE y)→((pairL (tx l)).map List.length).sum + 2 * (pairL (tx l)).length≤100 * szs l:=by
  intro m
  induction m with
  | zero=>intro l hl h; have:l = []:=List.eq_nil_of_length_eq_zero (by omega); subst this; simp [tx,pairL]
  | succ m ih =>
   intro l hl h
   match l with
   | []=>simp [tx,pairL]
   | [_]=>simp [tx,pairL]
   | a :: b :: r =>
    have h2:=ih r (by simp at hl; omega) (fun y hy=>h y (by simp [hy]))
    have h3:=txt_len a (h a (by simp))
    have h4:=txt_len b (h b (by simp))
    have h5:=wordsL_len [txt a,[58,61],txt b]
    have:=sz_pos a
    simp only [tx,List.map_cons,pairL,List.sum_cons,List.length_cons,szs] at *
    simp at h5
    omega
 have h2:=key l.length l (Nat.le_refl _) h1
 have h3:=joinL_len [44,32] (pairL (tx l))
 unfold assignsL commasL
 simp only [List.length_cons,List.length_nil] at h3
 omega
end Go.Proofs.YtbecjgckobhmpaaGreatDoor
end
section
namespace Go.Proofs.YtbecjgckobhmpaaGreatDoor
open Go Go.AM Go.Proofs
theorem sh_commas {l:List Node} (h1:∀ y ∈ l,okE y) (hs:szs l≤200):Sh (bs (commasL (tx l))):=by have:=commas_tx_len h1 hs; exact sh_bs (by omega)
theorem sh_only {c:Bool} {l:List Bytes} (h:∀ s ∈ l,s.length≤30000) (hl:l.length≤3):Sh (bs (onlyL c l)):=by
 have:=only_le (c:=c) 30000 h
 have h2:l.length * 30000≤90000:=by omega
 exact sh_bs (by omega)
theorem l0:∀ s ∈ ([]:List Bytes),s.length≤30000:=fun _ h=>by cases h
theorem lc {a:Bytes} (h:a.length≤30000) {l:List Bytes} (hl:∀ s ∈ l,s.length≤30000):∀ s ∈ a :: l,s.length≤30000:=fun s hs=>by
 rcases List.mem_cons.1 hs with rfl | hs
 ·exact h
 ·exact hl s hs
theorem ln_name {s:Bytes} (h:nameB s = true):s.length≤30000:=by have:=nameB_len h; omega
theorem ln_path {s:Bytes} (h:pathB s = true):s.length≤30000:=by have:=pathB_len h; omega
theorem ln_txt {x:Node} (h:okE x) (hs:sz x≤200):(txt x).length≤30000:=by have:=txt_len x h; omega
theorem ln_num (n:Int):(numL n).length≤30000:=by have:=numL_len n; omega
theorem call_len {a b:Bytes} (ha:a.length≤30000) (hb:b.length≤30000):(a ++ ([40] ++ (b ++ [41]))).length≤100000:=by simp; omega
theorem F82_call {a b:ByteArray} (ha:(tl a).length≤30000) (hb:(tl b).length≤30000):F82 [a,bs [40],b,bs [41]] = some (bs (tl a ++ ([40] ++ (tl b ++ [41])))):=by
 rw [F82_sh (sc (by unfold Sh; omega) (sc (sh_bs (by simp)) (sc (by unfold Sh; omega) (sc (sh_bs (by simp)) s0)))) (by simp)]
 simp [tl_bs]
theorem tnth_eq {l:List Node} {i:Nat} {y:Node} (h:l[i]? = some y):tnth l i = txt y:=by simp [tnth,tx,h]
theorem idx0 {l:List Node} {y:Node} (h:l[0]? = some y):idxL l 0 = some y:=idxL_some (k:=0) h
theorem idx1 {l:List Node} {y:Node} (h:l[1]? = some y):idxL l 1 = some y:=idxL_some (k:=1) h
theorem idx2 {l:List Node} {y:Node} (h:l[2]? = some y):idxL l 2 = some y:=idxL_some (k:=2) h
theorem idx3 {l:List Node} {y:Node} (h:l[3]? = some y):idxL l 3 = some y:=idxL_some (k:=3) h
theorem F186_eq {x:Node} (h1:nameB (tl x.name) = true) (h2:inR x.n = true) (h3:inR x.len = true) (h4:inR x.init = true) (h5:strEq x.other (bs []) = true∨nameB (tl x.other) = true) {n:Nat} (hn:30≤n):F186 n x = some (bs (sharedL x))∧(sharedL x).length≤1000000:=by
 unfold F186
 rw [itoa_eq h2,itoa_eq h3,itoa_eq h4]
 simp only [Option.bind_some]
 have e4:∃ j4:ByteArray,((bif x.len != 0 then (F82 ([x.name,(bs [91]),bs (numL x.len),(bs [93])]:List ByteArray)).bind fun x3=>some x3 else (some x.name):Option ByteArray) = some j4)∧tl j4 = (bif x.len != 0 then tl x.name ++ ([91] ++ (numL x.len ++ [93])) else tl x.name)∧Sh j4:=by
  cases x.len != 0
  ·exact ⟨x.name,rfl,rfl,sh_name h1⟩
  ·have hn1:=nameB_len h1
   have hn2:=numL_len x.len
   refine ⟨bs (tl x.name ++ ([91] ++ (numL x.len ++ [93]))),?_,rfl,sh_bs (by simp; omega)⟩
   simp only [cond_true]
   rw [F82_sh (sc (sh_name h1) (sc (sh_bs (by simp)) (sc (sh_num _) (sc (sh_bs (by simp)) s0)))) (by simp)]
   simp [tl_bs]
 have e7:∃ j7:ByteArray,((bif strEq x.other (bs []) then some (bs (numL x.n)) else (some x.other):Option ByteArray) = some j7)∧tl j7 = (bif strEq x.other (bs []) then numL x.n else tl x.other)∧Sh j7:=by
  cases h:strEq x.other (bs [])
  ·rw [h] at h5
   exact ⟨x.other,rfl,rfl,sh_name (h5.resolve_left (by simp))⟩
  ·exact ⟨bs (numL x.n),rfl,rfl,sh_num _⟩
 obtain ⟨j4,hj4,t4,s4⟩:=e4
 obtain ⟨j7,hj7,t7,s7⟩:=e7
 rw [hj4,hj7]
 simp only [Option.bind_some]
 rw [F126_sh (sc (sh_bs (by simp)) s0) (by simp) (by omega),F126_sh (sc (sh_bs (by simp)) (sc (sh_num _) s0)) (by simp) (by omega)]
 simp only [Option.bind_some]
 have w:∀ s ∈ ([bs (onlyL x.ghost [tl (bs [103,104,111,115,116])]),bs [115,104,97,114,101,100],j4,bs [58],j7,bs (onlyL (x.init != 0) [tl (bs [61]),tl (bs (numL x.init))])]:List ByteArray),Sh s :=
  sc (sh_only (lc (by simp [tl_bs]) l0) (by simp)) (sc (sh_bs (by simp)) (sc s4 (sc (sh_bs (by simp)) (sc s7 (sc (sh_only (lc (by simp [tl_bs]) (lc (by rw [tl_bs]; exact ln_num _) l0)) (by simp)) s0)))))
 have hw:=words_le 100000 (sh_mem w)
 have e:wordsL ([bs (onlyL x.ghost [tl (bs [103,104,111,115,116])]),bs [115,104,97,114,101,100],j4,bs [58],j7,bs (onlyL (x.init != 0) [tl (bs [61]),tl (bs (numL x.init))])].map tl) = sharedL x:=by
  simp [tl_bs,t4,t7,sharedL]
 rw [e] at hw
 refine ⟨?_,by simp at hw; omega⟩
 have:=F85_sh w (by simp) (show 20≤n by omega)
 rw [e] at this
 simp only [List.map_cons,List.map_nil]
 rw [this]
 rfl
def Wr (o:Option ByteArray) (t:Bytes):Prop:=o = some (bs t)∧t.length≤1000000
theorem wr_words {l:List ByteArray} {ts:List Bytes} (h:∀ s ∈ l,Sh s) (hl:l.length≤8) (e:l.map tl = ts) {n:Nat} (hn:20≤n):Wr ((F85 n l).bind fun x=>some x) (wordsL ts):=by
 subst e
 have hw:=words_le 100000 (sh_mem h)
 simp only [List.length_map] at hw
 exact ⟨by rw [F85_sh h (by omega) hn]; rfl,by omega⟩
theorem F129_eq {x:Node} (hT:okT x = true) (hk:oneLine x.kind = true∨x.kind = 22) (hs:sz x≤200) {n:Nat} (hn:600≤n):Wr (F129 n x) (simpL x):=by
 obtain ⟨hf,hkd,hks⟩:=okT_parts hT
 have hsz:=sz_eq x
 have kE:∀ y ∈ x.kids,isE y.kind = true→okE y:=fun y hy he=>⟨hks y hy,he⟩
 have kS:∀ y ∈ x.kids,sz y≤200:=fun y hy=>by have:=szs_mem x.kids y hy; omega
 have hn20:20≤n:=by omega
 have one:ex1 eX x.kids = true→∃ a,x.kids[0]? = some a∧okE a∧sz a≤200:=fun h=>by
  obtain ⟨a,ha,he⟩:=ex1_iff h
  exact ⟨a,by simp [ha],kE a (by simp [ha]) he,kS a (by simp [ha])⟩
 have F54k:∀ a,okE a→sz a≤200→F54 n a = some (bs (txt a)):=fun a h1 h2=>F54_eq a h1 h2 n (by omega)
 have hk':x.kind = 61∨x.kind = 52∨x.kind = 50∨x.kind = 53∨x.kind = 54∨x.kind = 55∨x.kind = 56∨x.kind = 35∨x.kind = 20∨x.kind = 29∨x.kind = 26∨x.kind = 30∨x.kind = 21∨x.kind = 23∨x.kind = 24∨x.kind = 25∨x.kind = 27∨x.kind = 28∨x.kind = 33∨x.kind = 22:=by
  simp only [oneLine,Bool.or_eq_true,beq_iff_eq] at hk
  omega
 rcases hk' with h | h | h | h | h | h | h | h | h | h | h | h | h | h | h | h | h | h | h | h
 ·simp [fieldsB,fldGood,h] at hf
  simp [kidsB,leafK,oneK,h] at hkd
  have hE:∀ y ∈ x.kids,okE y:=fun y hy=>kE y hy (by
   have:=hkd y hy
   simp [kX] at this
   rw [this]; rfl)
  have hc:=commas_tx_len hE (by omega)
  simp only [F129,simpL,h,Int.reduceBEq,cond_true,cond_false]
  rw [F126_sh (sc (sh_bs (by simp)) s0) (by simp) hn20,F124_1_eq hE (by omega) (by omega)]
  simp only [Option.bind_some]
  rw [F82_call (ln_path hf.1.2.1) (by rw [tl_bs]; omega)]
  simp only [Option.bind_some,tl_bs]
  have:=wr_words (l:=[bs (onlyL (x.n == 1) [[97,115,108,101,101,112]]),bs [116,104,114,101,97,100],x.name,bs [61],bs (tl x.other ++ ([40] ++ (commasL (tx x.kids) ++ [41])))])
   (sc (sh_only (lc (by simp) l0) (by simp)) (sc (sh_bs (by simp)) (sc (sh_name hf.1.1) (sc (sh_bs (by simp)) (sc (sh_bs (call_len (ln_path hf.1.2.1) (by omega))) s0))))) (by simp) rfl hn20
  simpa [tl_bs] using this
 ·simp [fieldsB,fldGood,h] at hf
  simp only [F129,simpL,h,Int.reduceBEq,cond_true,cond_false]
  rw [F125_eq hf.1.1 hf.1.2 hn20]
  have:=sized_len hf.1.1
  exact ⟨rfl,by omega⟩
 ·simp [fieldsB,fldGood,h] at hf
  obtain ⟨e,hl⟩:=F186_eq hf.1.1 hf.1.2.1 hf.1.2.2.1 hf.1.2.2.2.1 (hf.1.2.2.2.2.imp id And.right) (n:=n) (by omega)
  simp only [F129,simpL,h,Int.reduceBEq,cond_true,cond_false]
  rw [e]
  exact ⟨rfl,hl⟩
 ·simp [fieldsB,fldGood,h] at hf
  simp [kidsB,leafK,oneK,h] at hkd
  obtain ⟨a,ha,hE,hS⟩:=one hkd
  simp only [F129,simpL,h,Int.reduceBEq,cond_true,cond_false,idx0 ha,tnth_eq ha,Option.bind_some,F54k a hE hS]
  exact wr_words (sc (sh_bs (by simp)) (sc (sh_name hf.1) (sc (sh_bs (by simp)) (sc (sh_txt hE hS) s0)))) (by simp) (by simp [tl_bs]) hn20
 ·simp [kidsB,leafK,oneK,h] at hkd
  obtain ⟨a,ha,hE,hS⟩:=one hkd
  simp only [F129,simpL,h,Int.reduceBEq,cond_true,cond_false,idx0 ha,tnth_eq ha,Option.bind_some,F54k a hE hS]
  exact wr_words (sc (sh_bs (by simp)) (sc (sh_txt hE hS) s0)) (by simp) (by simp [tl_bs]) hn20
 ·simp [kidsB,leafK,oneK,h] at hkd
  obtain ⟨a,ha,hE,hS⟩:=one hkd
  simp only [F129,simpL,h,Int.reduceBEq,cond_true,cond_false,idx0 ha,tnth_eq ha,Option.bind_some,F54k a hE hS]
  exact wr_words (sc (sh_bs (by simp)) (sc (sh_txt hE hS) s0)) (by simp) (by simp [tl_bs]) hn20
 ·simp [kidsB,leafK,oneK,h] at hkd
  have hE:∀ y ∈ x.kids,okE y:=fun y hy=>kE y hy (by
   have:=hkd.2 y hy
   simp [plainX] at this
   rw [this.1]; rfl)
  simp only [F129,simpL,h,Int.reduceBEq,cond_true,cond_false]
  rw [F124_1_eq hE (by omega) (by omega)]
  simp only [Option.bind_some]
  exact wr_words (sc (sh_bs (by simp)) (sc (sh_commas hE (by omega)) s0)) (by simp) (by simp [tl_bs]) hn20
 ·simp [fieldsB,fldGood,h] at hf
  have:=sized_len hf.1.1
  simp only [F129,simpL,h,Int.reduceBEq,cond_true,cond_false]
  rw [F126_sh (sc (sh_bs (by simp)) s0) (by simp) hn20,F125_eq hf.1.1 hf.1.2 hn20]
  simp only [Option.bind_some]
  exact wr_words (sc (sh_only (lc (by simp [tl_bs]) l0) (by simp)) (sc (sh_bs (by simp)) (sc (sh_bs (by omega)) s0))) (by simp) (by simp [tl_bs]) hn20
 ·simp [kidsB,leafK,oneK,h] at hkd
  obtain ⟨a,ha,hE,hS⟩:=one hkd
  simp only [F129,F187,simpL,stmtL,h,Int.reduceBEq,cond_true,cond_false,idx0 ha,tnth_eq ha,Option.bind_some,F54k a hE hS]
  have:=wr_words (l:=[bs [97,115,115,101,114,116],bs (txt a)]) (ts:=[[97,115,115,101,114,116],txt a]) (sc (sh_bs (by simp)) (sc (sh_txt hE hS) s0)) (by simp) (by simp [tl_bs]) hn20
  simpa using this
 ·simp [kidsB,leafK,oneK,h] at hkd
  obtain ⟨a,ha,hE,hS⟩:=one hkd
  simp only [F129,F187,simpL,stmtL,h,Int.reduceBEq,cond_true,cond_false,idx0 ha,tnth_eq ha,Option.bind_some,F54k a hE hS]
  have:=wr_words (l:=[bs [97,119,97,105,116],bs (txt a)]) (ts:=[[97,119,97,105,116],txt a]) (sc (sh_bs (by simp)) (sc (sh_txt hE hS) s0)) (by simp) (by simp [tl_bs]) hn20
  simpa using this
 ·simp only [F129,F187,simpL,stmtL,h,Int.reduceBEq,cond_true,cond_false]
  exact ⟨rfl,by simp⟩
 ·simp only [F129,F187,simpL,stmtL,h,Int.reduceBEq,cond_true,cond_false]
  exact ⟨rfl,by simp⟩
 ·simp [kidsB,leafK,oneK,h] at hkd
  match hx:x.kids,hkd with
  | [],hkd=>simp at hkd
  | [a],hkd=>simp [pairsB] at hkd
  | a :: b :: r,hkd =>
   have hp:=hkd.2
   have hE:∀ y ∈ a :: b :: r,okE y:=fun y hy=>kE y (by rw [hx]; exact hy) (pairs_E _ hp y hy)
   simp only [pairsB,Bool.and_eq_true] at hp
   have hz:szs [a,b] + szs r≤200:=by rw [hx] at hsz; simp only [szs] at *; omega
   have s1:subL (a :: b :: r) 0 2 = some [a,b]:=by
    have:=subL_eq (l:=a :: b :: r) (a:=0) (b:=2) (by simp) (by simp)
    rw [show ((0:Nat):Int) = 0 from rfl,show ((2:Nat):Int) = 2 from rfl] at this
    rw [this]; simp
   have s2:subL (a :: b :: r) 2 ((a :: b :: r).length:Int) = some r:=by
    have:=subL_eq (l:=a :: b :: r) (a:=2) (b:=(a :: b :: r).length) (by simp) (by simp)
    rw [show ((2:Nat):Int) = 2 from rfl] at this
    rw [this]; simp
   have hE1:∀ y ∈ [a,b],okE y:=fun y hy=>hE y (by simp at hy; rcases hy with rfl | rfl <;> simp)
   have hE2:∀ y ∈ r,okE y:=fun y hy=>hE y (by simp [hy])
   have g1:=F210_eq (l:=[a,b]) (by simp [pairsB,hp.1,hp.2.1]) hE1 (by omega) (show 500≤n by omega)
   have g2:=F210_eq (l:=r) hp.2.2 hE2 (by omega) (show 500≤n by omega)
   have a1:=assigns_len hE1 (by omega)
   have a2:=assigns_len hE2 (by omega)
   simp only [F129,F187,simpL,stmtL,h,hx,Int.reduceBEq,cond_true,cond_false,s1,s2,g1,g2,Option.bind_some]
   rw [F126_sh (sc (sh_bs (by simp)) s0) (by simp) hn20,F126_sh (sc (sh_bs (by simp)) (sc (sh_bs (by omega)) s0)) (by simp) hn20]
   simp only [Option.bind_some]
   have:=wr_words (l:=[bs (onlyL (x.n == 1) [[114,101,108,101,97,115,101]]),bs (assignsL (tx [a,b])),bs (onlyL (decide (2 < ((a :: b :: r).length:Int))) [[119,105,116,104],assignsL (tx r)])])
    (sc (sh_only (lc (by simp) l0) (by simp)) (sc (sh_bs (by omega)) (sc (sh_only (lc (by simp) (lc a2 l0)) (by simp)) s0))) (by simp) rfl hn20
   simpa [tl_bs] using this
 ·simp [kidsB,leafK,oneK,h] at hkd
  match hx:x.kids,hkd with
  | a :: b :: c :: d :: r,hkd =>
   simp only [casK,Bool.and_eq_true,kX,eX,beq_iff_eq] at hkd
   rw [hx] at kE hsz
   have ea:okE a:=kE a (by simp) (by rw [hkd.1.1]; rfl)
   have eb:okE b:=kE b (by simp) hkd.1.2.1
   have ec:okE c:=kE c (by simp) hkd.1.2.2.1
   have ed:okE d:=kE d (by simp) (by rw [hkd.1.2.2.2]; rfl)
   have er:∀ y ∈ r,okE y:=fun y hy=>kE y (by simp [hy]) (pairs_E _ hkd.2 y hy)
   have hE3:∀ y ∈ [a,b,c],okE y:=fun y hy=>by
    simp at hy
    rcases hy with rfl | rfl | rfl <;> assumption
   have hz:szs [a,b,c] + sz d + szs r≤200:=by simp only [szs] at *; omega
   have s1:subL (a :: b :: c :: d :: r) 0 3 = some [a,b,c]:=by
    have:=subL_eq (l:=a :: b :: c :: d :: r) (a:=0) (b:=3) (by simp) (by simp)
    rw [show ((0:Nat):Int) = 0 from rfl,show ((3:Nat):Int) = 3 from rfl] at this
    rw [this]; simp
   have s2:subL (a :: b :: c :: d :: r) 4 ((a :: b :: c :: d :: r).length:Int) = some r:=by
    have:=subL_eq (l:=a :: b :: c :: d :: r) (a:=4) (b:=(a :: b :: c :: d :: r).length) (by simp) (by simp)
    rw [show ((4:Nat):Int) = 4 from rfl] at this
    rw [this]; simp
   have g1:=F124_1_eq (l:=[a,b,c]) hE3 (by omega) (show 500≤n by omega)
   have g2:=F210_eq (l:=r) hkd.2 er (by omega) (show 500≤n by omega)
   have a1:=commas_tx_len hE3 (by omega)
   have a2:=assigns_len er (by omega)
   have i3:idxL (a :: b :: c :: d :: r) 3 = some d:=idx3 rfl
   have t3:tnth (a :: b :: c :: d :: r) 3 = txt d:=tnth_eq rfl
   simp only [F129,F187,simpL,stmtL,h,hx,Int.reduceBEq,cond_true,cond_false,s1,s2,g1,g2,i3,t3,Option.bind_some,F54k d ed (by omega)]
   rw [F126_sh (sc (sh_bs (by simp)) (sc (sh_bs (by omega)) s0)) (by simp) hn20]
   simp only [Option.bind_some]
   have:=wr_words (l:=[bs [99,97,115],bs (commasL (tx [a,b,c])),bs [105,110,116,111],bs (txt d),bs (onlyL (decide (4 < ((a :: b :: c :: d :: r).length:Int))) [[119,105,116,104],assignsL (tx r)])])
    (sc (sh_bs (by simp)) (sc (sh_bs (by omega)) (sc (sh_bs (by simp)) (sc (sh_txt ed (by omega)) (sc (sh_only (lc (by simp) (lc a2 l0)) (by simp)) s0))))) (by simp) rfl hn20
   simpa [tl_bs] using this
 ·simp [fieldsB,fldGood,h] at hf
  simp only [F129,F187,simpL,stmtL,h,Int.reduceBEq,cond_true,cond_false]
  have:=wr_words (l:=[bs [97,99,113,117,105,114,101],x.name]) (sc (sh_bs (by simp)) (sc (sh_path hf.1) s0)) (by simp) rfl hn20
  simpa [tl_bs] using this
 ·simp [fieldsB,fldGood,h] at hf
  simp only [F129,F187,simpL,stmtL,h,Int.reduceBEq,cond_true,cond_false]
  have:=wr_words (l:=[bs [102,114,101,101],x.name]) (sc (sh_bs (by simp)) (sc (sh_path hf.1) s0)) (by simp) rfl hn20
  simpa [tl_bs] using this
 ·simp [fieldsB,fldGood,h] at hf
  simp only [F129,F187,simpL,stmtL,h,Int.reduceBEq,cond_true,cond_false]
  have:=wr_words (l:=[bs [115,112,97,119,110],x.name]) (sc (sh_bs (by simp)) (sc (sh_name hf.1) s0)) (by simp) rfl hn20
  simpa [tl_bs] using this
 ·simp [fieldsB,fldGood,h] at hf
  simp only [F129,F187,simpL,stmtL,h,Int.reduceBEq,cond_true,cond_false]
  have:=wr_words (l:=[bs [106,111,105,110],x.name]) (sc (sh_bs (by simp)) (sc (sh_name hf.1) s0)) (by simp) rfl hn20
  simpa [tl_bs] using this
 ·simp [fieldsB,fldGood,h] at hf
  simp [kidsB,leafK,oneK,h] at hkd
  have hE:∀ y ∈ x.kids,okE y:=fun y hy=>kE y hy (hkd y hy)
  have hc:=commas_tx_len hE (by omega)
  simp only [F129,F187,simpL,stmtL,h,Int.reduceBEq,cond_true,cond_false]
  rw [F124_1_eq hE (by omega) (by omega)]
  simp only [Option.bind_some]
  rw [F82_call (ln_path hf.1) (by rw [tl_bs]; omega)]
  simp only [Option.bind_some,tl_bs]
  have:=wr_words (l:=[bs [99,97,108,108],bs (tl x.name ++ ([40] ++ (commasL (tx x.kids) ++ [41])))]) (sc (sh_bs (by simp)) (sc (sh_bs (call_len (ln_path hf.1) (by omega))) s0)) (by simp) rfl hn20
  simpa [tl_bs] using this
 ·simp [kidsB,leafK,oneK,h] at hkd
  match hx:x.kids,hkd with
  | a :: r,hkd =>
   simp only [atomK,enX,Bool.and_eq_true,Bool.or_eq_true,beq_iff_eq] at hkd
   rw [hx] at kE hsz
   have er:∀ y ∈ r,okE y:=fun y hy=>kE y (by simp [hy]) (pairs_E _ hkd.2 y hy)
   have hz:sz a + szs r≤200:=by simp only [szs] at *; omega
   have g2:=F210_eq (l:=r) hkd.2 er (by omega) (show 500≤n by omega)
   have a2:=assigns_len er (by omega)
   have i0:idxL (a :: r) 0 = some a:=idx0 rfl
   have t0:tnth (a :: r) 0 = txt a:=tnth_eq rfl
   have ha:F54 n a = some (bs (txt a))∧(txt a).length≤30000:=by
    rcases hkd.1 with h1 | h1
    ·have ea:=kE a (by simp) h1
     exact ⟨F54k a ea (by omega),ln_txt ea (by omega)⟩
    ·have e0:txt a = []:=by rw [txt_eq]; simp [txtOf,h1]
     rw [e0]
     refine ⟨?_,by simp⟩
     obtain ⟨m,rfl⟩:∃ m,n = m + 1:=⟨n - 1,by omega⟩
     show F54_step (F83 m) (F54 m) m a = _
     unfold F54_step
     simp [h1]
   simp only [F129,F187,simpL,stmtL,h,hx,Int.reduceBEq,cond_true,cond_false,subL_tail,g2,i0,t0,Option.bind_some,ha.1]
   rw [F126_sh (sc (sh_bs (by simp)) (sc (sh_bs (by omega)) s0)) (by simp) hn20]
   simp only [Option.bind_some]
   have:=wr_words (l:=[bs [97,116,111,109,105,99],bs [123],bs (assignsL (tx r)),bs [125],bs (onlyL (a.kind != 63) [[119,104,101,110],txt a])])
    (sc (sh_bs (by simp)) (sc (sh_bs (by simp)) (sc (sh_bs (by omega)) (sc (sh_bs (by simp)) (sc (sh_only (lc (by simp) (lc ha.2 l0)) (by simp)) s0))))) (by simp) rfl hn20
   simpa [tl_bs] using this
end Go.Proofs.YtbecjgckobhmpaaGreatDoor
end
section
namespace Go.Proofs.YtbecjgckobhmpaaGreatDoor
open Go Go.AM Go.Proofs
theorem repL_len (l:Bytes):∀ k:Nat,(repL l k).length = l.length * k
 | 0=>rfl
 | k + 1=>by simp only [repL,List.length_append,repL_len l k,Nat.mul_succ]; omega
theorem repeat_eq {d:Nat} (hd:d≤1000):repeatF (bs [32,32]) (d:Int) = some (bs (repL [32,32] d)):=by
 unfold repeatF
 rw [if_pos ⟨by omega,by omega,by rw [size_bs]; simp; omega⟩]
 rfl
theorem line_len {d:Nat} {c:Bytes} (hd:d≤300) (hc:c.length≤1000010):(lineT (d,c)).length≤1001000:=by
 simp only [lineT,List.length_append,repL_len,List.length_cons,List.length_nil]
 omega
theorem wrS_eq {l:Bytes} {s:ByteArray} (h:l.length≤100000000000000) (hs:(tl s).length≤10000000):wrS l s = some (l ++ tl s):=by
 unfold wrS
 rw [if_pos (by rw [size_tl]; omega)]
 rfl
theorem F127_of {l:List ByteArray} {t:Bytes} {n:Nat} (hw:F85 n l = some (bs t)) (ht:t.length≤1000010) {d:Nat} (hd:d≤300) {buf:Bytes} (hb:buf.length≤20000000000000) (b:Bool) :
  F127 n l b buf (d:Int) = some (true,buf ++ lineT (d,t),(d:Int)):=by
 have hr:=repL_len [32,32] d
 simp only [List.length_cons,List.length_nil] at hr
 unfold F127 F184
 rw [repeat_eq (by omega)]
 simp only [Option.bind_some]
 rw [wrS_eq (by omega) (by rw [tl_bs]; omega)]
 simp only [Option.bind_some,hw]
 rw [wrS_eq (by simp [tl_bs]; omega) (by rw [tl_bs]; omega)]
 simp only [Option.bind_some]
 rw [wrS_eq (by simp [tl_bs]; omega) (by simp [tl_bs])]
 simp [tl_bs,lineT]
theorem open_eq {parts:List ByteArray} {h:Bytes} {n:Nat} (_:F85 n parts = some (bs h)) (hh:h.length≤1000000) (hn:20≤n) {d:Nat} (hd:d≤300) {buf:Bytes} (hb:buf.length≤20000000000000) (b:Bool) :
  F127 n [bs h,bs [123]] b buf (d:Int) = some (true,buf ++ lineT (openL d h),(d:Int)):=by
 have hl:=wordsL_len [h,[123]]
 simp at hl
 refine F127_of (t:=wordsL [h,[123]]) ?_ (by omega) hd hb b
 rw [F85_eq (by simp) (by simp [tl_bs]; omega) (by simp; omega)]
 simp [tl_bs]
theorem close_eq {n:Nat} (hn:20≤n) {d:Nat} (hd:d≤300) {buf:Bytes} (hb:buf.length≤20000000000000) (b:Bool) :
  F127 n [bs [125]] b buf (d:Int) = some (true,buf ++ lineT (d,[125]),(d:Int)):=by
 refine F127_of (t:=[125]) ?_ (by simp) hd hb b
 rw [F85_eq (by simp) (by simp [tl_bs,wordsL,joinL]) (by simp; omega)]
 simp [tl_bs,wordsL,joinL]
theorem else_eq {n:Nat} (hn:20≤n) {d:Nat} (hd:d≤300) {buf:Bytes} (hb:buf.length≤20000000000000) (b:Bool) :
  F127 n [bs [125,32,101,108,115,101,32,123]] b buf (d:Int) = some (true,buf ++ lineT (d,[125,32,101,108,115,101,32,123]),(d:Int)):=by
 refine F127_of (t:=[125,32,101,108,115,101,32,123]) ?_ (by simp) hd hb b
 rw [F85_eq (by simp) (by simp [tl_bs,wordsL,joinL]) (by simp; omega)]
 simp [tl_bs,wordsL,joinL]
theorem linesT_append (a b:Lines):linesT (a ++ b) = linesT a ++ linesT b:=by simp [linesT]
theorem linesT_cons (p:Nat × Bytes) (b:Lines):linesT (p :: b) = lineT p ++ linesT b:=by simp [linesT]
theorem linesT_nil:linesT [] = []:=rfl
def ItemW (m:Nat):Prop:=∀ x,sz x≤m→okT x = true→itemK x.kind = true→∀ d:Nat,d + sz x≤200→(linesT (itm d x)).length≤5000000 * sz x ∧
 ∀ (b:Bool) (buf:Bytes),buf.length + 5000000 * sz x≤10000000000000→∀ n,700 + 4 * sz x≤n→F79 n x b buf (d:Int) = some (true,buf ++ linesT (itm d x),(d:Int))
theorem itms_W {m:Nat} (ih:ItemW m):∀ (l:List Node),(∀ y ∈ l,sz y≤m∧okT y = true∧itemK y.kind = true)→∀ d:Nat,d + szs l≤200→(linesT (itms d l)).length≤5000000 * szs l
 | [],_,d,_=>by simp [itms,linesT,szs]
 | x :: r,h,d,hd=>by
  simp only [szs] at hd
  have h1:=(ih x (h x (by simp)).1 (h x (by simp)).2.1 (h x (by simp)).2.2 d (by omega)).1
  have h2:=itms_W ih r (fun y hy=>h y (by simp [hy])) d (by omega)
  simp only [itms,linesT_append,List.length_append,szs]
  omega
theorem itms_snoc (d:Nat) (l:List Node) (x:Node):itms d (l ++ [x]) = itms d l ++ itm d x:=by
 induction l with
 | nil=>simp [itms]
 | cons y r ih=>simp [itms,ih]
theorem szs_take {l:List Node} {k:Nat} {x:Node} (h:l[k]? = some x):szs (l.take k) + sz x≤szs l:=by
 have hlt:=lt_of_get h
 have e:l = l.take k ++ (x :: l.drop (k + 1)):=by
  have hx:l[k] = x:=by
   have:=List.getElem?_eq_getElem hlt
   rw [h] at this
   exact (Option.some.inj this).symm
  rw [← hx,List.getElem_cons_drop hlt]
  simp
 have h2:=congrArg szs e
 rw [szs_append] at h2
 simp only [szs] at h2
 omega
theorem szs_take_le (l:List Node) (k:Nat):szs (l.take k)≤szs l:=by
 have h:=congrArg szs (List.take_append_drop k l)
 rw [szs_append] at h
 omega
theorem F50_W {m:Nat} (ih:ItemW m) (l:List Node) (hl:∀ y ∈ l,sz y≤m∧okT y = true∧itemK y.kind = true) (d:Nat) (hd:d + szs l≤200) (b:Bool) (buf:Bytes) (hb:buf.length + 5000000 * szs l≤10000000000000)
  (n:Nat) (hn:701 + 4 * szs l≤n):∃ b',F50 n l b buf (d:Int) = some (b',buf ++ linesT (itms d l),(d:Int)):=by
 obtain ⟨n,rfl⟩:∃ k,n = k + 1:=⟨n - 1,by omega⟩
 have hlen:=szs_len l
 show ∃ b',F50_step (F128 n) (F123 n) (F79 n) (F50 n) n l b buf (d:Int) = _
 unfold F50_step
 obtain ⟨r,hr,b',rfl⟩:=iter_inv (step:=fun s1:Int × Bool × (List UInt8) × Int=>bif decide (s1.1 < (l.length:Int)) then
   ((idxL l s1.1).bind fun x3 =>
   (F79 n x3 s1.2.1 s1.2.2.1 s1.2.2.2).bind fun x5 =>
   some (.inl (w64 (s1.1 + 1),x5.1,x5.2.1,x5.2.2)))
  else
   (some (.inr (s1.2.1,s1.2.2.1,s1.2.2.2)):Option ((Int × Bool × (List UInt8) × Int) ⊕ (Bool × (List UInt8) × Int)))) l (fun (k:Nat) (a:Bool × Bytes)=>((k:Int),a.1,a.2,(d:Int)))
  (fun k a=>a.2 = buf ++ linesT (itms d (l.take k))) (fun r=>∃ b',r = (b',buf ++ linesT (itms d l),(d:Int)))
  (fun k a x hx ha=>by
   have hlt:=lt_of_get hx
   have hm:=List.mem_of_getElem? hx
   have hsz:=szs_mem l x hm
   have htk:=szs_take hx
   have c1:decide ((k:Int) < (l.length:Int)) = true:=by simpa using hlt
   have ht:l.take (k + 1) = l.take k ++ [x]:=by
    rw [List.take_add_one,hx]; rfl
   have hW:=itms_W ih (l.take k) (fun y hy=>hl y (List.mem_of_mem_take hy)) d (by omega)
   have hal:a.2.length + 5000000 * sz x≤10000000000000:=by
    rw [ha]
    simp only [List.length_append]
    omega
   have h79:=(ih x (hl x hm).1 (hl x hm).2.1 (hl x hm).2.2 d (by omega)).2 a.1 a.2 hal n (by omega)
   left
   refine ⟨(true,a.2 ++ linesT (itm d x)),?_,?_⟩
   ·simp only [c1,cond_true,idxL_some hx,Option.bind_some,h79,w64_nat (k:=k) (by omega)]
   ·show a.2 ++ linesT (itm d x) = _
    rw [ht,itms_snoc,linesT_append,ha,List.append_assoc])
  (fun a ha=>⟨(a.1,a.2,(d:Int)),by
   have c1:decide ((l.length:Int) < (l.length:Int)) = false:=by simp
   simp only [c1,cond_false],a.1,by
   have ha':a.2 = buf ++ linesT (itms d l):=by simpa using ha
   rw [ha']⟩) n (b,buf) (by omega) (by simp [itms,linesT])
 refine ⟨b',?_⟩
 erw [hr]
 rfl
theorem F128_W {m:Nat} (ih:ItemW m) (l:List Node) (hl:∀ y ∈ l,sz y≤m∧okT y = true∧itemK y.kind = true) (d:Nat) (hd:d + 1 + szs l≤200) (b:Bool) (buf:Bytes) (hb:buf.length + 5000000 * szs l≤10000000000000)
  (n:Nat) (hn:702 + 4 * szs l≤n):∃ b',F128 n l b buf (d:Int) = some (b',buf ++ linesT (itms (d + 1) l),(d:Int)):=by
 obtain ⟨n,rfl⟩:∃ k,n = k + 1:=⟨n - 1,by omega⟩
 obtain ⟨b',h⟩:=F50_W ih l hl (d + 1) hd b buf hb n (by omega)
 refine ⟨b',?_⟩
 show F128_step (F128 n) (F123 n) (F79 n) (F50 n) n l b buf (d:Int) = _
 unfold F128_step
 rw [w64_nat (by omega),h]
 have e:w64 (((d + 1:Nat):Int) - 1) = (d:Int):=by rw [w64_id (by omega) (by omega)]; omega
 simp only [Option.bind_some,e]
theorem F123_W {m:Nat} (ih:ItemW m) (l:List Node) (hl:∀ y ∈ l,sz y≤m∧okT y = true∧itemK y.kind = true) (d:Nat) (hd:d + 1 + szs l≤200) (b:Bool) (buf:Bytes) (hb:buf.length + 5000000 * szs l + 5000000≤10000000000000)
  {parts:List ByteArray} {h:Bytes} (n:Nat) (hw:F85 n parts = some (bs h)) (hh:h.length≤1000000) (hn:702 + 4 * szs l≤n) :
  F123 (n + 1) l parts b buf (d:Int) = some (true,buf ++ linesT (openL d h :: (itms (d + 1) l ++ [(d,[125])])),(d:Int)):=by
 have hW:=itms_W ih l hl (d + 1) hd
 have hll:=line_len (d:=d) (c:=wordsL [h,[123]]) (by omega) (by have:=wordsL_len [h,[123]]; simp at this; omega)
 show F123_step (F128 n) (F123 n) (F79 n) (F50 n) n l parts b buf (d:Int) = _
 unfold F123_step
 rw [hw]
 simp only [Option.bind_some]
 rw [open_eq hw hh (by omega) (by omega) (by omega)]
 simp only [Option.bind_some]
 have hb2:(buf ++ lineT (openL d h)).length + 5000000 * szs l≤10000000000000:=by
  simp only [List.length_append,openL]
  omega
 obtain ⟨b',e⟩:=F128_W ih l hl d hd true (buf ++ lineT (openL d h)) hb2 n hn
 rw [e]
 simp only [Option.bind_some]
 rw [close_eq (by omega) (by omega) (by simp only [List.length_append] at *; omega)]
 simp [linesT_cons,linesT_append,linesT_nil]
theorem words_nest {a b c:Bytes} (ha:a≠[]) (hb:b≠[]) (hc:c≠[]):wordsL [wordsL [a,b],c] = wordsL [a,b,c]:=by
 obtain ⟨x,a,rfl⟩:=List.exists_cons_of_ne_nil ha
 obtain ⟨y,b,rfl⟩:=List.exists_cons_of_ne_nil hb
 obtain ⟨z,c,rfl⟩:=List.exists_cons_of_ne_nil hc
 simp [wordsL,joinL]
theorem words_one {a:Bytes} (ha:a≠[]):wordsL [a] = a:=by
 obtain ⟨x,a,rfl⟩:=List.exists_cons_of_ne_nil ha
 simp [wordsL,joinL]
theorem wr85 {n:Nat} {l:List ByteArray} {ts:List Bytes} (h:∀ s ∈ l,Sh s) (hl:l.length≤8) (e:l.map tl = ts) (hn:20≤n):F85 n l = some (bs (wordsL ts))∧(wordsL ts).length≤1000000:=by
 subst e
 have hw:=words_le 100000 (sh_mem h)
 simp only [List.length_map] at hw
 exact ⟨F85_sh h (by omega) hn,by omega⟩
theorem line_W {x:Node} (hT:okT x = true) (hk:oneLine x.kind = true∨x.kind = 22) (d:Nat) (hd:d + sz x≤200):(linesT [(d,simpL x ++ [59])]).length≤5000000 * sz x ∧
  ∀ (b:Bool) (buf:Bytes),buf.length + 5000000 * sz x≤10000000000000→∀ n,700 + 4 * sz x≤n→F79 n x b buf (d:Int) = some (true,buf ++ linesT [(d,simpL x ++ [59])],(d:Int)):=by
 have hp:=sz_pos x
 obtain ⟨_,hl⟩:=F129_eq hT hk (by omega) (n:=600) (by omega)
 have hne:simpL x ++ [59]≠[]:=by simp
 have hlen:(simpL x ++ [59]).length≤1000010:=by simp; omega
 have hll:=line_len (d:=d) (by omega) hlen
 refine ⟨by simp only [linesT_cons,linesT_nil,List.append_nil]; omega,fun b buf hb n hn=>?_⟩
 obtain ⟨n,rfl⟩:∃ k,n = k + 1:=⟨n - 1,by omega⟩
 obtain ⟨e,_⟩:=F129_eq hT hk (by omega) (n:=n) (by omega)
 have hkk:¬ x.kind = 60∧¬ x.kind = 51∧¬ x.kind = 57∧¬ x.kind = 31∧¬ x.kind = 32:=by
  simp only [oneLine,Bool.or_eq_true,beq_iff_eq] at hk
  omega
 show F79_step (F128 n) (F123 n) (F79 n) (F50 n) n x b buf (d:Int) = _
 unfold F79_step
 simp only [nbeq hkk.1,nbeq hkk.2.1,nbeq hkk.2.2.1,nbeq hkk.2.2.2.1,nbeq hkk.2.2.2.2,cond_false,e,Option.bind_some]
 rw [F82_eq (by simp) (by simp [tl_bs]; omega)]
 simp only [Option.bind_some,List.map_cons,List.map_nil,tl_bs,List.flatten_cons,List.flatten_nil,List.append_nil]
 rw [F127_of (t:=simpL x ++ [59]) (by
  rw [F85_eq (by simp) (by simp only [List.map_cons,List.map_nil,tl_bs]; rw [words_one hne]; omega) (by simp; omega)]
  simp only [List.map_cons,List.map_nil,tl_bs]
  rw [words_one hne]) hlen (by omega) (by omega) b]
 simp [linesT_cons,linesT_nil]
theorem block_W {m:Nat} (ih:ItemW m) {x:Node} {l:List Node} {h:Bytes} (hl:∀ y ∈ l,sz y≤m∧okT y = true∧itemK y.kind = true) (hsz:szs l + 1≤sz x) (d:Nat) (hd:d + sz x≤200) (hh:h.length≤1000000) :
  (linesT (openL d h :: (itms (d + 1) l ++ [(d,[125])]))).length≤5000000 * sz x:=by
 have hW:=itms_W ih l hl (d + 1) (by omega)
 have hll:=line_len (d:=d) (c:=wordsL [h,[123]]) (by omega) (by have:=wordsL_len [h,[123]]; simp at this; omega)
 have hl2:=line_len (d:=d) (c:=[125]) (by omega) (by simp)
 simp only [linesT_cons,linesT_append,linesT_nil,List.length_append,List.append_nil,openL]
 omega
theorem itemW:∀ m,ItemW m:=by
 intro m
 induction m with
 | zero=>intro x hx; have:=sz_pos x; omega
 | succ m ih =>
  intro x hx hT hk d hd
  have hsz:=sz_eq x
  obtain ⟨hf,hkd,hks⟩:=okT_parts hT
  have inner:∀ y ∈ x.kids,y.kind = 34→∀ z ∈ y.kids,sz z≤m∧okT z = true∧itemK z.kind = true:=by
   intro y hy hy34 z hz
   obtain ⟨_,hkd',hks'⟩:=okT_parts (hks y hy)
   simp [kidsB,leafK,oneK,hy34] at hkd'
   have h1:=szs_mem x.kids y hy
   have h2:=sz_eq y
   have h3:=szs_mem y.kids z hz
   exact ⟨by omega,hks' z hz,by simp [itemK,hkd' z hz]⟩
  have innerS:∀ y ∈ x.kids,szs y.kids + 1≤szs x.kids:=by
   intro y hy
   have h1:=szs_mem x.kids y hy
   have h2:=sz_eq y
   omega
  have direct:(∀ y ∈ x.kids,itemK y.kind = true)→∀ y ∈ x.kids,sz y≤m∧okT y = true∧itemK y.kind = true:=fun h y hy=>by
   have h1:=szs_mem x.kids y hy
   exact ⟨by omega,hks y hy,h y hy⟩
  have kE:∀ y ∈ x.kids,isE y.kind = true→okE y:=fun y hy he=>⟨hks y hy,he⟩
  have kS:∀ y ∈ x.kids,sz y≤200:=fun y hy=>by have:=szs_mem x.kids y hy; omega
  have F54k:∀ n,600≤n→∀ a,okE a→sz a≤200→F54 n a = some (bs (txt a)):=fun n hn a h1 h2=>F54_eq a h1 h2 n (by omega)
  rcases item_kinds hk with h | h | h | h | h | h | h
  ·have hkk:¬ x.kind = 60∧¬ x.kind = 51∧¬ x.kind = 57∧¬ x.kind = 31∧¬ x.kind = 32:=by
    simp only [oneLine,Bool.or_eq_true,beq_iff_eq] at h
    omega
   have e:itm d x = [(d,simpL x ++ [59])]:=by
    rw [itm_eq]
    simp only [nbeq hkk.1,nbeq hkk.2.1,nbeq hkk.2.2.1,nbeq hkk.2.2.2.1,nbeq hkk.2.2.2.2,cond_false,Bool.or_false]
   rw [e]
   exact line_W hT (.inl h) d hd
  ·have e:itm d x = [(d,simpL x ++ [59])]:=by
    rw [itm_eq]
    simp only [h,Int.reduceBEq,cond_false,Bool.or_false]
   rw [e]
   exact line_W hT (.inr h) d hd
  ·simp [fieldsB,fldGood,h] at hf
   simp [kidsB,leafK,oneK,h] at hkd
   have hl:=direct (fun y hy=>by simp [itemK,hkd y hy])
   have W:∀ n,20≤n→F85 n [bs [109,111,100,117,108,101],x.name,bs [111,119,110,101,114],x.other] = some (bs (headL x))∧(headL x).length≤1000000:=fun n hn=>by
    have:=wr85 (l:=[bs [109,111,100,117,108,101],x.name,bs [111,119,110,101,114],x.other]) (sc (sh_bs (by simp)) (sc (sh_name hf.1.1) (sc (sh_bs (by simp)) (sc (sh_name hf.1.2) s0)))) (by simp) rfl hn
    simpa [headL,h,tl_bs] using this
   have e:itm d x = openL d (headL x) :: (itms (d + 1) x.kids ++ [(d,[125])]):=by
    rw [itm_eq]; simp only [h,Int.reduceBEq,cond_true,Bool.true_or]
   rw [e]
   refine ⟨block_W ih (x:=x) hl (by omega) d hd (W 20 (by omega)).2,fun b buf hb n hn=>?_⟩
   obtain ⟨n,rfl⟩:∃ k,n = k + 2:=⟨n - 2,by omega⟩
   show F79_step (F128 (n + 1)) (F123 (n + 1)) (F79 (n + 1)) (F50 (n + 1)) (n + 1) x b buf (d:Int) = _
   unfold F79_step
   simp only [h,Int.reduceBEq,cond_true,cond_false]
   rw [F123_W ih x.kids hl d (by omega) b buf (by omega) n (W n (by omega)).1 (W 20 (by omega)).2 (by omega)]
   rfl
  ·simp [fieldsB,fldGood,h] at hf
   simp [kidsB,leafK,oneK,h] at hkd
   have hl:=direct (fun y hy=>by have:=hkd y hy; simp [kX] at this; simp [itemK,this])
   have W:∀ n,20≤n→F85 n [bs [114,101,99,111,114,100],x.name] = some (bs (headL x))∧(headL x).length≤1000000:=fun n hn=>by
    have:=wr85 (l:=[bs [114,101,99,111,114,100],x.name]) (sc (sh_bs (by simp)) (sc (sh_name hf.1) s0)) (by simp) rfl hn
    simpa [headL,h,tl_bs] using this
   have e:itm d x = openL d (headL x) :: (itms (d + 1) x.kids ++ [(d,[125])]):=by
    rw [itm_eq]; simp only [h,Int.reduceBEq,cond_true,Bool.or_true]
   rw [e]
   refine ⟨block_W ih (x:=x) hl (by omega) d hd (W 20 (by omega)).2,fun b buf hb n hn=>?_⟩
   obtain ⟨n,rfl⟩:∃ k,n = k + 2:=⟨n - 2,by omega⟩
   show F79_step (F128 (n + 1)) (F123 (n + 1)) (F79 (n + 1)) (F50 (n + 1)) (n + 1) x b buf (d:Int) = _
   unfold F79_step
   simp only [h,Int.reduceBEq,cond_true,cond_false]
   rw [F123_W ih x.kids hl d (by omega) b buf (by omega) n (W n (by omega)).1 (W 20 (by omega)).2 (by omega)]
   rfl
  ·simp [fieldsB,fldGood,h] at hf
   simp [kidsB,leafK,oneK,h] at hkd
   simp only [procK] at hkd
   split at hkd
   ·rename_i z hz
    simp only [Bool.and_eq_true,beq_iff_eq,List.all_eq_true] at hkd
    have hne:x.kids≠[]:=by intro e; rw [e] at hz; cases hz
    have hzl:x.kids.getLast hne = z:=by rw [List.getLast?_eq_some_getLast hne] at hz; exact Option.some.inj hz
    have hzm:z ∈ x.kids:=List.mem_of_getLast? hz
    have hl:=inner z hzm hkd.1
    have hlen:=szs_len x.kids
    have hs:=innerS z hzm
    have hp:∀ y ∈ x.kids.dropLast,nameB (tl y.name) = true∧inR y.n = true:=by
     intro y hy
     have hk58:y.kind = 58:=by simpa [kX] using hkd.2 y hy
     have:=(okT_parts (hks y (List.dropLast_subset _ hy))).1
     simp [fieldsB,fldGood,hk58] at this
     exact this.1
    have hcl:(commasL (x.kids.dropLast.map sizedL)).length≤30000:=by
     have h1:=joinL_len [44,32] (x.kids.dropLast.map sizedL)
     have h2:=sum_le (x.kids.dropLast.map sizedL) 60 (fun s hs=>by
      simp only [List.mem_map] at hs
      obtain ⟨y,hy,rfl⟩:=hs
      exact sized_len (hp y hy).1)
     simp only [List.length_map,List.length_dropLast,List.length_cons,List.length_nil] at h1 h2
     unfold commasL
     omega
    have W:∀ n,600≤n→∃ x12,F126 n (!(strEq x.other (bs []))) ([(bs [108,111,99,107,101,100]),x.other]:List ByteArray) = some x12 ∧
      F85 n [bs [112,114,111,99],bs (tl x.name ++ ([40] ++ (commasL (x.kids.dropLast.map sizedL) ++ [41]))),x12] = some (bs (headL x))∧(headL x).length≤1000000:=fun n hn=>by
     have sO:Sh x.other:=by
      rcases hf.1.2 with h | h
      ·have:tl x.other = []:=str_nil.1 h
       unfold Sh; rw [this]; simp
      ·exact sh_name h
     have lO:(tl x.other).length≤30000:=by
      rcases hf.1.2 with h | h
      ·have:tl x.other = []:=str_nil.1 h
       rw [this]; simp
      ·exact ln_name h
     refine ⟨_,F126_sh (sc (sh_bs (by simp)) (sc sO s0)) (by simp) (by omega),?_⟩
     have:=wr85 (l:=[bs [112,114,111,99],bs (tl x.name ++ ([40] ++ (commasL (x.kids.dropLast.map sizedL) ++ [41]))),bs (onlyL (!(strEq x.other (bs []))) [[108,111,99,107,101,100],tl x.other])])
      (sc (sh_bs (by simp)) (sc (sh_bs (call_len (ln_name hf.1.1) hcl)) (sc (sh_only (lc (by simp) (lc lO l0)) (by simp)) s0))) (by simp) rfl (show 20≤n by omega)
     simpa [headL,h,tl_bs] using this
    have hhl:(headL x).length≤1000000:=by obtain ⟨_,_,_,r⟩:=W 600 (by omega); exact r
    have e:itm d x = openL d (headL x) :: (itms (d + 1) z.kids ++ [(d,[125])]):=by
     have e1:nthI (inns (d + 1) x.kids) (x.kids.length - 1) = itms (d + 1) z.kids:=by
      rw [inns_map,nthI]
      rw [List.getLast?_eq_getElem?] at hz
      simp [hz]
     rw [itm_eq]
     simp only [h,e1,Int.reduceBEq,cond_true,cond_false,Bool.or_false]
    rw [e]
    refine ⟨block_W ih (x:=x) hl (by omega) d hd hhl,fun b buf hb n hn=>?_⟩
    obtain ⟨n,rfl⟩:∃ k,n = k + 2:=⟨n - 2,by omega⟩
    obtain ⟨x12,hx12,w1,_⟩:=W (n + 1) (by omega)
    obtain ⟨x12',hx12',w2,_⟩:=W n (by omega)
    have ex:x12 = x12':=by
     have a:=hx12
     have sO:Sh x.other:=by
      rcases hf.1.2 with h | h
      ·have:tl x.other = []:=str_nil.1 h
       unfold Sh; rw [this]; simp
      ·exact sh_name h
     rw [F126_sh (sc (sh_bs (by simp)) (sc sO s0)) (by simp) (by omega)] at a hx12'
     exact (Option.some.inj a).symm.trans (Option.some.inj hx12')
    subst ex
    have hdl:x.kids.dropLast.length≤200:=by simp; omega
    show F79_step (F128 (n + 1)) (F123 (n + 1)) (F79 (n + 1)) (F50 (n + 1)) (n + 1) x b buf (d:Int) = _
    unfold F79_step
    simp only [h,Int.reduceBEq,cond_true,cond_false]
    rw [sub_last hne (by omega),idx_last hne (by omega),hzl]
    simp only [Option.bind_some]
    rw [F124_eq hp hdl (by omega)]
    simp only [Option.bind_some]
    rw [F82_call (ln_name hf.1.1) (by rw [tl_bs]; exact hcl)]
    simp only [Option.bind_some,hx12,tl_bs]
    rw [F123_W ih z.kids hl d (by omega) b buf (by omega) n w2 hhl (by omega)]
    rfl
   ·cases hkd
  ·simp [kidsB,leafK,oneK,h] at hkd
   obtain ⟨a,y,z,hx3,ha,hy,hz⟩:=ex3_iff hkd
   have hy':y.kind = 34:=by simpa [kX] using hy
   have hz':z.kind = 34:=by simpa [kX] using hz
   have ea:=kE a (by simp [hx3]) ha
   have sa:=kS a (by simp [hx3])
   have hly:=inner y (by simp [hx3]) hy'
   have hlz:=inner z (by simp [hx3]) hz'
   have hsum:sz x = 1 + (sz a + (sz y + sz z)):=by rw [hsz,hx3]; simp [szs]
   have hsy:=sz_eq y
   have hsz2:=sz_eq z
   have t0:tnth x.kids 0 = txt a:=tnth_eq (by simp [hx3])
   have hne:=(txt_GX a ea).ne
   have W:∀ n,20≤n→F85 n [bs [105,102],bs (txt a),bs [123]] = some (bs (wordsL [headL x,[123]]))∧(headL x).length≤1000000∧(wordsL [headL x,[123]]).length≤1000010:=fun n hn=>by
    have h1:=wr85 (l:=[bs [105,102],bs (txt a),bs [123]]) (sc (sh_bs (by simp)) (sc (sh_txt ea sa) (sc (sh_bs (by simp)) s0))) (by simp) rfl hn
    have h2:=wr85 (n:=n) (l:=[bs [105,102],bs (txt a)]) (sc (sh_bs (by simp)) (sc (sh_txt ea sa) s0)) (by simp) rfl hn
    have e1:headL x = wordsL [[105,102],txt a]:=by simp [headL,h,t0]
    rw [e1,words_nest (by simp) hne (by simp)]
    simp only [List.map_cons,List.map_nil,tl_bs] at h1 h2
    exact ⟨h1.1,h2.2,by omega⟩
   obtain ⟨_,hhl,hhl2⟩:=W 20 (by omega)
   have e1:nthI (inns (d + 1) x.kids) 1 = itms (d + 1) y.kids:=by simp [inns_map,nthI,hx3]
   have e2:nthI (inns (d + 1) x.kids) 2 = itms (d + 1) z.kids:=by simp [inns_map,nthI,hx3]
   have e3:elseE x.kids = z.kids.isEmpty:=by simp [elseE,hx3]
   have hWy:=itms_W ih y.kids hly (d + 1) (by omega)
   have hWz:=itms_W ih z.kids hlz (d + 1) (by omega)
   have hll:=line_len (d:=d) (c:=wordsL [headL x,[123]]) (by omega) hhl2
   have hl2:=line_len (d:=d) (c:=[125]) (by omega) (by simp)
   have hl3:=line_len (d:=d) (c:=[125,32,101,108,115,101,32,123]) (by omega) (by simp)
   have e:itm d x = openL d (headL x) :: (itms (d + 1) y.kids ++ ((bif z.kids.isEmpty then [] else (d,[125,32,101,108,115,101,32,123]) :: itms (d + 1) z.kids) ++ [(d,[125])])):=by
    rw [itm_eq]; simp only [h,e1,e2,e3,Int.reduceBEq,cond_true,cond_false,Bool.or_false]
   rw [e]
   refine ⟨?_,fun b buf hb n hn=>?_⟩
   ·cases z.kids.isEmpty
    ·simp only [cond_false,linesT_cons,linesT_append,linesT_nil,List.length_append,List.append_nil,openL]
     omega
    ·simp only [cond_true,linesT_cons,linesT_append,linesT_nil,List.length_append,List.append_nil,openL,List.length_nil]
     omega
   ·obtain ⟨n,rfl⟩:∃ k,n = k + 1:=⟨n - 1,by omega⟩
    have i0:idxL x.kids 0 = some a:=idx0 (by simp [hx3])
    have i1:idxL x.kids 1 = some y:=idx1 (by simp [hx3])
    have i2:idxL x.kids 2 = some z:=idx2 (by simp [hx3])
    show F79_step (F128 n) (F123 n) (F79 n) (F50 n) n x b buf (d:Int) = _
    unfold F79_step
    simp only [h,Int.reduceBEq,cond_true,cond_false,i0,i1,i2,Option.bind_some,F54k n (by omega) a ea sa]
    rw [F127_of (W n (by omega)).1 hhl2 (by omega) (by omega) b]
    simp only [Option.bind_some]
    have hb1:(buf ++ lineT (d,wordsL [headL x,[123]])).length + 5000000 * szs y.kids≤10000000000000:=by
     simp only [List.length_append]; omega
    obtain ⟨b1,f1⟩:=F128_W ih y.kids hly d (by omega) true (buf ++ lineT (d,wordsL [headL x,[123]])) hb1 n (by omega)
    rw [f1]
    simp only [Option.bind_some]
    cases hze:z.kids with
    | nil =>
     have c1:decide (0 < (([]:List Node).length:Int)) = false:=by simp
     simp only [c1,cond_false,Option.bind_some]
     rw [close_eq (by omega) (by omega) (by simp only [List.length_append] at *; omega)]
     simp [linesT_cons,linesT_append,linesT_nil,openL]
    | cons q qs =>
     rw [hze] at hWz hlz
     have hszz:szs (q :: qs) = szs z.kids:=by rw [hze]
     have c1:decide (0 < ((q :: qs).length:Int)) = true:=by simp
     simp only [c1,cond_true]
     rw [else_eq (by omega) (by omega) (by simp only [List.length_append] at *; omega)]
     simp only [Option.bind_some]
     have hb2:(buf ++ lineT (d,wordsL [headL x,[123]]) ++ linesT (itms (d + 1) y.kids) ++ lineT (d,[125,32,101,108,115,101,32,123])).length + 5000000 * szs (q :: qs)≤10000000000000:=by
      simp only [List.length_append] at *; omega
     obtain ⟨b2,f2⟩:=F128_W ih (q :: qs) hlz d (by omega) true _ hb2 n (by omega)
     rw [f2]
     simp only [Option.bind_some]
     rw [close_eq (by omega) (by omega) (by simp only [List.length_append] at *; omega)]
     simp [linesT_cons,linesT_append,linesT_nil,openL]
  ·simp [kidsB,leafK,oneK,h] at hkd
   obtain ⟨a,y,z,hx3,ha,hy,hz⟩:=ex3_iff hkd
   have hz':z.kind = 34:=by simpa [kX] using hz
   have ea:=kE a (by simp [hx3]) ha
   have sa:=kS a (by simp [hx3])
   have sy:=kS y (by simp [hx3])
   have hlz:=inner z (by simp [hx3]) hz'
   have hs:=innerS z (by simp [hx3])
   have t0:tnth x.kids 0 = txt a:=tnth_eq (by simp [hx3])
   have t1:tnth x.kids 1 = txt y:=tnth_eq (by simp [hx3])
   have k1:(x.kids[1]?.map Node.kind).getD 0 = y.kind:=by simp [hx3]
   have hY:∀ n,600≤n→F54 n y = some (bs (txt y))∧(txt y).length≤30000:=fun n hn=>by
    simp only [enX,Bool.or_eq_true,beq_iff_eq] at hy
    rcases hy with h1 | h1
    ·have ey:=kE y (by simp [hx3]) h1
     exact ⟨F54k n hn y ey sy,ln_txt ey sy⟩
    ·have e0:txt y = []:=by rw [txt_eq]; simp [txtOf,h1]
     rw [e0]
     refine ⟨?_,by simp⟩
     obtain ⟨m,rfl⟩:∃ m,n = m + 1:=⟨n - 1,by omega⟩
     show F54_step (F83 m) (F54 m) m y = _
     unfold F54_step
     simp [h1]
   have lY:=(hY 600 (by omega)).2
   have W:∀ n,20≤n→F85 n [bs [119,104,105,108,101],bs (txt a),bs (onlyL (y.kind != 63) [[118,97,114,105,97,110,116],txt y])] = some (bs (headL x))∧(headL x).length≤1000000:=fun n hn=>by
    have:=wr85 (l:=[bs [119,104,105,108,101],bs (txt a),bs (onlyL (y.kind != 63) [[118,97,114,105,97,110,116],txt y])]) (sc (sh_bs (by simp)) (sc (sh_txt ea sa) (sc (sh_only (lc (by simp) (lc lY l0)) (by simp)) s0))) (by simp) rfl hn
    simp only [List.map_cons,List.map_nil,tl_bs] at this
    simp only [headL,h,t0,t1,k1,Int.reduceBEq,cond_false]
    exact this
   have e2:nthI (inns (d + 1) x.kids) 2 = itms (d + 1) z.kids:=by simp [inns_map,nthI,hx3]
   have e:itm d x = openL d (headL x) :: (itms (d + 1) z.kids ++ [(d,[125])]):=by
    rw [itm_eq]; simp only [h,e2,Int.reduceBEq,cond_true,cond_false,Bool.or_false]
   rw [e]
   refine ⟨block_W ih (x:=x) hlz (by omega) d hd (W 20 (by omega)).2,fun b buf hb n hn=>?_⟩
   obtain ⟨n,rfl⟩:∃ k,n = k + 2:=⟨n - 2,by omega⟩
   have i0:idxL x.kids 0 = some a:=idx0 (by simp [hx3])
   have i1:idxL x.kids 1 = some y:=idx1 (by simp [hx3])
   have i2:idxL x.kids 2 = some z:=idx2 (by simp [hx3])
   show F79_step (F128 (n + 1)) (F123 (n + 1)) (F79 (n + 1)) (F50 (n + 1)) (n + 1) x b buf (d:Int) = _
   unfold F79_step
   simp only [h,Int.reduceBEq,cond_true,cond_false,i0,i1,i2,Option.bind_some,F54k (n + 1) (by omega) a ea sa,(hY (n + 1) (by omega)).1]
   rw [F126_sh (sc (sh_bs (by simp)) (sc (sh_bs (by omega)) s0)) (by simp) (by omega)]
   simp only [Option.bind_some,List.map_cons,List.map_nil,tl_bs]
   rw [F123_W ih z.kids hlz d (by omega) b buf (by omega) n (W n (by omega)).1 (W 20 (by omega)).2 (by omega)]
   rfl
theorem F50_src {x:Node} (hT:okT x = true) (h:x.kind = 62) (hs:sz x≤200) {n:Nat} (hn:2000≤n):∃ b',F50 n x.kids false [] 0 = some (b',srcT x,0):=by
 obtain ⟨hf,hkd,hks⟩:=okT_parts hT
 simp [kidsB,leafK,oneK,h] at hkd
 have hsz:=sz_eq x
 obtain ⟨b',e⟩:=F50_W (itemW 200) x.kids (fun y hy=>by
  have:=szs_mem x.kids y hy
  exact ⟨by omega,hks y hy,by simp [itemK,hkd y hy]⟩) 0 (by omega) false [] (by simp; omega) n (by omega)
 exact ⟨b',by simpa [srcT] using e⟩
end Go.Proofs.YtbecjgckobhmpaaGreatDoor
end
section
namespace Go.Proofs.YtbecjgckobhmpaaGreatDoor
open Go Go.AM Go.Proofs
variable {s:ByteArray} {n:Nat}
theorem run_bind {p:Int→Option Bool} {z lo:Int} (h0:0≤lo) (h1:lo≤z) (hz:z < 9223372036854775807) (hp:∀ i,lo≤i→i < z→T (p i) (fun _=>True)) {n:Nat} (hn:z < n) :
  T ((iter (σ:=Int) (ρ:=Int) (fun s1=>bif decide (s1 < z) then ((p s1).bind fun x3=>bif x3 then (some (.inl (w64 (s1 + 1)))) else (some (.inr s1))) else (some (.inr s1))) n lo).bind fun r5=>some r5)
   (fun e=>lo≤e∧e≤z∧(lo < z→p lo = some true→lo < e)) :=
 (run_T h0 h1 hz hp hn).bind fun _ h=>T.some h
theorem symTab_sz:∀ x ∈ symTab,1≤x.size∧x.size≤3:=by
 have:symTab.all (fun x=>decide (1≤x.size∧x.size≤3)) = true:=by kernel_rfl
 intro x hx
 simpa using List.all_eq_true.1 this x hx
theorem F113_T {t:ByteArray} {a:Int} (h0:0≤a) (h1:a≤(s.size:Int)) (hs:s.size≤4000) (ht:t.size≤3):T (F113 s a t) (fun r=>r = true→a + (t.size:Int)≤(s.size:Int)):=by
 unfold F113
 rw [w64_id (by omega) (by omega)]
 refine T.cond (fun hc=>?_) (fun _=>T.some (by simp))
 have hc':a + (t.size:Int)≤(s.size:Int):=by simpa using hc
 exact (subS_T h0 (by omega) hc').bind fun _ _=>T.some (fun _=>hc')
theorem F113_47 {a:Int} (h0:0≤a) (h:F113 s a (bs [47,47]) = some true):idxS s a = some 47:=by
 unfold F113 at h
 rcases csplit h with ⟨_,h⟩ | ⟨_,h⟩
 ·obtain ⟨x,hx,h⟩:=obind h
  simp only [Option.some.injEq] at h
  obtain ⟨k,rfl⟩:=Int.eq_ofNat_of_zero_le h0
  have hx':=hx
  unfold subS at hx'
  split at hx'
  ·rename_i hc
   obtain ⟨j,hj⟩:=Int.eq_ofNat_of_zero_le (show 0≤w64 ((k:Int) + ((bs [47,47]).size:Int)) by omega)
   rw [hj] at hx hc
   rw [subS_eq (by omega) (by rw [← size_tl]; omega)] at hx
   obtain rfl:=Option.some.inj hx
   have h2:((tl s).drop k).take (j - k) = [47,47]:=by simpa [strEq,bs] using h
   have h3:(((tl s).drop k).take (j - k))[0]? = some 47:=by rw [h2]; rfl
   have h4:(tl s)[k]? = some 47:=by
    rw [List.getElem?_take] at h3
    split at h3
    ·simpa using h3
    ·cases h3
   rw [idxS_some h4]
   rfl
  ·cases hx'
 ·cases h
theorem F74_T (hs:s.size≤4000) (hn:5000≤n) {a:Int} (h0:0≤a) (h1:a≤(s.size:Int)):T (F74 n s a) (fun e=>a≤e∧e≤(s.size:Int)):=by
 unfold F74
 refine T.bind (P:=fun r=>match r with | .inl e=>a≤e∧e≤(s.size:Int) | .inr e=>a≤e∧e≤(s.size:Int)) ?_ (fun r h=>by
  cases r with
  | inl r=>exact T.some h
  | inr _=>exact T.some h)
 refine iter_meas (fun e=>a≤e∧e≤(s.size:Int)) (fun e=>((s.size:Int) - e).toNat) _ (fun e he=>?_) n a (by omega) ⟨by omega,h1⟩
 by_cases hlt:e < (s.size:Int)
 ·have c1:decide (e < (s.size:Int)) = true:=by simpa using hlt
  obtain ⟨c,hc,hc2⟩:=F113_T (s:=s) (t:=bs [47,47]) (a:=e) (by omega) (by omega) hs (by simp [size_bs])
  rw [c1,hc]
  simp only [cond_true,Option.bind_some]
  cases c
  ·obtain ⟨b,hb,_⟩:=idxS_T (s:=s) (i:=e) (by omega) (by omega)
   rw [hb]
   simp only [cond_false,Option.bind_some,F114]
   rw [w64_id (x:=e + 1) (by omega) (by omega)]
   cases (((b == 32) || (b == 9)) || (b == 10)) || (b == 13)
   ·exact .inr ⟨_,rfl,he⟩
   ·exact .inl ⟨_,rfl,by omega,by omega⟩
  ·have h47:=F113_47 (by omega) hc
   simp only [cond_true]
   obtain ⟨r,hr,h3⟩:=runG_T (step:=fun s5=>bif decide (s5 < (s.size:Int)) then
      ((idxS s s5).bind fun x7 =>
      bif x7 != 10 then
       (some (.inl (w64 (s5 + 1))))
      else
       (some (.inr s5)))
     else
      (some (.inr s5))) (z:=(s.size:Int)) (lo:=e) (n:=n) (by omega) (by omega) (fun i h1 h2=>by
     by_cases hi:i < (s.size:Int)
     ·have c2:decide (i < (s.size:Int)) = true:=by simpa using hi
      obtain ⟨b,hb,_⟩:=idxS_T (s:=s) (i:=i) (by omega) (by omega)
      rw [c2,hb,w64_id (x:=i + 1) (by omega) (by omega)]
      simp only [cond_true,Option.bind_some]
      cases b != 10
      ·exact .inr rfl
      ·exact .inl ⟨hi,rfl⟩
     ·have c2:decide (i < (s.size:Int)) = false:=by simpa using hi
      rw [c2]
      exact .inr rfl)
   rw [hr]
   have h4:=h3.2.2 (by rw [c1,h47,w64_id (x:=e + 1) (by omega) (by omega)]; rfl)
   exact .inl ⟨r,rfl,by omega,by omega⟩
 ·have c1:decide (e < (s.size:Int)) = false:=by simpa using hlt
  rw [c1]
  exact .inr ⟨_,rfl,he⟩
theorem F116_T (hs:s.size≤4000) (hn:5000≤n) {a:Int} (h0:0≤a) (h1:a < (s.size:Int)) (hl:∀ b,idxS s a = some b→F115 b = some true):T (F116 n s a) (fun r=>1≤r.1.text.size∧a + (r.1.text.size:Int)≤(s.size:Int)):=by
 unfold F116
 have e2:∀ i,a≤i→i < (s.size:Int)→w64 (i + 1) = i + 1:=fun i _ _=>w64_id (by omega) (by omega)
 refine T.bind (runG_T (z:=(s.size:Int)) (by omega) (by omega) (fun i h1 h2=>by
  by_cases hi:i < (s.size:Int)
  ·have c2:decide (i < (s.size:Int)) = true:=by simpa using hi
   obtain ⟨b,hb,_⟩:=idxS_T (s:=s) (i:=i) (by omega) (by omega)
   rw [c2,hb,e2 i h1 hi]
   simp only [cond_true,Option.bind_some,F115,F117]
   cases (((decide (97≤b)) && (decide (b≤122))) || ((decide (65≤b)) && (decide (b≤90))))
   ·cases ((decide (48≤b)) && (decide (b≤57)))
    ·cases b == 95
     ·exact .inr rfl
     ·exact .inl ⟨hi,rfl⟩
    ·exact .inl ⟨hi,rfl⟩
   ·exact .inl ⟨hi,rfl⟩
  ·have c2:decide (i < (s.size:Int)) = false:=by simpa using hi
   rw [c2]
   exact .inr rfl)) fun r hr=>?_
 have hlt:a < r:=hr.2.2 (by
  have c2:decide (a < (s.size:Int)) = true:=by simpa using h1
  obtain ⟨b,hb,_⟩:=idxS_T (s:=s) (i:=a) (by omega) (by omega)
  rw [c2,hb,e2 a (by omega) h1]
  simp only [cond_true,Option.bind_some,hl b hb])
 refine (subS_T h0 (by omega) hr.2.1).bind fun x hx=>T.some ?_
 show 1≤x.size∧_ + (x.size:Int)≤_
 omega
theorem F118_T (hs:s.size≤4000) (hn:5000≤n) {a:Int} (h0:0≤a) (h1:a < (s.size:Int)) (hl:∀ b,idxS s a = some b→F117 b = some true):T (F118 n s a) (fun r=>1≤r.1.text.size∧a + (r.1.text.size:Int)≤(s.size:Int)):=by
 unfold F118
 have e2:∀ i,a≤i→i < (s.size:Int)→w64 (i + 1) = i + 1:=fun i _ _=>w64_id (by omega) (by omega)
 refine T.bind (runG_T (z:=(s.size:Int)) (by omega) (by omega) (fun i h1 h2=>by
  by_cases hi:i < (s.size:Int)
  ·have c2:decide (i < (s.size:Int)) = true:=by simpa using hi
   obtain ⟨b,hb,_⟩:=idxS_T (s:=s) (i:=i) (by omega) (by omega)
   rw [c2,hb,e2 i h1 hi]
   simp only [cond_true,Option.bind_some,F117]
   cases ((decide (48≤b)) && (decide (b≤57)))
   ·exact .inr rfl
   ·exact .inl ⟨hi,rfl⟩
  ·have c2:decide (i < (s.size:Int)) = false:=by simpa using hi
   rw [c2]
   exact .inr rfl)) fun r hr=>?_
 have hlt:a < r:=hr.2.2 (by
  have c2:decide (a < (s.size:Int)) = true:=by simpa using h1
  obtain ⟨b,hb,_⟩:=idxS_T (s:=s) (i:=a) (by omega) (by omega)
  rw [c2,hb,e2 a (by omega) h1]
  simp only [cond_true,Option.bind_some,hl b hb])
 refine T.bind (P:=fun _=>True) (T.cond (fun _=>(idxS_T h0 h1).bind fun _ _=>T.some trivial) (fun _=>T.some trivial)) fun j _=>?_
 refine T.bind (P:=fun _=>True) (T.cond (fun hc=>?_) (fun _=>T.some trivial)) fun j _=>?_
 ·have hc':r < (s.size:Int):=by simpa using hc
  refine (idxS_T (by omega) hc').bind fun b _=>?_
  simp only [F115,Option.bind_some]
  refine T.cond (fun _=>T.some trivial) (fun _=>?_)
  exact (idxS_T (by omega) hc').bind fun b _=>T.cond (fun _=>T.some trivial) (fun _=>T.some trivial)
 refine (subS_T h0 (by omega) hr.2.1).bind fun x hx=>T.some ?_
 show 1≤x.size∧_ + (x.size:Int)≤_
 omega
theorem syms_sz:∀ l,F119 = some l→l.length = 27∧∀ x ∈ l,1≤x.size∧x.size≤3:=by
 intro l h
 obtain rfl:=Option.some.inj h
 refine ⟨rfl,?_⟩
 have:∀ l:List ByteArray,l.all (fun x=>decide (1≤x.size∧x.size≤3)) = true→∀ x ∈ l,1≤x.size∧x.size≤3:=by
  intro l h x hx
  simpa using List.all_eq_true.1 h x hx
 exact this _ (by kernel_rfl)
theorem F75_T (hs:s.size≤4000) (hn:5000≤n) {a:Int} (h0:0≤a) (h1:a < (s.size:Int)):T (F75 n s a) (fun r=>r.2 = true→1≤r.1.text.size∧a + (r.1.text.size:Int)≤(s.size:Int)):=by
 unfold F75
 obtain ⟨b,hb,_⟩:=idxS_T (s:=s) (i:=a) (by omega) (by omega)
 rw [hb]
 simp only [Option.bind_some]
 obtain ⟨c1,hc1⟩:∃ c,F115 b = some c:=⟨_,rfl⟩
 obtain ⟨c2,hc2⟩:∃ c,F117 b = some c:=⟨_,rfl⟩
 rw [hc1]
 simp only [Option.bind_some]
 refine T.cond (fun hc=>?_) (fun _=>?_)
 ·subst hc
  exact (F116_T hs hn h0 h1 (fun b' h=>by rw [hb] at h; obtain rfl:=Option.some.inj h; exact hc1)).bind fun r hr=>T.some (fun _=>hr)
 ·rw [hc2]
  simp only [Option.bind_some]
  refine T.cond (fun hc=>?_) (fun _=>?_)
  ·subst hc
   exact (F118_T hs hn h0 h1 (fun b' h=>by rw [hb] at h; obtain rfl:=Option.some.inj h; exact hc2)).bind fun r hr=>T.some (fun _=>hr)
  ·obtain ⟨l,hl⟩:∃ l,F119 = some l:=⟨_,rfl⟩
   obtain ⟨hlen,hsz⟩:=syms_sz l hl
   rw [hl]
   simp only [Option.bind_some]
   refine T.bind (P:=fun r=>match r with | .inl x=>1≤x.size∧a + (x.size:Int)≤(s.size:Int) | .inr _=>True) ?_ (fun r h=>by
    cases r with
    | inl r=>exact T.some (fun _=>h)
    | inr _=>exact T.some (fun h=>by cases h))
   refine iter_meas (fun e=>0≤e∧e≤27) (fun e=>(27 - e).toNat) _ (fun e he=>?_) n 0 (by omega) ⟨by omega,by omega⟩
   by_cases hlt:e < (l.length:Int)
   ·have c1:decide (e < (l.length:Int)) = true:=by simpa using hlt
    obtain ⟨x,hx,hm⟩:=idxL_T (l:=l) he.1 hlt
    have hz:=hsz x hm
    obtain ⟨c,hc,hf⟩:=F113_T (s:=s) (t:=x) (a:=a) h0 (by omega) hs hz.2
    rw [c1,hx]
    simp only [cond_true,Option.bind_some,hc]
    cases c
    ·exact .inl ⟨e + 1,by rw [w64_id (x:=e + 1) (by omega) (by omega)]; rfl,by omega,by omega⟩
    ·exact .inr ⟨.inl x,rfl,hz.1,hf rfl⟩
   ·have c1:decide (e < (l.length:Int)) = false:=by simpa using hlt
    rw [c1]
    exact .inr ⟨.inr (),rfl,trivial⟩
theorem F39_T (hn:5000≤n):T (F39 n s) (fun r=>r.2.1 = 0→s.size≤4000):=by
 unfold F39
 refine T.cond (fun _=>T.some (fun h=>by simp at h)) fun hc=>?_
 have hs:s.size≤4000:=by simp at hc; omega
 refine (F74_T hs hn (by omega) (by omega)).bind fun x2 h2=>?_
 refine T.bind (P:=fun _=>True) ?_ (fun r _=>by
  cases r with
  | inl r=>exact T.some (fun _=>hs)
  | inr _=>exact T.some (fun _=>hs))
 refine iter_meas (fun st=>st.1.length≤1500∧0≤st.2∧st.2≤(s.size:Int)) (fun st=>((s.size:Int) - st.2).toNat) _ (fun st hst=>?_) n _ (by simp; omega) ⟨by simp,by simp; omega,by simp; omega⟩
 by_cases hlt:st.2 < (s.size:Int)
 ·have c1:decide (st.2 < (s.size:Int)) = true:=by simpa using hlt
  rw [c1]
  simp only [cond_true]
  by_cases hm:(1500:Int)≤(st.1.length:Int)
  ·have c2:decide ((1500:Int)≤(st.1.length:Int)) = true:=by simpa using hm
   rw [c2]
   exact .inr ⟨_,rfl,trivial⟩
  ·have c2:decide ((1500:Int)≤(st.1.length:Int)) = false:=by simpa using hm
   rw [c2]
   simp only [cond_false]
   obtain ⟨x6,hx6,h6⟩:=F75_T hs hn hst.2.1 hlt
   rw [hx6]
   simp only [Option.bind_some]
   cases e6:x6.2
   ·exact .inr ⟨_,rfl,trivial⟩
   ·have h7:=h6 e6
    simp only [Bool.not_true,cond_false,appL]
    rw [if_pos (by simp; omega)]
    simp only [Option.bind_some]
    rw [w64_id (x:=st.2 + _) (by omega) (by omega)]
    obtain ⟨y,hy,h8⟩:=F74_T hs hn (a:=st.2 + (x6.1.text.size:Int)) (by omega) (by omega)
    rw [hy]
    exact .inl ⟨_,rfl,⟨by simp; omega,by simp; omega,by simp; omega⟩,by simp; omega⟩
 ·have c1:decide (st.2 < (s.size:Int)) = false:=by simpa using hlt
  rw [c1]
  exact .inr ⟨_,rfl,trivial⟩
end Go.Proofs.YtbecjgckobhmpaaGreatDoor
end
section
namespace Go.Proofs.YtbecjgckobhmpaaGreatDoor
open Go Go.AM Go.Proofs
theorem szs_take_succ {l:List Node} {k:Nat} {x:Node} (h:l[k]? = some x):szs (l.take (k + 1)) = szs (l.take k) + sz x:=by
 rw [List.take_add_one,h,szs_append]
 simp [szs]
theorem F76_T:∀ (D:Nat) (x:Node) (lim:Int),0≤lim→lim≤1000→D≤100→∀ n,2000 + D≤n→T (F76 n x lim (D:Int)) (fun c=>1≤c∧c≤lim + 1∧(c≤lim→c = (sz x:Int))):=by
 intro D
 induction D with
 | zero =>
  intro x lim h0 h1 _ n hn
  obtain ⟨n,rfl⟩:∃ k,n = k + 1:=⟨n - 1,by omega⟩
  show T (F76_step (F76 n) n x lim 0) _
  unfold F76_step
  simp only [BEq.rfl,cond_true]
  rw [w64_id (by omega) (by omega)]
  exact T.some ⟨by omega,by omega,fun h=>by omega⟩
 | succ D ih =>
  intro x lim h0 h1 hD n hn
  obtain ⟨n,rfl⟩:∃ k,n = k + 1:=⟨n - 1,by omega⟩
  show T (F76_step (F76 n) n x lim ((D + 1:Nat):Int)) _
  unfold F76_step
  have c0:((((D + 1:Nat):Int)) == 0) = false:=by simp; omega
  simp only [c0,cond_false]
  refine T.bind (P:=fun c=>1≤c∧c≤lim + 1∧(c≤lim→c = (sz x:Int))) ?_ (fun _ h=>T.some h)
  refine iter_meas (fun s=>∃ i:Nat,s.2 = (i:Int)∧i≤x.kids.length∧1≤s.1∧s.1≤lim + 1∧(i:Int) + 1≤s.1∧(s.1≤lim→s.1 = 1 + (szs (x.kids.take i):Int))) (fun s=>(lim + 1 - s.1).toNat) _ (fun s hs=>?_) n _ (by simp; omega) ⟨0,rfl,by omega,by simp,by simp; omega,by simp,fun _=>by simp [szs]⟩
  obtain ⟨i,hi,hil,h2,h3,h4,h5⟩:=hs
  rw [hi]
  by_cases hc:i < x.kids.length∧s.1≤lim
  ·have c1:(decide ((i:Int) < (x.kids.length:Int)) && decide (s.1≤lim)) = true:=by simp; omega
   have hx:x.kids[i]? = some x.kids[i]:=List.getElem?_eq_getElem hc.1
   have e1:w64 (lim - s.1) = lim - s.1:=w64_id (by omega) (by omega)
   have e2:w64 (((D + 1:Nat):Int) - 1) = (D:Int):=by rw [w64_id (by omega) (by omega)]; omega
   obtain ⟨c,hcc,k1,k2,k3⟩:=ih x.kids[i] (lim - s.1) (by omega) (by omega) (by omega) n (by omega)
   have e3:w64 (s.1 + c) = s.1 + c:=w64_id (by omega) (by omega)
   rw [c1,idxL_some hx]
   simp only [cond_true,Option.bind_some,e1,e2,hcc,e3,w64_nat (k:=i) (by omega)]
   refine .inl ⟨_,rfl,⟨i + 1,rfl,by omega,by omega,by omega,by omega,fun h=>?_⟩,by simp; omega⟩
   have h6:=h5 hc.2
   have h7:=k3 (by simp at h; omega)
   have h8:=szs_take_succ hx
   simp only [] at h ⊢
   omega
  ·have c1:(decide ((i:Int) < (x.kids.length:Int)) && decide (s.1≤lim)) = false:=by simp; omega
   rw [c1]
   refine .inr ⟨_,rfl,by omega,by omega,fun h=>?_⟩
   have hil':i = x.kids.length:=by omega
   have h6:=h5 h
   rw [hil',List.take_length] at h6
   rw [sz_eq]
   omega
theorem F45_T (x:Node) {n:Nat} (hn:3000≤n):T (F45 n x 120) (fun b=>b = true→sz x≤120):=by
 unfold F45
 refine (F76_T 60 x 120 (by omega) (by omega) (by omega) n (by omega)).bind fun c hc=>T.some fun h=>?_
 have h':c≤120:=by simpa using h
 have:=hc.2.2 h'
 omega
mutual
def dp:Node→Nat
 | ⟨_,_,_,_,_,_,_,ks,_⟩=>1 + dps ks
def dps:List Node→Nat
 | []=>0
 | x :: r=>max (dp x) (dps r)
end
theorem dp_eq (x:Node):dp x = 1 + dps x.kids:=by cases x; rfl
theorem dps_le:∀ (l:List Node) (B:Nat),dps l≤B ↔ ∀ y ∈ l,dp y≤B
 | [],B=>by simp [dps]
 | x :: r,B=>by
  simp only [dps,List.mem_cons,forall_eq_or_imp,← dps_le r B]
  omega
theorem dp_pos (x:Node):1≤dp x:=by rw [dp_eq]; omega
theorem F96_T:∀ (m:Nat) (x:Node),sz x≤m→∀ (d c:Nat),c + sz x≤1500→d≤100→∀ n,2000 + sz x≤n →
  T (F96 n x (d:Int) (c:Int)) (fun r=>r.1 = decide (d + dp x≤41)∧(r.1 = true→r.2 = ((c + sz x:Nat):Int))):=by
 intro m
 induction m with
 | zero=>intro x hx; have:=sz_pos x; omega
 | succ m ih =>
  intro x hx d c hc hd n hn
  obtain ⟨n,rfl⟩:∃ k,n = k + 1:=⟨n - 1,by omega⟩
  have hsz:=sz_eq x
  have hdp:=dp_eq x
  have hlen:=szs_len x.kids
  have hpos:=sz_pos x
  show T (F96_step (F96 n) n x (d:Int) (c:Int)) _
  unfold F96_step
  have e1:w64 ((c:Int) + 1) = ((c + 1:Nat):Int):=w64_nat (by omega)
  have c0:decide ((1500:Int) < ((c + 1:Nat):Int)) = false:=by simp; omega
  rw [e1,c0]
  by_cases hd40:40 < d
  ·have c1:decide ((40:Int) < (d:Int)) = true:=by simp; omega
   rw [c1]
   refine T.some ⟨?_,fun h=>by simp at h⟩
   have:=dp_pos x
   simp
   omega
  ·have c1:decide ((40:Int) < (d:Int)) = false:=by simp; omega
   rw [c1]
   simp only [Bool.or_false,cond_false]
   refine T.bind (P:=fun r=>match r with | .inl _=>¬ (d + dp x≤41) | .inr v=>d + dp x≤41∧v = ((c + sz x:Nat):Int)) ?_ (fun r h=>by
    cases r with
    | inl v=>exact T.some ⟨by simpa using h,fun h=>by simp at h⟩
    | inr v=>exact T.some ⟨by simpa using h.1,fun _=>h.2⟩)
   refine iter_inv x.kids (fun (k:Nat) (a:Nat)=>((k:Int),(a:Int))) (fun k a=>a = c + 1 + szs (x.kids.take k)∧∀ y ∈ x.kids.take k,d + 1 + dp y≤41) _ (fun k a y hy ha=>?_) (fun a ha=>?_) n (c + 1) (by omega) ⟨by simp [szs],by simp⟩
   ·have hlt:=lt_of_get hy
    have hm:=List.mem_of_getElem? hy
    have hys:=szs_mem x.kids y hm
    have htk:=szs_take hy
    have c2:decide ((k:Int) < (x.kids.length:Int)) = true:=by simpa using hlt
    obtain ⟨r,hr,hr1,hr2⟩:=ih y (by omega) (d + 1) a (by omega) (by omega) n (by omega)
    simp only [c2,cond_true,idxL_some hy,Option.bind_some,w64_nat (k:=d) (by omega),hr,w64_nat (k:=k) (by omega)]
    cases hb:r.1
    ·right
     refine ⟨_,rfl,?_⟩
     rw [hb] at hr1
     have hr1':¬ (d + 1 + dp y≤41):=by
      have:=hr1.symm
      simpa using this
     have:dp y≤dps x.kids:=(dps_le x.kids (dps x.kids)).1 (Nat.le_refl _) y hm
     show ¬ (d + dp x≤41)
     omega
    ·left
     refine ⟨a + sz y,?_,?_,?_⟩
     ·simp only [Bool.not_true,cond_false]
      rw [hr2 hb]
     ·rw [szs_take_succ hy]; omega
     ·intro z hz
      rw [List.take_add_one,hy] at hz
      simp only [List.mem_append,Option.toList_some,List.mem_singleton] at hz
      rcases hz with hz | rfl
      ·exact ha.2 z hz
      ·rw [hb] at hr1
       simpa using hr1.symm
   ·have c2:decide ((x.kids.length:Int) < (x.kids.length:Int)) = false:=by simp
    simp only [c2,cond_false]
    refine ⟨_,rfl,?_,?_⟩
    ·have:dps x.kids≤40 - d:=(dps_le _ _).2 (fun y hy=>by have:=ha.2 y (by simpa using hy); omega)
     omega
    ·rw [ha.1]
     simp only [List.take_length]
     omega
theorem F59_eq (x:Node) (hs:sz x≤200) {n:Nat} (hn:3000≤n):F59 n x = some (decide (dp x≤40)):=by
 obtain ⟨r,hr,h1,_⟩:=F96_T (sz x) x (Nat.le_refl _) 1 0 (by omega) (by omega) n (by omega)
 unfold F59
 erw [hr]
 simp only [Option.bind_some,h1]
 congr 1
 rw [decide_eq_decide]
 omega
def validB (x:Node):Bool:=(x.kind == 62 || isE x.kind) && (decide (dp x≤40) && okT x)
theorem F28_eq {b:Nat} (hb:b≤9223372036854775807) (x:Node) (hlim:Lim b x) (hs:sz x≤200) {n:Nat} (hn:3000≤n):F28 n x = some (validB x):=by
 unfold F28 validB
 rw [F59_eq x hs hn,F62_eq,F64_eq hb (sz x) x (Nat.le_refl _) hlim n (by omega)]
 simp only [Option.bind_some]
 by_cases h:x.kind = 62
 ·have e:(x.kind != 62) = false:=by simp [h]
  have e2:(x.kind == 62) = true:=by simp [h]
  rw [e,e2]
  cases decide (dp x≤40) <;> rfl
 ·have e:(x.kind != 62) = true:=by simpa using h
  have e2:(x.kind == 62) = false:=nbeq h
  rw [e,e2]
  cases isE x.kind <;> cases decide (dp x≤40) <;> rfl
end Go.Proofs.YtbecjgckobhmpaaGreatDoor
end
section
namespace Go.Proofs.YtbecjgckobhmpaaGreatDoor
open Go Go.AM Go.Proofs
theorem F232_eq:F232 = some (keyNames.map bs):=by kernel_rfl
theorem keys_len:keyNames.length = 37:=by kernel_rfl
theorem F206_eq (s:ByteArray) {n:Nat} (hn:50≤n):F206 n s = some (keyNames.any (tl s == ·)):=by
 unfold F206
 rw [F232_eq]
 simp only [Option.bind_some]
 have hl:(keyNames.map bs).length = 37:=by rw [List.length_map,keys_len]
 rw [iter_all (keyNames.map bs) (fun x=>!(strEq x s)) (by omega) (fun k x hx=>by
  have hlt:=lt_of_get hx
  have c1:decide ((k:Int) < ((keyNames.map bs).length:Int)) = true:=by simpa using hlt
  rw [c1,idxL_some hx]
  simp only [cond_true,Option.bind_some]
  exact cond_not_if _ _ _) (by simp) (by omega)]
 have e:(keyNames.map bs).all (fun x=>!(strEq x s)) = !(keyNames.any (tl s == ·)):=by
  rw [List.all_map,List.not_any_eq_all_not]
  congr 1
  funext l
  simp only [Function.comp,strEq]
  congr 1
  exact Bool.eq_iff_iff.2 (by
   simp only [beq_iff_eq]
   exact eq_comm)
 rw [e]
 cases keyNames.any (tl s == ·) <;> rfl
theorem nameP2 (k:Nat) (b:UInt8):(!((!isLetI b.toNat) && (((k:Int) == 0) || (bif decide ((b.toNat:Int) < 48) then ((b.toNat:Int) != 95) else ((decide (57 < (b.toNat:Int))) && ((b.toNat:Int) != 95)))))) = nameP k b:=by
 unfold nameP
 congr 2
 congr 1
 generalize (b.toNat:Int) = z
 cases decide (z < 48) <;> cases z != 95 <;> cases decide (57 < z) <;> rfl
theorem F174_eq (s:ByteArray) (hs:(tl s).length≤9223372036854775807) {n:Nat} (hn:50≤n) (hl:(tl s).length < n):F174 n s = some (nameB (tl s)):=by
 unfold F174
 rw [iter_allI (tl s) nameP hs (fun k b hb=>by
  have hlt:=lt_of_get hb
  have c1:decide ((k:Int) < (s.size:Int)) = true:=by rw [size_tl]; simpa using hlt
  rw [c1,idxS_some hb]
  simp only [cond_true,Option.bind_some]
  rw [← nameP2]
  exact cond_not_if _ _ _) (by rw [size_tl]; simp) hl,allI_name]
 rw [F206_eq s hn,size_tl]
 cases hc:nameCs (tl s)
 ·simp [nameB,hc]
 ·simp only [if_true,Option.bind_some]
  have e:(decide (1≤((tl s).length:Int)) && decide (((tl s).length:Int)≤16)) = (decide (1≤(tl s).length) && decide ((tl s).length≤16)):=by
   congr 1
   ·rw [decide_eq_decide]; omega
   ·rw [decide_eq_decide]; omega
  rw [e]
  unfold nameB
  rw [hc]
  cases decide (1≤(tl s).length) <;> cases decide ((tl s).length≤16) <;> simp
theorem cutB_none:∀ (a:Bytes),46 ∉ a→cutB a = (a,none)
 | [],_=>rfl
 | b :: r,h=>by
  simp only [List.mem_cons,not_or] at h
  have hb:(b == 46) = false:=by
   cases hbb:b == 46
   ·rfl
   ·exact absurd (by simpa using hbb:b = 46).symm h.1
  simp [cutB,hb,cutB_none r h.2]
theorem cutB_dot:∀ (a r:Bytes),46 ∉ a→cutB (a ++ 46 :: r) = (a,some r)
 | [],r,_=>by simp [cutB]
 | b :: a,r,h=>by
  simp only [List.mem_cons,not_or] at h
  have hb:(b == 46) = false:=by
   cases hbb:b == 46
   ·rfl
   ·exact absurd (by simpa using hbb:b = 46).symm h.1
  simp [cutB,hb,cutB_dot a r h.2]
theorem pathN_succ:∀ (k:Nat) (s:Bytes),pathN k s = true→pathN (k + 1) s = true
 | 0,s,h=>by simp [pathN] at h
 | k + 1,s,h=>by
  rw [pathN,Bool.and_eq_true] at h ⊢
  refine ⟨h.1,?_⟩
  have h2:=h.2
  cases hc:(cutB s).2 with
  | none=>rfl
  | some r =>
   rw [hc] at h2
   exact pathN_succ k r h2
theorem pathN_le {k j:Nat} (h:k≤j) {s:Bytes} (hs:pathN k s = true):pathN j s = true:=by
 induction h with
 | refl=>exact hs
 | step _ ih=>exact pathN_succ _ _ ih
theorem F205_T (s:ByteArray) (hs:(tl s).length≤9223372036854775807) {n:Nat} (hn:50≤n) (hl:(tl s).length < n):T (F205 n s) (fun b=>b = true→pathB (tl s) = true):=by
 unfold F205
 refine T.bind (P:=fun r=>match r with
  | .inl _=>True
  | .inr v=>∃ (c f:Nat),v = ((c:Int),(f:Int))∧f≤(tl s).length∧1≤c∧46 ∉ (tl s).drop f∧∀ j,pathN j ((tl s).drop f) = true→pathN (j + (c - 1)) (tl s) = true) ?_ (fun r h=>by
  cases r with
  | inl _=>exact T.some (fun h=>by cases h)
  | inr v =>
   obtain ⟨c,f,rfl,hf,hc,hd,hp⟩:=h
   refine T.cond (fun h3=>?_) (fun _=>T.some (fun h=>by cases h))
   have h3':c≤3:=by simp at h3; omega
   rw [size_tl,subS_eq hf (by omega)]
   simp only [Option.bind_some]
   have e:((tl s).drop f).take ((tl s).length - f) = (tl s).drop f:=List.take_of_length_le (by simp)
   rw [e,F174_eq _ (by rw [tl_bs]; simp; omega) hn (by rw [tl_bs]; simp; omega)]
   refine T.some (fun hb=>?_)
   rw [tl_bs] at hb
   have h1:pathN 1 ((tl s).drop f) = true:=by
    simp only [pathN]
    rw [cutB_none _ hd]
    simpa using hb
   exact pathN_le (show 1 + (c - 1)≤3 by omega) (hp 1 h1))
 refine iter_inv (tl s) (fun (k:Nat) (a:Nat × Nat)=>((a.1:Int),(a.2:Int),(k:Int))) (fun k a=>a.2≤k∧1≤a.1∧2 * a.1≤a.2 + 2∧46 ∉ ((tl s).take k).drop a.2∧∀ j,pathN j ((tl s).drop a.2) = true→pathN (j + (a.1 - 1)) (tl s) = true) _
  (fun k a b hb ha=>?_) (fun a ha=>?_) n (1,0) hl ⟨by simp,by simp,by simp,by simp,fun j h=>by simpa using h⟩
 ·have hlt:=lt_of_get hb
  have c1:decide ((k:Int) < (s.size:Int)) = true:=by rw [size_tl]; simpa using hlt
  have hi:idxS s (k:Int) = some (b.toNat:Int):=idxS_some hb
  have ht2:(tl s).take (k + 1) = (tl s).take k ++ [b]:=by rw [List.take_add_one,hb]; rfl
  have hlen:((tl s).take k).length = k:=by simp; omega
  have e1:w64 ((k:Int) + 1) = ((k + 1:Nat):Int):=w64_nat (by omega)
  have e2:w64 ((a.1:Int) + 1) = ((a.1 + 1:Nat):Int):=w64_nat (by omega)
  simp only [c1,cond_true,hi,Option.bind_some,e1,e2]
  by_cases h46:b = 46
  ·subst h46
   have c2:((((46:UInt8).toNat:Nat):Int) != 46) = false:=rfl
   rw [c2]
   simp only [cond_false]
   rw [subS_eq ha.1 (by omega)]
   simp only [Option.bind_some]
   rw [F174_eq _ (by rw [tl_bs]; simp; omega) hn (by rw [tl_bs]; simp; omega)]
   simp only [Option.bind_some,tl_bs]
   cases hnm:nameB (((tl s).drop a.2).take (k - a.2))
   ·exact .inr ⟨_,rfl,trivial⟩
   ·left
    have hnl:=(nameB_len hnm).1
    simp only [List.length_take,List.length_drop] at hnl
    refine ⟨(a.1 + 1,k + 1),rfl,by simp,by simp,by simp; omega,?_,fun j hj=>?_⟩
    ·rw [List.drop_eq_nil_of_le (by simp; omega)]
     simp
    ·have hcut:(tl s).drop a.2 = ((tl s).drop a.2).take (k - a.2) ++ 46 :: (tl s).drop (k + 1):=by
      have hx:(tl s)[k] = 46:=by
       have:=List.getElem?_eq_getElem hlt
       rw [hb] at this
       exact (Option.some.inj this).symm
      conv=>lhs; rw [← List.take_append_drop (k - a.2) ((tl s).drop a.2)]
      congr 1
      rw [List.drop_drop,show a.2 + (k - a.2) = k by omega,← List.getElem_cons_drop hlt,hx]
     have hno:46 ∉ ((tl s).drop a.2).take (k - a.2):=by
      have:=ha.2.2.2.1
      rwa [List.drop_take] at this
     have h5:pathN (j + 1) ((tl s).drop a.2) = true:=by
      rw [hcut]
      simp only [pathN]
      rw [cutB_dot _ _ hno]
      simp only [hnm,Bool.true_and]
      exact hj
     have h6:=ha.2.2.2.2 (j + 1) h5
     have h7:j + 1 + (a.1 - 1) = j + (a.1 + 1 - 1):=by omega
     rw [h7] at h6
     exact h6
  ·have c2:(((b.toNat:Nat):Int) != 46) = true:=by
    have:¬ ((b.toNat:Nat):Int) = 46:=by
     intro e
     apply h46
     apply UInt8.toNat.inj
     simp
     omega
    simpa using this
   rw [c2]
   simp only [cond_true]
   left
   refine ⟨(a.1,a.2),rfl,by simp; omega,by simp; omega,by simp; omega,?_,ha.2.2.2.2⟩
   rw [ht2,List.drop_append_of_le_length (by omega)]
   simp only [List.mem_append,List.mem_singleton,not_or]
   exact ⟨ha.2.2.2.1,fun e=>h46 e.symm⟩
 ·have c1:decide (((tl s).length:Int) < (s.size:Int)) = false:=by rw [size_tl]; simp
  simp only [c1,cond_false]
  have h4:=ha.2.2.2.1
  simp only [List.take_length] at h4
  exact ⟨_,rfl,a.1,a.2,rfl,ha.1,ha.2.1,h4,ha.2.2.2.2⟩
theorem F170_T (l:Bytes) (c:Int) (hl:l.length≤100) {n:Nat} (hn:200≤n):T (F170 n (bs l) c) (fun b=>b = true→∃ u ∈ l,((u.toNat:Nat):Int) = c):=by
 unfold F170
 refine T.bind (P:=fun r=>match r with | .inl _=>∃ u ∈ l,((u.toNat:Nat):Int) = c | .inr _=>True) ?_ (fun r h=>by
  cases r with
  | inl _=>exact T.some (fun _=>h)
  | inr _=>exact T.some (fun h=>by cases h))
 refine iter_inv l (fun (k:Nat) (_:Unit)=>(k:Int)) (fun _ _=>True) _ (fun k _ b hb _=>?_) (fun _ _=>?_) n () (by omega) trivial
 ·have hlt:=lt_of_get hb
  have c1:decide ((k:Int) < ((bs l).size:Int)) = true:=by rw [size_bs]; simpa using hlt
  have hi:idxS (bs l) (k:Int) = some (b.toNat:Int):=idxS_some hb
  simp only [c1,cond_true,hi,Option.bind_some,w64_nat (k:=k) (by omega)]
  cases hc:((b.toNat:Nat):Int) == c
  ·exact .inl ⟨(),rfl,trivial⟩
  ·exact .inr ⟨_,rfl,b,List.mem_of_getElem? hb,by simpa using hc⟩
 ·have c1:decide ((l.length:Int) < ((bs l).size:Int)) = false:=by rw [size_bs]; simp
  simp only [c1,cond_false]
  exact ⟨_,rfl,trivial⟩
structure Only (l:Bytes) (x:Node):Prop where
 nm:(∃ u ∈ l,((u.toNat:Nat):Int) = 110)∨strEq x.name (bs []) = true
 ot:(∃ u ∈ l,((u.toNat:Nat):Int) = 111)∨strEq x.other (bs []) = true
 gh:(∃ u ∈ l,((u.toNat:Nat):Int) = 103)∨x.ghost = false
 nn:(∃ u ∈ l,((u.toNat:Nat):Int) = 35)∨x.n = 0
 ln:(∃ u ∈ l,((u.toNat:Nat):Int) = 108)∨x.len = 0
 it:(∃ u ∈ l,((u.toNat:Nat):Int) = 105)∨x.init = 0
 r1:inR x.n = true
 r2:inR x.len = true
 r3:inR x.init = true
theorem F104_T (x:Node) (l:Bytes) (hl:l.length≤100) {n:Nat} (hn:200≤n):T (F104 n x (bs l)) (fun b=>b = true→Only l x):=by
 have no:∀ {P:Prop},(false = true→P):=fun h=>by cases h
 unfold F104
 refine (F170_T l 110 hl hn).bind fun v1 h1=>T.cond (fun _=>T.some no) (fun c1=>?_)
 refine (F170_T l 111 hl hn).bind fun v2 h2=>T.cond (fun _=>T.some no) (fun c2=>?_)
 refine (F170_T l 103 hl hn).bind fun v3 h3=>T.cond (fun _=>T.some no) (fun c3=>?_)
 refine (F170_T l 35 hl hn).bind fun v4 h4=>T.cond (fun _=>T.some no) (fun c4=>?_)
 refine (F170_T l 108 hl hn).bind fun v5 h5=>T.cond (fun _=>T.some no) (fun c5=>?_)
 refine (F170_T l 105 hl hn).bind fun v6 h6=>T.cond (fun _=>T.some no) (fun c6=>?_)
 have e:∀ i,F171 i = some (inR i):=fun _=>rfl
 simp only [e,Option.bind_some]
 refine T.cond (fun r1=>T.cond (fun r2=>T.some fun r3=>?_) (fun _=>T.some no)) (fun _=>T.some no)
 refine ⟨?_,?_,?_,?_,?_,?_,r1,r2,r3⟩
 ·cases v1
  ·right; simpa using c1
  ·exact .inl (h1 rfl)
 ·cases v2
  ·right; simpa using c2
  ·exact .inl (h2 rfl)
 ·cases v3
  ·right; simpa using c3
  ·exact .inl (h3 rfl)
 ·cases v4
  ·right; simpa using c4
  ·exact .inl (h4 rfl)
 ·cases v5
  ·right; simpa using c5
  ·exact .inl (h5 rfl)
 ·cases v6
  ·right; simpa using c6
  ·exact .inl (h6 rfl)
end Go.Proofs.YtbecjgckobhmpaaGreatDoor
end
section
namespace Go.Proofs.YtbecjgckobhmpaaGreatDoor
open Go Go.AM Go.Proofs
def Cls (c:Int) (y:Node):Prop :=
 if c = 1 then okT y = true∧isStmt y.kind = true
 else if c = 2 then okT y = true∧y.kind = 52
 else if c = 3 then okT y = true∧y.kind = 58
 else if c = 4 then okT y = true∧isDecl y.kind = true
 else if c = 5 then okT y = true∧isItm y.kind = true
 else if c = 6 then okT y = true∧y.kind = 1
 else if c = 7 then okT y = true∧y.kind = 2∧y.kids = []
 else okE y
structure Cl (n:Nat) (x:Node):Prop where
 e:T (F106 n x) (fun b=>b = true→okE x)
 r:T (F173 n x) (fun b=>b = true→okT x = true∧x.kind = 2)
 s:T (F202 n x) (fun b=>b = true→okT x = true∧isStmt x.kind = true)
 b:T (F231 n x) (fun b=>b = true→okT x = true∧x.kind = 34)
 d:T (F203 n x) (fun b=>b = true→okT x = true∧isDecl x.kind = true)
 i:T (F204 n x) (fun b=>b = true→okT x = true∧isItm x.kind = true)
theorem okT_mk {x:Node} (hf:fieldsB x = true) (hk:kidsB x = true) (h:∀ y ∈ x.kids,okT y = true):okT x = true:=by
 rw [okT_eq,hf,hk]
 simpa using h
theorem no {P:Prop}:(false = true→P):=fun h=>by cases h
theorem fields_of {l:Bytes} {x:Node} (o:Only l x) (hg:fldGood x = true) (a1:(∃ u ∈ l,((u.toNat:Nat):Int) = 110)→hasName x.kind = true) (a2:(∃ u ∈ l,((u.toNat:Nat):Int) = 111)→hasOther x.kind = true)
  (a3:(∃ u ∈ l,((u.toNat:Nat):Int) = 35)→hasN x.kind = true) (a4:(∃ u ∈ l,((u.toNat:Nat):Int) = 108)→(x.kind == 50) = true) (a5:(∃ u ∈ l,((u.toNat:Nat):Int) = 105)→(x.kind == 50) = true)
  (a6:(∃ u ∈ l,((u.toNat:Nat):Int) = 103)→(x.kind == 50 || x.kind == 35) = true):fieldsB x = true:=by
 unfold fieldsB
 rw [hg]
 simp only [Bool.true_and,Bool.and_eq_true,Bool.or_eq_true]
 refine ⟨o.nm.imp a1 id,o.ot.imp a2 id,o.nn.imp a3 (fun h=>by simpa using h),o.ln.imp a4 (fun h=>by simpa using h),o.it.imp a5 (fun h=>by simpa using h),?_⟩
 rcases o.gh with h | h
 ·have:=a6 h
  simp only [Bool.or_eq_true] at this
  exact .inl this
 ·exact .inr (by simpa using h)
theorem kids0 {x:Node} (h:((x.kids.length:Int) == 0) = true):x.kids = []:=by
 rw [len0] at h
 simpa using h
theorem lenb {l:List Node} {k:Nat} (h:((l.length:Int) == (k:Int)) = true):l.length = k:=by
 simp at h
 omega
theorem list1 {l:List Node} (h:((l.length:Int) == 1) = true):∃ a,l = [a]:=by
 have:=lenb (k:=1) h
 match l,this with
 | [a],_=>exact ⟨a,rfl⟩
theorem list2 {l:List Node} (h:((l.length:Int) == 2) = true):∃ a b,l = [a,b]:=by
 have:=lenb (k:=2) h
 match l,this with
 | [a,b],_=>exact ⟨a,b,rfl⟩
theorem list3 {l:List Node} (h:((l.length:Int) == 3) = true):∃ a b c,l = [a,b,c]:=by
 have:=lenb (k:=3) h
 match l,this with
 | [a,b,c],_=>exact ⟨a,b,c,rfl⟩
theorem leaf_ok {x:Node} (hl:leafK x.kind = true) (hf:fieldsB x = true) (h0:x.kids = []):okT x = true :=
 okT_mk hf (by simp [kidsB,hl,h0]) (by simp [h0])
def Nm (N:Nat) (x:Node):Prop:=(tl x.name).length≤N∧(tl x.other).length≤N
theorem F174k {N n:Nat} (hN:N≤9223372036854775807) (hn:N + 300≤n) {s:ByteArray} (h:(tl s).length≤N):F174 n s = some (nameB (tl s)):=F174_eq s (by omega) (by omega) (by omega)
theorem F205k {N n:Nat} (hN:N≤9223372036854775807) (hn:N + 300≤n) {s:ByteArray} (h:(tl s).length≤N):T (F205 n s) (fun b=>b = true→pathB (tl s) = true):=F205_T s (by omega) (by omega) (by omega)
theorem F230_T {n:Nat} (hn:300≤n) (x:Node):T (F230 n x) (fun b=>b = true→okT x = true∧x.kind = 63):=by
 unfold F230
 refine T.cond (fun h=>?_) (fun _=>T.some no)
 have h:x.kind = 63:=by simpa using h
 refine (F104_T x [] (by simp) (by omega)).bind fun v o=>T.cond (fun hv=>T.some fun h0=>?_) (fun _=>T.some no)
 exact ⟨leaf_ok (by simp [leafK,h]) (fields_of (o hv) (by simp [fldGood,h]) (by simp) (by simp) (by simp) (by simp) (by simp) (by simp)) (kids0 h0),h⟩
theorem F172_T {N n:Nat} (hN:N≤9223372036854775807) (hn:N + 300≤n) {y:Node} (hy:Nm N y) (c:Int) (k:Cl n y):T (F172 (n + 1) c y) (fun b=>b = true→Cls c y):=by
 show T (F172_step (F204 n) (F203 n) (F229 n) (F231 n) (F202 n) (F173 n) (F106 n) (F172 n) (F105 n) n c y) _
 unfold F172_step
 refine T.cond (fun h=>k.s.bind fun b hb=>T.some ?_) (fun h1=>?_)
 ·have:c = 1:=by simpa using h
  simpa [Cls,this] using hb
 have h1:¬ c = 1:=by simpa using h1
 refine T.cond (fun h=>?_) (fun h2=>?_)
 ·have hc:c = 2:=by simpa using h
  refine T.cond (fun h=>?_) (fun _=>T.some no)
  have h:y.kind = 52:=by simpa using h
  refine (F104_T y [110,35] (by simp) (by omega)).bind fun v o=>T.cond (fun hv=>?_) (fun _=>T.some no)
  rw [F174k hN hn hy.1]
  simp only [Option.bind_some]
  refine T.cond (fun hnm=>T.some fun h0=>?_) (fun _=>T.some no)
  have o:=o hv
  simp only [Cls,hc]
  exact ⟨leaf_ok (by simp [leafK,h]) (fields_of o (by simp [fldGood,h,hnm,o.r1]) (by simp [h,hasName]) (by simp) (by simp [h,hasN]) (by simp) (by simp) (by simp)) (kids0 h0),h⟩
 have h2:¬ c = 2:=by simpa using h2
 refine T.cond (fun h=>?_) (fun h3=>?_)
 ·have hc:c = 3:=by simpa using h
  refine T.cond (fun h=>?_) (fun _=>T.some no)
  have h:y.kind = 58:=by simpa using h
  refine (F104_T y [110,35] (by simp) (by omega)).bind fun v o=>T.cond (fun hv=>?_) (fun _=>T.some no)
  rw [F174k hN hn hy.1]
  simp only [Option.bind_some]
  refine T.cond (fun hnm=>T.some fun h0=>?_) (fun _=>T.some no)
  have o:=o hv
  simp only [Cls,hc]
  exact ⟨leaf_ok (by simp [leafK,h]) (fields_of o (by simp [fldGood,h,hnm,o.r1]) (by simp [h,hasName]) (by simp) (by simp [h,hasN]) (by simp) (by simp) (by simp)) (kids0 h0),h⟩
 have h3:¬ c = 3:=by simpa using h3
 refine T.cond (fun h=>k.d.bind fun b hb=>T.some ?_) (fun h4=>?_)
 ·have:c = 4:=by simpa using h
  simpa [Cls,this] using hb
 have h4:¬ c = 4:=by simpa using h4
 refine T.cond (fun h=>k.i.bind fun b hb=>T.some ?_) (fun h5=>?_)
 ·have:c = 5:=by simpa using h
  simpa [Cls,this] using hb
 have h5:¬ c = 5:=by simpa using h5
 refine T.cond (fun h=>?_) (fun h6=>?_)
 ·have hc:c = 6:=by simpa using h
  refine T.cond (fun h=>k.e.bind fun b hb=>T.some fun hb'=>?_) (fun _=>T.some no)
  have h:y.kind = 1:=by simpa using h
  simp only [Cls,hc]
  exact ⟨(hb hb').1,h⟩
 have h6:¬ c = 6:=by simpa using h6
 refine T.cond (fun h=>?_) (fun h7=>?_)
 ·have hc:c = 7:=by simpa using h
  refine k.r.bind fun b hb=>T.cond (fun hb'=>T.some fun h0=>?_) (fun _=>T.some no)
  simp only [Cls,hc]
  exact ⟨(hb hb').1,(hb hb').2,kids0 h0⟩
 have h7:¬ c = 7:=by simpa using h7
 refine k.e.bind fun b hb=>T.some fun hb'=>?_
 simp only [Cls,h1,h2,h3,h4,h5,h6,h7,if_false]
 exact hb hb'
theorem F105_T {N n:Nat} (hN:N≤9223372036854775807) (hn:N + 300≤n) (x:Node) (c:Int) (hk:∀ y ∈ x.kids,Nm N y∧Cl n y) (hl:x.kids.length≤200) :
  T (F105 (n + 2) x c) (fun b=>b = true→∀ y ∈ x.kids,Cls c y):=by
 show T (F105_step (F204 (n + 1)) (F203 (n + 1)) (F229 (n + 1)) (F231 (n + 1)) (F202 (n + 1)) (F173 (n + 1)) (F106 (n + 1)) (F172 (n + 1)) (F105 (n + 1)) (n + 1) x c) _
 unfold F105_step
 refine T.bind (P:=fun r=>match r with | .inl _=>True | .inr _=>∀ y ∈ x.kids,Cls c y) ?_ (fun r h=>by
  cases r with
  | inl _=>exact T.some no
  | inr _=>exact T.some (fun _=>h))
 refine iter_inv x.kids (fun (k:Nat) (_:Unit)=>(k:Int)) (fun k _=>∀ y ∈ x.kids.take k,Cls c y) _ (fun k _ y hy ih=>?_) (fun _ ih=>?_) (n + 1) () (by omega) (by simp)
 ·have hlt:=lt_of_get hy
  have c1:decide ((k:Int) < (x.kids.length:Int)) = true:=by simpa using hlt
  obtain ⟨h1,h2⟩:=hk y (List.mem_of_getElem? hy)
  obtain ⟨v,hv,hq⟩:=F172_T hN hn h1 c h2
  simp only [c1,cond_true,idxL_some hy,Option.bind_some,hv,w64_nat (k:=k) (by omega)]
  cases v
  ·exact .inr ⟨_,rfl,trivial⟩
  ·refine .inl ⟨(),rfl,fun z hz=>?_⟩
   rw [List.take_add_one,hy] at hz
   simp only [List.mem_append,Option.toList_some,List.mem_singleton] at hz
   rcases hz with hz | rfl
   ·exact ih z hz
   ·exact hq rfl
 ·have c1:decide ((x.kids.length:Int) < (x.kids.length:Int)) = false:=by simp
  simp only [c1,cond_false]
  refine ⟨_,rfl,?_⟩
  simpa using ih
theorem allI_snoc {α:Type} (p:Nat→α→Bool):∀ (l:List α) (k:Nat) (x:α),allI p k (l ++ [x]) = (allI p k l && p (k + l.length) x)
 | [],k,x=>by simp [allI]
 | y :: r,k,x=>by
  simp only [List.cons_append,allI,allI_snoc p r (k + 1) x,List.length_cons,Bool.and_assoc]
  rw [show k + 1 + r.length = k + (r.length + 1) by omega]
theorem allI_and {α:Type} (p q:Nat→α→Bool):∀ (l:List α) (k:Nat),allI (fun j y=>p j y && q j y) k l = (allI p k l && allI q k l)
 | [],_=>rfl
 | x :: r,k=>by
  simp only [allI,allI_and p q r (k + 1)]
  cases p k x <;> cases q k x <;> simp
theorem allI_const {α:Type} (q:α→Bool):∀ (l:List α) (k:Nat),allI (fun _ y=>q y) k l = l.all q
 | [],_=>rfl
 | x :: r,k=>by simp only [allI,List.all_cons,allI_const q r (k + 1)]
theorem F229_T {n:Nat} (x:Node) (f:Nat) (hf:f≤x.kids.length) (hk:∀ y ∈ x.kids,Cl n y) (hl:x.kids.length≤200) (hn:300≤n) :
  T (F229 (n + 1) x (f:Int)) (fun b=>b = true→pairsB (x.kids.drop f) = true∧∀ y ∈ x.kids.drop f,okT y = true):=by
 show T (F229_step (F204 n) (F203 n) (F229 n) (F231 n) (F202 n) (F173 n) (F106 n) (F172 n) (F105 n) n x (f:Int)) _
 unfold F229_step
 refine T.bind (P:=fun r=>match r with | .inl _=>True | .inr _=>allI (fun j y=>prP j y && okT y) 0 (x.kids.drop f) = true) ?_ (fun r h=>by
  cases r with
  | inl _=>exact T.some no
  | inr _ =>
   refine T.some (fun hb=>?_)
   rw [allI_and,Bool.and_eq_true,allI_const] at h
   have hb':(x.kids.drop f).length % 2 = 0:=by
    rw [w64_id (by omega) (by omega)] at hb
    have e:((x.kids.length:Int) - (f:Int)) = ((x.kids.length - f:Nat):Int):=by omega
    rw [e] at hb
    have e2:Int.tmod ((x.kids.length - f:Nat):Int) 2 = (((x.kids.length - f) % 2:Nat):Int):=(Int.ofNat_tmod _ 2).symm
    rw [e2] at hb
    simp only [beq_iff_eq] at hb
    rw [List.length_drop]
    omega
   refine ⟨?_,List.all_eq_true.1 h.2⟩
   rw [← pairs_all _ 0 rfl,h.1,hb']
   rfl)
 have hst:((f:Int)) = ((f + 0:Nat):Int):=rfl
 have key:=iter_inv (ρ:=Unit ⊕ Unit) (step:=fun s1:Int=>bif decide (s1 < (x.kids.length:Int)) then
   (bif (Int.tmod (w64 (s1 - (f:Int))) 2) == 0 then
    ((idxL x.kids s1).bind fun x4 =>
    (F173 n x4).bind fun x5 =>
    bif !x5 then
     (some (.inr (.inl ())))
    else
     (bif (Int.tmod (w64 (s1 - (f:Int))) 2) == 1 then
      ((idxL x.kids s1).bind fun x8 =>
      (F106 n x8).bind fun x9 =>
      bif !x9 then
       (some (.inr (.inl ())))
      else
       (some (.inl (w64 (s1 + 1)))))
     else
      (some (.inl (w64 (s1 + 1))))))
   else
    (bif (Int.tmod (w64 (s1 - (f:Int))) 2) == 1 then
     ((idxL x.kids s1).bind fun x11 =>
     (F106 n x11).bind fun x12 =>
     bif !x12 then
      (some (.inr (.inl ())))
     else
      (some (.inl (w64 (s1 + 1)))))
    else
     (some (.inl (w64 (s1 + 1))))))
  else
   (some (.inr (.inr ())))) (x.kids.drop f) (fun (k:Nat) (_:Unit)=>((f + k:Nat):Int)) (fun k _=>allI (fun j y=>prP j y && okT y) 0 ((x.kids.drop f).take k) = true)
  (fun r=>match r with | .inl _=>True | .inr _=>allI (fun j y=>prP j y && okT y) 0 (x.kids.drop f) = true)
  (fun k _ y hy ih=>by
   have hy':x.kids[f + k]? = some y:=by simpa using hy
   have hlt:=lt_of_get hy'
   have hltk:=lt_of_get hy
   have c1:decide (((f + k:Nat):Int) < (x.kids.length:Int)) = true:=decide_eq_true (by omega)
   have K:=hk y (List.mem_of_getElem? hy')
   have e1:w64 (((f + k:Nat):Int) - (f:Int)) = (k:Int):=by rw [w64_id (by omega) (by omega)]; omega
   have e2:Int.tmod (k:Int) 2 = ((k % 2:Nat):Int):=(Int.ofNat_tmod k 2).symm
   have e3:w64 (((f + k:Nat):Int) + 1) = ((f + (k + 1):Nat):Int):=w64_nat (by omega)
   have snoc:prP k y = true→okT y = true→allI (fun j y=>prP j y && okT y) 0 ((x.kids.drop f).take (k + 1)) = true:=fun h1 h2=>by
    rw [List.take_add_one,hy]
    show allI _ 0 (_ ++ [y]) = true
    rw [allI_snoc,ih]
    have:((x.kids.drop f).take k).length = k:=by
     rw [List.length_take]
     omega
    simp [this,h1,h2]
   simp only [c1,cond_true,e1,e2,idxL_some hy',Option.bind_some,e3]
   rcases Nat.mod_two_eq_zero_or_one k with h0 | h1
   ·rw [h0]
    obtain ⟨v,hv,hq⟩:=K.r
    simp only [hv,Option.bind_some]
    cases v
    ·exact .inr ⟨_,rfl,trivial⟩
    ·exact .inl ⟨(),rfl,snoc (by simp [prP,(hq rfl).2,isE]) (hq rfl).1⟩
   ·rw [h1]
    obtain ⟨v,hv,hq⟩:=K.e
    simp only [hv,Option.bind_some]
    cases v
    ·exact .inr ⟨_,rfl,trivial⟩
    ·exact .inl ⟨(),rfl,snoc (by simp [prP,h1,(hq rfl).2]) (hq rfl).1⟩)
  (fun _ ih=>by
   have c1:decide (((f + (x.kids.drop f).length:Nat):Int) < (x.kids.length:Int)) = false:=by simp; omega
   simp only [c1,cond_false]
   rw [List.take_length] at ih
   exact ⟨_,rfl,ih⟩) n () (by simp; omega) (by simp [allI])
 exact key
end Go.Proofs.YtbecjgckobhmpaaGreatDoor
end
section
namespace Go.Proofs.YtbecjgckobhmpaaGreatDoor
open Go Go.AM Go.Proofs
theorem levels_ok:(F73.getD []).all (fun l=>l.all (fun e=>levelI e != 0)) = true:=by kernel_rfl
theorem strEq_eq {a b:ByteArray} (h:strEq a b = true):a = b:=by
 have h':tl a = tl b:=by simpa [strEq,tl] using h
 have:=congrArg bs h'
 rwa [bs_tl,bs_tl] at this
theorem op_T {n:Nat} (hn:300≤n) (s:ByteArray) (x15:List (List ByteArray)) (h15:F73 = some x15) :
  T (iter (σ:=Bool × Int) (ρ:=Bool) (fun s16=>bif decide (s16.2 < (x15.length:Int)) then
        ((iter (σ:=Bool × Int) (ρ:=Bool) (fun s18=>(idxL x15 s16.2).bind fun x19 =>
         bif decide (s18.2 < (x19.length:Int)) then
          (bif s18.1 then
           (some (.inl (true,w64 (s18.2 + 1))))
          else
           ((idxL x15 s16.2).bind fun x22 =>
           (idxL x22 s18.2).bind fun x23 =>
           some (.inl ((strEq x23 s),w64 (s18.2 + 1)))))
         else
          (some (.inr s18.1))) n (s16.1,(0:Int))).bind fun r24 =>
        some (.inl (r24,w64 (s16.2 + 1))))
       else
        (some (.inr s16.1))) n ((strEq s (bs [61,61,62])),(0:Int))) (fun b=>b = true→levelI s≠0):=by
 have hall:∀ l ∈ x15,∀ e ∈ l,strEq e s = true→levelI s≠0:=by
  intro l hl e he h
  have h1:=levels_ok
  rw [h15] at h1
  have h2:=List.all_eq_true.1 (List.all_eq_true.1 h1 l hl) e he
  rw [← strEq_eq h]
  simpa using h2
 have hl8:x15.length = 8:=by
  have:(F73.getD []).length = 8:=by kernel_rfl
  rw [h15] at this
  exact this
 have hl4:∀ l ∈ x15,l.length≤4:=by
  have:(F73.getD []).all (fun l=>decide (l.length≤4)) = true:=by kernel_rfl
  rw [h15] at this
  intro l hl
  simpa using List.all_eq_true.1 this l hl
 refine iter_inv x15 (fun (k:Nat) (a:Bool)=>(a,(k:Int))) (fun _ a=>a = true→levelI s≠0) _ (fun k a l hl ih=>?_) (fun a ih=>?_) n _ (by omega) ?_
 ·have hlt:=lt_of_get hl
  have hm:=List.mem_of_getElem? hl
  have c1:decide ((k:Int) < (x15.length:Int)) = true:=by simpa using hlt
  have t:=iter_inv (ρ:=Bool) (step:=fun s18:Bool × Int=>(idxL x15 (k:Int)).bind fun x19 =>
         bif decide (s18.2 < (x19.length:Int)) then
          (bif s18.1 then
           (some (.inl (true,w64 (s18.2 + 1))))
          else
           ((idxL x15 (k:Int)).bind fun x22 =>
           (idxL x22 s18.2).bind fun x23 =>
           some (.inl ((strEq x23 s),w64 (s18.2 + 1)))))
         else
          (some (.inr s18.1))) l (fun (j:Nat) (a:Bool)=>(a,(j:Int))) (fun _ a=>a = true→levelI s≠0) (fun a=>a = true→levelI s≠0)
   (fun j a e he ih2=>by
    have hlt2:=lt_of_get he
    have hll:=hl4 l hm
    have c2:decide ((j:Int) < (l.length:Int)) = true:=by simpa using hlt2
    simp only [idxL_some hl,Option.bind_some,c2,cond_true,idxL_some he,w64_nat (k:=j) (by omega)]
    left
    cases a
    ·exact ⟨strEq e s,rfl,fun h=>hall l hm e (List.mem_of_getElem? he) h⟩
    ·exact ⟨true,rfl,ih2⟩)
   (fun a ih2=>⟨a,by
    have c2:decide ((l.length:Int) < (l.length:Int)) = false:=by simp
    simp only [idxL_some hl,Option.bind_some,c2,cond_false],ih2⟩) n a (by have:=hl4 l hm; omega) ih
  obtain ⟨r,hr,hq⟩:=t
  left
  refine ⟨r,?_,hq⟩
  simp only [c1,cond_true,w64_nat (k:=k) (by omega)]
  refine Eq.trans (congrArg (fun z=>Option.bind z _) hr) rfl
 ·have c1:decide ((x15.length:Int) < (x15.length:Int)) = false:=by simp
  simp only [c1,cond_false]
  exact ⟨_,rfl,ih⟩
 ·intro h
  have:=strEq_eq h
  rw [this]
  have e:levelI (bs [61,61,62]) = 2:=by kernel_rfl
  rw [e]
  decide
variable {N:Nat} {x:Node}
theorem and_t {a b:Bool} (h:(a && b) = true):a = true∧b = true:=by simpa using h
structure Kids (N M:Nat) (x:Node):Prop where
 hN:N≤9223372036854775807
 hM:N + 300≤M
 nm:Nm N x
 len:x.kids.length≤200
 kids:∀ y ∈ x.kids,Nm N y∧∀ n,M≤n→Cl n y
theorem Kids.all {M:Nat} (K:Kids N M x) {n:Nat} (hn:M≤n) (c:Int):T (F105 (n + 2) x c) (fun b=>b = true→∀ y ∈ x.kids,Cls c y) :=
 F105_T K.hN (by have:=K.hM; omega) x c (fun y hy=>⟨(K.kids y hy).1,(K.kids y hy).2 n hn⟩) K.len
theorem ref_T {M:Nat} (K:Kids N M x) {n:Nat} (hn:M + 3≤n):T (F173 n x) (fun b=>b = true→okT x = true∧x.kind = 2):=by
 obtain ⟨n,rfl⟩:∃ k,n = k + 3:=⟨n - 3,by omega⟩
 have hM:=K.hM
 show T (F173_step (F204 (n + 2)) (F203 (n + 2)) (F229 (n + 2)) (F231 (n + 2)) (F202 (n + 2)) (F173 (n + 2)) (F106 (n + 2)) (F172 (n + 2)) (F105 (n + 2)) (n + 2) x) _
 unfold F173_step
 refine T.cond (fun h=>?_) (fun _=>T.some no)
 have h:x.kind = 2:=by simpa using h
 refine (F104_T x [110] (by simp) (by omega)).bind fun v o=>T.cond (fun hv=>?_) (fun _=>T.some no)
 refine (F205k K.hN (by omega) K.nm.1).bind fun w hw=>T.cond (fun hw'=>?_) (fun _=>T.some no)
 refine T.cond (fun hl=>?_) (fun _=>T.some no)
 refine (K.all (by omega) 0).bind fun z hz=>T.some fun hz'=>?_
 have hE:=hz hz'
 have o:=o hv
 refine ⟨okT_mk (fields_of o (by simp [fldGood,h,hw hw']) (by simp [h,hasName]) (by simp) (by simp) (by simp) (by simp) (by simp)) ?_ (fun y hy=>(hE y hy).1),h⟩
 have hl':x.kids.length≤1:=by simp at hl; omega
 match hx:x.kids,hl' with
 | [],_=>simp [kidsB,leafK,h,hx]
 | [a],_ =>
  rw [hx] at hE
  have:=(hE a (by simp)).2
  simp [kidsB,leafK,h,hx,ex1,eX,this]
theorem expr_T {M:Nat} (K:Kids N M x) {n:Nat} (hn:M + 4≤n):T (F106 n x) (fun b=>b = true→okE x):=by
 obtain ⟨n,rfl⟩:∃ k,n = k + 3:=⟨n - 3,by omega⟩
 have hM:=K.hM
 have e1:∀ {k:Int},x.kind = k→(1≤k∧k≤8)→okT x = true→okE x:=fun h1 h2 h3=>⟨h3,by rw [h1]; simp [isE]; omega⟩
 have kid0:∀ {l:List Node},x.kids = l→(∀ y ∈ x.kids,Cls 0 y)→∀ y ∈ l,okE y:=fun h1 h2 y hy=>h2 y (by rw [h1]; exact hy)
 show T (F106_step (F204 (n + 2)) (F203 (n + 2)) (F229 (n + 2)) (F231 (n + 2)) (F202 (n + 2)) (F173 (n + 2)) (F106 (n + 2)) (F172 (n + 2)) (F105 (n + 2)) (n + 2) x) _
 unfold F106_step
 refine T.cond (fun h=>?_) (fun _=>T.cond (fun h=>?_) (fun _=>T.cond (fun h=>?_) (fun _=>T.cond (fun h=>?_) (fun _=>T.cond (fun h=>?_) (fun _=>T.cond (fun h=>?_) (fun _=>?_))))))
 ·have h:x.kind = 1:=by simpa using h
  refine (F104_T x [35] (by simp) (by omega)).bind fun v o=>T.some fun hb=>?_
  obtain ⟨hv,h0⟩:=and_t hb
  have o:=o hv
  exact e1 h (by omega) (leaf_ok (by simp [leafK,h]) (fields_of o (by simp [fldGood,h,o.r1]) (by simp) (by simp) (by simp [h,hasN]) (by simp) (by simp) (by simp)) (kids0 h0))
 ·have h:x.kind = 2:=by simpa using h
  exact (ref_T K (by omega)).bind fun v hv=>T.some fun hb=>e1 h (by omega) (hv hb).1
 ·have h:x.kind = 3:=by simpa using h
  refine (F104_T x [] (by simp) (by omega)).bind fun v o=>T.cond (fun hv=>?_) (fun _=>T.some no)
  obtain ⟨hv,hl⟩:=and_t hv
  obtain ⟨a,ha⟩:=list1 hl
  have i0:idxL x.kids 0 = some a:=idx0 (by simp [ha])
  rw [i0]
  simp only [Option.bind_some]
  refine (((K.kids a (by simp [ha])).2 (n + 2) (by omega)).r).bind fun w hw=>T.some fun hb=>?_
  obtain ⟨k1,k2⟩:=hw hb
  exact e1 h (by omega) (okT_mk (fields_of (o hv) (by simp [fldGood,h]) (by simp) (by simp) (by simp) (by simp) (by simp) (by simp)) (by simp [kidsB,leafK,h,ha,ex1,kX,k2]) (by rw [ha]; simpa using k1))
 ·have h:x.kind = 4:=by simpa using h
  refine (F104_T x [] (by simp) (by omega)).bind fun v o=>T.cond (fun hv=>?_) (fun _=>T.some no)
  obtain ⟨hv,hl⟩:=and_t hv
  obtain ⟨a,ha⟩:=list1 hl
  refine (K.all (by omega) 0).bind fun w hw=>T.some fun hb=>?_
  have hE:=kid0 ha (hw hb)
  have:=(hE a (by simp)).2
  exact e1 h (by omega) (okT_mk (fields_of (o hv) (by simp [fldGood,h]) (by simp) (by simp) (by simp) (by simp) (by simp) (by simp)) (by simp [kidsB,leafK,oneK,h,ha,ex1,eX,this]) (by rw [ha]; exact fun y hy=>(hE y hy).1))
 ·have h:x.kind = 5:=by simpa using h
  obtain ⟨x15,h15⟩:∃ l,F73 = some l:=⟨_,rfl⟩
  rw [h15]
  simp only [Option.bind_some]
  refine (op_T (by omega) x.name x15 h15).bind fun w hw=>T.cond (fun hw'=>?_) (fun _=>T.some no)
  refine (F104_T x [110] (by simp) (by omega)).bind fun v o=>T.cond (fun hv=>?_) (fun _=>T.some no)
  obtain ⟨hv,hl⟩:=and_t hv
  obtain ⟨a,b,ha⟩:=list2 hl
  refine (K.all (by omega) 0).bind fun w2 hw2=>T.some fun hb=>?_
  have hE:=kid0 ha (hw2 hb)
  have e2:=(hE a (by simp)).2
  have e3:=(hE b (by simp)).2
  exact e1 h (by omega) (okT_mk (fields_of (o hv) (by simp [fldGood,h,hw hw']) (by simp [h,hasName]) (by simp) (by simp) (by simp) (by simp) (by simp)) (by simp [kidsB,leafK,oneK,h,ha,ex2,eX,e2,e3]) (by rw [ha]; exact fun y hy=>(hE y hy).1))
 ·have h:x.kind = 6:=by simpa using h
  refine (F104_T x [] (by simp) (by omega)).bind fun v o=>T.cond (fun hv=>?_) (fun _=>T.some no)
  obtain ⟨hv,hl⟩:=and_t hv
  obtain ⟨a,b,c,ha⟩:=list3 hl
  refine (K.all (by omega) 0).bind fun w2 hw2=>T.some fun hb=>?_
  have hE:=kid0 ha (hw2 hb)
  have e2:=(hE a (by simp)).2
  have e3:=(hE b (by simp)).2
  have e4:=(hE c (by simp)).2
  exact e1 h (by omega) (okT_mk (fields_of (o hv) (by simp [fldGood,h]) (by simp) (by simp) (by simp) (by simp) (by simp) (by simp)) (by simp [kidsB,leafK,oneK,h,ha,ex3,eX,e2,e3,e4]) (by rw [ha]; exact fun y hy=>(hE y hy).1))
 ·simp only [some_cond,bor,Option.bind_some]
  refine T.cond (fun h=>?_) (fun _=>T.some no)
  have h:x.kind = 7∨x.kind = 8:=by simpa using h
  refine (F104_T x [110,35] (by simp) (by omega)).bind fun v o=>T.cond (fun hv=>?_) (fun _=>T.some no)
  rw [F174k K.hN (by omega) K.nm.1]
  simp only [Option.bind_some]
  refine T.cond (fun hnl=>?_) (fun _=>T.some no)
  obtain ⟨hnm,hl⟩:=and_t hnl
  obtain ⟨a,ha⟩:=list1 hl
  refine (K.all (by omega) 0).bind fun w hw=>T.some fun hb=>?_
  have hE:=kid0 ha (hw hb)
  have e2:=(hE a (by simp)).2
  have o:=o hv
  rcases h with h | h
  ·exact e1 h (by omega) (okT_mk (fields_of o (by simp [fldGood,h,hnm,o.r1]) (by simp [h,hasName]) (by simp) (by simp [h,hasN]) (by simp) (by simp) (by simp)) (by simp [kidsB,leafK,oneK,h,ha,ex1,eX,e2]) (by rw [ha]; exact fun y hy=>(hE y hy).1))
  ·exact e1 h (by omega) (okT_mk (fields_of o (by simp [fldGood,h,hnm,o.r1]) (by simp [h,hasName]) (by simp) (by simp [h,hasN]) (by simp) (by simp) (by simp)) (by simp [kidsB,leafK,oneK,h,ha,ex1,eX,e2]) (by rw [ha]; exact fun y hy=>(hE y hy).1))
theorem block_T {M:Nat} (K:Kids N M x) {n:Nat} (hn:M + 3≤n):T (F231 n x) (fun b=>b = true→okT x = true∧x.kind = 34):=by
 obtain ⟨n,rfl⟩:∃ k,n = k + 3:=⟨n - 3,by omega⟩
 have hM:=K.hM
 show T (F231_step (F204 (n + 2)) (F203 (n + 2)) (F229 (n + 2)) (F231 (n + 2)) (F202 (n + 2)) (F173 (n + 2)) (F106 (n + 2)) (F172 (n + 2)) (F105 (n + 2)) (n + 2) x) _
 unfold F231_step
 refine T.cond (fun h=>?_) (fun _=>T.some no)
 have h:x.kind = 34:=by simpa using h
 refine (F104_T x [] (by simp) (by omega)).bind fun v o=>T.cond (fun hv=>?_) (fun _=>T.some no)
 refine (K.all (by omega) 1).bind fun z hz=>T.some fun hz'=>?_
 have hE:∀ y ∈ x.kids,okT y = true∧isStmt y.kind = true:=fun y hy=>by simpa [Cls] using hz hz' y hy
 refine ⟨okT_mk (fields_of (o hv) (by simp [fldGood,h]) (by simp) (by simp) (by simp) (by simp) (by simp) (by simp)) ?_ (fun y hy=>(hE y hy).1),h⟩
 simp [kidsB,leafK,oneK,h]
 exact fun y hy=>(hE y hy).2
theorem item_T {M:Nat} (K:Kids N M x) {n:Nat} (hn:M + 3≤n):T (F204 n x) (fun b=>b = true→okT x = true∧isItm x.kind = true):=by
 obtain ⟨n,rfl⟩:∃ k,n = k + 3:=⟨n - 3,by omega⟩
 have hM:=K.hM
 show T (F204_step (F204 (n + 2)) (F203 (n + 2)) (F229 (n + 2)) (F231 (n + 2)) (F202 (n + 2)) (F173 (n + 2)) (F106 (n + 2)) (F172 (n + 2)) (F105 (n + 2)) (n + 2) x) _
 unfold F204_step
 refine T.cond (fun h=>?_) (fun _=>T.cond (fun h=>?_) (fun _=>T.some no))
 ·have h:x.kind = 60:=by simpa using h
  refine (F104_T x [110,111] (by simp) (by omega)).bind fun v o=>T.cond (fun hv=>?_) (fun _=>T.some no)
  rw [F174k K.hN (by omega) K.nm.1,F174k K.hN (by omega) K.nm.2]
  simp only [Option.bind_some]
  refine T.cond (fun hn1=>T.cond (fun hn2=>?_) (fun _=>T.some no)) (fun _=>T.some no)
  refine (K.all (by omega) 4).bind fun z hz=>T.some fun hz'=>?_
  have hE:∀ y ∈ x.kids,okT y = true∧isDecl y.kind = true:=fun y hy=>by simpa [Cls] using hz hz' y hy
  refine ⟨okT_mk (fields_of (o hv) (by simp [fldGood,h,hn1,hn2]) (by simp [h,hasName]) (by simp [h,hasOther]) (by simp) (by simp) (by simp) (by simp)) ?_ (fun y hy=>(hE y hy).1),by simp [isItm,h]⟩
  simp [kidsB,leafK,oneK,h]
  exact fun y hy=>(hE y hy).2
 ·have h:x.kind = 61:=by simpa using h
  refine (F104_T x [110,111,35] (by simp) (by omega)).bind fun v o=>T.cond (fun hv=>?_) (fun _=>T.some no)
  obtain ⟨hv,h1⟩:=and_t hv
  rw [F174k K.hN (by omega) K.nm.1]
  simp only [Option.bind_some]
  refine T.cond (fun hn1=>?_) (fun _=>T.some no)
  refine (F205k K.hN (by omega) K.nm.2).bind fun w hw=>T.cond (fun hw'=>?_) (fun _=>T.some no)
  refine (K.all (by omega) 6).bind fun z hz=>T.some fun hz'=>?_
  have hE:∀ y ∈ x.kids,okT y = true∧y.kind = 1:=fun y hy=>by simpa [Cls] using hz hz' y hy
  have o:=o hv
  have h01:x.n = 0∨x.n = 1:=by
   have:=o.r1
   simp only [inR,Bool.and_eq_true,decide_eq_true_eq] at this
   simp at h1
   omega
  refine ⟨okT_mk (fields_of o (by simp [fldGood,h,hn1,hw hw']; exact h01) (by simp [h,hasName]) (by simp [h,hasOther]) (by simp [h,hasN]) (by simp) (by simp) (by simp)) ?_ (fun y hy=>(hE y hy).1),by simp [isItm,h]⟩
  simp [kidsB,leafK,oneK,h,kX]
  exact fun y hy=>(hE y hy).2
end Go.Proofs.YtbecjgckobhmpaaGreatDoor
end
section
namespace Go.Proofs.YtbecjgckobhmpaaGreatDoor
open Go Go.AM Go.Proofs
variable {N:Nat} {x:Node}
theorem Kids.pairs {M:Nat} (K:Kids N M x) {n:Nat} (hn:M≤n) (f:Nat) (hf:f≤x.kids.length) :
  T (F229 (n + 1) x (f:Int)) (fun b=>b = true→pairsB (x.kids.drop f) = true∧∀ y ∈ x.kids.drop f,okT y = true) :=
 F229_T x f hf (fun y hy=>(K.kids y hy).2 n hn) K.len (by have:=K.hM; omega)
theorem stmt_T {M:Nat} (K:Kids N M x) {n:Nat} (hn:M + 4≤n):T (F202 n x) (fun b=>b = true→okT x = true∧isStmt x.kind = true):=by
 obtain ⟨n,rfl⟩:∃ k,n = k + 3:=⟨n - 3,by omega⟩
 have hM:=K.hM
 have e1:∀ {k:Int},x.kind = k→isStmt k = true→okT x = true→okT x = true∧isStmt x.kind = true:=fun h1 h2 h3=>⟨h3,by rw [h1]; exact h2⟩
 have kid0:∀ {l:List Node},x.kids = l→(∀ y ∈ x.kids,Cls 0 y)→∀ y ∈ l,okE y:=fun h1 h2 y hy=>h2 y (by rw [h1]; exact hy)
 have KC:∀ y ∈ x.kids,Cl (n + 2) y:=fun y hy=>(K.kids y hy).2 (n + 2) (by omega)
 show T (F202_step (F204 (n + 2)) (F203 (n + 2)) (F229 (n + 2)) (F231 (n + 2)) (F202 (n + 2)) (F173 (n + 2)) (F106 (n + 2)) (F172 (n + 2)) (F105 (n + 2)) (n + 2) x) _
 unfold F202_step
 simp only [some_cond,bor,Option.bind_some]
 refine T.cond (fun h=>?_) (fun _=>?_)
 ·have h:x.kind = 20∨x.kind = 29:=by simpa using h
  refine (F104_T x [] (by simp) (by omega)).bind fun v o=>T.cond (fun hv=>?_) (fun _=>T.some no)
  obtain ⟨hv,hl⟩:=and_t hv
  obtain ⟨a,ha⟩:=list1 hl
  refine (K.all (by omega) 0).bind fun w hw=>T.some fun hb=>?_
  have hE:=kid0 ha (hw hb)
  have e2:=(hE a (by simp)).2
  rcases h with h | h
  ·exact e1 h rfl (okT_mk (fields_of (o hv) (by simp [fldGood,h]) (by simp) (by simp) (by simp) (by simp) (by simp) (by simp)) (by simp [kidsB,leafK,oneK,h,ha,ex1,eX,e2]) (by rw [ha]; exact fun y hy=>(hE y hy).1))
  ·exact e1 h rfl (okT_mk (fields_of (o hv) (by simp [fldGood,h]) (by simp) (by simp) (by simp) (by simp) (by simp) (by simp)) (by simp [kidsB,leafK,oneK,h,ha,ex1,eX,e2]) (by rw [ha]; exact fun y hy=>(hE y hy).1))
 refine T.cond (fun h=>?_) (fun _=>?_)
 ·have h:x.kind = 26∨x.kind = 30:=by simpa using h
  refine (F104_T x [] (by simp) (by omega)).bind fun v o=>T.some fun hb=>?_
  obtain ⟨hv,h0⟩:=and_t hb
  rcases h with h | h
  ·exact e1 h rfl (leaf_ok (by simp [leafK,h]) (fields_of (o hv) (by simp [fldGood,h]) (by simp) (by simp) (by simp) (by simp) (by simp) (by simp)) (kids0 h0))
  ·exact e1 h rfl (leaf_ok (by simp [leafK,h]) (fields_of (o hv) (by simp [fldGood,h]) (by simp) (by simp) (by simp) (by simp) (by simp) (by simp)) (kids0 h0))
 refine T.cond (fun h=>?_) (fun _=>?_)
 ·have h:x.kind = 21:=by simpa using h
  refine (F104_T x [35] (by simp) (by omega)).bind fun v o=>T.cond (fun hv=>?_) (fun _=>T.some no)
  obtain ⟨hv,hl⟩:=and_t hv
  obtain ⟨hv,h1⟩:=and_t hv
  have hl2:2≤x.kids.length:=by simp at hl; omega
  refine (K.pairs (n:=n + 1) (by omega) 0 (by omega)).bind fun w hw=>T.some fun hb=>?_
  obtain ⟨p1,p2⟩:=hw hb
  simp only [List.drop_zero] at p1 p2
  have o:=o hv
  have h01:x.n = 0∨x.n = 1:=by
   have:=o.r1
   simp only [inR,Bool.and_eq_true,decide_eq_true_eq] at this
   simp at h1
   omega
  refine e1 h rfl (okT_mk (fields_of o (by simp [fldGood,h]; exact h01) (by simp) (by simp) (by simp [h,hasN]) (by simp) (by simp) (by simp)) ?_ p2)
  have hne:x.kids≠[]:=by intro e; rw [e] at hl2; simp at hl2
  simp [kidsB,leafK,oneK,h,p1,hne]
 refine T.cond (fun h=>?_) (fun _=>?_)
 ·have h:x.kind = 22:=by simpa using h
  refine (F104_T x [] (by simp) (by omega)).bind fun v o=>T.cond (fun hv=>?_) (fun _=>T.some no)
  obtain ⟨hv,hl⟩:=and_t hv
  have hl1:1≤x.kids.length:=by simp at hl; omega
  obtain ⟨a,r,ha⟩:∃ a r,x.kids = a :: r:=by
   cases hx:x.kids with
   | nil=>rw [hx] at hl1; simp at hl1
   | cons a r=>exact ⟨a,r,rfl⟩
  have i0:idxL x.kids 0 = some a:=idx0 (by simp [ha])
  rw [i0]
  simp only [Option.bind_some]
  have fin:∀ w:Bool,(w = true→pairsB (x.kids.drop 1) = true∧∀ y ∈ x.kids.drop 1,okT y = true)→w = true→okT a = true→(isE a.kind = true∨a.kind = 63)→okT x = true∧isStmt x.kind = true:=by
   intro w hw hb hta hka
   obtain ⟨p1,p2⟩:=hw hb
   rw [ha] at p1 p2
   simp only [List.drop_succ_cons,List.drop_zero] at p1 p2
   refine e1 h rfl (okT_mk (fields_of (o hv) (by simp [fldGood,h]) (by simp) (by simp) (by simp) (by simp) (by simp) (by simp)) ?_ ?_)
   ·simp [kidsB,leafK,oneK,h,ha,atomK,enX,p1]
    exact hka
   ·rw [ha]
    intro y hy
    rcases List.mem_cons.1 hy with rfl | hy
    ·exact hta
    ·exact p2 y hy
  refine (F230_T (by omega) a).bind fun w hw=>T.cond (fun hw'=>?_) (fun _=>?_)
  ·refine (K.pairs (n:=n + 1) (by omega) 1 hl1).bind fun w2 hw2=>T.some fun hb=>fin w2 hw2 hb (hw hw').1 (.inr (hw hw').2)
  ·refine ((KC a (by simp [ha])).e).bind fun w hw=>T.cond (fun hw'=>?_) (fun _=>T.some no)
   refine (K.pairs (n:=n + 1) (by omega) 1 hl1).bind fun w2 hw2=>T.some fun hb=>fin w2 hw2 hb (hw hw').1 (.inl (hw hw').2)
 refine T.cond (fun h=>?_) (fun _=>?_)
 ·have h:x.kind = 23:=by simpa using h
  refine (F104_T x [] (by simp) (by omega)).bind fun v o=>T.cond (fun hv=>?_) (fun _=>T.some no)
  obtain ⟨hv,hl⟩:=and_t hv
  have hl4:4≤x.kids.length:=by simp at hl; omega
  obtain ⟨a,b,c,d,r,ha⟩:∃ a b c d r,x.kids = a :: b :: c :: d :: r:=by
   match hx:x.kids,hl4 with
   | a :: b :: c :: d :: r,_=>exact ⟨a,b,c,d,r,rfl⟩
  have i0:idxL x.kids 0 = some a:=idx0 (by simp [ha])
  have i1:idxL x.kids 1 = some b:=idx1 (by simp [ha])
  have i2:idxL x.kids 2 = some c:=idx2 (by simp [ha])
  have i3:idxL x.kids 3 = some d:=idx3 (by simp [ha])
  rw [i0,i1,i2,i3]
  simp only [Option.bind_some]
  refine ((KC a (by simp [ha])).r).bind fun w1 h1=>T.cond (fun h1'=>?_) (fun _=>T.some no)
  refine ((KC b (by simp [ha])).e).bind fun w2 h2=>T.cond (fun h2'=>?_) (fun _=>T.some no)
  refine ((KC c (by simp [ha])).e).bind fun w3 h3=>T.cond (fun h3'=>?_) (fun _=>T.some no)
  refine ((KC d (by simp [ha])).r).bind fun w4 h4=>T.cond (fun h4'=>?_) (fun _=>T.some no)
  refine (K.pairs (n:=n + 1) (by omega) 4 hl4).bind fun w5 h5=>T.some fun hb=>?_
  obtain ⟨p1,p2⟩:=h5 hb
  rw [ha] at p1 p2
  simp only [List.drop_succ_cons,List.drop_zero] at p1 p2
  refine e1 h rfl (okT_mk (fields_of (o hv) (by simp [fldGood,h]) (by simp) (by simp) (by simp) (by simp) (by simp) (by simp)) ?_ ?_)
  ·simp [kidsB,leafK,oneK,h,ha,casK,kX,eX,p1,(h1 h1').2,(h2 h2').2,(h3 h3').2,(h4 h4').2]
  ·rw [ha]
   intro y hy
   simp only [List.mem_cons] at hy
   rcases hy with rfl | rfl | rfl | rfl | hy
   ·exact (h1 h1').1
   ·exact (h2 h2').1
   ·exact (h3 h3').1
   ·exact (h4 h4').1
   ·exact p2 y hy
 refine T.cond (fun h=>?_) (fun _=>?_)
 ·have h:x.kind = 24∨x.kind = 25:=by simpa using h
  refine (F104_T x [110] (by simp) (by omega)).bind fun v o=>T.cond (fun hv=>?_) (fun _=>T.some no)
  refine (F205k K.hN (by omega) K.nm.1).bind fun w hw=>T.some fun hb=>?_
  obtain ⟨hw',h0⟩:=and_t hb
  rcases h with h | h
  ·exact e1 h rfl (leaf_ok (by simp [leafK,h]) (fields_of (o hv) (by simp [fldGood,h,hw hw']) (by simp [h,hasName]) (by simp) (by simp) (by simp) (by simp) (by simp)) (kids0 h0))
  ·exact e1 h rfl (leaf_ok (by simp [leafK,h]) (fields_of (o hv) (by simp [fldGood,h,hw hw']) (by simp [h,hasName]) (by simp) (by simp) (by simp) (by simp) (by simp)) (kids0 h0))
 refine T.cond (fun h=>?_) (fun _=>?_)
 ·have h:x.kind = 27∨x.kind = 28:=by simpa using h
  refine (F104_T x [110] (by simp) (by omega)).bind fun v o=>T.cond (fun hv=>?_) (fun _=>T.some no)
  rw [F174k K.hN (by omega) K.nm.1]
  simp only [Option.bind_some]
  refine T.some fun hb=>?_
  obtain ⟨hw',h0⟩:=and_t hb
  rcases h with h | h
  ·exact e1 h rfl (leaf_ok (by simp [leafK,h]) (fields_of (o hv) (by simp [fldGood,h,hw']) (by simp [h,hasName]) (by simp) (by simp) (by simp) (by simp) (by simp)) (kids0 h0))
  ·exact e1 h rfl (leaf_ok (by simp [leafK,h]) (fields_of (o hv) (by simp [fldGood,h,hw']) (by simp [h,hasName]) (by simp) (by simp) (by simp) (by simp) (by simp)) (kids0 h0))
 refine T.cond (fun h=>?_) (fun _=>?_)
 ·have h:x.kind = 31:=by simpa using h
  refine (F104_T x [] (by simp) (by omega)).bind fun v o=>T.cond (fun hv=>?_) (fun _=>T.some no)
  obtain ⟨hv,hl⟩:=and_t hv
  obtain ⟨a,b,c,ha⟩:=list3 hl
  have i0:idxL x.kids 0 = some a:=idx0 (by simp [ha])
  have i1:idxL x.kids 1 = some b:=idx1 (by simp [ha])
  have i2:idxL x.kids 2 = some c:=idx2 (by simp [ha])
  rw [i0,i1,i2]
  simp only [Option.bind_some]
  refine ((KC a (by simp [ha])).e).bind fun w1 h1=>T.cond (fun h1'=>?_) (fun _=>T.some no)
  refine ((KC b (by simp [ha])).b).bind fun w2 h2=>T.cond (fun h2'=>?_) (fun _=>T.some no)
  refine ((KC c (by simp [ha])).b).bind fun w3 h3=>T.some fun h3'=>?_
  refine e1 h rfl (okT_mk (fields_of (o hv) (by simp [fldGood,h]) (by simp) (by simp) (by simp) (by simp) (by simp) (by simp)) (by simp [kidsB,leafK,oneK,h,ha,ex3,eX,kX,(h1 h1').2,(h2 h2').2,(h3 h3').2]) ?_)
  rw [ha]
  intro y hy
  simp only [List.mem_cons,List.not_mem_nil,or_false] at hy
  rcases hy with rfl | rfl | rfl
  ·exact (h1 h1').1
  ·exact (h2 h2').1
  ·exact (h3 h3').1
 refine T.cond (fun h=>?_) (fun _=>?_)
 ·have h:x.kind = 32:=by simpa using h
  refine (F104_T x [] (by simp) (by omega)).bind fun v o=>T.cond (fun hv=>?_) (fun _=>T.some no)
  obtain ⟨hv,hl⟩:=and_t hv
  obtain ⟨a,b,c,ha⟩:=list3 hl
  have i0:idxL x.kids 0 = some a:=idx0 (by simp [ha])
  have i1:idxL x.kids 1 = some b:=idx1 (by simp [ha])
  have i2:idxL x.kids 2 = some c:=idx2 (by simp [ha])
  rw [i0,i1,i2]
  simp only [Option.bind_some]
  have fin:okE a→okT b = true→(isE b.kind = true∨b.kind = 63)→okT c = true∧c.kind = 34→okT x = true∧isStmt x.kind = true:=by
   intro h1 h2 h3 h4
   refine e1 h rfl (okT_mk (fields_of (o hv) (by simp [fldGood,h]) (by simp) (by simp) (by simp) (by simp) (by simp) (by simp)) (by simp [kidsB,leafK,oneK,h,ha,ex3,eX,enX,kX,h1.2,h4.2]; exact h3) ?_)
   rw [ha]
   intro y hy
   simp only [List.mem_cons,List.not_mem_nil,or_false] at hy
   rcases hy with rfl | rfl | rfl
   ·exact h1.1
   ·exact h2
   ·exact h4.1
  refine ((KC a (by simp [ha])).e).bind fun w1 h1=>T.cond (fun h1'=>?_) (fun _=>T.some no)
  refine (F230_T (by omega) b).bind fun w2 h2=>T.cond (fun h2'=>?_) (fun _=>?_)
  ·exact ((KC c (by simp [ha])).b).bind fun w3 h3=>T.some fun h3'=>fin (h1 h1') (h2 h2').1 (.inr (h2 h2').2) (h3 h3')
  ·refine ((KC b (by simp [ha])).e).bind fun w2 h2=>T.cond (fun h2'=>?_) (fun _=>T.some no)
   exact ((KC c (by simp [ha])).b).bind fun w3 h3=>T.some fun h3'=>fin (h1 h1') (h2 h2').1 (.inl (h2 h2').2) (h3 h3')
 refine T.cond (fun h=>?_) (fun _=>?_)
 ·have h:x.kind = 33:=by simpa using h
  refine (F104_T x [110] (by simp) (by omega)).bind fun v o=>T.cond (fun hv=>?_) (fun _=>T.some no)
  refine (F205k K.hN (by omega) K.nm.1).bind fun w hw=>T.cond (fun hw'=>?_) (fun _=>T.some no)
  refine (K.all (by omega) 0).bind fun z hz=>T.some fun hz'=>?_
  have hE:=kid0 rfl (hz hz')
  refine e1 h rfl (okT_mk (fields_of (o hv) (by simp [fldGood,h,hw hw']) (by simp [h,hasName]) (by simp) (by simp) (by simp) (by simp) (by simp)) ?_ (fun y hy=>(hE y hy).1))
  simp [kidsB,leafK,oneK,h]
  exact fun y hy=>(hE y hy).2
 refine T.cond (fun h=>?_) (fun _=>T.some no)
 have h:x.kind = 35:=by simpa using h
 refine (F104_T x [110,35,103] (by simp) (by omega)).bind fun v o=>T.cond (fun hv=>?_) (fun _=>T.some no)
 rw [F174k K.hN (by omega) K.nm.1]
 simp only [Option.bind_some]
 refine T.some fun hb=>?_
 obtain ⟨hw',h0⟩:=and_t hb
 have o:=o hv
 exact e1 h rfl (leaf_ok (by simp [leafK,h]) (fields_of o (by simp [fldGood,h,hw',o.r1]) (by simp [h,hasName]) (by simp) (by simp [h,hasN]) (by simp) (by simp) (by simp [h])) (kids0 h0))
theorem decl_T {M:Nat} (K:Kids N M x) {n:Nat} (hn:M + 4≤n):T (F203 n x) (fun b=>b = true→okT x = true∧isDecl x.kind = true):=by
 obtain ⟨n,rfl⟩:∃ k,n = k + 3:=⟨n - 3,by omega⟩
 have hM:=K.hM
 have hlen:=K.len
 have e1:∀ {k:Int},x.kind = k→isDecl k = true→okT x = true→okT x = true∧isDecl x.kind = true:=fun h1 h2 h3=>⟨h3,by rw [h1]; exact h2⟩
 have kid0:∀ {l:List Node},x.kids = l→(∀ y ∈ x.kids,Cls 0 y)→∀ y ∈ l,okE y:=fun h1 h2 y hy=>h2 y (by rw [h1]; exact hy)
 have KC:∀ y ∈ x.kids,Cl (n + 2) y:=fun y hy=>(K.kids y hy).2 (n + 2) (by omega)
 show T (F203_step (F204 (n + 2)) (F203 (n + 2)) (F229 (n + 2)) (F231 (n + 2)) (F202 (n + 2)) (F173 (n + 2)) (F106 (n + 2)) (F172 (n + 2)) (F105 (n + 2)) (n + 2) x) _
 unfold F203_step
 refine T.cond (fun h=>?_) (fun _=>?_)
 ·have h:x.kind = 51:=by simpa using h
  refine (F104_T x [110] (by simp) (by omega)).bind fun v o=>T.cond (fun hv=>?_) (fun _=>T.some no)
  rw [F174k K.hN (by omega) K.nm.1]
  simp only [Option.bind_some]
  refine T.cond (fun hn1=>?_) (fun _=>T.some no)
  refine (K.all (by omega) 2).bind fun z hz=>T.some fun hz'=>?_
  have hE:∀ y ∈ x.kids,okT y = true∧y.kind = 52:=fun y hy=>by simpa [Cls] using hz hz' y hy
  refine e1 h rfl (okT_mk (fields_of (o hv) (by simp [fldGood,h,hn1]) (by simp [h,hasName]) (by simp) (by simp) (by simp) (by simp) (by simp)) ?_ (fun y hy=>(hE y hy).1))
  simp [kidsB,leafK,oneK,h,kX]
  exact fun y hy=>(hE y hy).2
 refine T.cond (fun h=>?_) (fun _=>?_)
 ·have h:x.kind = 50:=by simpa using h
  refine (F104_T x [110,111,35,108,105,103] (by simp) (by omega)).bind fun v o=>T.cond (fun hv=>?_) (fun _=>T.some no)
  rw [F174k K.hN (by omega) K.nm.1,F174k K.hN (by omega) K.nm.2]
  simp only [Option.bind_some]
  have o:=o hv
  refine T.cond (fun hn1=>T.cond (fun hoe=>T.some fun h0=>?_) (fun _=>T.cond (fun hn0=>T.some fun hb=>?_) (fun _=>T.some no))) (fun _=>T.some no)
  ·exact e1 h rfl (leaf_ok (by simp [leafK,h]) (fields_of o (by simp [fldGood,h,hn1,o.r1,o.r2,o.r3,hoe]) (by simp [h,hasName]) (by simp [h,hasOther]) (by simp [h,hasN]) (by simp [h]) (by simp [h]) (by simp [h])) (kids0 h0))
  ·obtain ⟨hn2,h0⟩:=and_t hb
   have hn0':x.n = 0:=by simpa using hn0
   have r1:=o.r1
   exact e1 h rfl (leaf_ok (by simp [leafK,h]) (fields_of o (by simp [fldGood,h,hn1,o.r1,o.r2,o.r3,hn2]; exact .inr hn0') (by simp [h,hasName]) (by simp [h,hasOther]) (by simp [h,hasN]) (by simp [h]) (by simp [h]) (by simp [h])) (kids0 h0))
 refine T.cond (fun h=>?_) (fun _=>?_)
 ·have h:x.kind = 53:=by simpa using h
  refine (F104_T x [110] (by simp) (by omega)).bind fun v o=>T.cond (fun hv=>?_) (fun _=>T.some no)
  rw [F174k K.hN (by omega) K.nm.1]
  simp only [Option.bind_some]
  refine T.cond (fun hnl=>?_) (fun _=>T.some no)
  obtain ⟨hn1,hl⟩:=and_t hnl
  obtain ⟨a,ha⟩:=list1 hl
  refine (K.all (by omega) 0).bind fun w hw=>T.some fun hb=>?_
  have hE:=kid0 ha (hw hb)
  have e2:=(hE a (by simp)).2
  exact e1 h rfl (okT_mk (fields_of (o hv) (by simp [fldGood,h,hn1]) (by simp [h,hasName]) (by simp) (by simp) (by simp) (by simp) (by simp)) (by simp [kidsB,leafK,oneK,h,ha,ex1,eX,e2]) (by rw [ha]; exact fun y hy=>(hE y hy).1))
 simp only [some_cond,bor,Option.bind_some]
 refine T.cond (fun h=>?_) (fun _=>?_)
 ·have h:x.kind = 54∨x.kind = 55:=by simpa using h
  refine (F104_T x [] (by simp) (by omega)).bind fun v o=>T.cond (fun hv=>?_) (fun _=>T.some no)
  obtain ⟨hv,hl⟩:=and_t hv
  obtain ⟨a,ha⟩:=list1 hl
  refine (K.all (by omega) 0).bind fun w hw=>T.some fun hb=>?_
  have hE:=kid0 ha (hw hb)
  have e2:=(hE a (by simp)).2
  rcases h with h | h
  ·exact e1 h rfl (okT_mk (fields_of (o hv) (by simp [fldGood,h]) (by simp) (by simp) (by simp) (by simp) (by simp) (by simp)) (by simp [kidsB,leafK,oneK,h,ha,ex1,eX,e2]) (by rw [ha]; exact fun y hy=>(hE y hy).1))
  ·exact e1 h rfl (okT_mk (fields_of (o hv) (by simp [fldGood,h]) (by simp) (by simp) (by simp) (by simp) (by simp) (by simp)) (by simp [kidsB,leafK,oneK,h,ha,ex1,eX,e2]) (by rw [ha]; exact fun y hy=>(hE y hy).1))
 refine T.cond (fun h=>?_) (fun _=>?_)
 ·have h:x.kind = 56:=by simpa using h
  refine (F104_T x [] (by simp) (by omega)).bind fun v o=>T.cond (fun hv=>?_) (fun _=>T.some no)
  obtain ⟨hv,hl⟩:=and_t hv
  refine (K.all (by omega) 7).bind fun w hw=>T.some fun hb=>?_
  have hE:∀ y ∈ x.kids,okT y = true∧y.kind = 2∧y.kids = []:=fun y hy=>by simpa [Cls] using hw hb y hy
  have hne:x.kids≠[]:=by intro e; rw [e] at hl; simp at hl
  refine e1 h rfl (okT_mk (fields_of (o hv) (by simp [fldGood,h]) (by simp) (by simp) (by simp) (by simp) (by simp) (by simp)) ?_ (fun y hy=>(hE y hy).1))
  simp [kidsB,leafK,oneK,h,hne,plainX]
  exact fun y hy=>(hE y hy).2
 refine T.cond (fun h=>?_) (fun _=>T.some no)
 have h:x.kind = 57:=by simpa using h
 by_cases hne:x.kids = []
 ·have c1:((x.kids.length:Int) == 0) = true:=by simp [hne]
  rw [c1]
  exact T.some no
 have c1:((x.kids.length:Int) == 0) = false:=by
  have:0 < x.kids.length:=List.length_pos_iff.2 hne
  exact nbeq (by omega)
 have i1:=idx_last hne (by omega)
 have s1:=sub_last hne (by omega)
 rw [c1,i1,s1,F174k K.hN (by omega) K.nm.1,F174k K.hN (by omega) K.nm.2]
 simp only [cond_false,Option.bind_some]
 have hbm:x.kids.getLast hne ∈ x.kids:=List.getLast_mem hne
 refine T.bind (P:=fun r=>match r with
  | .inl _=>True
  | .inr _=>Only [110,111] x∧nameB (tl x.name) = true∧(strEq x.other (bs []) = true∨nameB (tl x.other) = true)∧okT (x.kids.getLast hne) = true∧(x.kids.getLast hne).kind = 34) ?_ (fun r hr=>?_)
 ·refine (F104_T x [110,111] (by simp) (by omega)).bind fun v o=>T.cond (fun _=>T.some trivial) (fun hv=>?_)
  have hv:v = true:=by simpa using hv
  refine T.cond (fun _=>T.some trivial) (fun hn1=>?_)
  have hn1:nameB (tl x.name) = true:=by simpa using hn1
  refine T.cond (fun _=>?_) (fun hoe=>?_)
  ·refine T.cond (fun _=>T.some trivial) (fun hn2=>?_)
   have hn2:nameB (tl x.other) = true:=by simpa using hn2
   refine ((KC _ hbm).b).bind fun w hw=>?_
   cases w
   ·exact T.some trivial
   ·exact T.some ⟨o hv,hn1,.inr hn2,hw rfl⟩
  ·have hoe:strEq x.other (bs []) = true:=by simpa using hoe
   refine ((KC _ hbm).b).bind fun w hw=>?_
   cases w
   ·exact T.some trivial
   ·exact T.some ⟨o hv,hn1,.inl hoe,hw rfl⟩
 ·cases r with
  | inl _=>exact T.some no
  | inr _ =>
   obtain ⟨o,hn1,hn2,hb1,hb2⟩:=hr
   have hsub:∀ y ∈ x.kids.dropLast,y ∈ x.kids:=fun y hy=>List.dropLast_subset _ hy
   have t:=F105_T K.hN (n:=n) (by omega) (Node.mk 0 (bs []) (bs []) 0 0 0 false x.kids.dropLast 0) 3 (fun y hy=>⟨(K.kids y (hsub y hy)).1,(K.kids y (hsub y hy)).2 n (by omega)⟩) (by simp; omega)
   refine t.bind fun w hw=>T.some fun hb=>?_
   have hE:∀ y ∈ x.kids.dropLast,okT y = true∧y.kind = 58:=fun y hy=>by simpa [Cls] using hw hb y hy
   refine e1 h rfl (okT_mk (fields_of o (by simp [fldGood,h,hn1]; exact hn2) (by simp [h,hasName]) (by simp [h,hasOther]) (by simp) (by simp) (by simp) (by simp)) ?_ ?_)
   ·simp [kidsB,leafK,oneK,h,procK,List.getLast?_eq_some_getLast hne,hb2,kX]
    exact fun y hy=>(hE y hy).2
   ·intro y hy
    rw [← List.dropLast_concat_getLast hne] at hy
    simp only [List.mem_append,List.mem_singleton] at hy
    rcases hy with hy | rfl
    ·exact (hE y hy).1
    ·exact hb1
theorem cl_all {b:Nat} (hb:b≤9223372036854775807):∀ (m:Nat) (x:Node),sz x≤m→sz x≤200→Lim b x→∀ n,b + 300 + 8 * sz x≤n→Cl n x:=by
 intro m
 induction m with
 | zero=>intro x hx; have:=sz_pos x; omega
 | succ m ih =>
  intro x hx h200 hlim n hn
  obtain ⟨_,h1,h2,h3,h4⟩:=hlim
  have hsz:=sz_eq x
  have hlen:=szs_len x.kids
  have hpos:=sz_pos x
  have K:Kids b (b + 300 + 8 * (sz x - 1)) x:=⟨hb,by omega,⟨h1,h2⟩,by omega,fun y hy=>by
   have hys:=szs_mem x.kids y hy
   have hl:=h4 y hy
   refine ⟨?_,fun n' hn'=>ih y (by omega) (by omega) hl n' (by omega)⟩
   cases hl with
   | mk _ a1 a2 _ _=>exact ⟨a1,a2⟩⟩
  exact ⟨expr_T K (by omega),ref_T K (by omega),stmt_T K (by omega),block_T K (by omega),decl_T K (by omega),item_T K (by omega)⟩
end Go.Proofs.YtbecjgckobhmpaaGreatDoor
end
section
namespace Go.Proofs.YtbecjgckobhmpaaGreatDoor
open Go Go.AM Go.Proofs
theorem rep_rep:∀ d:Nat,repL [32,32] d = List.replicate (2 * d) 32
 | 0=>rfl
 | d + 1=>by
  rw [repL,rep_rep d,show 2 * (d + 1) = 2 * d + 1 + 1 by omega]
  simp [List.replicate_succ]
theorem Lay.nl {o o':Int} {ls:Lines} (h:Lay o ls o'):∀ p ∈ ls,10 ∉ p.2:=by
 induction h with
 | nil o=>intro p hp; cases hp
 | cons hc hd hr ih =>
  intro p hp
  rcases List.mem_cons.1 hp with rfl | hp
  ·exact hc.fine.nl
  ·exact ih p hp
end Go.Proofs.YtbecjgckobhmpaaGreatDoor
end
section
namespace Go.Proofs.YtbecjgckobhmpaaGreatDoor
open Go Go.AM Go.Proofs
end Go.Proofs.YtbecjgckobhmpaaGreatDoor
end
section
namespace Go.Proofs.YtbecjgckobhmpaaGreatDoor
open Go Go.AM Go.Proofs
theorem cat_eq {a b:ByteArray} (h:(tl a).length + (tl b).length≤1000000000000000):catS a b = some (bs (tl a ++ tl b)):=by
 unfold catS
 rw [if_pos (by rw [size_tl,size_tl]; omega)]
 rfl
theorem op_all:([[61,61,62],[124,124],[38,38],[61,61],[33,61],[60],[60,61],[124],[94],[38],[43],[45],[42]]:List Bytes).all (fun l=>F189 (bs l) == some (ruleI (bs l)).2.1 && F131 (bs l) == some ((ruleI (bs l)).2.2.1,(ruleI (bs l)).2.2.2)) = true:=by kernel_rfl
theorem op_eq {s:ByteArray} (h:levelI s≠0):F189 s = some (ruleI s).2.1∧F131 s = some ((ruleI s).2.2.1,(ruleI s).2.2.2):=by
 have:=List.all_eq_true.1 op_all _ (level_cases h)
 rw [bs_tl] at this
 simpa using this
theorem words_ne {l:List Bytes} (h:∀ s ∈ l,s≠[]):wordsL l = joinL [32] l:=by
 unfold wordsL
 rw [List.filter_eq_self.2 (fun s hs=>by have:=h s hs; simpa using this)]
theorem F188_eq {x:Node} (h:x.kind = 5→levelI x.name≠0):F188 x = some (levI x):=by
 unfold F188 levI
 by_cases h5:x.kind = 5
 ·have:=(op_eq (h h5)).1
  simp [h5,this]
 ·have e5:(x.kind == 5) = false:=nbeq h5
  simp only [e5,cond_false,some_cond,bor,Option.bind_some]
theorem okE_op {x:Node} (h:okE x):x.kind = 5→levelI x.name≠0:=fun h5=>by
 have:=(okT_parts h.1).1
 simp [fieldsB,fldGood,h5] at this
 exact this.1
theorem F130_of {x:Node} {n:Nat} (hx:okE x) (h:F80 n x = some (bs (txt x))) (hl:(txt x).length≤100000) (r:Int):F130 (n + 1) x r = some (bs (opd (levI x,txt x) r)):=by
 show F130_step (F130 n) (F80 n) n x r = _
 unfold F130_step
 rw [F188_eq (okE_op hx),h]
 simp only [Option.bind_some,opd]
 cases decide (levI x < r)
 ·rfl
 ·simp only [cond_true]
  rw [cat_eq (by simp [tl_bs]; omega)]
  simp only [Option.bind_some]
  rw [cat_eq (by simp [tl_bs]; omega)]
  simp [tl_bs]
theorem F80_eq:∀ x,okE x→sz x≤200→∀ n,30 + 2 * sz x≤n→F80 n x = some (bs (txt x)):=by
 have len:∀ y,okE y→sz y≤200→(txt y).length≤16000:=fun y hy hs=>by have:=txt_len y hy; omega
 have opl:∀ y (r:Int),okE y→sz y≤200→(opd (levI y,txt y) r).length≤16002:=fun y r hy hs=>by
  have h1:=len y hy hs
  have h2:=opd_len (levI y,txt y) r
  simp at h2
  omega
 have opn:∀ y (r:Int),okE y→opd (levI y,txt y) r≠[]:=fun y r hy=>(opd_GX r (txt_GX y hy)).ne
 apply okE_ind
 ·intro x h hk hn hs n hf
  obtain ⟨n,rfl⟩:∃ m,n = m + 1:=⟨n - 1,by omega⟩
  show F80_step (F130 n) (F80 n) n x = _
  unfold F80_step
  rw [txt_eq]
  simp [h,itoa_eq hn,txtOf]
 ·intro x h hk hn hs n hf
  obtain ⟨n,rfl⟩:∃ m,n = m + 1:=⟨n - 1,by omega⟩
  show F80_step (F130 n) (F80 n) n x = _
  unfold F80_step
  rw [txt_eq]
  simp [h,hk,txtOf,txts,bs_tl]
 ·intro x a h hk hn ha ih hs n hf
  have hsz:sz x = 1 + sz a:=by rw [sz_eq,hk]; simp [szs]
  obtain ⟨n,rfl⟩:∃ m,n = m + 2:=⟨n - 2,by omega⟩
  have ea:=F130_of (n:=n) ha (ih (by omega) n (by omega)) (by have:=len a ha (by omega); omega) 0
  have h1:=opl a 0 ha (by omega)
  have h2:=pathB_len hn
  have i0:idxL x.kids 0 = some a:=idx0 (by simp [hk])
  have c0:((x.kids.length:Int) == 0) = false:=by simp [hk]
  show F80_step (F130 (n + 1)) (F80 (n + 1)) (n + 1) x = _
  unfold F80_step
  rw [txt_eq]
  simp only [h,c0,i0,ea,Int.reduceBEq,cond_true,cond_false,Option.bind_some]
  simp (disch:=(simp only [tl_bs,List.length_append,List.length_cons,List.length_nil]; omega)) only [cat_eq,tl_bs,Option.bind_some]
  simp [txtOf,txts,nth,hk]
 ·intro x a h hk ha ih hs n hf
  have hsz:sz x = 1 + sz a:=by rw [sz_eq,hk]; simp [szs]
  obtain ⟨n,rfl⟩:∃ m,n = m + 2:=⟨n - 2,by omega⟩
  have ea:=F130_of (n:=n) ha (ih (by omega) n (by omega)) (by have:=len a ha (by omega); omega) 0
  have h1:=opl a 0 ha (by omega)
  have i0:idxL x.kids 0 = some a:=idx0 (by simp [hk])
  show F80_step (F130 (n + 1)) (F80 (n + 1)) (n + 1) x = _
  unfold F80_step
  rw [txt_eq]
  simp only [h,i0,ea,Int.reduceBEq,cond_true,cond_false,Option.bind_some]
  simp (disch:=(simp only [tl_bs,List.length_append,List.length_cons,List.length_nil]; omega)) only [cat_eq,tl_bs,Option.bind_some]
  simp [txtOf,txts,nth,hk]
 ·intro x a h hk ha ih hs n hf
  have hsz:sz x = 1 + sz a:=by rw [sz_eq,hk]; simp [szs]
  obtain ⟨n,rfl⟩:∃ m,n = m + 2:=⟨n - 2,by omega⟩
  have ea:=F130_of (n:=n) ha (ih (by omega) n (by omega)) (by have:=len a ha (by omega); omega) 11
  have h1:=opl a 11 ha (by omega)
  have i0:idxL x.kids 0 = some a:=idx0 (by simp [hk])
  show F80_step (F130 (n + 1)) (F80 (n + 1)) (n + 1) x = _
  unfold F80_step
  rw [txt_eq]
  simp only [h,i0,ea,Int.reduceBEq,cond_true,cond_false,Option.bind_some]
  simp (disch:=(simp only [tl_bs,List.length_append,List.length_cons,List.length_nil]; omega)) only [cat_eq,tl_bs,Option.bind_some]
  simp [txtOf,txts,nth,hk]
 ·intro x a b h hk hl ha iha hb ihb hs n hf
  have hsz:sz x = 1 + (sz a + sz b):=by rw [sz_eq,hk]; simp [szs]
  obtain ⟨n,rfl⟩:∃ m,n = m + 2:=⟨n - 2,by omega⟩
  have ea:=F130_of (n:=n) ha (iha (by omega) n (by omega)) (by have:=len a ha (by omega); omega) (ruleI x.name).2.2.1
  have eb:=F130_of (n:=n) hb (ihb (by omega) n (by omega)) (by have:=len b hb (by omega); omega) (ruleI x.name).2.2.2
  have h1:=opl a (ruleI x.name).2.2.1 ha (by omega)
  have h2:=opl b (ruleI x.name).2.2.2 hb (by omega)
  have h3:=level_len hl
  have i0:idxL x.kids 0 = some a:=idx0 (by simp [hk])
  have i1:idxL x.kids 1 = some b:=idx1 (by simp [hk])
  have hw:=words_ne (l:=[opd (levI a,txt a) (ruleI x.name).2.2.1,tl x.name,opd (levI b,txt b) (ruleI x.name).2.2.2]) (by
   simp only [List.mem_cons,List.not_mem_nil,or_false,forall_eq_or_imp,forall_eq]
   exact ⟨opn a _ ha,(op_GX hl).ne,opn b _ hb⟩)
  show F80_step (F130 (n + 1)) (F80 (n + 1)) (n + 1) x = _
  unfold F80_step
  rw [txt_eq]
  simp only [h,i0,i1,(op_eq hl).2,ea,eb,Int.reduceBEq,cond_true,cond_false,Option.bind_some]
  simp (disch:=(simp only [tl_bs,List.length_append,List.length_cons,List.length_nil]; omega)) only [cat_eq,tl_bs,Option.bind_some]
  simp [txtOf,txts,nth,hk,hw,joinL]
 ·intro x a b c h hk ha iha hb ihb hc ihc hs n hf
  have hsz:sz x = 1 + (sz a + (sz b + sz c)):=by rw [sz_eq,hk]; simp [szs]
  obtain ⟨n,rfl⟩:∃ m,n = m + 2:=⟨n - 2,by omega⟩
  have ea:=F130_of (n:=n) ha (iha (by omega) n (by omega)) (by have:=len a ha (by omega); omega) 2
  have eb:=F130_of (n:=n) hb (ihb (by omega) n (by omega)) (by have:=len b hb (by omega); omega) 1
  have ec:=F130_of (n:=n) hc (ihc (by omega) n (by omega)) (by have:=len c hc (by omega); omega) 1
  have h1:=opl a 2 ha (by omega)
  have h2:=opl b 1 hb (by omega)
  have h3:=opl c 1 hc (by omega)
  have i0:idxL x.kids 0 = some a:=idx0 (by simp [hk])
  have i1:idxL x.kids 1 = some b:=idx1 (by simp [hk])
  have i2:idxL x.kids 2 = some c:=idx2 (by simp [hk])
  have hw:=words_ne (l:=[opd (levI a,txt a) 2,[63],opd (levI b,txt b) 1,[58],opd (levI c,txt c) 1]) (by
   simp only [List.mem_cons,List.not_mem_nil,or_false,forall_eq_or_imp,forall_eq]
   exact ⟨opn a _ ha,by simp,opn b _ hb,by simp,opn c _ hc⟩)
  show F80_step (F130 (n + 1)) (F80 (n + 1)) (n + 1) x = _
  unfold F80_step
  rw [txt_eq]
  simp only [h,i0,i1,i2,ea,eb,ec,Int.reduceBEq,cond_true,cond_false,Option.bind_some]
  simp (disch:=(simp only [tl_bs,List.length_append,List.length_cons,List.length_nil]; omega)) only [cat_eq,tl_bs,Option.bind_some]
  simp [txtOf,txts,nth,hk,hw,joinL]
 ·intro x a h hk hnm hn ha ih hs n hf
  have hsz:sz x = 1 + sz a:=by rw [sz_eq,hk]; simp [szs]
  obtain ⟨n,rfl⟩:∃ m,n = m + 2:=⟨n - 2,by omega⟩
  have ea:=F130_of (n:=n) ha (ih (by omega) n (by omega)) (by have:=len a ha (by omega); omega) 0
  have h1:=opl a 0 ha (by omega)
  have h2:=nameB_len hnm
  have h3:=numL_len x.n
  have i0:idxL x.kids 0 = some a:=idx0 (by simp [hk])
  have hw:∀ w:Bytes,w≠[]→wordsL [w,tl x.name,[60],numL x.n,[58],opd (levI a,txt a) 0] = joinL [32] [w,tl x.name,[60],numL x.n,[58],opd (levI a,txt a) 0]:=fun w hw=>words_ne (by
   simp only [List.mem_cons,List.not_mem_nil,or_false,forall_eq_or_imp,forall_eq]
   exact ⟨hw,(name_GX hnm).ne,by simp,(num_GX _).ne,by simp,opn a _ ha⟩)
  show F80_step (F130 (n + 1)) (F80 (n + 1)) (n + 1) x = _
  unfold F80_step
  rw [txt_eq]
  rcases h with h | h
  ·simp only [h,i0,ea,itoa_eq hn,Int.reduceBEq,cond_false,Option.bind_some]
   simp (disch:=(simp only [tl_bs,List.length_append,List.length_cons,List.length_nil]; omega)) only [cat_eq,tl_bs,Option.bind_some]
   simp [txtOf,txts,nth,hk,hw,joinL]
  ·simp only [h,i0,ea,itoa_eq hn,Int.reduceBEq,cond_true,cond_false,Option.bind_some]
   simp (disch:=(simp only [tl_bs,List.length_append,List.length_cons,List.length_nil]; omega)) only [cat_eq,tl_bs,Option.bind_some]
   simp [txtOf,txts,nth,hk,hw,joinL]
theorem joinL_snoc (sep:Bytes):∀ (l:List Bytes) (x:Bytes),l≠[]→joinL sep (l ++ [x]) = joinL sep l ++ (sep ++ x)
 | [],_,h=>absurd rfl h
 | [a],x,_=>by simp [joinL]
 | a :: b :: r,x,_=>by
  have:=joinL_snoc sep (b :: r) x (by simp)
  simp only [List.cons_append] at this
  simp only [List.cons_append,joinL,this,List.append_assoc]
theorem join_loop {α:Type} {step:ByteArray × Int→Option ((ByteArray × Int) ⊕ ByteArray)} (l:List α) (f:α→Bytes) (ix:Nat→Int) (h0:ix 0 = 0)
  (hB:∀ k,(commasL ((l.take k).map f)).length≤100000000)
  (hin:∀ (k:Nat) (y:α) (acc:Bytes),l[k]? = some y→acc.length≤100000000→step (bs acc,ix k) = some (.inl (bs ((if k = 0 then acc else acc ++ [44,32]) ++ f y),ix (k + 1))))
  (hend:∀ acc,step (bs acc,ix l.length) = some (.inr (bs acc))) {n:Nat} (hn:l.length < n):iter step n (bs [],0) = some (bs (commasL (l.map f))):=by
 obtain ⟨r,hr,rfl⟩:=iter_inv (step:=step) l (fun (k:Nat) (a:Bytes)=>(bs a,ix k)) (fun k a=>a = commasL ((l.take k).map f)) (fun r=>r = bs (commasL (l.map f)))
  (fun k a y hy ha=>by
   have hb:=hB k
   rw [← ha] at hb
   refine .inl ⟨_,hin k y a hy hb,?_⟩
   have hlt:=lt_of_get hy
   have ht:l.take (k + 1) = l.take k ++ [y]:=by rw [List.take_add_one,hy]; rfl
   rw [ht,List.map_append]
   subst ha
   by_cases hk:k = 0
   ·subst hk
    simp [commasL,joinL]
   ·rw [if_neg hk]
    unfold commasL
    simp only [List.map_cons,List.map_nil]
    rw [joinL_snoc _ _ _ (by simp; exact ⟨hk,by intro e; simp [e] at hlt⟩)]
    simp)
  (fun a ha=>⟨bs a,hend a,by rw [ha]; simp⟩) n [] hn (by simp [commasL,joinL])
 rw [← h0]
 exact hr
theorem F179_eq {l:List Node} (h1:∀ y ∈ l,okE y) (hs:szs l≤200) {n:Nat} (hn:500≤n):F179 n l = some (bs (commasL (tx l))):=by
 have hlen:=szs_len l
 unfold F179
 rw [join_loop l txt (fun k=>(k:Int)) rfl (fun k=>by
  have:=commas_tx_len (l:=l.take k) (fun y hy=>h1 y (List.mem_of_mem_take hy)) (by have:=szs_take_le l k; omega)
  unfold tx at this
  omega) (fun k y acc hy hacc=>by
   have hlt:=lt_of_get hy
   have hm:=List.mem_of_getElem? hy
   have hsy:=szs_mem l y hm
   have ht:=txt_len y (h1 y hm)
   have c1:decide ((k:Int) < (l.length:Int)) = true:=by simpa using hlt
   have c2:w64 ((k:Int) + 1) = ((k + 1:Nat):Int):=w64_nat (by omega)
   simp only [c1,c2,cond_true,idxL_some hy,F80_eq y (h1 y hm) (by omega) n (by omega),Option.bind_some]
   by_cases hk:k = 0
   ·subst hk
    have c3:decide (0 < ((0:Nat):Int)) = false:=by simp
    simp only [c3,cond_false,Option.bind_some]
    rw [cat_eq (by rw [tl_bs,tl_bs]; omega)]
    simp [tl_bs]
   ·have c3:decide (0 < (k:Int)) = true:=by simp; omega
    simp only [c3,cond_true,if_neg hk]
    simp (disch:=(simp only [tl_bs,List.length_append,List.length_cons,List.length_nil]; omega)) only [cat_eq,tl_bs,Option.bind_some]) (fun acc=>by
   have c1:decide ((l.length:Int) < (l.length:Int)) = false:=by simp
   simp only [c1,cond_false]) (by omega)]
 rfl
theorem F183_eq {l:List Node} (h1:∀ y ∈ l,nameB (tl y.name) = true∧inR y.n = true) (hl:l.length≤200) {n:Nat} (hn:300≤n):F183 n l = some (bs (commasL (l.map sizedL))):=by
 unfold F183
 rw [join_loop l sizedL (fun k=>(k:Int)) rfl (fun k=>by
  have h3:=joinL_len [44,32] ((l.take k).map sizedL)
  have h2:=sum_le ((l.take k).map sizedL) 60 (fun s hs=>by
   simp only [List.mem_map] at hs
   obtain ⟨y,hy,rfl⟩:=hs
   exact sized_len (h1 y (List.mem_of_mem_take hy)).1)
  simp only [List.length_map,List.length_take,List.length_cons,List.length_nil] at h3 h2
  unfold commasL
  omega) (fun k y acc hy hacc=>by
   have hlt:=lt_of_get hy
   obtain ⟨hnm,hnn⟩:=h1 y (List.mem_of_getElem? hy)
   have l1:=nameB_len hnm
   have l2:=numL_len y.n
   have c1:decide ((k:Int) < (l.length:Int)) = true:=by simpa using hlt
   have c2:w64 ((k:Int) + 1) = ((k + 1:Nat):Int):=w64_nat (by omega)
   have hw:sizedL y = joinL [32] [tl y.name,[58],numL y.n]:=words_ne (by
    simp only [List.mem_cons,List.not_mem_nil,or_false,forall_eq_or_imp,forall_eq]
    exact ⟨(name_GX hnm).ne,by simp,(num_GX _).ne⟩)
   simp only [c1,c2,cond_true,idxL_some hy,itoa_eq hnn,Option.bind_some]
   by_cases hk:k = 0
   ·subst hk
    have c3:decide (0 < ((0:Nat):Int)) = false:=by simp
    simp only [c3,cond_false,Option.bind_some]
    simp (disch:=(simp only [tl_bs,List.length_append,List.length_cons,List.length_nil]; omega)) only [cat_eq,tl_bs,Option.bind_some]
    simp [hw,joinL]
   ·have c3:decide (0 < (k:Int)) = true:=by simp; omega
    simp only [c3,cond_true,if_neg hk]
    simp (disch:=(simp only [tl_bs,List.length_append,List.length_cons,List.length_nil]; omega)) only [cat_eq,tl_bs,Option.bind_some]
    simp [hw,joinL]) (fun acc=>by
   have c1:decide ((l.length:Int) < (l.length:Int)) = false:=by simp
   simp only [c1,cond_false]) (by omega)]
 rfl
theorem F176_eq {l:List Node} (hp:pairsB l = true) (h1:∀ y ∈ l,okE y) (hs:szs l≤200) {n:Nat} (hn:500≤n):F176 n l = some (bs (assignsL (tx l))):=by
 have hlen:=szs_len l
 have hpl:=prs_len l hp
 have hok:∀ p ∈ prs l,(okE p.1∧sz p.1≤200)∧(okE p.2∧sz p.2≤200):=by
  intro p hp
  obtain ⟨k,hk,rfl⟩:=List.mem_iff_getElem.1 hp
  obtain ⟨g1,g2⟩:=prs_get l k _ (List.getElem?_eq_getElem hk)
  have m1:=List.mem_of_getElem? g1
  have m2:=List.mem_of_getElem? g2
  have:=szs_mem l _ m1
  have:=szs_mem l _ m2
  exact ⟨⟨h1 _ m1,by omega⟩,⟨h1 _ m2,by omega⟩⟩
 have hpr:∀ p ∈ prs l,(prT p).length≤40000∧prT p = joinL [32] [txt p.1,[58,61],txt p.2]:=fun p hp=>by
  obtain ⟨o1,o2⟩:=hok p hp
  have t1:=txt_len _ o1.1
  have t2:=txt_len _ o2.1
  have:=wordsL_len [txt p.1,[58,61],txt p.2]
  refine ⟨by unfold prT; simp at this; omega,words_ne ?_⟩
  simp only [List.mem_cons,List.not_mem_nil,or_false,forall_eq_or_imp,forall_eq]
  exact ⟨(txt_GX _ o1.1).ne,by simp,(txt_GX _ o2.1).ne⟩
 unfold F176 assignsL
 rw [prs_pairL,join_loop (prs l) prT (fun k=>((2 * k:Nat):Int)) rfl (fun k=>by
  have h1:=joinL_len [44,32] (((prs l).take k).map prT)
  have h2:=sum_le (((prs l).take k).map prT) 40000 (fun s hs=>by
   simp only [List.mem_map] at hs
   obtain ⟨y,hy,rfl⟩:=hs
   exact (hpr y (List.mem_of_mem_take hy)).1)
  simp only [List.length_map,List.length_take,List.length_cons,List.length_nil] at h1 h2
  unfold commasL
  have h3:min k (prs l).length≤100:=by omega
  generalize min k (prs l).length = q at *
  have h4:q * 40000≤4000000:=by omega
  omega) (fun k p acc hx hacc=>by
   have hlt:=lt_of_get hx
   obtain ⟨g1,g2⟩:=prs_get l k p hx
   obtain ⟨o1,o2⟩:=hok p (List.mem_of_getElem? hx)
   have t1:=txt_len _ o1.1
   have t2:=txt_len _ o2.1
   have hw:=(hpr p (List.mem_of_getElem? hx)).2
   have e1:w64 (((2 * k:Nat):Int) + 1) = ((2 * k + 1:Nat):Int):=w64_nat (by omega)
   have e2:w64 (((2 * k:Nat):Int) + 2) = ((2 * (k + 1):Nat):Int):=by rw [w64_id (by omega) (by omega)]; omega
   have c1:decide (((2 * k + 1:Nat):Int) < (l.length:Int)) = true:=by simp; omega
   simp only [e1,e2,c1,cond_true,idxL_some g1,idxL_some g2,Option.bind_some,F80_eq p.1 o1.1 o1.2 n (by omega),F80_eq p.2 o2.1 o2.2 n (by omega)]
   by_cases hk:k = 0
   ·subst hk
    have c3:decide (0 < ((2 * 0:Nat):Int)) = false:=by simp
    simp only [c3,cond_false,Option.bind_some]
    simp (disch:=(simp only [tl_bs,List.length_append,List.length_cons,List.length_nil]; omega)) only [cat_eq,tl_bs,Option.bind_some]
    simp [hw,joinL]
   ·have c3:decide (0 < ((2 * k:Nat):Int)) = true:=by simp; omega
    simp only [c3,cond_true,if_neg hk]
    simp (disch:=(simp only [tl_bs,List.length_append,List.length_cons,List.length_nil]; omega)) only [cat_eq,tl_bs,Option.bind_some]
    simp [hw,joinL]) (fun acc=>by
   have e1:w64 (((2 * (prs l).length:Nat):Int) + 1) = ((2 * (prs l).length + 1:Nat):Int):=w64_nat (by omega)
   have c1:decide (((2 * (prs l).length + 1:Nat):Int) < (l.length:Int)) = false:=by simp; omega
   simp only [e1,c1,cond_false]) (by omega)]
 rfl
theorem F120_eq {d:Nat} (hd:d≤300) {n:Nat} (hn:400≤n):F120 n (d:Int) = some (bs (repL [32,32] d)):=by
 unfold F120
 obtain ⟨r,hr,rfl⟩:=iter_inv (step:=fun s1:ByteArray × Int=>bif decide (s1.2 < (d:Int)) then
   ((catS s1.1 (bs [32,32])).bind fun x3 =>
   some (.inl (x3,w64 (s1.2 + 1))))
  else
   (some (.inr s1.1))) (List.replicate d ()) (fun (k:Nat) (a:Bytes)=>(bs a,(k:Int))) (fun k a=>a = repL [32,32] k) (fun r=>r = bs (repL [32,32] d))
  (fun k a y hy ha=>by
   have hlt:=lt_of_get hy
   simp only [List.length_replicate] at hlt
   have c1:decide ((k:Int) < (d:Int)) = true:=by simpa using hlt
   have c2:w64 ((k:Int) + 1) = ((k + 1:Nat):Int):=w64_nat (by omega)
   have hl:=repL_len [32,32] k
   simp only [List.length_cons,List.length_nil] at hl
   simp only [c1,c2,cond_true]
   rw [cat_eq (by rw [tl_bs,tl_bs,ha]; simp; omega)]
   refine .inl ⟨a ++ [32,32],rfl,?_⟩
   subst ha
   rw [rep_rep,rep_rep,show 2 * (k + 1) = 2 * k + 2 by omega,show ([32,32]:Bytes) = List.replicate 2 32 from rfl,List.replicate_append_replicate])
  (fun a ha=>⟨bs a,by
   simp only [List.length_replicate]
   have c1:decide ((d:Int) < (d:Int)) = false:=by simp
   simp only [c1,cond_false],by rw [ha]; simp⟩) n [] (by simp; omega) rfl
 erw [hr]
 rfl
end Go.Proofs.YtbecjgckobhmpaaGreatDoor
end
section
namespace Go.Proofs.YtbecjgckobhmpaaGreatDoor
open Go Go.AM Go.Proofs
theorem wd1 {a:Bytes} (h:a≠[]):wordsL [a] = a:=words_one h
theorem wdn (l:List Bytes):wordsL ([] :: l) = wordsL l:=by simp [wordsL]
theorem wdcn (a:Bytes) (l:List Bytes):wordsL (a :: [] :: l) = wordsL (a :: l):=by simp [wordsL,List.filter_cons]
theorem wdcc {a b:Bytes} (l:List Bytes) (ha:a≠[]) (hb:b≠[]):wordsL (a :: b :: l) = a ++ (32 :: wordsL (b :: l)):=by
 have e1:(!a.isEmpty) = true:=by simpa using ha
 have e2:(!b.isEmpty) = true:=by simpa using hb
 simp [wordsL,e1,e2,joinL]
theorem F175_eq {s:Bytes} {c:Bool} (hs:s.length≤1000):F175 (bs s) c = some (bs (bif c then s ++ [32] else [])):=by
 unfold F175
 cases c
 ·rfl
 ·simp only [cond_true]
  rw [cat_eq (by rw [tl_bs,tl_bs]; simp; omega)]
  rfl
theorem assigns_ne {a b:Node} {r:List Node} (h:∀ y ∈ a :: b :: r,okE y):assignsL (tx (a :: b :: r))≠[]:=by
 unfold assignsL commasL
 exact (joinL_comma _ (pairL_GX _ (tx_GX h)) (by simp [tx,pairL])).ne
theorem commas_ne {a:Node} {r:List Node} (h:∀ y ∈ a :: r,okE y):commasL (tx (a :: r))≠[]:=by
 unfold commasL
 exact (joinL_comma _ (tx_GX h) (by simp [tx])).ne
theorem F177_nil {n:Nat}:F177 n [] = some (bs []):=rfl
theorem F177_cons {l:List Node} (hne:l≠[]) (hp:pairsB l = true) (h1:∀ y ∈ l,okE y) (hs:szs l≤200) {n:Nat} (hn:500≤n):F177 n l = some (bs ([32,119,105,116,104,32] ++ assignsL (tx l))):=by
 unfold F177
 have c:((l.length:Int) == 0) = false:=nbeq (by
  have:=List.length_pos_iff.2 hne
  omega)
 have a2:=assigns_len h1 hs
 rw [c,F176_eq hp h1 hs hn]
 simp only [cond_false,Option.bind_some]
 rw [cat_eq (by simp [tl_bs]; omega)]
 rfl
section
variable {x:Node}
theorem F182_eq (h1:nameB (tl x.name) = true) (h2:inR x.n = true) (h3:inR x.len = true) (h4:inR x.init = true) (h5:strEq x.other (bs []) = true∨nameB (tl x.other) = true) :
  F182 x = some (bs (sharedL x ++ [59])):=by
 have ln:=nameB_len h1
 have n0:=(name_GX h1).ne
 have l2:=numL_len x.n
 have l3:=numL_len x.len
 have l4:=numL_len x.init
 have m2:=(num_GX x.n).ne
 have m3:=(num_GX x.len).ne
 have m4:=(num_GX x.init).ne
 unfold F182
 rw [F175_eq (by simp),itoa_eq h2,itoa_eq h3,itoa_eq h4]
 have lO:(tl x.other).length≤16∧(strEq x.other (bs []) = false→tl x.other≠[]):=by
  rcases h5 with h | h
  ·have:tl x.other = []:=str_nil.1 h
   exact ⟨by rw [this]; simp,fun e=>by rw [h] at e; cases e⟩
  ·have:=nameB_len h
   exact ⟨by omega,fun _=>(name_GX h).ne⟩
 obtain ⟨lO,nO⟩:=lO
 cases hg:x.ghost <;> cases hl:x.len != 0 <;> cases hi:x.init != 0 <;> cases ho:strEq x.other (bs []) <;>
  simp only [cond_true,cond_false,Option.bind_some,Bool.not_true,Bool.not_false] <;>
  simp (disch:=(simp only [tl_bs,List.length_append,List.length_cons,List.length_nil]; omega)) only [cat_eq,tl_bs,Option.bind_some] <;>
  first
  | simp [sharedL,onlyL,hg,hl,hi,ho,wd1,wdn,wdcn,wdcc,n0,m4,nO ho]
  | simp [sharedL,onlyL,hg,hl,hi,ho,wd1,wdn,wdcn,wdcc,n0,m2,m4]
theorem stm_eq (hT:okT x = true) (hk:x.kind = 20∨x.kind = 29∨x.kind = 26∨x.kind = 30∨x.kind = 21∨x.kind = 22∨x.kind = 23∨x.kind = 24∨x.kind = 25∨x.kind = 27∨x.kind = 28∨x.kind = 33∨x.kind = 35) (hs:sz x≤200) {n:Nat} (hn:600≤n) (d:Int) :
  F121 (n + 1) x d = some (bs (simpL x ++ [59])):=by
 obtain ⟨hf,hkd,hks⟩:=okT_parts hT
 have hsz:=sz_eq x
 have kE:∀ y ∈ x.kids,isE y.kind = true→okE y:=fun y hy he=>⟨hks y hy,he⟩
 have kS:∀ y ∈ x.kids,sz y≤200:=fun y hy=>by have:=szs_mem x.kids y hy; omega
 have one:ex1 eX x.kids = true→∃ a,x.kids[0]? = some a∧okE a∧sz a≤200:=fun h=>by
  obtain ⟨a,ha,he⟩:=ex1_iff h
  exact ⟨a,by simp [ha],kE a (by simp [ha]) he,kS a (by simp [ha])⟩
 have F80k:∀ a,okE a→sz a≤200→F80 n a = some (bs (txt a)):=fun a h1 h2=>F80_eq a h1 h2 n (by omega)
 show F121_step (F122 n) (F181 n) (F180 n) (F121 n) (F77 n) n x d = _
 unfold F121_step
 rcases hk with h | h | h | h | h | h | h | h | h | h | h | h | h
 ·simp [kidsB,leafK,oneK,h] at hkd
  obtain ⟨a,ha,hE,hS⟩:=one hkd
  have ht:=ln_txt hE hS
  have hne:=(txt_GX a hE).ne
  simp only [simpL,stmtL,h,Int.reduceBEq,cond_true,cond_false,idx0 ha,tnth_eq ha,Option.bind_some,F80k a hE hS]
  simp (disch:=(simp only [tl_bs,List.length_append,List.length_cons,List.length_nil]; omega)) only [cat_eq,tl_bs,Option.bind_some]
  simp [wd1,wdcc,hne]
 ·simp [kidsB,leafK,oneK,h] at hkd
  obtain ⟨a,ha,hE,hS⟩:=one hkd
  have ht:=ln_txt hE hS
  have hne:=(txt_GX a hE).ne
  simp only [simpL,stmtL,h,Int.reduceBEq,cond_true,cond_false,idx0 ha,tnth_eq ha,Option.bind_some,F80k a hE hS]
  simp (disch:=(simp only [tl_bs,List.length_append,List.length_cons,List.length_nil]; omega)) only [cat_eq,tl_bs,Option.bind_some]
  simp [wd1,wdcc,hne]
 ·simp only [simpL,stmtL,h,Int.reduceBEq,cond_true,cond_false]
  rfl
 ·simp only [simpL,stmtL,h,Int.reduceBEq,cond_true,cond_false]
  rfl
 ·simp [kidsB,leafK,oneK,h] at hkd
  match hx:x.kids,hkd with
  | [],hkd=>simp at hkd
  | [a],hkd=>simp [pairsB] at hkd
  | a :: b :: r,hkd =>
   have hp:=hkd.2
   have hE:∀ y ∈ a :: b :: r,okE y:=fun y hy=>kE y (by rw [hx]; exact hy) (pairs_E _ hp y hy)
   simp only [pairsB,Bool.and_eq_true] at hp
   have hz:szs [a,b] + szs r≤200:=by rw [hx] at hsz; simp only [szs] at *; omega
   have s1:subL (a :: b :: r) 0 2 = some [a,b]:=by
    have:=subL_eq (l:=a :: b :: r) (a:=0) (b:=2) (by simp) (by simp)
    rw [show ((0:Nat):Int) = 0 from rfl,show ((2:Nat):Int) = 2 from rfl] at this
    rw [this]; simp
   have s2:subL (a :: b :: r) 2 ((a :: b :: r).length:Int) = some r:=by
    have:=subL_eq (l:=a :: b :: r) (a:=2) (b:=(a :: b :: r).length) (by simp) (by simp)
    rw [show ((2:Nat):Int) = 2 from rfl] at this
    rw [this]; simp
   have hE1:∀ y ∈ [a,b],okE y:=fun y hy=>hE y (by simp at hy; rcases hy with rfl | rfl <;> simp)
   have hE2:∀ y ∈ r,okE y:=fun y hy=>hE y (by simp [hy])
   have g1:=F176_eq (l:=[a,b]) (by simp [pairsB,hp.1,hp.2.1]) hE1 (by omega) (show 500≤n by omega)
   have a1:=assigns_len hE1 (by omega)
   have a2:=assigns_len hE2 (by omega)
   have e1:=assigns_ne hE1
   simp only [simpL,stmtL,h,hx,Int.reduceBEq,cond_true,cond_false,s1,s2,g1,Option.bind_some]
   rw [F175_eq (by simp)]
   cases r with
   | nil =>
    rw [F177_nil]
    have c2:decide (2 < (([a,b]:List Node).length:Int)) = false:=by simp
    cases x.n == 1 <;> simp only [cond_true,cond_false,Option.bind_some,onlyL,c2] <;>
     simp (disch:=(simp only [tl_bs,List.length_append,List.length_cons,List.length_nil]; omega)) only [cat_eq,tl_bs,Option.bind_some] <;>
     simp [wd1,wdn,wdcn,wdcc,e1]
   | cons q qs =>
    match qs,hp.2.2 with
    | [],hp=>simp [pairsB] at hp
    | q2 :: qs,hp2 =>
     have e2:=assigns_ne hE2
     rw [F177_cons (by simp) hp2 hE2 (by omega) (by omega)]
     have c2:decide (2 < ((a :: b :: q :: q2 :: qs).length:Int)) = true:=by simp; omega
     cases x.n == 1 <;> simp only [cond_true,cond_false,Option.bind_some,onlyL,c2] <;>
      simp (disch:=(simp only [tl_bs,List.length_append,List.length_cons,List.length_nil]; omega)) only [cat_eq,tl_bs,Option.bind_some] <;>
      simp [wd1,wdn,wdcc,e1,e2]
 ·simp [kidsB,leafK,oneK,h] at hkd
  match hx:x.kids,hkd with
  | a :: r,hkd =>
   simp only [atomK,enX,Bool.and_eq_true,Bool.or_eq_true,beq_iff_eq] at hkd
   rw [hx] at kE hsz
   have er:∀ y ∈ r,okE y:=fun y hy=>kE y (by simp [hy]) (pairs_E _ hkd.2 y hy)
   have hz:sz a + szs r≤200:=by simp only [szs] at *; omega
   have g2:=F176_eq (l:=r) hkd.2 er (by omega) (show 500≤n by omega)
   have a2:=assigns_len er (by omega)
   have i0:idxL (a :: r) 0 = some a:=idx0 rfl
   have t0:tnth (a :: r) 0 = txt a:=tnth_eq rfl
   have hA:(a.kind = 63)∨(¬ a.kind = 63∧F80 n a = some (bs (txt a))∧(txt a).length≤30000∧txt a≠[]):=by
    rcases hkd.1 with h1 | h1
    ·have ea:=kE a (by simp) h1
     refine .inr ⟨?_,F80k a ea (by omega),ln_txt ea (by omega),(txt_GX a ea).ne⟩
     intro e; rw [e] at h1; simp [isE] at h1
    ·exact .inl h1
   simp only [simpL,stmtL,h,hx,Int.reduceBEq,cond_true,cond_false,F178,subL_tail,g2,i0,t0,Option.bind_some]
   cases r with
   | nil =>
    have c1:decide (1 < (([a]:List Node).length:Int)) = false:=by simp
    have e0:assignsL (tx ([]:List Node)) = []:=rfl
    rcases hA with hA | ⟨hA,f1,f2,f3⟩
    ·simp only [c1,hA,cond_false,Option.bind_some,onlyL]
     simp (disch:=(simp only [tl_bs,List.length_append,List.length_cons,List.length_nil]; omega)) only [cat_eq,tl_bs,Option.bind_some]
     simp [hA,e0,wd1,wdcn,wdcc]
    ·have c2:(a.kind != 63) = true:=by simpa using hA
     simp only [c1,c2,f1,cond_true,cond_false,Option.bind_some,onlyL]
     simp (disch:=(simp only [tl_bs,List.length_append,List.length_cons,List.length_nil]; omega)) only [cat_eq,tl_bs,Option.bind_some]
     simp [c2,e0,wd1,wdcn,wdcc,f3]
   | cons q qs =>
    match qs,hkd.2 with
    | [],hp=>simp [pairsB] at hp
    | q2 :: qs,hp2 =>
     have e1:=assigns_ne er
     have c1:decide (1 < ((a :: q :: q2 :: qs).length:Int)) = true:=by simp; omega
     rcases hA with hA | ⟨hA,f1,f2,f3⟩
     ·simp only [c1,hA,cond_true,onlyL]
      simp (disch:=(simp only [tl_bs,List.length_append,List.length_cons,List.length_nil]; omega)) only [cat_eq,tl_bs,Option.bind_some]
      simp [hA,wd1,wdcn,wdcc,e1]
     ·have c2:(a.kind != 63) = true:=by simpa using hA
      simp only [c1,c2,f1,cond_true,Option.bind_some,onlyL]
      simp (disch:=(simp only [tl_bs,List.length_append,List.length_cons,List.length_nil]; omega)) only [cat_eq,tl_bs,Option.bind_some]
      simp [c2,wd1,wdcc,f3,e1]
 ·simp [kidsB,leafK,oneK,h] at hkd
  match hx:x.kids,hkd with
  | a :: b :: c :: d :: r,hkd =>
   simp only [casK,Bool.and_eq_true,kX,eX,beq_iff_eq] at hkd
   rw [hx] at kE hsz
   have ea:okE a:=kE a (by simp) (by rw [hkd.1.1]; rfl)
   have eb:okE b:=kE b (by simp) hkd.1.2.1
   have ec:okE c:=kE c (by simp) hkd.1.2.2.1
   have ed:okE d:=kE d (by simp) (by rw [hkd.1.2.2.2]; rfl)
   have er:∀ y ∈ r,okE y:=fun y hy=>kE y (by simp [hy]) (pairs_E _ hkd.2 y hy)
   have hE3:∀ y ∈ [a,b,c],okE y:=fun y hy=>by
    simp at hy
    rcases hy with rfl | rfl | rfl <;> assumption
   have hz:szs [a,b,c] + sz d + szs r≤200:=by simp only [szs] at *; omega
   have s1:subL (a :: b :: c :: d :: r) 0 3 = some [a,b,c]:=by
    have:=subL_eq (l:=a :: b :: c :: d :: r) (a:=0) (b:=3) (by simp) (by simp)
    rw [show ((0:Nat):Int) = 0 from rfl,show ((3:Nat):Int) = 3 from rfl] at this
    rw [this]; simp
   have s2:subL (a :: b :: c :: d :: r) 4 ((a :: b :: c :: d :: r).length:Int) = some r:=by
    have:=subL_eq (l:=a :: b :: c :: d :: r) (a:=4) (b:=(a :: b :: c :: d :: r).length) (by simp) (by simp)
    rw [show ((4:Nat):Int) = 4 from rfl] at this
    rw [this]; simp
   have g1:=F179_eq (l:=[a,b,c]) hE3 (by omega) (show 500≤n by omega)
   have a1:=commas_tx_len hE3 (by omega)
   have a2:=assigns_len er (by omega)
   have e1:=commas_ne hE3
   have ld:=ln_txt ed (by omega)
   have nd':=(txt_GX d ed).ne
   have i3:idxL (a :: b :: c :: d :: r) 3 = some d:=idx3 rfl
   have t3:tnth (a :: b :: c :: d :: r) 3 = txt d:=tnth_eq rfl
   simp only [simpL,stmtL,h,hx,Int.reduceBEq,cond_true,cond_false,s1,s2,g1,i3,t3,Option.bind_some,F80k d ed (by omega)]
   cases r with
   | nil =>
    rw [F177_nil]
    have c2:decide (4 < (([a,b,c,d]:List Node).length:Int)) = false:=by simp
    simp only [cond_false,Option.bind_some,onlyL,c2]
    simp (disch:=(simp only [tl_bs,List.length_append,List.length_cons,List.length_nil]; omega)) only [cat_eq,tl_bs,Option.bind_some]
    simp [wd1,wdcn,wdcc,e1,nd']
   | cons q qs =>
    match qs,hkd.2 with
    | [],hp=>simp [pairsB] at hp
    | q2 :: qs,hp2 =>
     have e2:=assigns_ne er
     rw [F177_cons (by simp) hp2 er (by omega) (by omega)]
     have c2:decide (4 < ((a :: b :: c :: d :: q :: q2 :: qs).length:Int)) = true:=by simp; omega
     simp only [cond_true,Option.bind_some,onlyL,c2]
     simp (disch:=(simp only [tl_bs,List.length_append,List.length_cons,List.length_nil]; omega)) only [cat_eq,tl_bs,Option.bind_some]
     simp [wd1,wdcc,e1,nd',e2]
 ·simp [fieldsB,fldGood,h] at hf
  have l1:=ln_path hf.1
  have n1:=(path_GX 3 hf.1).ne
  simp only [simpL,stmtL,h,Int.reduceBEq,cond_true,cond_false]
  simp (disch:=(simp only [tl_bs,List.length_append,List.length_cons,List.length_nil]; omega)) only [cat_eq,tl_bs,Option.bind_some]
  simp [wd1,wdcc,n1]
 ·simp [fieldsB,fldGood,h] at hf
  have l1:=ln_path hf.1
  have n1:=(path_GX 3 hf.1).ne
  simp only [simpL,stmtL,h,Int.reduceBEq,cond_true,cond_false]
  simp (disch:=(simp only [tl_bs,List.length_append,List.length_cons,List.length_nil]; omega)) only [cat_eq,tl_bs,Option.bind_some]
  simp [wd1,wdcc,n1]
 ·simp [fieldsB,fldGood,h] at hf
  have l1:=ln_name hf.1
  have n1:=(name_GX hf.1).ne
  simp only [simpL,stmtL,h,Int.reduceBEq,cond_true,cond_false]
  simp (disch:=(simp only [tl_bs,List.length_append,List.length_cons,List.length_nil]; omega)) only [cat_eq,tl_bs,Option.bind_some]
  simp [wd1,wdcc,n1]
 ·simp [fieldsB,fldGood,h] at hf
  have l1:=ln_name hf.1
  have n1:=(name_GX hf.1).ne
  simp only [simpL,stmtL,h,Int.reduceBEq,cond_true,cond_false]
  simp (disch:=(simp only [tl_bs,List.length_append,List.length_cons,List.length_nil]; omega)) only [cat_eq,tl_bs,Option.bind_some]
  simp [wd1,wdcc,n1]
 ·simp [fieldsB,fldGood,h] at hf
  simp [kidsB,leafK,oneK,h] at hkd
  have hE:∀ y ∈ x.kids,okE y:=fun y hy=>kE y hy (hkd y hy)
  have hc:=commas_tx_len hE (by omega)
  have l1:=ln_path hf.1
  have n1:=(path_GX 3 hf.1).ne
  simp only [simpL,stmtL,h,Int.reduceBEq,cond_true,cond_false]
  rw [F179_eq hE (by omega) (by omega)]
  simp only [Option.bind_some]
  simp (disch:=(simp only [tl_bs,List.length_append,List.length_cons,List.length_nil]; omega)) only [cat_eq,tl_bs,Option.bind_some]
  simp [wd1,wdcc,n1]
 ·simp [fieldsB,fldGood,h] at hf
  have l1:=ln_name hf.1.1
  have n1:=(name_GX hf.1.1).ne
  have l2:=numL_len x.n
  have n2:=(num_GX x.n).ne
  simp only [simpL,stmtL,h,Int.reduceBEq,cond_true,cond_false]
  rw [F175_eq (by simp),itoa_eq hf.1.2]
  cases x.ghost <;> simp only [cond_true,cond_false,Option.bind_some,onlyL] <;>
   simp (disch:=(simp only [tl_bs,List.length_append,List.length_cons,List.length_nil]; omega)) only [cat_eq,tl_bs,Option.bind_some] <;>
   simp [sizedL,wd1,wdn,wdcc,n1,n2]
theorem dec_eq (hT:okT x = true) (hk:x.kind = 61∨x.kind = 52∨x.kind = 50∨x.kind = 53∨x.kind = 54∨x.kind = 55∨x.kind = 56) (hs:sz x≤200) {n:Nat} (hn:600≤n) (d:Int) :
  F122 (n + 1) x d = some (bs (simpL x ++ [59])):=by
 obtain ⟨hf,hkd,hks⟩:=okT_parts hT
 have hsz:=sz_eq x
 have kE:∀ y ∈ x.kids,isE y.kind = true→okE y:=fun y hy he=>⟨hks y hy,he⟩
 have kS:∀ y ∈ x.kids,sz y≤200:=fun y hy=>by have:=szs_mem x.kids y hy; omega
 have one:ex1 eX x.kids = true→∃ a,x.kids[0]? = some a∧okE a∧sz a≤200:=fun h=>by
  obtain ⟨a,ha,he⟩:=ex1_iff h
  exact ⟨a,by simp [ha],kE a (by simp [ha]) he,kS a (by simp [ha])⟩
 have F80k:∀ a,okE a→sz a≤200→F80 n a = some (bs (txt a)):=fun a h1 h2=>F80_eq a h1 h2 n (by omega)
 show F122_step (F122 n) (F181 n) (F180 n) (F121 n) (F77 n) n x d = _
 unfold F122_step
 rcases hk with h | h | h | h | h | h | h
 ·simp [fieldsB,fldGood,h] at hf
  simp [kidsB,leafK,oneK,h] at hkd
  have hE:∀ y ∈ x.kids,okE y:=fun y hy=>kE y hy (by
   have:=hkd y hy
   simp [kX] at this
   rw [this]; rfl)
  have hc:=commas_tx_len hE (by omega)
  have l1:=ln_name hf.1.1
  have n1:=(name_GX hf.1.1).ne
  have l2:=ln_path hf.1.2.1
  have n2:=(path_GX 3 hf.1.2.1).ne
  simp only [simpL,h,Int.reduceBEq,cond_true,cond_false]
  rw [F179_eq hE (by omega) (by omega),F175_eq (by simp)]
  cases x.n == 1 <;> simp only [cond_true,cond_false,Option.bind_some,onlyL] <;>
   simp (disch:=(simp only [tl_bs,List.length_append,List.length_cons,List.length_nil]; omega)) only [cat_eq,tl_bs,Option.bind_some] <;>
   simp [wd1,wdn,wdcc,n1,n2]
 ·simp [fieldsB,fldGood,h] at hf
  have l1:=ln_name hf.1.1
  have n1:=(name_GX hf.1.1).ne
  have l2:=numL_len x.n
  have n2:=(num_GX x.n).ne
  simp only [simpL,h,Int.reduceBEq,cond_true,cond_false,itoa_eq hf.1.2]
  simp (disch:=(simp only [tl_bs,List.length_append,List.length_cons,List.length_nil]; omega)) only [cat_eq,tl_bs,Option.bind_some]
  simp [sizedL,wd1,wdcc,n1,n2]
 ·simp [fieldsB,fldGood,h] at hf
  simp only [simpL,h,Int.reduceBEq,cond_true,cond_false]
  rw [F182_eq hf.1.1 hf.1.2.1 hf.1.2.2.1 hf.1.2.2.2.1 (hf.1.2.2.2.2.imp id And.right)]
  rfl
 ·simp [fieldsB,fldGood,h] at hf
  simp [kidsB,leafK,oneK,h] at hkd
  obtain ⟨a,ha,hE,hS⟩:=one hkd
  have l1:=ln_name hf.1
  have n1:=(name_GX hf.1).ne
  have ht:=ln_txt hE hS
  have hne:=(txt_GX a hE).ne
  simp only [simpL,h,Int.reduceBEq,cond_true,cond_false,idx0 ha,tnth_eq ha,Option.bind_some,F80k a hE hS]
  simp (disch:=(simp only [tl_bs,List.length_append,List.length_cons,List.length_nil]; omega)) only [cat_eq,tl_bs,Option.bind_some]
  simp [wd1,wdcc,n1,hne]
 ·simp [kidsB,leafK,oneK,h] at hkd
  obtain ⟨a,ha,hE,hS⟩:=one hkd
  have ht:=ln_txt hE hS
  have hne:=(txt_GX a hE).ne
  simp only [simpL,h,Int.reduceBEq,cond_true,cond_false,idx0 ha,tnth_eq ha,Option.bind_some,F80k a hE hS]
  simp (disch:=(simp only [tl_bs,List.length_append,List.length_cons,List.length_nil]; omega)) only [cat_eq,tl_bs,Option.bind_some]
  simp [wd1,wdcc,hne]
 ·simp [kidsB,leafK,oneK,h] at hkd
  obtain ⟨a,ha,hE,hS⟩:=one hkd
  have ht:=ln_txt hE hS
  have hne:=(txt_GX a hE).ne
  simp only [simpL,h,Int.reduceBEq,cond_true,cond_false,idx0 ha,tnth_eq ha,Option.bind_some,F80k a hE hS]
  simp (disch:=(simp only [tl_bs,List.length_append,List.length_cons,List.length_nil]; omega)) only [cat_eq,tl_bs,Option.bind_some]
  simp [wd1,wdcc,hne]
 ·simp [kidsB,leafK,oneK,h] at hkd
  have hE:∀ y ∈ x.kids,okE y:=fun y hy=>kE y hy (by
   have:=hkd.2 y hy
   simp [plainX] at this
   rw [this.1]; rfl)
  have hc:=commas_tx_len hE (by omega)
  have hne:commasL (tx x.kids)≠[]:=by
   match hx:x.kids with
   | []=>simp [hx] at hkd
   | a :: r=>rw [hx] at hE; exact commas_ne hE
  simp only [simpL,h,Int.reduceBEq,cond_true,cond_false]
  rw [F179_eq hE (by omega) (by omega)]
  simp only [Option.bind_some]
  simp (disch:=(simp only [tl_bs,List.length_append,List.length_cons,List.length_nil]; omega)) only [cat_eq,tl_bs,Option.bind_some]
  simp [wd1,wdcc,hne]
end
end Go.Proofs.YtbecjgckobhmpaaGreatDoor
end
