/-
  Proved here: a part of what the claim needs (texts PA ZE ZV PB PC1 PC2 PC3 PE ZW ZO PG ZR ZT ZU ZU2 ZLA ZTA ZLP ZTX ZXE ZKE ZCE PD of the prover's own).
-/
import Derived.Test.YtbecjgckobhmpaaGreatDoorFE10
section
namespace Go.Proofs.YtbecjgckobhmpaaGreatDoor
open Go Go.AM Go.Proofs
inductive M (α:Type):Type where
 | ret (a:α)
 | fail (b:Bool)
 | out
 | look (k:Option (Int × ByteArray)→M α)
 | adv (k:M α)
 | pos (k:Int→M α)
 | setI (i:Int) (k:M α)
 | getI (k:Int→M α)
 | rep (b:Bool) (k:M α)
namespace M
variable {α β γ σ ρ:Type}
def bind:M α→(α→M β)→M β
 | .ret a,f=>f a
 | .fail b,_=>.fail b
 | .out,_=>.out
 | .look k,f=>.look fun t=>(k t).bind f
 | .adv k,f=>.adv (k.bind f)
 | .pos k,f=>.pos fun x=>(k x).bind f
 | .setI i k,f=>.setI i (k.bind f)
 | .getI k,f=>.getI fun x=>(k x).bind f
 | .rep b k,f=>.rep b (k.bind f)
def tryM:M α→(α→M β)→(Bool→M β)→M β
 | .ret a,f,_=>f a
 | .fail b,_,h=>h b
 | .out,_,_=>.out
 | .look k,f,h=>.look fun t=>(k t).tryM f h
 | .adv k,f,h=>.adv (k.tryM f h)
 | .pos k,f,h=>.pos fun x=>(k x).tryM f h
 | .setI i k,f,h=>.setI i (k.tryM f h)
 | .getI k,f,h=>.getI fun x=>(k x).tryM f h
 | .rep b k,f,h=>.rep b (k.tryM f h)
def iterM (step:σ→M (σ ⊕ ρ)):Nat→σ→M ρ
 | 0,_=>.out
 | n + 1,x=>(step x).bind fun r=>match r with
  | .inl x'=>iterM step n x'
  | .inr r=>.ret r
end M
structure PS where
 rest:List Token
 inner:Int
 reps:List (Int × Int)
def PS.ext (s:PS) (u:List Token):PS:=⟨s.rest ++ u,s.inner,s.reps⟩
inductive Out (α:Type):Type where
 | ok (a:α) (s:PS)
 | bad (b:Bool) (s:PS)
 | out
def posOf (fin:Int):List Token→Int
 | []=>fin
 | t :: _=>t.pos
def codeOf (b:Bool):List Token→Int
 | []=>21
 | _ :: _=>bif b then 2 else 20
def hdOf:List Token→Option (Int × ByteArray)
 | []=>none
 | t :: _=>some (t.kind,t.text)
namespace M
variable {α β γ σ ρ:Type}
def run (fin:Int):M α→PS→Out α
 | .ret a,s=>.ok a s
 | .fail b,s=>.bad b s
 | .out,_=>.out
 | .look k,s=>(k (hdOf s.rest)).run fin s
 | .adv k,s=>match s.rest with
  | []=>.out
  | _ :: r=>k.run fin ⟨r,s.inner,s.reps⟩
 | .pos k,s=>(k (posOf fin s.rest)).run fin s
 | .setI i k,s=>k.run fin ⟨s.rest,i,s.reps⟩
 | .getI k,s=>(k s.inner).run fin s
 | .rep b k,s=>k.run fin ⟨s.rest,s.inner,s.reps ++ [(codeOf b s.rest,posOf fin s.rest)]⟩
def andThen (o:Out α) (f:α→PS→Out β) (h:Bool→PS→Out β):Out β :=
 match o with
 | .ok a s=>f a s
 | .bad b s=>h b s
 | .out=>.out
theorem run_bind (fin:Int) (f:α→M β):∀ (m:M α) (s:PS),(m.bind f).run fin s = andThen (m.run fin s) (fun a s=>(f a).run fin s) (fun b s=>.bad b s)
 | .ret a,s=>rfl
 | .fail b,s=>rfl
 | .out,s=>rfl
 | .look k,s=>run_bind fin f (k (hdOf s.rest)) s
 | .adv k,s=>by
  obtain ⟨r,i,p⟩:=s
  cases r with
  | nil=>rfl
  | cons t r=>exact run_bind fin f k ⟨r,i,p⟩
 | .pos k,s=>run_bind fin f (k (posOf fin s.rest)) s
 | .setI i k,s=>run_bind fin f k ⟨s.rest,i,s.reps⟩
 | .getI k,s=>run_bind fin f (k s.inner) s
 | .rep b k,s=>run_bind fin f k ⟨s.rest,s.inner,s.reps ++ [(codeOf b s.rest,posOf fin s.rest)]⟩
def Ends (o:Out α) (P:PS→Prop):Prop:=match o with
 | .ok _ s=>P s
 | .bad _ s=>P s
 | .out=>True
theorem Ends.mono {o:Out α} {P Q:PS→Prop} (h:Ends o P) (k:∀ s,P s→Q s):Ends o Q:=by
 cases o <;> simp only [Ends] at h ⊢ <;> exact k _ h
theorem run_suf (fin:Int):∀ (m:M α) (s:PS),Ends (m.run fin s) fun s'=>s'.rest <:+ s.rest
 | .ret a,s=>List.suffix_refl _
 | .fail b,s=>List.suffix_refl _
 | .out,s=>trivial
 | .look k,s=>run_suf fin (k (hdOf s.rest)) s
 | .adv k,s=>by
  obtain ⟨r,i,p⟩:=s
  cases r with
  | nil=>trivial
  | cons t r=>exact (run_suf fin k ⟨r,i,p⟩).mono fun s' h=>h.trans (List.suffix_cons t r)
 | .pos k,s=>run_suf fin (k (posOf fin s.rest)) s
 | .setI i k,s=>run_suf fin k ⟨s.rest,i,s.reps⟩
 | .getI k,s=>run_suf fin (k s.inner) s
 | .rep b k,s=>run_suf fin k ⟨s.rest,s.inner,s.reps ++ [(codeOf b s.rest,posOf fin s.rest)]⟩
def Out.pre (p:List (Int × Int)):Out α→Out α
 | .ok a s=>.ok a ⟨s.rest,s.inner,p ++ s.reps⟩
 | .bad b s=>.bad b ⟨s.rest,s.inner,p ++ s.reps⟩
 | .out=>.out
def drive:M α→PS→M α × PS
 | .ret a,s=>(.ret a,s)
 | .fail b,s=>(.fail b,s)
 | .out,s=>(.out,s)
 | .look k,s=>match s.rest with
  | []=>(.look k,s)
  | t :: _=>(k (some (t.kind,t.text))).drive s
 | .adv k,s=>match s.rest with
  | []=>(.adv k,s)
  | _ :: r=>k.drive ⟨r,s.inner,s.reps⟩
 | .pos k,s=>match s.rest with
  | []=>(.pos k,s)
  | t :: _=>(k t.pos).drive s
 | .setI i k,s=>k.drive ⟨s.rest,i,s.reps⟩
 | .getI k,s=>(k s.inner).drive s
 | .rep b k,s=>match s.rest with
  | []=>(.rep b k,s)
  | t :: _=>k.drive ⟨s.rest,s.inner,s.reps ++ [(bif b then 2 else 20,t.pos)]⟩
theorem drive_ext (fin:Int) (u:List Token):∀ (m:M α) (s:PS),m.run fin (s.ext u) = (m.drive s).1.run fin ((m.drive s).2.ext u)
 | .ret a,s=>rfl
 | .fail b,s=>rfl
 | .out,s=>rfl
 | .look k,s=>by
  obtain ⟨r,i,p⟩:=s
  cases r with
  | nil=>rfl
  | cons t r=>exact drive_ext fin u (k (some (t.kind,t.text))) ⟨t :: r,i,p⟩
 | .adv k,s=>by
  obtain ⟨r,i,p⟩:=s
  cases r with
  | nil=>rfl
  | cons t r=>exact drive_ext fin u k ⟨r,i,p⟩
 | .pos k,s=>by
  obtain ⟨r,i,p⟩:=s
  cases r with
  | nil=>rfl
  | cons t r=>exact drive_ext fin u (k t.pos) ⟨t :: r,i,p⟩
 | .setI i k,s=>drive_ext fin u k ⟨s.rest,i,s.reps⟩
 | .getI k,s=>drive_ext fin u (k s.inner) s
 | .rep b k,s=>by
  obtain ⟨r,i,p⟩:=s
  cases r with
  | nil=>rfl
  | cons t r=>exact drive_ext fin u k ⟨t :: r,i,p ++ [(bif b then 2 else 20,t.pos)]⟩
theorem ext_nil (s:PS):s.ext [] = s:=by simp [PS.ext]
theorem drive_run (fin:Int) (m:M α) (s:PS):m.run fin s = (m.drive s).1.run fin (m.drive s).2:=by
 have:=drive_ext fin [] m s
 rwa [ext_nil,ext_nil] at this
def Done:M α→Prop
 | .ret _=>True
 | .fail _=>True
 | .out=>True
 | _=>False
theorem drive_end:∀ (m:M α) (s:PS),(m.drive s).2.rest = []∨Done (m.drive s).1
 | .ret a,s=>.inr trivial
 | .fail b,s=>.inr trivial
 | .out,s=>.inr trivial
 | .look k,s=>by
  obtain ⟨r,i,p⟩:=s
  cases r with
  | nil=>exact .inl rfl
  | cons t r=>exact drive_end (k (some (t.kind,t.text))) ⟨t :: r,i,p⟩
 | .adv k,s=>by
  obtain ⟨r,i,p⟩:=s
  cases r with
  | nil=>exact .inl rfl
  | cons t r=>exact drive_end k ⟨r,i,p⟩
 | .pos k,s=>by
  obtain ⟨r,i,p⟩:=s
  cases r with
  | nil=>exact .inl rfl
  | cons t r=>exact drive_end (k t.pos) ⟨t :: r,i,p⟩
 | .setI i k,s=>drive_end k ⟨s.rest,i,s.reps⟩
 | .getI k,s=>drive_end (k s.inner) s
 | .rep b k,s=>by
  obtain ⟨r,i,p⟩:=s
  cases r with
  | nil=>exact .inl rfl
  | cons t r=>exact drive_end k ⟨t :: r,i,p ++ [(bif b then 2 else 20,t.pos)]⟩
def EA:M α→Prop
 | .ret _=>False
 | .fail _=>True
 | .out=>True
 | .look k=>∀ t,EA (k t)
 | .adv k=>(∃ a,k = .ret a)∨EA k
 | .pos k=>∀ x,EA (k x)
 | .setI _ k=>EA k
 | .getI k=>∀ x,EA (k x)
 | .rep _ k=>EA k
def EAr (m:M α):Prop:=(∃ a,m = .ret a)∨EA m
theorem EA.r {m:M α} (h:EA m):EAr m:=.inr h
theorem EA.less (fin:Int):∀ (m:M α) (s:PS) (a:α) (s':PS),EA m→m.run fin s = .ok a s'→s'.rest.length < s.rest.length
 | .ret a,s,_,_,h,_=>h.elim
 | .fail b,s,_,_,_,h=>by simp [run] at h
 | .out,s,_,_,_,h=>by simp [run] at h
 | .look k,s,a,s',h,e=>EA.less fin (k (hdOf s.rest)) s a s' (h _) e
 | .adv k,s,a,s',h,e=>by
  obtain ⟨r,i,p⟩:=s
  cases r with
  | nil=>simp [run] at e
  | cons t r =>
   rcases h with ⟨b,rfl⟩ | h
   ·simp only [run,Out.ok.injEq] at e
    obtain ⟨_,rfl⟩:=e
    simp
   ·have:=EA.less fin k ⟨r,i,p⟩ a s' h e
    simp only [List.length_cons] at this ⊢
    omega
 | .pos k,s,a,s',h,e=>EA.less fin (k (posOf fin s.rest)) s a s' (h _) e
 | .setI i k,s,a,s',h,e=>EA.less fin k ⟨s.rest,i,s.reps⟩ a s' h e
 | .getI k,s,a,s',h,e=>EA.less fin (k s.inner) s a s' (h _) e
 | .rep b k,s,a,s',h,e=>EA.less fin k ⟨s.rest,s.inner,s.reps ++ [(codeOf b s.rest,posOf fin s.rest)]⟩ a s' h e
theorem EA.drive:∀ (m:M α) (s:PS),EAr m→EAr (m.drive s).1
 | .ret a,s,h=>h
 | .fail b,s,h=>h
 | .out,s,h=>h
 | .look k,s,h=>by
  obtain ⟨r,i,p⟩:=s
  cases r with
  | nil=>exact h
  | cons t r =>
   rcases h with ⟨a,h⟩ | h
   ·cases h
   ·exact EA.drive (k (some (t.kind,t.text))) ⟨t :: r,i,p⟩ (.inr (h _))
 | .adv k,s,h=>by
  obtain ⟨r,i,p⟩:=s
  cases r with
  | nil=>exact h
  | cons t r =>
   rcases h with ⟨a,h⟩ | h
   ·cases h
   ·exact EA.drive k ⟨r,i,p⟩ h
 | .pos k,s,h=>by
  obtain ⟨r,i,p⟩:=s
  cases r with
  | nil=>exact h
  | cons t r =>
   rcases h with ⟨a,h⟩ | h
   ·cases h
   ·exact EA.drive (k t.pos) ⟨t :: r,i,p⟩ (.inr (h _))
 | .setI i k,s,h=>by
  rcases h with ⟨a,h⟩ | h
  ·cases h
  ·exact EA.drive k ⟨s.rest,i,s.reps⟩ (.inr h)
 | .getI k,s,h=>by
  rcases h with ⟨a,h⟩ | h
  ·cases h
  ·exact EA.drive (k s.inner) s (.inr (h _))
 | .rep b k,s,h=>by
  obtain ⟨r,i,p⟩:=s
  cases r with
  | nil=>exact h
  | cons t r =>
   rcases h with ⟨a,h⟩ | h
   ·cases h
   ·exact EA.drive k ⟨t :: r,i,p ++ [(bif b then 2 else 20,t.pos)]⟩ (.inr h)
theorem EAr.end {fin:Int} {m:M α} {s:PS} {a:α} {s':PS} (h:EAr m) (hs:s.rest = []) (e:m.run fin s = .ok a s'):m = .ret a∧s' = s:=by
 rcases h with ⟨b,rfl⟩ | h
 ·simp only [run,Out.ok.injEq] at e
  obtain ⟨rfl,rfl⟩:=e
  exact ⟨rfl,rfl⟩
 ·have:=EA.less fin m s a s' h e
  rw [hs] at this
  simp at this
theorem Done.ok {fin:Int} {m:M α} {s:PS} {a:α} {s':PS} (h:Done m) (e:m.run fin s = .ok a s'):m = .ret a∧s' = s:=by
 cases m <;> simp only [Done] at h <;> simp only [run] at e
 ·simp only [Out.ok.injEq] at e
  obtain ⟨rfl,rfl⟩:=e
  exact ⟨rfl,rfl⟩
 all_goals cases e
theorem EAr.ext {fin:Int} {m:M α} {s:PS} {a:α} {s':PS} (h:EAr m) (e:m.run fin s = .ok a s') (fin':Int) (u:List Token):m.run fin' (s.ext u) = .ok a (s'.ext u):=by
 rw [drive_run] at e
 rw [drive_ext]
 have:(m.drive s).1 = .ret a∧s' = (m.drive s).2:=by
  rcases drive_end m s with h1 | h1
  ·exact (EA.drive m s h).end h1 e
  ·exact h1.ok e
 rw [this.1,this.2]
 rfl
theorem EAr.cut {fin fin':Int} {m:M α} {s:PS} {u:List Token} {a:α} {s':PS} (h:EAr m) (e:m.run fin (s.ext u) = .ok a s') (hl:s'.rest.length < u.length):∀ a'' s'',m.run fin' s≠.ok a'' s'':=by
 intro a'' s'' e2
 rw [h.ext e2 fin u] at e
 simp only [Out.ok.injEq] at e
 obtain ⟨_,rfl⟩:=e
 simp only [PS.ext,List.length_append] at hl
 omega
def accept (a:ByteArray):M Bool:=.look fun t=>match t with
 | some t=>bif strEq t.2 a then .adv (.ret true) else .ret false
 | none=>.ret false
def expect (a:ByteArray):M Unit:=(accept a).bind fun b=>bif b then .ret () else .fail false
end M
end Go.Proofs.YtbecjgckobhmpaaGreatDoor
end
section
namespace Go.AM
open Go
def runF {α A ρ:Type} (f:Nat→A→α→A ⊕ ρ) (fin:A→ρ):Nat→List α→A→ρ
 | _,[],a=>fin a
 | k,x :: r,a=>match f k a x with
  | .inl a'=>runF f fin (k + 1) r a'
  | .inr v=>v
theorem iter_runF {α A ρ σ:Type} {step:σ→Option (σ ⊕ ρ)} (l:List α) (mk:Nat→A→σ) (f:Nat→A→α→A ⊕ ρ) (fin:A→ρ)
  (hin:∀ k a x,l[k]? = some x→step (mk k a) = some (match f k a x with | .inl a'=>.inl (mk (k + 1) a') | .inr v=>.inr v))
  (hend:∀ a,step (mk l.length a) = some (.inr (fin a))) :
  ∀ (n:Nat) (a:A),l.length < n→iter step n (mk 0 a) = some (runF f fin 0 l a):=by
 have key:∀ (r:List α) (k:Nat) (a:A) (n:Nat),l.drop k = r→k≤l.length→r.length < n→iter step n (mk k a) = some (runF f fin k r a):=by
  intro r
  induction r with
  | nil =>
   intro k a n hk hkl hn
   have hkl':k = l.length:=by
    have:=congrArg List.length hk
    simp at this
    omega
   cases n with
   | zero=>simp at hn
   | succ n=>subst hkl'; simp only [iter,hend,runF]
  | cons x r ih =>
   intro k a n hk hkl hn
   have hlt:k < l.length:=by
    have:=congrArg List.length hk
    simp at this
    omega
   have hx:l[k]? = some x:=by
    have:=congrArg (fun z=>z[0]?) hk
    simpa using this
   have hr:l.drop (k + 1) = r:=by
    have:=congrArg (List.drop 1) hk
    simpa [List.drop_drop,Nat.add_comm] using this
   cases n with
   | zero=>simp at hn
   | succ n =>
    simp only [iter,hin k a x hx,runF]
    cases hf:f k a x with
    | inl a'=>simpa using ih (k + 1) a' n hr (by omega) (by simpa using hn)
    | inr v=>rfl
 intro n a hn
 exact key l 0 a n rfl (by omega) hn
theorem runF_all {α:Type} (p:α→Bool):∀ (l:List α) (k:Nat),runF (A:=Unit) (ρ:=Unit ⊕ Unit) (fun _ _ x=>if p x then .inl () else .inr (.inl ())) (fun _=>.inr ()) k l () = if l.all p then .inr () else .inl ()
 | [],_=>rfl
 | x :: r,k=>by
  simp only [runF]
  cases hp:p x
  ·simp [hp]
  ·simp [hp,runF_all p r (k + 1)]
theorem w64_id {x:Int} (h1:-9223372036854775808≤x) (h2:x≤9223372036854775807):w64 x = x:=by
 show (if (true && decide (x % 18446744073709551616 ≥ 9223372036854775808)) = true then x % 18446744073709551616 - 18446744073709551616 else x % 18446744073709551616) = x
 split
 ·rename_i h
  simp at h
  omega
 ·rename_i h
  simp at h
  omega
theorem w64_nat {k:Nat} (h:k < 9223372036854775807):w64 ((k:Int) + 1) = ((k + 1:Nat):Int):=by
 rw [w64_id (by omega) (by omega)]; rfl
theorem idxL_some {α:Type} {l:List α} {k:Nat} {x:α} (h:l[k]? = some x):idxL l (k:Int) = some x:=by
 simp [idxL,h]
theorem idxS_some {s:ByteArray} {k:Nat} {b:UInt8} (h:s.data.toList[k]? = some b):idxS s (k:Int) = some (b.toNat:Int):=by
 have:s[k]? = some b:=by
  have h2:s.data[k]? = some b:=by simpa using h
  exact h2
 simp [idxS,this]
theorem lt_of_get {α:Type} {l:List α} {k:Nat} {x:α} (h:l[k]? = some x):k < l.length:=(List.getElem?_eq_some_iff.1 h).1
theorem some_cond {α:Type} (c:Bool) (a b:α):(bif c then some a else some b) = some (bif c then a else b):=by cases c <;> rfl
theorem bor (c d:Bool):(bif c then c else d) = (c || d):=by cases c <;> rfl
theorem iter_all {α:Type} {step:Int→Option (Int ⊕ (Unit ⊕ Unit))} (l:List α) (p:α→Bool) (hl:l.length≤9223372036854775807)
  (hin:∀ (k:Nat) x,l[k]? = some x→step (k:Int) = some (if p x then .inl (w64 ((k:Int) + 1)) else .inr (.inl ())))
  (hend:step (l.length:Int) = some (.inr (.inr ()))) {n:Nat} (hn:l.length < n) :
  iter step n 0 = some (if l.all p then .inr () else .inl ()):=by
 have:=iter_runF l (fun (k:Nat) (_:Unit)=>(k:Int)) (fun _ _ x=>if p x then .inl () else .inr (.inl ())) (fun _=>.inr ()) (step:=step)
  (fun k a x hx=>by
   rw [hin k x hx,w64_nat (by have:=lt_of_get hx; omega)]
   cases p x <;> rfl)
  (fun _=>hend) n () hn
 rw [runF_all] at this
 exact this
def allI {α:Type} (p:Nat→α→Bool):Nat→List α→Bool
 | _,[]=>true
 | k,x :: r=>p k x && allI p (k + 1) r
theorem runF_allI {α:Type} (p:Nat→α→Bool):∀ (l:List α) (k:Nat),runF (A:=Unit) (ρ:=Unit ⊕ Unit) (fun k _ x=>if p k x then .inl () else .inr (.inl ())) (fun _=>.inr ()) k l () = if allI p k l then .inr () else .inl ()
 | [],_=>rfl
 | x :: r,k=>by
  simp only [runF,allI]
  by_cases hp:p k x = true
  ·simp only [hp,if_true,runF_allI p r (k + 1),Bool.true_and]
  ·simp [hp]
theorem iter_allI {α:Type} {step:Int→Option (Int ⊕ (Unit ⊕ Unit))} (l:List α) (p:Nat→α→Bool) (hl:l.length≤9223372036854775807)
  (hin:∀ (k:Nat) x,l[k]? = some x→step (k:Int) = some (if p k x then .inl (w64 ((k:Int) + 1)) else .inr (.inl ())))
  (hend:step (l.length:Int) = some (.inr (.inr ()))) {n:Nat} (hn:l.length < n) :
  iter step n 0 = some (if allI p 0 l then .inr () else .inl ()):=by
 have:=iter_runF l (fun (k:Nat) (_:Unit)=>(k:Int)) (fun k _ x=>if p k x then .inl () else .inr (.inl ())) (fun _=>.inr ()) (step:=step)
  (fun k a x hx=>by
   rw [hin k x hx,w64_nat (by have:=lt_of_get hx; omega)]
   cases p k x <;> rfl)
  (fun _=>hend) n () hn
 rw [runF_allI] at this
 exact this
theorem iter_inv {α A ρ σ:Type} {step:σ→Option (σ ⊕ ρ)} (l:List α) (mk:Nat→A→σ) (I:Nat→A→Prop) (Q:ρ→Prop)
  (hin:∀ k a x,l[k]? = some x→I k a→(∃ a',step (mk k a) = some (.inl (mk (k + 1) a'))∧I (k + 1) a')∨(∃ r,step (mk k a) = some (.inr r)∧Q r))
  (hend:∀ a,I l.length a→∃ r,step (mk l.length a) = some (.inr r)∧Q r) :
  ∀ (n:Nat) (a:A),l.length < n→I 0 a→∃ r,iter step n (mk 0 a) = some r∧Q r:=by
 have key:∀ (j k:Nat) (a:A) (n:Nat),k + j = l.length→j < n→I k a→∃ r,iter step n (mk k a) = some r∧Q r:=by
  intro j
  induction j with
  | zero =>
   intro k a n hk hn hi
   have hk':k = l.length:=by omega
   subst hk'
   obtain ⟨r,hr,hq⟩:=hend a hi
   cases n with
   | zero=>omega
   | succ n=>exact ⟨r,by simp only [iter,hr],hq⟩
  | succ j ih =>
   intro k a n hk hn hi
   have hlt:k < l.length:=by omega
   cases n with
   | zero=>omega
   | succ n =>
    rcases hin k a l[k] (List.getElem?_eq_getElem hlt) hi with ⟨a',hs,hi'⟩ | ⟨r,hs,hq⟩
    ·obtain ⟨r,hr,hq⟩:=ih (k + 1) a' n (by omega) (by omega) hi'
     exact ⟨r,by simp only [iter,hs]; exact hr,hq⟩
    ·exact ⟨r,by simp only [iter,hs],hq⟩
 intro n a hn hi
 exact key l.length 0 a n (by omega) hn hi
theorem iter_meas {ρ σ:Type} {step:σ→Option (σ ⊕ ρ)} (I:σ→Prop) (m:σ→Nat) (Q:ρ→Prop)
  (h:∀ s,I s→(∃ s',step s = some (.inl s')∧I s'∧m s' < m s)∨(∃ r,step s = some (.inr r)∧Q r)) :
  ∀ (n:Nat) (s:σ),m s < n→I s→∃ r,iter step n s = some r∧Q r:=by
 intro n
 induction n with
 | zero=>intro s hn; omega
 | succ n ih =>
  intro s hn hi
  rcases h s hi with ⟨s',hs,hi',hm⟩ | ⟨r,hs,hq⟩
  ·obtain ⟨r,hr,hq⟩:=ih s' (by omega) hi'
   exact ⟨r,by simp only [iter,hs]; exact hr,hq⟩
  ·exact ⟨r,by simp only [iter,hs],hq⟩
def tl (s:ByteArray):List UInt8:=s.data.toList
theorem tl_def (s:ByteArray):s.data.toList = tl s:=rfl
theorem cond_not_if {α:Type} (c:Bool) (a b:α):(bif c then some a else some b) = some (if (!c) = true then b else a):=by cases c <;> rfl
theorem cond_not_if2 {α:Type} (c:Bool) (a b:α):(bif !c then some a else some b) = some (if c = true then b else a):=by cases c <;> rfl
theorem bs_tl (s:ByteArray):bs (tl s) = s:=rfl
theorem tl_bs (l:List UInt8):tl (bs l) = l:=rfl
theorem size_tl (s:ByteArray):s.size = (tl s).length:=rfl
theorem size_bs (l:List UInt8):(bs l).size = l.length:=rfl
theorem subS_eq {s:ByteArray} {a b:Nat} (h1:a≤b) (h2:b≤(tl s).length):subS s (a:Int) (b:Int) = some (bs (((tl s).drop a).take (b - a))):=by
 rw [subS,if_pos ⟨by omega,by omega,by rw [size_tl]; omega⟩]
 congr 1
 have:(s.extract a b).data.toList = ((tl s).drop a).take (b - a):=by
  rw [ByteArray.data_extract,Array.toList_extract]
  rfl
 rw [← this]
 rfl
theorem subL_eq {α:Type} {l:List α} {a b:Nat} (h1:a≤b) (h2:b≤l.length):subL l (a:Int) (b:Int) = some ((l.drop a).take (b - a)):=by
 rw [subL,if_pos ⟨by omega,by omega,by omega⟩]
 simp
def T {α:Type} (o:Option α) (Q:α→Prop):Prop:=∃ r,o = some r∧Q r
theorem T.some {α:Type} {v:α} {Q:α→Prop} (h:Q v):T (some v) Q:=⟨v,rfl,h⟩
theorem T.bind {α β:Type} {o:Option α} {f:α→Option β} {P:α→Prop} {Q:β→Prop} (h:T o P) (k:∀ a,P a→T (f a) Q):T (o.bind f) Q:=by
 obtain ⟨a,rfl,ha⟩:=h
 exact k a ha
theorem T.cond {α:Type} {c:Bool} {a b:Option α} {Q:α→Prop} (h1:c = true→T a Q) (h2:c = false→T b Q):T (bif c then a else b) Q:=by
 cases c
 ·exact h2 rfl
 ·exact h1 rfl
theorem T.mono {α:Type} {o:Option α} {P Q:α→Prop} (h:T o P) (k:∀ a,P a→Q a):T o Q:=by
 obtain ⟨a,rfl,ha⟩:=h
 exact ⟨a,rfl,k a ha⟩
theorem T.of_eq {α:Type} {o:Option α} {v:α} (h:o = Option.some v):T o (· = v):=⟨v,h,rfl⟩
end Go.AM
end
section
namespace Go.Proofs.YtbecjgckobhmpaaGreatDoor
open Go Go.AM Go.Proofs
def isLetI (x:Int):Bool:=((decide (65≤x)) && (decide (x≤90))) || ((decide (97≤x)) && (decide (x≤122)))
def isDigI (x:Int):Bool:=(decide (48≤x)) && (decide (x≤57))
def isWordI (x:Int):Bool:=isLetI x || x == 95 || isDigI x
def nameCs:List UInt8→Bool
 | []=>true
 | b :: r=>isLetI b.toNat && r.all (fun c=>isWordI c.toNat)
def nameB (s:List UInt8):Bool:=decide (1≤s.length) && decide (s.length≤16) && !(keyNames.any (s == ·)) && nameCs s
def nameP (k:Nat) (b:UInt8):Bool:=!((!isLetI b.toNat) && (((k:Int) == 0) || (((b.toNat:Int) != 95) && ((decide ((b.toNat:Int) < 48)) || (decide (57 < (b.toNat:Int)))))))
theorem nameP_succ (k:Nat) (b:UInt8):nameP (k + 1) b = isWordI b.toNat:=by
 have:(((k + 1:Nat):Int) == 0) = false:=by simp; omega
 simp only [nameP,this,isWordI,isDigI]
 generalize (b.toNat:Int) = z
 cases isLetI z
 ·by_cases h:z = 95
  ·simp [h]
  ·have h95:(z == 95) = false:=by simpa using h
   have h95':(z != 95) = true:=by simpa using h
   rw [h95,h95']
   by_cases h1:z < 48
   ·have:¬ 48≤z:=by omega
    simp [h1,this]
   ·have h48:48≤z:=by omega
    by_cases h2:57 < z
    ·have:¬ z≤57:=by omega
     simp [h2,this]
    ·have h57:z≤57:=by omega
     simp [h1,h2,h48,h57]
 ·simp
theorem allI_nameP:∀ (l:List UInt8) (k:Nat),allI nameP (k + 1) l = l.all (fun c=>isWordI c.toNat)
 | [],_=>rfl
 | b :: r,k=>by simp only [allI,List.all_cons,nameP_succ,allI_nameP r (k + 1)]
theorem allI_name (l:List UInt8):allI nameP 0 l = nameCs l:=by
 cases l with
 | nil=>rfl
 | cons b r =>
  simp only [allI,nameCs,allI_nameP]
  congr 1
  simp [nameP]
theorem F157_eq (s:ByteArray) {n:Nat} (hn:20≤n):F157 n s = some (nameB (tl s)):=by
 unfold F157
 rw [size_tl]
 by_cases h1:(tl s).length < 1
 ·have:(tl s).length = 0:=by omega
  simp [nameB,this]
 by_cases h2:16 < (tl s).length
 ·have:¬ (tl s).length≤16:=by omega
  have h3:(16:Int) < ((tl s).length:Int):=by omega
  simp [nameB,this,h3]
 have e1:(decide (((tl s).length:Int) < 1) || decide (16 < ((tl s).length:Int))) = false:=by simp; omega
 rw [e1]
 have hk:isKey s = keyNames.any (tl s == ·):=rfl
 rw [hk]
 cases hkey:keyNames.any (tl s == ·)
 ·simp only [cond_false]
  rw [iter_allI (tl s) nameP (by omega) (fun k b hb=>by
    have hlt:=lt_of_get hb
    have:decide ((k:Int) < ((tl s).length:Int)) = true:=by simpa using hlt
    rw [this,idxS_some hb]
    simp only [cond_true,Option.bind_some]
    show (bif (!isLetI b.toNat) && _ then _ else _) = _
    simp only [nameP]
    exact cond_not_if _ _ _) (by simp) (by omega)]
  rw [allI_name]
  have h1':1≤(tl s).length:=by omega
  have h2':(tl s).length≤16:=by omega
  cases hc:nameCs (tl s) <;> simp [nameB,hkey,hc,h1',h2']
 ·simp [nameB,hkey]
def cutB:List UInt8→List UInt8 × Option (List UInt8)
 | []=>([],none)
 | b :: r=>if b == 46 then ([],some r) else (b :: (cutB r).1,(cutB r).2)
theorem cutB_spec:∀ (l:List UInt8),((cutB l).2 = none→(cutB l).1 = l∧idxByte l 46 = -1)∧(∀ r,(cutB l).2 = some r→l = (cutB l).1 ++ 46 :: r∧idxByte l 46 = ((cutB l).1.length:Int))
 | []=>by simp [cutB,idxByte]
 | b :: r=>by
  have ih:=cutB_spec r
  by_cases hb:(b == 46) = true
  ·have:b = 46:=by simpa using hb
   subst this
   simp [cutB,idxByte]
  ·simp only [cutB,idxByte,hb]
   refine ⟨fun h=>?_,fun r' h=>?_⟩
   ·obtain ⟨h1,h2⟩:=ih.1 h
    simp [h1,h2]
   ·obtain ⟨h1,h2⟩:=ih.2 r' h
    refine ⟨by simp [← h1],?_⟩
    rw [h2]
    have:(((cutB r).1.length:Int) == -1) = false:=by simp
    simp [this]
theorem F196_eq (s:ByteArray) (hs:(tl s).length≤9223372036854775807):F196 s (bs [46]) = some (bs (cutB (tl s)).1,bs ((cutB (tl s)).2.getD []),(cutB (tl s)).2.isSome):=by
 have hi:index1F s (bs [46]) = some (idxByte (tl s) 46):=rfl
 unfold F196 F222
 rw [hi]
 simp only [Option.bind_some]
 have sp:=cutB_spec (tl s)
 cases hc:(cutB (tl s)).2 with
 | none =>
  obtain ⟨h1,h2⟩:=sp.1 hc
  rw [h2,h1]
  simp [bs_tl]
 | some r =>
  obtain ⟨h1,h2⟩:=sp.2 r hc
  rw [h2]
  have hl:=congrArg List.length h1
  simp only [List.length_append,List.length_cons] at hl
  have e1:decide (0≤((cutB (tl s)).1.length:Int)) = true:=by simp
  rw [e1,size_bs]
  simp only [cond_true,List.length_cons,List.length_nil,Nat.zero_add]
  rw [show ((1:Nat):Int) = 1 from rfl,w64_nat (by omega)]
  have a1:subS s 0 ((cutB (tl s)).1.length:Int) = some (bs (cutB (tl s)).1):=by
   have:=subS_eq (s:=s) (a:=0) (b:=(cutB (tl s)).1.length) (by omega) (by omega)
   rw [show ((0:Nat):Int) = 0 from rfl] at this
   rw [this]
   congr 2
   generalize (cutB (tl s)).1 = z at h1 ⊢
   rw [h1]
   simp
  have a2:subS s (((cutB (tl s)).1.length + 1:Nat):Int) (s.size:Int) = some (bs r):=by
   rw [size_tl,subS_eq (by omega) (by omega)]
   congr 2
   generalize (cutB (tl s)).1 = z at h1 ⊢
   rw [h1]
   rw [List.take_of_length_le (by simp; omega)]
   simp [List.drop_append]
  rw [a1,a2]
  simp
def pathN:Nat→List UInt8→Bool
 | 0,_=>false
 | k + 1,s=>nameB (cutB s).1 && (match (cutB s).2 with | none=>true | some r=>pathN k r)
def pathB (s:List UInt8):Bool:=pathN 3 s
theorem cutB_len (l:List UInt8) (r:List UInt8) (h:(cutB l).2 = some r):r.length < l.length:=by
 have:=congrArg List.length ((cutB_spec l).2 r h).1
 simp at this
 omega
def F155s (n:Nat) (s1:ByteArray × Int):Option ((ByteArray × Int) ⊕ (Bool ⊕ Unit)):=bif decide (s1.2 < 3) then
   ((F196 s1.1 (bs [46])).bind fun x3 =>
   (F157 n x3.1).bind fun x4 =>
   bif !x4 then
    (some (.inr (.inl false)))
   else
    (bif !x3.2.2 then
     (some (.inr (.inl true)))
    else
     (some (.inl (x3.2.1,w64 (s1.2 + 1))))))
  else
   (some (.inr (.inr ())))
def finB:Bool ⊕ Unit→Option Bool
 | .inl a=>some a
 | .inr _=>some false
theorem F155_key {n:Nat} (hn:20≤n):∀ (k m:Nat) (t:List UInt8),k≤3→k < m→t.length≤9223372036854775807→(iter (F155s n) m (bs t,(3:Int) - (k:Int))).bind finB = some (pathN k t):=by
 intro k
 induction k with
 | zero =>
  intro m t _ hm ht
  cases m with
  | zero=>omega
  | succ m=>simp [iter,F155s,finB,pathN]
 | succ k ih =>
  intro m t hk hm ht
  cases m with
  | zero=>omega
  | succ m =>
   have e1:decide ((3:Int) - ((k + 1:Nat):Int) < 3) = true:=by simp; omega
   simp only [iter,F155s,e1,cond_true]
   rw [F196_eq (bs t) ht]
   simp only [Option.bind_some,F157_eq _ hn,tl_bs]
   cases hnm:nameB (cutB t).1
   ·simp [finB,pathN,hnm]
   ·cases hc:(cutB t).2 with
    | none=>simp [finB,pathN,hnm,hc]
    | some r =>
     have hl:=cutB_len t r hc
     have e2:w64 ((3:Int) - ((k + 1:Nat):Int) + 1) = (3:Int) - (k:Int):=by
      rw [w64_id (by omega) (by omega)]; omega
     simp only [Bool.not_true,cond_false,Option.isSome_some,Option.getD_some,e2]
     have:=ih m r (by omega) (by omega) (by omega)
     rw [this]
     simp [pathN,hnm,hc]
theorem F155_eq (s:ByteArray) (hs:(tl s).length≤9223372036854775807) {n:Nat} (hn:20≤n):F155 n s = some (pathB (tl s)):=by
 have h:=F155_key hn 3 n (tl s) (by omega) (by omega) hs
 have e:F155 n s = (iter (F155s n) n (s,0)).bind finB:=by
  unfold F155
  congr 1
 rw [e]
 exact h
def levelI (s:ByteArray):Int :=
 bif strEq s (bs [61,61,62]) then 2 else bif strEq s (bs [124,124]) then 3 else bif strEq s (bs [38,38]) then 4
 else bif (strEq s (bs [61,61]) || (strEq s (bs [33,61]) || (strEq s (bs [60]) || strEq s (bs [60,61])))) then 5
 else bif strEq s (bs [124]) then 6 else bif strEq s (bs [94]) then 7 else bif strEq s (bs [38]) then 8
 else bif (strEq s (bs [43]) || strEq s (bs [45])) then 9 else bif strEq s (bs [42]) then 10 else 0
theorem F156_eq (s:ByteArray):F156 s = some (levelI s):=by
 unfold F156 levelI
 simp only [Option.bind_some,some_cond,bor]
def inR (n:Int):Bool:=(decide (0≤n)) && (decide (n≤999999999))
theorem F154_eq (i:Int):F154 i = some (inR i):=rfl
def isE (k:Int):Bool:=(decide (1≤k)) && (decide (k≤8))
theorem F62_eq (x:Node):F62 x = some (isE x.kind):=rfl
def fldGood (x:Node):Bool :=
 bif x.kind == 1 then inR x.n
 else bif (x.kind == 2 || (x.kind == 24 || (x.kind == 25 || x.kind == 33))) then pathB (tl x.name)
 else bif x.kind == 5 then levelI x.name != 0
 else bif (x.kind == 7 || (x.kind == 8 || (x.kind == 58 || x.kind == 52))) then nameB (tl x.name) && inR x.n
 else bif x.kind == 35 then nameB (tl x.name) && inR x.n
 else bif x.kind == 21 then (x.n == 0) || (x.n == 1)
 else bif (x.kind == 27 || (x.kind == 28 || (x.kind == 51 || x.kind == 53))) then nameB (tl x.name)
 else bif x.kind == 50 then nameB (tl x.name) && (inR x.n && (inR x.len && (inR x.init && (strEq x.other (bs []) || ((x.n == 0) && nameB (tl x.other))))))
 else bif x.kind == 57 then nameB (tl x.name) && (strEq x.other (bs []) || nameB (tl x.other))
 else bif x.kind == 60 then nameB (tl x.name) && nameB (tl x.other)
 else bif x.kind == 61 then nameB (tl x.name) && (pathB (tl x.other) && ((x.n == 0) || (x.n == 1)))
 else true
def hasName (k:Int):Bool:=k == 2 || k == 24 || k == 25 || k == 33 || k == 5 || k == 7 || k == 8 || k == 58 || k == 52 || k == 35 || k == 27 || k == 28 || k == 51 || k == 53 || k == 50 || k == 57 || k == 60 || k == 61
def hasOther (k:Int):Bool:=k == 50 || k == 57 || k == 60 || k == 61
def hasN (k:Int):Bool:=k == 1 || k == 7 || k == 8 || k == 58 || k == 52 || k == 35 || k == 21 || k == 50 || k == 61
def fieldsB (x:Node):Bool :=
 fldGood x && ((hasName x.kind || strEq x.name (bs [])) && ((hasOther x.kind || strEq x.other (bs [])) && ((hasN x.kind || x.n == 0)
  && ((x.kind == 50 || x.len == 0) && ((x.kind == 50 || x.init == 0) && (x.kind == 50 || x.kind == 35 || x.ghost == false))))))
theorem strEq_self (s:ByteArray):strEq s s = true:=by simp [strEq]
theorem nbeq {a b:Int} (h:¬ a = b):(a == b) = false:=by simpa using h
theorem F97_eq (x:Node) (h1:(tl x.name).length≤9223372036854775807) (h2:(tl x.other).length≤9223372036854775807) {n:Nat} (hn:20≤n):F97 n x = some (fieldsB x):=by
 unfold F97
 simp only [F157_eq _ hn,F155_eq _ h1 hn,F155_eq _ h2 hn,F156_eq,F154_eq,Option.bind_some,some_cond,bor]
 congr 1
 by_cases k1:x.kind = 1
 ·simp [k1,fieldsB,fldGood,hasName,hasOther,hasN]
 by_cases k2:x.kind = 2
 ·simp [k2,fieldsB,fldGood,hasName,hasOther,hasN,strEq_self]
 by_cases k24:x.kind = 24
 ·simp [k24,fieldsB,fldGood,hasName,hasOther,hasN,strEq_self]
 by_cases k25:x.kind = 25
 ·simp [k25,fieldsB,fldGood,hasName,hasOther,hasN,strEq_self]
 by_cases k33:x.kind = 33
 ·simp [k33,fieldsB,fldGood,hasName,hasOther,hasN,strEq_self]
 by_cases k5:x.kind = 5
 ·simp [k5,fieldsB,fldGood,hasName,hasOther,hasN,strEq_self]
 by_cases k7:x.kind = 7
 ·simp [k7,fieldsB,fldGood,hasName,hasOther,hasN]
  cases nameB (tl x.name) <;> simp [strEq_self]
 by_cases k8:x.kind = 8
 ·simp [k8,fieldsB,fldGood,hasName,hasOther,hasN]
  cases nameB (tl x.name) <;> simp [strEq_self]
 by_cases k58:x.kind = 58
 ·simp [k58,fieldsB,fldGood,hasName,hasOther,hasN]
  cases nameB (tl x.name) <;> simp [strEq_self]
 by_cases k52:x.kind = 52
 ·simp [k52,fieldsB,fldGood,hasName,hasOther,hasN]
  cases nameB (tl x.name) <;> simp [strEq_self]
 by_cases k35:x.kind = 35
 ·simp [k35,fieldsB,fldGood,hasName,hasOther,hasN]
  cases nameB (tl x.name) <;> simp [strEq_self]
 by_cases k21:x.kind = 21
 ·simp [k21,fieldsB,fldGood,hasName,hasOther,hasN]
 by_cases k27:x.kind = 27
 ·simp [k27,fieldsB,fldGood,hasName,hasOther,hasN,strEq_self]
 by_cases k28:x.kind = 28
 ·simp [k28,fieldsB,fldGood,hasName,hasOther,hasN,strEq_self]
 by_cases k51:x.kind = 51
 ·simp [k51,fieldsB,fldGood,hasName,hasOther,hasN,strEq_self]
 by_cases k53:x.kind = 53
 ·simp [k53,fieldsB,fldGood,hasName,hasOther,hasN,strEq_self]
 by_cases k50:x.kind = 50
 ·simp [k50,fieldsB,fldGood,hasName,hasOther,hasN]
  cases nameB (tl x.name) <;> cases inR x.n <;> cases inR x.len <;> cases inR x.init <;> cases strEq x.other (bs []) <;> cases x.n == 0 <;> simp [strEq_self]
 by_cases k57:x.kind = 57
 ·simp [k57,fieldsB,fldGood,hasName,hasOther,hasN]
  cases nameB (tl x.name) <;> cases strEq x.other (bs []) <;> simp [strEq_self]
 by_cases k60:x.kind = 60
 ·simp [k60,fieldsB,fldGood,hasName,hasOther,hasN]
  cases nameB (tl x.name) <;> simp [strEq_self]
 by_cases k61:x.kind = 61
 ·simp [k61,fieldsB,fldGood,hasName,hasOther,hasN]
  cases nameB (tl x.name) <;> simp [strEq_self]
 simp [nbeq k1,nbeq k2,nbeq k24,nbeq k25,nbeq k33,nbeq k5,nbeq k7,nbeq k8,nbeq k58,nbeq k52,nbeq k35,nbeq k21,nbeq k27,nbeq k28,nbeq k51,nbeq k53,nbeq k50,nbeq k57,nbeq k60,nbeq k61,fieldsB,fldGood,hasName,hasOther,hasN]
def isStmt (k:Int):Bool:=((decide (20≤k)) && (decide (k≤35))) && (k != 34)
def isDecl (k:Int):Bool:=k == 51 || (k == 50 || (k == 53 || (k == 54 || (k == 55 || (k == 56 || k == 57)))))
def isItm (k:Int):Bool:=(k == 60) || (k == 61)
def leafK (k:Int):Bool:=k == 1 || (k == 26 || (k == 30 || (k == 24 || (k == 25 || (k == 27 || (k == 28 || (k == 35 || (k == 58 || (k == 52 || (k == 50 || k == 63))))))))))
def oneK (k:Int):Bool:=k == 4 || (k == 7 || (k == 8 || (k == 20 || (k == 29 || (k == 54 || (k == 55 || k == 53))))))
def eX (x:Node):Bool:=isE x.kind
def kX (k:Int) (x:Node):Bool:=x.kind == k
def enX (x:Node):Bool:=isE x.kind || x.kind == 63
def pairsB:List Node→Bool
 | []=>true
 | [_]=>false
 | a :: b :: r=>(a.kind == 2) && (isE b.kind && pairsB r)
def ex1 (p:Node→Bool):List Node→Bool
 | [a]=>p a
 | _=>false
def ex2 (p q:Node→Bool):List Node→Bool
 | [a,b]=>p a && q b
 | _=>false
def ex3 (p q r:Node→Bool):List Node→Bool
 | [a,b,c]=>p a && (q b && r c)
 | _=>false
def plainX (x:Node):Bool:=(x.kind == 2) && x.kids.isEmpty
def atomK:List Node→Bool
 | a :: r=>enX a && pairsB r
 | []=>false
def casK:List Node→Bool
 | a :: b :: c :: d :: r=>(kX 2 a && (eX b && (eX c && kX 2 d))) && pairsB r
 | _=>false
def procK (l:List Node):Bool:=match l.getLast? with
 | some b=>(b.kind == 34) && l.dropLast.all (kX 58)
 | none=>false
def kidsB (x:Node):Bool :=
 bif leafK x.kind then x.kids.isEmpty
 else bif x.kind == 2 then x.kids.isEmpty || ex1 eX x.kids
 else bif x.kind == 3 then ex1 (kX 2) x.kids
 else bif oneK x.kind then ex1 eX x.kids
 else bif x.kind == 5 then ex2 eX eX x.kids
 else bif x.kind == 6 then ex3 eX eX eX x.kids
 else bif x.kind == 21 then !x.kids.isEmpty && pairsB x.kids
 else bif x.kind == 22 then atomK x.kids
 else bif x.kind == 23 then casK x.kids
 else bif x.kind == 31 then ex3 eX (kX 34) (kX 34) x.kids
 else bif x.kind == 32 then ex3 eX enX (kX 34) x.kids
 else bif x.kind == 33 then x.kids.all eX
 else bif x.kind == 34 then x.kids.all (fun y=>isStmt y.kind)
 else bif x.kind == 51 then x.kids.all (kX 52)
 else bif x.kind == 56 then !x.kids.isEmpty && x.kids.all plainX
 else bif x.kind == 57 then procK x.kids
 else bif x.kind == 60 then x.kids.all (fun y=>isDecl y.kind)
 else bif x.kind == 61 then x.kids.all (kX 1)
 else bif x.kind == 62 then x.kids.all (fun y=>isItm y.kind)
 else false
theorem len0 (l:List Node):((l.length:Int) == 0) = l.isEmpty:=by cases l <;> simp; omega
theorem len0lt (l:List Node):decide (0 < (l.length:Int)) = !l.isEmpty:=by cases l <;> simp
theorem all_loop {p:Node→Bool} {g:Node→Option Bool} (hg:∀ y,g y = some (p y)) (l:List Node) (hl:l.length≤9223372036854775807) {n:Nat} (hn:l.length < n) :
  ((iter (σ:=Int) (ρ:=Unit ⊕ Unit) (fun s1=>bif decide (s1 < (l.length:Int)) then
   ((idxL l s1).bind fun x3 =>
   (g x3).bind fun x5 =>
   bif !x5 then
    (some (.inr (.inl ())))
   else
    (some (.inl (w64 (s1 + 1)))))
  else
   (some (.inr (.inr ())))) n (0:Int)).bind fun r7=>match r7 with
 | .inl _=>some false
 | .inr _=>some true) = some (l.all p):=by
 rw [iter_all l p hl (fun k x hx=>by
  have hlt:=lt_of_get hx
  have c1:decide ((k:Int) < (l.length:Int)) = true:=by simpa using hlt
  rw [c1,idxL_some hx]
  simp only [cond_true,Option.bind_some,hg]
  cases p x <;> rfl) (by simp) hn]
 cases l.all p <;> rfl
theorem F99_1_eq (l:List Node) (hl:l.length≤9223372036854775807) {n:Nat} (hn:l.length < n):F99_1 n l = some (l.all eX):=all_loop (fun _=>rfl) l hl hn
theorem F99_2_eq (l:List Node) (hl:l.length≤9223372036854775807) {n:Nat} (hn:l.length < n):F99_2 n l = some (l.all (fun y=>isStmt y.kind)):=all_loop (fun _=>rfl) l hl hn
theorem F99_3_eq (l:List Node) (k:Int) (hl:l.length≤9223372036854775807) {n:Nat} (hn:l.length < n):F99_3 n l k = some (l.all (kX k)):=all_loop (fun _=>rfl) l hl hn
theorem F164_eq (x:Node):F164 x = some (plainX x):=by
 unfold F164 plainX
 rw [len0]
 cases x.kind == 2 <;> rfl
theorem F99_4_eq (l:List Node) (hl:l.length≤9223372036854775807) {n:Nat} (hn:l.length < n):F99_4 n l = some (l.all plainX):=all_loop F164_eq l hl hn
theorem F165_eq (x:Node):F165 x = some (isDecl x.kind):=by
 unfold F165 isDecl
 cases x.kind == 51 <;> cases x.kind == 50 <;> cases x.kind == 53 <;> cases x.kind == 54 <;> cases x.kind == 55 <;> cases x.kind == 56 <;> cases x.kind == 57 <;> rfl
theorem F99_5_eq (l:List Node) (hl:l.length≤9223372036854775807) {n:Nat} (hn:l.length < n):F99_5 n l = some (l.all (fun y=>isDecl y.kind)):=all_loop F165_eq l hl hn
theorem F99_6_eq (l:List Node) (hl:l.length≤9223372036854775807) {n:Nat} (hn:l.length < n):F99_6 n l = some (l.all (fun y=>isItm y.kind)):=all_loop (fun _=>rfl) l hl hn
def prP (k:Nat) (x:Node):Bool:=isE x.kind && (!(k % 2 == 0) || x.kind == 2)
theorem pairs_all:∀ (l:List Node) (k:Nat),k % 2 = 0→(allI prP k l && (l.length % 2 == 0)) = pairsB l
 | [],_,_=>rfl
 | [a],k,h=>by simp [allI,pairsB]
 | a :: b :: r,k,h=>by
  have ih:=pairs_all r (k + 2) (by omega)
  have h1:(k + 1) % 2 = 1:=by omega
  have h2:((r.length + 1 + 1) % 2 == 0) = (r.length % 2 == 0):=by
   have:(r.length + 1 + 1) % 2 = r.length % 2:=by omega
   rw [this]
  simp only [allI,pairsB,List.length_cons,h2,← ih,prP,h,h1]
  by_cases ha:a.kind = 2
  ·simp [ha,isE,Bool.and_assoc]
  ·simp [nbeq ha]
theorem pr_step {α:Type} (e p k2:Bool) (a b:α):(bif !e then some b else bif p then (bif !k2 then some b else some a) else some a) = some (if (e && (!p || k2)) = true then a else b):=by
 cases e <;> cases p <;> cases k2 <;> rfl
theorem F160_eq (l:List Node) (hl:l.length≤9223372036854775807) {n:Nat} (hn:l.length < n):F160 n l = some (pairsB l):=by
 unfold F160
 rw [iter_allI l prP hl (fun k x hx=>by
  have hlt:=lt_of_get hx
  have c1:decide ((k:Int) < (l.length:Int)) = true:=by simpa using hlt
  have c2:(Int.tmod (k:Int) 2 == 0) = (k % 2 == 0):=by
   have:Int.tmod (k:Int) 2 = ((k % 2:Nat):Int):=(Int.ofNat_tmod k 2).symm
   rw [this]
   cases h:k % 2 <;> simp
   omega
  rw [c1,idxL_some hx,c2]
  simp only [cond_true,Option.bind_some,F62_eq,prP]
  exact pr_step _ _ _ _ _) (by simp) hn]
 have c3:(Int.tmod (l.length:Int) 2 == 0) = (l.length % 2 == 0):=by
  have:Int.tmod (l.length:Int) 2 = ((l.length % 2:Nat):Int):=(Int.ofNat_tmod l.length 2).symm
  rw [this]
  cases h:l.length % 2 <;> simp
  omega
 rw [← pairs_all l 0 rfl,c3]
 cases allI prP 0 l <;> simp
theorem F158_gen (l:List Node) (ps:List Pred) (fs:List (Node→Bool)) (hlen:l.length = ps.length) (hl:l.length < 100) (h:∀ (k:Nat) p,ps[k]? = some p→∀ y,p.p y = some ((fs.getD k (fun _=>false)) y)) {n:Nat} (hn:l.length < n) :
  F158 n l ps = some (allI (fun k y=>(fs.getD k (fun _=>false)) y) 0 l):=by
 unfold F158
 have e:((l.length:Int) != (ps.length:Int)) = false:=by simp [hlen]
 rw [e]
 simp only [cond_false]
 rw [iter_allI l (fun k y=>(fs.getD k (fun _=>false)) y) (by omega) (fun k x hx=>by
  have hlt:=lt_of_get hx
  have c1:decide ((k:Int) < (l.length:Int)) = true:=by simpa using hlt
  have hp:ps[k]? = some (ps[k]'(by omega)):=List.getElem?_eq_getElem (by omega)
  rw [c1,idxL_some hx,idxL_some hp]
  simp only [cond_true,Option.bind_some,h k _ hp x]
  exact cond_not_if2 _ _ _) (by simp) hn]
 cases allI (fun k y=>(fs.getD k (fun _=>false)) y) 0 l <;> rfl
theorem F158_ne (l:List Node) (ps:List Pred) (h:l.length≠ps.length) (n:Nat):F158 n l ps = some false:=by
 unfold F158
 have e:((l.length:Int) != (ps.length:Int)) = true:=by simp; omega
 rw [e]
 rfl
theorem F158_1 (l:List Node) (p:Pred) (f:Node→Bool) (hp:∀ y,p.p y = some (f y)) {n:Nat} (hn:10≤n):F158 n l [p] = some (ex1 f l):=by
 match l with
 | []=>exact F158_ne _ _ (by simp) n
 | [a] =>
  rw [F158_gen [a] [p] [f] rfl (by simp) (fun k q hq y=>by
   match k with
   | 0=>obtain rfl:=Option.some.inj hq; exact hp y
   | k + 1=>simp at hq) (by simp; omega)]
  simp [allI,ex1]
 | a :: b :: r=>exact F158_ne _ _ (by simp) n
theorem F158_2 (l:List Node) (p q:Pred) (f g:Node→Bool) (hp:∀ y,p.p y = some (f y)) (hq:∀ y,q.p y = some (g y)) {n:Nat} (hn:10≤n):F158 n l [p,q] = some (ex2 f g l):=by
 match l with
 | []=>exact F158_ne _ _ (by simp) n
 | [a]=>exact F158_ne _ _ (by simp) n
 | [a,b] =>
  rw [F158_gen [a,b] [p,q] [f,g] rfl (by simp) (fun k z hz y=>by
   match k with
   | 0=>obtain rfl:=Option.some.inj hz; exact hp y
   | 1=>obtain rfl:=Option.some.inj hz; exact hq y
   | k + 2=>simp at hz) (by simp; omega)]
  simp [allI,ex2]
 | a :: b :: c :: r=>exact F158_ne _ _ (by simp) n
theorem F158_3 (l:List Node) (p q u:Pred) (f g h:Node→Bool) (hp:∀ y,p.p y = some (f y)) (hq:∀ y,q.p y = some (g y)) (hu:∀ y,u.p y = some (h y)) {n:Nat} (hn:10≤n):F158 n l [p,q,u] = some (ex3 f g h l):=by
 match l with
 | []=>exact F158_ne _ _ (by simp) n
 | [a]=>exact F158_ne _ _ (by simp) n
 | [a,b]=>exact F158_ne _ _ (by simp) n
 | [a,b,c] =>
  rw [F158_gen [a,b,c] [p,q,u] [f,g,h] rfl (by simp) (fun k z hz y=>by
   match k with
   | 0=>obtain rfl:=Option.some.inj hz; exact hp y
   | 1=>obtain rfl:=Option.some.inj hz; exact hq y
   | 2=>obtain rfl:=Option.some.inj hz; exact hu y
   | k + 3=>simp at hz) (by simp; omega)]
  simp [allI,ex3]
 | a :: b :: c :: d :: r=>exact F158_ne _ _ (by simp) n
theorem F158_4 (a b c d:Node) (p q u v:Pred) (f g h i:Node→Bool) (hp:∀ y,p.p y = some (f y)) (hq:∀ y,q.p y = some (g y)) (hu:∀ y,u.p y = some (h y)) (hv:∀ y,v.p y = some (i y)) {n:Nat} (hn:10≤n) :
  F158 n [a,b,c,d] [p,q,u,v] = some (f a && (g b && (h c && i d))):=by
 rw [F158_gen [a,b,c,d] [p,q,u,v] [f,g,h,i] rfl (by simp) (fun k z hz y=>by
  match k with
  | 0=>obtain rfl:=Option.some.inj hz; exact hp y
  | 1=>obtain rfl:=Option.some.inj hz; exact hq y
  | 2=>obtain rfl:=Option.some.inj hz; exact hu y
  | 3=>obtain rfl:=Option.some.inj hz; exact hv y
  | k + 4=>simp at hz) (by simp; omega)]
 simp [allI]
theorem F198_eq (x:Node):F198 x = some (enX x):=by
 unfold F198 enX
 rw [F62_eq]
 simp only [Option.bind_some,F161]
 cases isE x.kind <;> rfl
theorem ctrue (a b:Bool):(bif a then true else b) = (a || b):=by cases a <;> rfl
theorem cfalse (a b:Bool):(bif a then b else false) = (a && b):=by cases a <;> rfl
theorem subL_tail {a:Node} {r:List Node}:subL (a :: r) 1 ((a :: r).length:Int) = some r:=by
 have:=subL_eq (l:=a :: r) (a:=1) (b:=(a :: r).length) (by simp) (by simp)
 rw [show ((1:Nat):Int) = 1 from rfl] at this
 rw [this]
 simp
theorem atom_eq (n:Nat) (l:List Node) (hl:l.length≤9223372036854775807) (hk:l.length < n):(bif !l.isEmpty then
           (idxL l 0).bind fun x38 =>
            (F62 x38).bind fun x39 =>
             bif x39 then
              (subL l 1 (l.length:Int)).bind fun x41=>(F160 n x41).bind fun x16=>some x16
             else
              (idxL l 0).bind fun x43 =>
               (F161 x43).bind fun x44 =>
                bif x44 then
                 (subL l 1 (l.length:Int)).bind fun x41=>(F160 n x41).bind fun x16=>some x16
                else some false
          else some false) = some (atomK l):=by
 cases l with
 | nil=>rfl
 | cons a r =>
  have h1:idxL (a :: r) 0 = some a:=rfl
  simp only [List.length_cons] at hl hk
  simp only [h1,F62_eq,Option.bind_some,subL_tail,F160_eq r (by omega) (show r.length < n by omega),atomK,enX,F161]
  cases isE a.kind <;> cases a.kind == 63 <;> simp
theorem cas_eq (n:Nat) (l:List Node) (hl:l.length≤9223372036854775807) (hk:l.length < n) (hn':10≤n):(bif decide (4≤(l.length:Int)) then
            (subL l 0 4).bind fun x50 =>
             (F158 n x50 [PF98_8,PF98_9,PF98_10,PF98_11]).bind fun x51 =>
              bif x51 then
               (subL l 4 (l.length:Int)).bind fun x41=>(F160 n x41).bind fun x16=>some x16
              else some false
           else some false) = some (casK l):=by
 match l with
 | []=>rfl
 | [_]=>rfl
 | [_,_]=>rfl
 | [_,_,_]=>rfl
 | a :: b :: c :: d :: r =>
  have c1:decide (4≤((a :: b :: c :: d :: r).length:Int)) = true:=by simp; omega
  have s1:subL (a :: b :: c :: d :: r) 0 4 = some [a,b,c,d]:=by
   have:=subL_eq (l:=a :: b :: c :: d :: r) (a:=0) (b:=4) (by simp) (by simp)
   rw [show ((0:Nat):Int) = 0 from rfl,show ((4:Nat):Int) = 4 from rfl] at this
   rw [this]
   simp
  have s2:subL (a :: b :: c :: d :: r) 4 ((a :: b :: c :: d :: r).length:Int) = some r:=by
   have:=subL_eq (l:=a :: b :: c :: d :: r) (a:=4) (b:=(a :: b :: c :: d :: r).length) (by simp) (by simp)
   rw [show ((4:Nat):Int) = 4 from rfl] at this
   rw [this]
   simp
  simp only [List.length_cons] at hl hk
  rw [c1,s1,s2]
  simp only [cond_true,Option.bind_some,F158_4 a b c d PF98_8 PF98_9 PF98_10 PF98_11 (kX 2) eX eX (kX 2) (fun _=>rfl) (fun _=>rfl) (fun _=>rfl) (fun _=>rfl) hn',F160_eq r (by omega) (show r.length < n by omega),casK]
  cases (kX 2 a && (eX b && (eX c && kX 2 d))) <;> rfl
theorem last_eq {l:List Node} (h:l≠[]) (hl:l.length≤9223372036854775807):w64 ((l.length:Int) - 1) = ((l.length - 1:Nat):Int):=by
 have:0 < l.length:=List.length_pos_iff.2 h
 rw [w64_id (by omega) (by omega)]
 omega
theorem idx_last {l:List Node} (h:l≠[]) (hl:l.length≤9223372036854775807):idxL l (w64 ((l.length:Int) - 1)) = some (l.getLast h):=by
 have:0 < l.length:=List.length_pos_iff.2 h
 rw [last_eq h hl,idxL_some (x:=l.getLast h)]
 rw [← List.getLast?_eq_getElem?,List.getLast?_eq_some_getLast h]
theorem sub_last {l:List Node} (h:l≠[]) (hl:l.length≤9223372036854775807):subL l 0 (w64 ((l.length:Int) - 1)) = some l.dropLast:=by
 rw [last_eq h hl]
 have:=subL_eq (l:=l) (a:=0) (b:=l.length - 1) (by omega) (by omega)
 rw [show ((0:Nat):Int) = 0 from rfl] at this
 rw [this]
 simp [List.dropLast_eq_take]
theorem proc_eq (n:Nat) (l:List Node) (hl:l.length≤9223372036854775807) (hk:l.length < n):(bif decide (0≤w64 ((l.length:Int) - 1)) then
                   (idxL l (w64 ((l.length:Int) - 1))).bind fun x70 =>
                    bif x70.kind == 34 then
                     (subL l 0 (w64 ((l.length:Int) - 1))).bind fun x72 =>
                      (F99_3 n x72 58).bind fun x16=>some x16
                    else some false
                  else some false) = some (procK l):=by
 by_cases h:l = []
 ·subst h; rfl
 ·have c1:decide (0≤w64 ((l.length:Int) - 1)) = true:=by
   rw [last_eq h hl]; simp
  have hd:l.dropLast.length≤l.length:=by simp
  rw [c1,idx_last h hl,sub_last h hl]
  simp only [cond_true,Option.bind_some,F99_3_eq l.dropLast 58 (by omega) (show l.dropLast.length < n by omega),procK,List.getLast?_eq_some_getLast h]
  cases (l.getLast h).kind == 34 <;> rfl
theorem F98_eq (x:Node) (hl:x.kids.length≤9223372036854775807) {n:Nat} (hn:20≤n) (hk:x.kids.length < n):F98 n x = some (kidsB x):=by
 have hn':10≤n:=by omega
 unfold F98
 simp only [Option.bind_some,len0,len0lt,
  F158_1 x.kids PF98_0 eX (fun _=>rfl) hn',F158_1 x.kids PF98_1 (kX 2) (fun _=>rfl) hn',F158_1 x.kids PF98_2 eX (fun _=>rfl) hn',
  F158_2 x.kids PF98_3 PF98_4 eX eX (fun _=>rfl) (fun _=>rfl) hn',F158_3 x.kids PF98_5 PF98_6 PF98_7 eX eX eX (fun _=>rfl) (fun _=>rfl) (fun _=>rfl) hn',
  F158_3 x.kids PF98_12 PF98_13 PF98_14 eX (kX 34) (kX 34) (fun _=>rfl) (fun _=>rfl) (fun _=>rfl) hn',
  F158_3 x.kids PF98_15 PF98_16 PF98_17 eX enX (kX 34) (fun _=>rfl) F198_eq (fun _=>rfl) hn',
  F160_eq x.kids hl hk,F99_1_eq x.kids hl hk,F99_2_eq x.kids hl hk,F99_3_eq x.kids _ hl hk,F99_4_eq x.kids hl hk,F99_5_eq x.kids hl hk,F99_6_eq x.kids hl hk,some_cond,bor]
 rw [atom_eq n x.kids hl hk,cas_eq n x.kids hl hk hn',proc_eq n x.kids hl hk]
 simp only [some_cond]
 unfold kidsB leafK oneK
 simp only [ctrue,cfalse]
end Go.Proofs.YtbecjgckobhmpaaGreatDoor
end
section
namespace Go.Proofs.YtbecjgckobhmpaaGreatDoor
open Go Go.AM Go.Proofs
def kindO (t:Option (Int × ByteArray)):Int:=match t with
 | some t=>t.1
 | none=>0
def textO (t:Option (Int × ByteArray)):ByteArray:=match t with
 | some t=>t.2
 | none=>bs []
def isNm (t:Int × ByteArray):Bool:=t.1 == 1 && !(isKey t.2)
def numV (s:ByteArray):Int:=(atoiF s).getD 0
namespace M
variable {α:Type}
def name:M ByteArray:=.look fun t=>match t with
 | some t=>bif isNm t then .adv (.ret t.2) else .fail false
 | none=>.fail false
def num:M Int:=.look fun t=>match t with
 | some t=>bif t.1 == 2 then .adv (.ret (numV t.2)) else .fail false
 | none=>.fail false
def len:M Int:=.look fun t=>match t with
 | some t=>bif t.1 == 2 then (bif numV t.2 == 0 then .fail true else .adv (.ret (numV t.2))) else .fail false
 | none=>.fail false
def numNode:M Node:=.pos fun p=>num.bind fun v=>.ret (Node.mk 1 (bs []) (bs []) v 0 0 false [] p)
def kw (a:ByteArray) (m m':M α):M α:=(accept a).bind fun b=>bif b then m else m'
def semi (x:α):M α:=(expect (bs [59])).bind fun _=>.ret x
def pathS (s:ByteArray × Int):M ((ByteArray × Int) ⊕ ByteArray) :=
 bif decide (s.2 < 2) then
  (accept (bs [46])).bind fun b=>bif !b then .ret (.inr s.1) else name.bind fun y=>.ret (.inl (bs (tl s.1 ++ 46 :: tl y),s.2 + 1))
 else .ret (.inr s.1)
def path (n:Nat):M ByteArray:=name.bind fun x=>iterM pathS n (x,0)
def refS (mE:M Node) (n:Nat):M Node:=.pos fun p=>(path n).bind fun x =>
 kw (bs [91]) (mE.bind fun e=>(expect (bs [93])).bind fun _=>.ret (Node.mk 2 x (bs []) 0 0 0 false [e] p))
  (.ret (Node.mk 2 x (bs []) 0 0 0 false [] p))
def unaryS (mR mU mE:M Node):M Node:=.pos fun p =>
 kw (bs [33]) (mU.bind fun e=>.ret (Node.mk 4 (bs []) (bs []) 0 0 0 false [e] p))
  (.look fun t=>bif kindO t == 2 then numNode else
   kw (bs [111,108,100]) ((expect (bs [40])).bind fun _=>mR.bind fun e=>(expect (bs [41])).bind fun _=>.ret (Node.mk 3 (bs []) (bs []) 0 0 0 false [e] p))
    (kw (bs [40]) (mE.bind fun e=>(expect (bs [41])).bind fun _=>.ret e) mR))
def rightS (mB:Int→M Node) (l:Int):M (Int × Node) :=
 bif l == 2 then (mB l).bind fun r=>.ret (l - 1,r)
 else bif l == 5 then (mB (l + 1)).bind fun r=>.ret (l - 1,r)
 else (mB (l + 1)).bind fun r=>.ret (l,r)
def binStep (mB:Int→M Node) (a0:Int) (s:Int × Node):M ((Int × Node) ⊕ Node):=.look fun t=>.pos fun p =>
 bif ((levelI (textO t) == 0) || decide (levelI (textO t) < a0)) || decide (s.1 < levelI (textO t)) then .ret (.inr s.2)
 else .adv ((rightS mB (levelI (textO t))).bind fun j=>.ret (.inl (j.1,Node.mk 5 (textO t) (bs []) 0 0 0 false [s.2,j.2] p)))
def binS (mU:M Node) (mB:Int→M Node) (n:Nat) (a0:Int):M Node:=mU.bind fun x=>iterM (binStep mB a0) n (10,x)
def condS (mB:Int→M Node) (mC:M Node):M Node:=(mB 2).bind fun x=>.pos fun p =>
 (accept (bs [63])).bind fun b=>bif !b then .ret x else
  mC.bind fun y=>(expect (bs [58])).bind fun _=>mC.bind fun z=>.ret (Node.mk 6 (bs []) (bs []) 0 0 0 false [x,y,z] p)
def quant (mE:M Node) (k:Int):M Node:=.pos fun p=>.adv (name.bind fun x=>(expect (bs [60])).bind fun _ =>
 num.bind fun v=>(expect (bs [58])).bind fun _=>mE.bind fun e=>.ret (Node.mk k x (bs []) v 0 0 false [e] p))
def exprS (mC mE:M Node):M Node:=.look fun t =>
 bif strEq (textO t) (bs [97,108,108]) then quant mE 7
 else bif strEq (textO t) (bs [115,111,109,101]) then quant mE 8
 else mC
mutual
def ref:Nat→M Node
 | 0=>.out
 | n + 1=>refS (expr n) n
def unary:Nat→M Node
 | 0=>.out
 | n + 1=>unaryS (ref n) (unary n) (expr n)
def bin:Nat→Int→M Node
 | 0,_=>.out
 | n + 1,a=>binS (unary n) (bin n) n a
def cond:Nat→M Node
 | 0=>.out
 | n + 1=>condS (bin n) (cond n)
def expr:Nat→M Node
 | 0=>.out
 | n + 1=>exprS (cond n) (expr n)
end
def whole (n:Nat):M Node:=(expr n).bind fun e=>.look fun t=>bif t.isSome then .fail false else .ret e
def partsL (part:M (List Node)) (acc:List Node):M (List Node ⊕ List Node) :=
 kw (bs [44]) (part.bind fun x=>.ret (.inl (acc ++ x))) (.ret (.inr acc))
def some' (n:Nat) (part:M (List Node)):M (List Node):=part.bind fun x=>iterM (partsL part) n x
def parts (n:Nat) (a:ByteArray) (part:M (List Node)):M (List Node) :=
 kw a (.ret []) (part.bind fun x=>(iterM (partsL part) n x).bind fun l=>(expect a).bind fun _=>.ret l)
def one (m:M Node):M (List Node):=m.bind fun x=>.ret [x]
def skipS (closed:Bool) (d:Int):M (Int ⊕ (Unit ⊕ Unit)):=.look fun t=>match t with
 | none=>.ret (.inr (.inr ()))
 | some t =>
  bif strEq t.2 (bs [59]) then (bif d == 0 then .adv (.ret (.inr (.inl ()))) else .adv (.ret (.inl d)))
  else bif strEq t.2 (bs [123]) then .adv (.ret (.inl (w64 (d + 1))))
  else bif strEq t.2 (bs [125]) then
   (bif (d == 0) && closed then .ret (.inr (.inl ()))
   else bif d == 0 then .adv (.ret (.inr (.inl ())))
   else bif w64 (d - 1) == 0 then .adv ((accept (bs [59])).bind fun _=>.ret (.inr (.inl ())))
   else .adv (.ret (.inl (w64 (d - 1)))))
  else .adv (.ret (.inl d))
def skip (n:Nat) (closed:Bool):M Unit:=.getI fun d=>.setI 0 ((iterM (skipS closed) n d).bind fun _=>.ret ())
def listS (n:Nat) (closed:Bool) (item:M Node) (acc:List Node):M (List Node ⊕ List Node):=.look fun t =>
 bif t.isNone then (bif closed then .fail false else .ret (.inr acc))
 else (bif closed then accept (bs [125]) else .ret false).bind fun b=>bif b then .ret (.inr acc)
  else item.tryM (fun x=>.ret (.inl (acc ++ [x]))) (fun b=>.rep b ((skip n closed).bind fun _=>.ret (.inl acc)))
def list (n:Nat) (closed:Bool) (item:M Node):M (List Node):=iterM (listS n closed item) n []
def sized (k:Int) (g:Bool) (p:Int):M Node:=name.bind fun x=>(expect (bs [58])).bind fun _=>num.bind fun v=>.ret (Node.mk k x (bs []) v 0 0 g [] p)
def field:M Node:=.pos fun p=>(sized 52 false p).bind fun x=>semi x
def param:M Node:=.pos fun p=>sized 58 false p
def pathNode (n:Nat):M Node:=.pos fun p=>(path n).bind fun x=>.ret (Node.mk 2 x (bs []) 0 0 0 false [] p)
def assign (n:Nat):M (List Node):=(ref n).bind fun a=>(expect (bs [58,61])).bind fun _=>(expr n).bind fun e=>.ret [a,e]
def with' (n:Nat):M (List Node):=(accept (bs [119,105,116,104])).bind fun b=>bif !b then .ret [] else some' n (assign n)
def none' (k p:Int):Node:=Node.mk k (bs []) (bs []) 0 0 0 false [] p
def atomic (n:Nat) (p:Int):M (List Node):=(expect (bs [123])).bind fun _=>.setI 1 ((parts n (bs [125]) (assign n)).bind fun l=>.setI 0
 (kw (bs [119,104,101,110]) ((expr n).bind fun e=>.ret ([e] ++ l)) (.ret ([none' 63 p] ++ l))))
def cas (n:Nat):M (List Node):=(ref n).bind fun a=>(expect (bs [44])).bind fun _=>(expr n).bind fun b=>(expect (bs [44])).bind fun _ =>
 (expr n).bind fun c=>(expect (bs [105,110,116,111])).bind fun _=>(ref n).bind fun d=>(with' n).bind fun l=>.ret ((([a] ++ [b]) ++ [c]) ++ [d] ++ l)
def loopS (mB:M Node) (n:Nat) (p:Int):M Node:=(expr n).bind fun c =>
 (kw (bs [118,97,114,105,97,110,116]) (expr n) (.ret (none' 63 p))).bind fun v=>mB.bind fun b=>.ret (Node.mk 32 (bs []) (bs []) 0 0 0 false [c,v,b] p)
def branchS (mB:M Node) (n:Nat) (p:Int):M Node:=(expr n).bind fun c=>mB.bind fun a =>
 (kw (bs [101,108,115,101]) mB (.ret (none' 34 p))).bind fun b=>.ret (Node.mk 31 (bs []) (bs []) 0 0 0 false [c,a,b] p)
def blockS (mL:M (List Node)):M Node:=.pos fun p=>(expect (bs [123])).bind fun _=>mL.bind fun l=>.ret (Node.mk 34 (bs []) (bs []) 0 0 0 false l p)
def nd (k:Int) (s:ByteArray) (l:List Node) (p:Int):Node:=Node.mk k s (bs []) 0 0 0 false l p
def stmtS (mIf mWh:Int→M Node) (n:Nat):M Node:=.pos fun p =>
 kw (bs [105,102]) (mIf p) <|
 kw (bs [119,104,105,108,101]) (mWh p) <|
 kw (bs [97,115,115,101,114,116]) ((expr n).bind fun e=>semi (nd 20 (bs []) [e] p)) <|
 kw (bs [97,119,97,105,116]) ((expr n).bind fun e=>semi (nd 29 (bs []) [e] p)) <|
 kw (bs [102,101,110,99,101]) (semi (nd 26 (bs []) [] p)) <|
 kw (bs [115,107,105,112]) (semi (nd 30 (bs []) [] p)) <|
 kw (bs [97,116,111,109,105,99]) ((atomic n p).bind fun l=>semi (nd 22 (bs []) l p)) <|
 kw (bs [99,97,115]) ((cas n).bind fun l=>semi (nd 23 (bs []) l p)) <|
 kw (bs [97,99,113,117,105,114,101]) ((path n).bind fun x=>semi (nd 24 x [] p)) <|
 kw (bs [102,114,101,101]) ((path n).bind fun x=>semi (nd 25 x [] p)) <|
 kw (bs [115,112,97,119,110]) (name.bind fun x=>semi (nd 27 x [] p)) <|
 kw (bs [106,111,105,110]) (name.bind fun x=>semi (nd 28 x [] p)) <|
 kw (bs [99,97,108,108]) ((path n).bind fun x=>(expect (bs [40])).bind fun _=>(parts n (bs [41]) (one (expr n))).bind fun l=>semi (nd 33 x l p)) <|
 kw (bs [103,104,111,115,116]) ((expect (bs [108,111,99,97,108])).bind fun _=>(sized 35 true p).bind fun x=>semi x) <|
 kw (bs [108,111,99,97,108]) ((sized 35 false p).bind fun x=>semi x) <|
 (kw (bs [114,101,108,101,97,115,101]) (.ret (Node.mk 21 (bs []) (bs []) 1 0 0 false [] p)) (.ret (Node.mk 21 (bs []) (bs []) 0 0 0 false [] p))).bind fun j =>
  (assign n).bind fun a=>(with' n).bind fun w=>semi (Node.mk j.kind j.name j.other j.n j.len j.init j.ghost (a ++ w) j.pos)
mutual
def loop:Nat→Int→M Node
 | 0,_=>.out
 | n + 1,p=>loopS (block n) n p
def branch:Nat→Int→M Node
 | 0,_=>.out
 | n + 1,p=>branchS (block n) n p
def stmt:Nat→M Node
 | 0=>.out
 | n + 1=>stmtS (branch n) (loop n) n
def stmts:Nat→M (List Node)
 | 0=>.out
 | n + 1=>list n true (stmt n)
def block:Nat→M Node
 | 0=>.out
 | n + 1=>blockS (stmts n)
end
def shared (g:Bool) (p:Int):M Node:=name.bind fun x =>
 (kw (bs [91]) (len.bind fun l=>(expect (bs [93])).bind fun _=>.ret (Node.mk 50 x (bs []) 0 l 0 g [] p)) (.ret (Node.mk 50 x (bs []) 0 0 0 g [] p))).bind fun j =>
 (expect (bs [58])).bind fun _ =>
 (Go.Proofs.YtbecjgckobhmpaaGreatDoor.M.look fun t=>bif (match t with | some t=>isNm t | none=>false) then name.bind fun o=>.ret (Node.mk j.kind j.name o j.n j.len j.init j.ghost j.kids j.pos)
  else num.bind fun v=>.ret (Node.mk j.kind j.name j.other v j.len j.init j.ghost j.kids j.pos)).bind fun j =>
 (kw (bs [61]) (num.bind fun v=>.ret (Node.mk j.kind j.name j.other j.n j.len v j.ghost j.kids j.pos)) (.ret j)).bind fun j=>semi j
def decl (n:Nat):M Node:=.pos fun p =>
 (kw (bs [114,101,99,111,114,100]) (name.bind fun x=>(expect (bs [123])).bind fun _=>(list n true field).bind fun l=>.ret (Sum.inl (nd 51 x l p))) <|
 kw (bs [103,104,111,115,116]) ((expect (bs [115,104,97,114,101,100])).bind fun _=>(shared true p).bind fun x=>.ret (.inl x)) <|
 kw (bs [115,104,97,114,101,100]) ((shared false p).bind fun x=>.ret (.inl x)) <|
 kw (bs [108,111,99,107]) (name.bind fun x=>(expect (bs [105,110,118,97,114,105,97,110,116])).bind fun _=>(expr n).bind fun e=>.ret (.inr (nd 53 x [e] p))) <|
 kw (bs [114,101,108,121]) ((expr n).bind fun e=>.ret (.inr (nd 54 (bs []) [e] p))) <|
 kw (bs [103,117,97,114,97,110,116,101,101]) ((expr n).bind fun e=>.ret (.inr (nd 55 (bs []) [e] p))) <|
 kw (bs [102,114,97,109,101]) ((some' n (one (pathNode n))).bind fun l=>.ret (.inr (nd 56 (bs []) l p))) <|
 kw (bs [112,114,111,99]) (name.bind fun x=>(expect (bs [40])).bind fun _=>(parts n (bs [41]) (one param)).bind fun l =>
  (kw (bs [108,111,99,107,101,100]) (name.bind fun o=>.ret (Node.mk 57 x o 0 0 0 false l p)) (.ret (Node.mk 57 x (bs []) 0 0 0 false l p))).bind fun j =>
  (block n).bind fun b=>.ret (.inl (Node.mk j.kind j.name j.other j.n j.len j.init j.ghost (j.kids ++ [b]) j.pos))) <|
 (.fail false:M (Node ⊕ Node))).bind fun j=>match j with
  | .inl x=>.ret x
  | .inr x=>semi x
def thread (v p:Int) (n:Nat):M Node:=name.bind fun x=>(expect (bs [61])).bind fun _=>(path n).bind fun o=>(expect (bs [40])).bind fun _ =>
 (parts n (bs [41]) (one numNode)).bind fun l=>semi (Node.mk 61 x o v 0 0 false l p)
def item (n:Nat):M Node:=.pos fun p =>
 kw (bs [109,111,100,117,108,101]) (name.bind fun x=>(expect (bs [111,119,110,101,114])).bind fun _=>name.bind fun o=>(expect (bs [123])).bind fun _ =>
  (list n true (decl n)).bind fun l=>.ret (Node.mk 60 x o 0 0 0 false l p)) <|
 kw (bs [97,115,108,101,101,112]) ((expect (bs [116,104,114,101,97,100])).bind fun _=>thread 1 p n) <|
 kw (bs [116,104,114,101,97,100]) (thread 0 p n) <|
 .fail false
def source (n:Nat):M (List Node):=list n false (item n)
end M
end Go.Proofs.YtbecjgckobhmpaaGreatDoor
end
section
namespace Go.Proofs.YtbecjgckobhmpaaGreatDoor
open Go Go.AM Go.Proofs
def TkOk (t:Int × ByteArray):Prop :=
 (t.1 = 1∧nameCs (tl t.2) = true∧1≤(tl t.2).length∧(tl t.2).length≤16) ∨
 (t.1 = 2∧1≤(tl t.2).length∧(tl t.2).length≤9∧(∀ b ∈ tl t.2,48≤b.toNat∧b.toNat≤57)∧((tl t.2).length = 1∨(tl t.2).head?≠some 48)) ∨
 (t.1 = 3∧1≤(tl t.2).length∧(tl t.2).length≤3∧isKey t.2 = false)
def TksOk (l:List Token):Prop:=∀ t ∈ l,TkOk (t.kind,t.text)
theorem decL_some:∀ (l:List UInt8) (n:Nat),(∀ b ∈ l,48≤b.toNat∧b.toNat≤57)→∃ v,decL l n = some v
 | [],n,_=>⟨n,rfl⟩
 | b :: r,n,h=>by
  unfold decL
  rw [if_pos (h b (List.mem_cons_self ..))]
  exact decL_some r _ fun c hc=>h c (List.mem_cons_of_mem _ hc)
theorem atoi_ok {t:Int × ByteArray} (h:TkOk t) (h2:t.1 = 2):atoiF t.2 = some (numV t.2):=by
 rcases h with h | h | h
 ·omega
 ·obtain ⟨_,h3,h4,h5,_⟩:=h
  obtain ⟨v,hv⟩:=decL_some (tl t.2) 0 h5
  unfold numV atoiF
  rw [size_tl,tl_def,hv]
  rw [if_neg (by omega)]
  rfl
 ·omega
def addD (d:List Diag) (r:Int × Int):List Diag :=
 bif decide (20≤(d.length:Int)) then d
 else bif (match d.getLast? with | some x=>x.pos == r.2 | none=>false) then d else d ++ [⟨r.1,r.2⟩]
def addDs (d:List Diag) (l:List (Int × Int)):List Diag:=l.foldl addD d
def mkS (T:List Token) (fin:Int) (s:PS):RS:=⟨T,(T.length:Int) - (s.rest.length:Int),fin,s.inner,addDs [] s.reps⟩
def toO {α:Type} (T:List Token) (fin:Int):Out α→Option ((α ⊕ Bad) × RS)
 | .ok a s=>some (.inl a,mkS T fin s)
 | .bad b s=>some (.inr (codeOf b s.rest,posOf fin s.rest),mkS T fin s)
 | .out=>none
def Sim {α:Type} (f:RS→Option ((α ⊕ Bad) × RS)) (m:M α):Prop :=
 ∀ (T:List Token) (fin:Int) (s:PS),T.length≤1500→TksOk T→s.rest <:+ T→f (mkS T fin s) = toO T fin (m.run fin s)
theorem TksOk.suf {T r:List Token} (h:TksOk T) (hs:r <:+ T):TksOk r:=fun t ht=>h t (hs.subset ht)
section
variable {T:List Token} {fin:Int} {s:PS}
theorem mk_lt (hs:s.rest <:+ T):decide ((mkS T fin s).next < ((mkS T fin s).toks.length:Int)) = !s.rest.isEmpty:=by
 have:=hs.length_le
 cases h:s.rest with
 | nil=>simp [mkS,h]
 | cons t r=>simp [mkS,h]; omega
theorem mk_idx {t:Token} {r:List Token} (hs:t :: r <:+ T):idxL T ((T.length:Int) - ((t :: r).length:Int)) = some t:=by
 obtain ⟨p,rfl⟩:=hs
 have e:(((p ++ t :: r).length:Nat):Int) - (((t :: r).length:Nat):Int) = (p.length:Int):=by
  rw [List.length_append]; omega
 rw [e]
 exact idxL_some (by simp)
theorem mk_idx' {t:Token} {r:List Token} (hs:s.rest <:+ T) (h:s.rest = t :: r):idxL (mkS T fin s).toks (mkS T fin s).next = some t:=by
 rw [h] at hs
 have:=mk_idx hs
 unfold mkS
 rw [h]
 exact this
theorem mk_next {t:Token} {r:List Token} {i:Int} {p:List (Int × Int)} (hT:T.length≤1500) (hs:t :: r <:+ T):(mkS T fin ⟨t :: r,i,p⟩).setNext (w64 ((mkS T fin ⟨t :: r,i,p⟩).next + 1)) = mkS T fin ⟨r,i,p⟩:=by
 have:=hs.length_le
 simp only [List.length_cons] at this
 simp only [mkS,RS.setNext,List.length_cons]
 rw [w64_id (by omega) (by omega)]
 congr 1
 omega
theorem F91_mk (hs:s.rest <:+ T):F91 (mkS T fin s) = some (posOf fin s.rest):=by
 unfold F91
 rw [mk_lt hs]
 cases h:s.rest with
 | nil=>rfl
 | cons t r =>
  simp only [List.isEmpty_cons,Bool.not_false,cond_true]
  rw [mk_idx' hs h]
  rfl
theorem F101_mk (hs:s.rest <:+ T):F101 (mkS T fin s) = some (textO (hdOf s.rest)):=by
 unfold F101
 rw [mk_lt hs]
 cases h:s.rest with
 | nil=>rfl
 | cons t r =>
  simp only [List.isEmpty_cons,Bool.not_false,cond_true]
  rw [mk_idx' hs h]
  rfl
theorem F168_mk (hs:s.rest <:+ T):F168 (mkS T fin s) = some (kindO (hdOf s.rest)):=by
 unfold F168
 rw [mk_lt hs]
 cases h:s.rest with
 | nil=>rfl
 | cons t r =>
  simp only [List.isEmpty_cons,Bool.not_false,cond_true]
  rw [mk_idx' hs h]
  rfl
def isNmO (t:Option (Int × ByteArray)):Bool:=match t with
 | some t=>isNm t
 | none=>false
theorem F143_mk (hs:s.rest <:+ T):F143 (mkS T fin s) = some (isNmO (hdOf s.rest)):=by
 unfold F143
 rw [F168_mk hs]
 simp only [Option.bind_some]
 cases h:s.rest with
 | nil=>rfl
 | cons t r =>
  have e:=F101_mk (fin:=fin) hs
  rw [h] at e
  simp only [hdOf,kindO,isNmO,isNm]
  cases hk:t.kind == 1
  ·rfl
  ·simp only [cond_true]
   rw [e]
   rfl
theorem F68_mk (hs:s.rest <:+ T):F68 (mkS T fin s) = toO T fin (.bad false s):=by
 unfold F68
 rw [mk_lt hs,F91_mk hs]
 cases h:s.rest with
 | nil=>simp [toO,h,codeOf,posOf,mkS]
 | cons t r=>simp [toO,h,codeOf,posOf]
end
section
variable {α β σ ρ:Type}
def AllM (P:α→Prop):M α→Prop
 | .ret a=>P a
 | .fail _=>True
 | .out=>True
 | .look k=>∀ t,(∀ x,t = some x→TkOk x)→AllM P (k t)
 | .adv k=>AllM P k
 | .pos k=>∀ x,AllM P (k x)
 | .setI _ k=>AllM P k
 | .getI k=>∀ x,AllM P (k x)
 | .rep _ k=>AllM P k
theorem AllM.run {P:α→Prop} (fin:Int):∀ (m:M α) (s:PS) (a:α) (s':PS),AllM P m→TksOk s.rest→m.run fin s = .ok a s'→P a
 | .ret a,s,_,_,h,_,e=>by
  simp only [M.run,Out.ok.injEq] at e
  rw [← e.1]
  exact h
 | .fail b,s,_,_,_,_,e=>by simp [M.run] at e
 | .out,s,_,_,_,_,e=>by simp [M.run] at e
 | .look k,s,a,s',h,ht,e=>AllM.run fin (k (hdOf s.rest)) s a s' (h _ fun x hx=>by
   cases hr:s.rest with
   | nil=>rw [hr] at hx; cases hx
   | cons t r =>
    rw [hr] at hx
    simp only [hdOf,Option.some.injEq] at hx
    subst hx
    exact ht t (by rw [hr]; exact List.mem_cons_self ..)) ht e
 | .adv k,s,a,s',h,ht,e=>by
  obtain ⟨r,i,p⟩:=s
  cases r with
  | nil=>simp [M.run] at e
  | cons t r=>exact AllM.run fin k ⟨r,i,p⟩ a s' h (fun x hx=>ht x (List.mem_cons_of_mem _ hx)) e
 | .pos k,s,a,s',h,ht,e=>AllM.run fin (k (posOf fin s.rest)) s a s' (h _) ht e
 | .setI i k,s,a,s',h,ht,e=>AllM.run fin k ⟨s.rest,i,s.reps⟩ a s' h ht e
 | .getI k,s,a,s',h,ht,e=>AllM.run fin (k s.inner) s a s' (h _) ht e
 | .rep b k,s,a,s',h,ht,e=>AllM.run fin k ⟨s.rest,s.inner,s.reps ++ [(codeOf b s.rest,posOf fin s.rest)]⟩ a s' h ht e
theorem AllM.mono {P Q:α→Prop} (hq:∀ a,P a→Q a):∀ (m:M α),AllM P m→AllM Q m
 | .ret a,h=>hq a h
 | .fail _,_=>trivial
 | .out,_=>trivial
 | .look k,h=>fun t ht=>AllM.mono hq (k t) (h t ht)
 | .adv k,h=>AllM.mono hq k h
 | .pos k,h=>fun x=>AllM.mono hq (k x) (h x)
 | .setI _ k,h=>AllM.mono hq k h
 | .getI k,h=>fun x=>AllM.mono hq (k x) (h x)
 | .rep _ k,h=>AllM.mono hq k h
theorem AllM.top:∀ (m:M α),AllM (fun _=>True) m
 | .ret _=>trivial
 | .fail _=>trivial
 | .out=>trivial
 | .look k=>fun t _=>AllM.top (k t)
 | .adv k=>AllM.top k
 | .pos k=>fun x=>AllM.top (k x)
 | .setI _ k=>AllM.top k
 | .getI k=>fun x=>AllM.top (k x)
 | .rep _ k=>AllM.top k
theorem AllM.bind {P:α→Prop} {Q:β→Prop} {f:α→M β} (hf:∀ a,P a→AllM Q (f a)):∀ (m:M α),AllM P m→AllM Q (m.bind f)
 | .ret a,h=>hf a h
 | .fail _,_=>trivial
 | .out,_=>trivial
 | .look k,h=>fun t ht=>AllM.bind hf (k t) (h t ht)
 | .adv k,h=>AllM.bind hf k h
 | .pos k,h=>fun x=>AllM.bind hf (k x) (h x)
 | .setI _ k,h=>AllM.bind hf k h
 | .getI k,h=>fun x=>AllM.bind hf (k x) (h x)
 | .rep _ k,h=>AllM.bind hf k h
theorem AllM.try {P:α→Prop} {Q:β→Prop} {f:α→M β} {g:Bool→M β} (hf:∀ a,P a→AllM Q (f a)) (hg:∀ b,AllM Q (g b)):∀ (m:M α),AllM P m→AllM Q (m.tryM f g)
 | .ret a,h=>hf a h
 | .fail b,_=>hg b
 | .out,_=>trivial
 | .look k,h=>fun t ht=>AllM.try hf hg (k t) (h t ht)
 | .adv k,h=>AllM.try hf hg k h
 | .pos k,h=>fun x=>AllM.try hf hg (k x) (h x)
 | .setI _ k,h=>AllM.try hf hg k h
 | .getI k,h=>fun x=>AllM.try hf hg (k x) (h x)
 | .rep _ k,h=>AllM.try hf hg k h
theorem AllM.bind' {Q:β→Prop} {f:α→M β} {m:M α} (hf:∀ a,AllM Q (f a)):AllM Q (m.bind f):=AllM.bind (P:=fun _=>True) (fun a _=>hf a) m (AllM.top m)
theorem AllM.cond {P:α→Prop} {c:Bool} {a b:M α} (h1:AllM P a) (h2:AllM P b):AllM P (bif c then a else b):=by cases c <;> assumption
theorem AllM.kw {P:α→Prop} {a:ByteArray} {m m':M α} (h1:AllM P m) (h2:AllM P m'):AllM P (M.kw a m m'):=AllM.bind' fun _=>AllM.cond h1 h2
theorem AllM.iter {step:σ→M (σ ⊕ ρ)} {Q:ρ→Prop} (Inv:Nat→σ→Prop) {N:Nat} (h:∀ k x,k < N→Inv k x→AllM (Sum.elim (Inv (k + 1)) Q) (step x)):∀ (n k:Nat) (x:σ),k + n≤N→Inv k x→AllM Q (M.iterM step n x)
 | 0,_,_,_,_=>trivial
 | n + 1,k,x,hn,hi=>by
  refine AllM.bind ?_ _ (h k x (by omega) hi)
  intro r hr
  cases r with
  | inl x'=>exact AllM.iter Inv h n (k + 1) x' (by omega) hr
  | inr r=>exact hr
theorem sim_ret (a:α):Sim (fun s=>some (.inl a,s)) (.ret a):=fun _ _ _ _ _ _=>rfl
theorem sim_bind {f:RS→Option ((α ⊕ Bad) × RS)} {m:M α} {g:α→RS→Option ((β ⊕ Bad) × RS)} {k:α→M β} (P:α→Prop) (hP:AllM P m) (hf:Sim f m) (hg:∀ a,P a→Sim (g a) (k a)):Sim (fun s=>pbind (f s) g) (m.bind k):=by
 intro T fin s hT hok hs
 simp only [M.run_bind,hf T fin s hT hok hs]
 have hsuf:=M.run_suf fin m s
 cases hr:m.run fin s with
 | ok a s' =>
  rw [hr] at hsuf
  exact hg a (AllM.run fin m s a s' hP (hok.suf hs) hr) T fin s' hT hok (List.IsSuffix.trans hsuf hs)
 | bad b s'=>rfl
 | out=>rfl
theorem sim_bind' {f:RS→Option ((α ⊕ Bad) × RS)} {m:M α} {g:α→RS→Option ((β ⊕ Bad) × RS)} {k:α→M β} (hf:Sim f m) (hg:∀ a,Sim (g a) (k a)):Sim (fun s=>pbind (f s) g) (m.bind k) :=
 sim_bind (fun _=>True) (AllM.top m) hf fun a _=>hg a
theorem bind_ret:∀ m:M α,m.bind .ret = m
 | .ret a=>rfl
 | .fail b=>rfl
 | .out=>rfl
 | .look k=>by simp only [M.bind]; congr 1; funext t; exact bind_ret (k t)
 | .adv k=>by simp only [M.bind]; congr 1; exact bind_ret k
 | .pos k=>by simp only [M.bind]; congr 1; funext t; exact bind_ret (k t)
 | .setI i k=>by simp only [M.bind]; congr 1; exact bind_ret k
 | .getI k=>by simp only [M.bind]; congr 1; funext t; exact bind_ret (k t)
 | .rep b k=>by simp only [M.bind]; congr 1; exact bind_ret k
theorem sim_eta {f:RS→Option ((α ⊕ Bad) × RS)} {m:M α} (hf:Sim f m):Sim (fun s=>pbind (f s) fun r s'=>some (.inl r,s')) m:=by
 have:=sim_bind' (g:=fun r s'=>some (.inl r,s')) (k:=M.ret) hf fun a=>sim_ret a
 rwa [bind_ret] at this
theorem sim_cond {c:Bool} {f g:RS→Option ((α ⊕ Bad) × RS)} {a b:M α} (h1:Sim f a) (h2:Sim g b):Sim (fun s=>bif c then f s else g s) (bif c then a else b):=by cases c <;> assumption
theorem sim_pos {g:Int→RS→Option ((α ⊕ Bad) × RS)} {k:Int→M α} (h:∀ x,Sim (g x) (k x)):Sim (fun s=>(F91 s).bind fun x=>g x s) (.pos k):=fun T fin s hT hok hs=>by
 simp only [F91_mk hs,Option.bind_some]
 exact h _ T fin s hT hok hs
theorem sim_kind {g:Int→RS→Option ((α ⊕ Bad) × RS)} {k:Option (Int × ByteArray)→M α} (h:∀ t,Sim (g (kindO t)) (k t)):Sim (fun s=>(F168 s).bind fun x=>g x s) (.look k):=fun T fin s hT hok hs=>by
 simp only [F168_mk hs,Option.bind_some]
 exact h _ T fin s hT hok hs
theorem sim_opt {γ:Type} {o:Option γ} {v:γ} {g:γ→RS→Option ((α ⊕ Bad) × RS)} {m:M α} (h:o = some v) (hg:Sim (g v) m):Sim (fun s=>o.bind fun x=>g x s) m:=by
 subst h
 exact hg
theorem appL_some {B:Nat} {l m:List α} (h:(l.length + m.length) * B≤140737488355328):appL B l m = some (l ++ m):=if_pos h
theorem sim_iter {step:σ→RS→Option (((σ ⊕ ρ) ⊕ Bad) × RS)} {mstep:σ→M (σ ⊕ ρ)} (Inv:Nat→σ→Prop) {N:Nat} (h:∀ k x,k < N→Inv k x→Sim (step x) (mstep x)∧AllM (Sum.elim (Inv (k + 1)) fun _=>True) (mstep x)) :
  ∀ (n k:Nat) (x:σ),k + n≤N→Inv k x→Sim (iterP step n x) (M.iterM mstep n x)
 | 0,_,_,_,_=>fun _ _ _ _ _ _=>rfl
 | n + 1,k,x,hn,hi=>by
  intro T fin s hT hok hs
  obtain ⟨h1,h2⟩:=h k x (by omega) hi
  simp only [iterP,M.iterM,M.run_bind,h1 T fin s hT hok hs]
  have hsuf:=M.run_suf fin (mstep x) s
  cases hr:(mstep x).run fin s with
  | ok a s' =>
   rw [hr] at hsuf
   have hp:=AllM.run fin _ s a s' h2 (hok.suf hs) hr
   cases a with
   | inl x'=>exact sim_iter Inv h n (k + 1) x' (by omega) hp T fin s' hT hok (List.IsSuffix.trans hsuf hs)
   | inr r=>rfl
  | bad b s'=>rfl
  | out=>rfl
theorem sim_iter' {step:σ→RS→Option (((σ ⊕ ρ) ⊕ Bad) × RS)} {mstep:σ→M (σ ⊕ ρ)} (h:∀ x,Sim (step x) (mstep x)) (n:Nat) (x:σ):Sim (iterP step n x) (M.iterM mstep n x) :=
 sim_iter (fun _ _=>True) (N:=n) (fun k x _ _=>⟨h x,(AllM.top _).mono fun r _=>by cases r <;> trivial⟩) n 0 x (by omega) trivial
end
theorem sim_fail {α:Type} (g:Unit→RS→Option ((α ⊕ Bad) × RS)):Sim (fun s=>pbind (F68 s) g) (.fail false):=fun T fin s hT hok hs=>by
 simp only [F68_mk hs]
 rfl
theorem sim_accept (a:ByteArray):Sim (F88 a) (M.accept a):=by
 intro T fin s hT hok hs
 obtain ⟨r,i,p⟩:=s
 unfold F88
 rw [mk_lt hs,F101_mk hs]
 cases r with
 | nil=>rfl
 | cons t r =>
  simp only [List.isEmpty_cons,Bool.not_false,cond_true,Option.bind_some,pbind,M.accept,M.run,hdOf,textO]
  cases strEq t.text a
  ·rfl
  ·simp only [cond_true]
   rw [mk_next hT hs]
   rfl
theorem sim_expect (a:ByteArray):Sim (F93 a) (M.expect a):=by
 unfold F93 M.expect
 refine sim_bind' (sim_accept a) fun b=>?_
 cases b
 ·exact sim_fail _
 ·exact sim_ret _
theorem sim_kw {α:Type} {a:ByteArray} {f g:RS→Option ((α ⊕ Bad) × RS)} {m m':M α} (h1:Sim f m) (h2:Sim g m'):Sim (fun s=>pbind (F88 a s) fun b s'=>bif b then f s' else g s') (M.kw a m m') :=
 sim_bind' (sim_accept a) fun _=>sim_cond h1 h2
theorem name_all:AllM (fun x=>(tl x).length≤16∧nameCs (tl x) = true∧1≤(tl x).length∧isKey x = false) M.name:=by
 intro t ht
 cases t with
 | none=>trivial
 | some t =>
  show AllM _ (bif isNm t then .adv (.ret t.2) else .fail false)
  cases hn:isNm t
  ·trivial
  ·have h:=ht t rfl
   simp only [isNm,Bool.and_eq_true,beq_iff_eq,Bool.not_eq_true'] at hn
   rcases h with h | h | h
   ·exact ⟨h.2.2.2,h.2.1,h.2.2.1,hn.2⟩
   ·omega
   ·omega
theorem sim_name:Sim F92 M.name:=by
 intro T fin s hT hok hs
 obtain ⟨r,i,p⟩:=s
 unfold F92
 rw [F143_mk hs]
 cases r with
 | nil =>
  simp only [hdOf,isNmO,Option.bind_some,Bool.not_false,cond_true,M.name,M.run]
  rw [F68_mk hs]
  rfl
 | cons t r =>
  simp only [hdOf,isNmO,Option.bind_some,M.name,M.run]
  cases hn:isNm (t.kind,t.text)
  ·simp only [Bool.not_false,cond_true,cond_false,M.run]
   rw [F68_mk hs]
   rfl
  ·simp only [Bool.not_true,cond_false,cond_true,pbind,M.run]
   rw [mk_next hT hs]
   have hl:=List.IsSuffix.length_le hs
   simp only [List.length_cons] at hl
   have e:w64 ((mkS T fin ⟨r,i,p⟩).next - 1) = (T.length:Int) - ((t :: r).length:Int):=by
    simp only [mkS,List.length_cons]
    rw [w64_id (by omega) (by omega)]
    omega
   rw [e]
   have e2:(mkS T fin ⟨r,i,p⟩).toks = T:=rfl
   rw [e2,mk_idx hs]
   rfl
theorem sim_num:Sim F103 M.num:=by
 intro T fin s hT hok hs
 obtain ⟨r,i,p⟩:=s
 unfold F103
 rw [F168_mk hs]
 cases r with
 | nil =>
  simp only [hdOf,kindO,Option.bind_some,M.num,M.run]
  rw [F68_mk hs]
  rfl
 | cons t r =>
  simp only [hdOf,kindO,Option.bind_some,M.num,M.run]
  cases hn:t.kind == 2
  ·have:(t.kind != 2) = true:=by simp [bne,hn]
   simp only [this,cond_true,cond_false,M.run]
   rw [F68_mk hs]
   rfl
  ·have:(t.kind != 2) = false:=by simp [bne,hn]
   simp only [this,cond_true,cond_false,M.run,pbind]
   rw [F101_mk hs]
   have ha:=atoi_ok (hok t (hs.subset (List.mem_cons_self ..))) (by simpa using hn)
   simp only [hdOf,textO,Option.bind_some] at ha ⊢
   rw [ha]
   simp only [Option.bind_some]
   rw [mk_next hT hs]
   rfl
theorem sim_numNode:Sim F153 M.numNode:=by
 unfold F153 M.numNode
 exact sim_pos fun x=>sim_bind' sim_num fun v=>sim_ret _
theorem sim_adv {α:Type} {f:RS→Option ((α ⊕ Bad) × RS)} {m:M α} (h:Sim f m) {T:List Token} {fin:Int} {t:Token} {r:List Token} {i:Int} {p:List (Int × Int)} (hT:T.length≤1500) (hok:TksOk T) (hs:t :: r <:+ T) :
  f ((mkS T fin ⟨t :: r,i,p⟩).setNext (w64 ((mkS T fin ⟨t :: r,i,p⟩).next + 1))) = toO T fin (m.run fin ⟨r,i,p⟩):=by
 rw [mk_next hT hs]
 exact h T fin ⟨r,i,p⟩ hT hok ((List.suffix_cons t r).trans hs)
end Go.Proofs.YtbecjgckobhmpaaGreatDoor
end
section
namespace Go.Proofs.YtbecjgckobhmpaaGreatDoor
open Go Go.AM Go.Proofs
theorem pathS_all (k:Nat) (x:ByteArray × Int) (h:x.2 = (k:Int)∧(tl x.1).length≤17 * (k + 1)) :
  AllM (Sum.elim (fun x'=>x'.2 = ((k + 1:Nat):Int)∧(tl x'.1).length≤17 * (k + 1 + 1)) fun _=>True) (M.pathS x):=by
 unfold M.pathS
 refine AllM.cond (AllM.bind' fun b=>?_) trivial
 cases b
 ·exact trivial
 ·refine AllM.bind ?_ _ name_all
  intro y hy
  refine ⟨by rw [h.1]; omega,?_⟩
  rw [tl_bs,List.length_append,List.length_cons]
  omega
theorem sim_path (n:Nat):Sim (F152 n) (M.path n):=by
 unfold F152 M.path
 refine sim_bind _ name_all sim_name fun x hx=>?_
 refine sim_eta (f:=iterP (σ:=ByteArray × Int) (ρ:=ByteArray) (ε:=Bad) (S:=RS) _ n (x,(0:Int))) ?_
 refine sim_iter (fun k s=>s.2 = (k:Int)∧(tl s.1).length≤17 * (k + 1)) (N:=n) (fun k x _ hi=>⟨?_,pathS_all k x hi⟩) n 0 (x,0) (by omega) ⟨rfl,by simp only; omega⟩
 unfold M.pathS
 cases hc:decide (x.2 < 2)
 ·exact sim_ret _
 ·have hk:x.2 < 2:=by simpa using hc
  refine sim_bind' (sim_accept _) fun b=>?_
  cases b
  ·exact sim_ret _
  ·refine sim_bind _ name_all sim_name fun y hy=>?_
   refine sim_opt (v:=bs ([46] ++ tl y)) ?_ (sim_opt (v:=bs (tl x.1 ++ 46 :: tl y)) ?_ ?_)
   ·unfold catS
    rw [if_pos (by rw [size_tl,size_tl,tl_bs]; simp only [List.length_cons,List.length_nil]; omega)]
    rfl
   ·unfold catS
    rw [if_pos (by rw [size_tl,size_tl,tl_bs]; simp only [List.length_append,List.length_cons,List.length_nil]; omega)]
    rfl
   ·rw [w64_id (by omega) (by omega)]
    exact sim_ret _
theorem level_le (s:ByteArray):0≤levelI s∧levelI s≤10:=by
 unfold levelI
 simp only [cond_eq_ite]
 repeat' split
 all_goals omega
theorem sim_right {fB:Int→RS→Option ((Node ⊕ Bad) × RS)} {mB:Int→M Node} (hB:∀ a,Sim (fB a) (mB a)) (l:Int) (h0:0≤l) (h1:l≤10) :
  Sim (fun s=>(bif l == 2 then
     (pbind (fB l s) fun x13 s15 =>
     some (.inl (w64 (l - 1),x13),s15))
    else
     (bif l == 5 then
      (pbind (fB (w64 (l + 1)) s) fun x17 s19 =>
      some (.inl (w64 (l - 1),x17),s19))
     else
      (pbind (fB (w64 (l + 1)) s) fun x20 s22 =>
      some (.inl (l,x20),s22))):Option ((((Int × Node)) ⊕ Bad) × RS))) (M.rightS mB l):=by
 rw [w64_id (x:=l - 1) (by omega) (by omega),w64_id (x:=l + 1) (by omega) (by omega)]
 unfold M.rightS
 exact sim_cond (sim_bind' (hB _) fun _=>sim_ret _) (sim_cond (sim_bind' (hB _) fun _=>sim_ret _) (sim_bind' (hB _) fun _=>sim_ret _))
theorem sim_ref {fE:RS→Option ((Node ⊕ Bad) × RS)} {mE:M Node} (hE:Sim fE mE) (n:Nat) (a b d:RS→Option ((Node ⊕ Bad) × RS)) (c:Int→RS→Option ((Node ⊕ Bad) × RS)):Sim (F223_step a b c d fE n) (M.refS mE n):=by
 unfold F223_step M.refS
 exact sim_pos fun p=>sim_bind' (sim_path n) fun x=>sim_kw (sim_bind' hE fun e=>sim_bind' (sim_expect _) fun _=>sim_ret _) (sim_ret _)
theorem sim_unary {fR fU fE:RS→Option ((Node ⊕ Bad) × RS)} {mR mU mE:M Node} (hR:Sim fR mR) (hU:Sim fU mU) (hE:Sim fE mE) (n:Nat) (d:RS→Option ((Node ⊕ Bad) × RS)) (c:Int→RS→Option ((Node ⊕ Bad) × RS)):Sim (F199_step fR fU c d fE n) (M.unaryS mR mU mE):=by
 unfold F199_step M.unaryS
 refine sim_pos fun p=>sim_kw (sim_bind' hU fun e=>sim_ret _) ?_
 refine sim_kind fun t=>sim_cond (sim_eta sim_numNode) ?_
 exact sim_kw (sim_bind' (sim_expect _) fun _=>sim_bind' hR fun e=>sim_bind' (sim_expect _) fun _=>sim_ret _)
  (sim_kw (sim_bind' hE fun e=>sim_bind' (sim_expect _) fun _=>sim_ret _) (sim_eta hR))
theorem sim_bin {fU:RS→Option ((Node ⊕ Bad) × RS)} {fB:Int→RS→Option ((Node ⊕ Bad) × RS)} {mU:M Node} {mB:Int→M Node} (hU:Sim fU mU) (hB:∀ a,Sim (fB a) (mB a)) (n:Nat) (l:Int) (a d e:RS→Option ((Node ⊕ Bad) × RS)):Sim (F167_step a fU fB d e n l) (M.binS mU mB n l):=by
 unfold F167_step M.binS
 refine sim_bind' hU fun x=>sim_eta (f:=iterP (σ:=Int × Node) (ρ:=Node) (ε:=Bad) (S:=RS) _ n ((10:Int),x)) ?_
 refine sim_iter' (fun s=>?_) n (10,x)
 intro T fin st hT hok hs
 simp only [F101_mk hs,F91_mk hs,F156_eq,Option.bind_some,M.binStep,M.run]
 cases hc:((levelI (textO (hdOf st.rest)) == 0) || decide (levelI (textO (hdOf st.rest)) < l)) || decide (s.1 < levelI (textO (hdOf st.rest)))
 ·obtain ⟨r,i,p⟩:=st
  cases r with
  | nil =>
   have:levelI (textO (hdOf [])) = 0:=by rfl
   simp only [this] at hc
   cases hc
  | cons t r =>
   have hl:=level_le (textO (hdOf (t :: r)))
   have H:=sim_bind' (sim_right hB (levelI (textO (hdOf (t :: r)))) hl.1 hl.2) (g:=fun j js=>some (.inl (.inl (j.1,Node.mk 5 (textO (hdOf (t :: r))) (bs []) 0 0 0 false [s.2,j.2] (posOf fin (t :: r))):(Int × Node) ⊕ Node),js)) (k:=fun j=>.ret (.inl (j.1,Node.mk 5 (textO (hdOf (t :: r))) (bs []) 0 0 0 false [s.2,j.2] (posOf fin (t :: r))):(Int × Node) ⊕ Node)) fun j=>sim_ret _
   have:=sim_adv (fin:=fin) (i:=i) (p:=p) H hT hok hs
   exact this
 ·rfl
theorem sim_cnd {fC:RS→Option ((Node ⊕ Bad) × RS)} {fB:Int→RS→Option ((Node ⊕ Bad) × RS)} {mC:M Node} {mB:Int→M Node} (hC:Sim fC mC) (hB:∀ a,Sim (fB a) (mB a)) (n:Nat) (a d e:RS→Option ((Node ⊕ Bad) × RS)):Sim (F102_step a d fB fC e n) (M.condS mB mC):=by
 unfold F102_step M.condS
 refine sim_bind' (hB _) fun x=>sim_pos fun p=>sim_bind' (sim_accept _) fun b=>sim_cond (sim_ret _) ?_
 exact sim_bind' hC fun y=>sim_bind' (sim_expect _) fun _=>sim_bind' hC fun z=>sim_ret _
theorem text_ne {l:List Token} {a:List UInt8} (ha:a≠[]) (h:strEq (textO (hdOf l)) (bs a) = true):l≠[]:=by
 rintro rfl
 simp only [hdOf,textO,strEq,bs] at h
 cases a with
 | nil=>exact ha rfl
 | cons b a=>simp at h
theorem sim_exp {fC fE:RS→Option ((Node ⊕ Bad) × RS)} {mC mE:M Node} (hC:Sim fC mC) (hE:Sim fE mE) (n:Nat) (a b:RS→Option ((Node ⊕ Bad) × RS)) (c:Int→RS→Option ((Node ⊕ Bad) × RS)):Sim (F67_step a b c fC fE n) (M.exprS mC mE):=by
 intro T fin s hT hok hs
 have hq:∀ (k p:Int),Sim (fun s=>pbind (F92 s) fun x11 s13 =>
  pbind (F93 (bs [60]) s13) fun _ s16 =>
  pbind (F103 s16) fun x17 s19 =>
  pbind (F93 (bs [58]) s19) fun _ s22 =>
  pbind (fE s22) fun x23 s25 =>
  some (.inl (Node.mk k x11 (bs []) x17 0 0 false ([x23]:List Node) p),s25)) (M.name.bind fun x=>(M.expect (bs [60])).bind fun _ =>
 M.num.bind fun v=>(M.expect (bs [58])).bind fun _=>mE.bind fun e=>.ret (Node.mk k x (bs []) v 0 0 false [e] p)):=fun k p =>
  sim_bind' sim_name fun x=>sim_bind' (sim_expect _) fun _=>sim_bind' sim_num fun v=>sim_bind' (sim_expect _) fun _=>sim_bind' hE fun e=>sim_ret _
 have hqq:∀ (k:Int),s.rest≠[]→(F91 (mkS T fin s)).bind (fun x9 =>
  pbind (F92 ((mkS T fin s).setNext (w64 ((mkS T fin s).next + 1)))) fun x11 s13 =>
  pbind (F93 (bs [60]) s13) fun _ s16 =>
  pbind (F103 s16) fun x17 s19 =>
  pbind (F93 (bs [58]) s19) fun _ s22 =>
  pbind (fE s22) fun x23 s25 =>
  some (.inl (Node.mk k x11 (bs []) x17 0 0 false ([x23]:List Node) x9),s25)) = toO T fin ((M.quant mE k).run fin s):=by
  intro k hne
  rw [F91_mk hs]
  obtain ⟨r,i,p⟩:=s
  cases r with
  | nil=>exact absurd rfl hne
  | cons t r=>exact sim_adv (fin:=fin) (i:=i) (p:=p) (hq k t.pos) hT hok hs
 unfold F67_step M.exprS
 simp only [F101_mk hs,Option.bind_some,M.run]
 cases h1:strEq (textO (hdOf s.rest)) (bs [97,108,108])
 ·cases h2:strEq (textO (hdOf s.rest)) (bs [115,111,109,101])
  ·simp only [cond_false]
   have:=sim_eta hC T fin s hT hok hs
   simp only at this
   rw [← this]
   cases fC (mkS T fin s) with
   | none=>rfl
   | some y=>obtain ⟨y,st⟩:=y; cases y <;> rfl
  ·exact hqq 8 (text_ne (by simp) h2)
 ·exact hqq 7 (text_ne (by simp) h1)
theorem sim_exprs:∀ n,Sim (F223 n) (M.ref n)∧Sim (F199 n) (M.unary n)∧(∀ a,Sim (F167 n a) (M.bin n a))∧Sim (F102 n) (M.cond n)∧Sim (F67 n) (M.expr n)
 | 0=>⟨fun _ _ _ _ _ _=>by rw [F223]; rfl,fun _ _ _ _ _ _=>by rw [F199]; rfl,fun _ _ _ _ _ _ _=>by rw [F167]; rfl,fun _ _ _ _ _ _=>by rw [F102]; rfl,fun _ _ _ _ _ _=>by rw [F67]; rfl⟩
 | n + 1=>by
  obtain ⟨h1,h2,h3,h4,h5⟩:=sim_exprs n
  refine ⟨?_,?_,fun a=>?_,?_,?_⟩
  ·have:F223 (n + 1) = F223_step (F223 n) (F199 n) (F167 n) (F102 n) (F67 n) n:=by funext s; rw [F223]
   rw [this]; exact sim_ref h5 n _ _ _ _
  ·have:F199 (n + 1) = F199_step (F223 n) (F199 n) (F167 n) (F102 n) (F67 n) n:=by funext s; rw [F199]
   rw [this]; exact sim_unary h1 h2 h5 n _ _
  ·have:F167 (n + 1) a = F167_step (F223 n) (F199 n) (F167 n) (F102 n) (F67 n) n a:=by funext s; rw [F167]
   rw [this]; exact sim_bin h2 h3 n a _ _ _
  ·have:F102 (n + 1) = F102_step (F223 n) (F199 n) (F167 n) (F102 n) (F67 n) n:=by funext s; rw [F102]
   rw [this]; exact sim_cnd h4 h3 n _ _ _
  ·have:F67 (n + 1) = F67_step (F223 n) (F199 n) (F167 n) (F102 n) (F67 n) n:=by funext s; rw [F67]
   rw [this]; exact sim_exp h4 h5 n _ _ _
theorem sim_whole (n:Nat):Sim (F66 n) (M.whole n):=by
 unfold F66 M.whole
 refine sim_bind' (sim_exprs n).2.2.2.2 fun e=>?_
 intro T fin s hT hok hs
 simp only [mk_lt hs,F68_mk hs,M.run]
 cases s.rest <;> rfl
section
variable {f:RS→Option ((List Node ⊕ Bad) × RS)} {part:M (List Node)}
theorem app104 {l m:List Node} (h:l.length + m.length≤1000000000):appL 104 l m = some (l ++ m):=appL_some (by omega)
end
theorem code_ne (b:Bool) (l:List Token):(codeOf b l == 0) = false:=by cases l <;> cases b <;> rfl
end Go.Proofs.YtbecjgckobhmpaaGreatDoor
end
section
namespace Go.Proofs.YtbecjgckobhmpaaGreatDoor
open Go Go.AM Go.Proofs
section
variable {n:Nat} (hn:n≤100000000)
include hn
end
end Go.Proofs.YtbecjgckobhmpaaGreatDoor
end
section
namespace Go.Proofs.YtbecjgckobhmpaaGreatDoor
open Go Go.AM Go.Proofs
mutual
def mapN (f:Int→Int):Node→Node
 | ⟨k,nm,o,n,l,i,g,ks,p⟩=>⟨k,nm,o,n,l,i,g,mapNs f ks,f p⟩
def mapNs (f:Int→Int):List Node→List Node
 | []=>[]
 | x :: r=>mapN f x :: mapNs f r
end
theorem mapNs_eq (f:Int→Int):(l:List Node)→mapNs f l = l.map (mapN f)
 | []=>by simp [mapNs]
 | x :: r=>by simp [mapNs,mapNs_eq f r]
theorem mapN_eq (f:Int→Int) (x:Node):mapN f x = ⟨x.kind,x.name,x.other,x.n,x.len,x.init,x.ghost,x.kids.map (mapN f),f x.pos⟩:=by
 cases x; simp [mapN,mapNs_eq]
def mapT (f:Int→Int) (t:Token):Token:=⟨t.kind,t.text,f t.pos⟩
def mapP (f:Int→Int) (s:PS):PS:=⟨s.rest.map (mapT f),s.inner,s.reps.map fun r=>(r.1,f r.2)⟩
namespace M
variable {α β γ δ σ ρ σ' ρ':Type} {f:Int→Int}
def Nat' (f:Int→Int) (g:α→β):M α→M β→Prop
 | .ret a,m=>m = .ret (g a)
 | .fail b,m=>m = .fail b
 | .out,m=>m = .out
 | .look k,m=>∃ k',m = .look k'∧∀ t,Nat' f g (k t) (k' t)
 | .adv k,m=>∃ k',m = .adv k'∧Nat' f g k k'
 | .pos k,m=>∃ k',m = .pos k'∧∀ x,Nat' f g (k x) (k' (f x))
 | .setI i k,m=>∃ k',m = .setI i k'∧Nat' f g k k'
 | .getI k,m=>∃ k',m = .getI k'∧∀ x,Nat' f g (k x) (k' x)
 | .rep b k,m=>∃ k',m = .rep b k'∧Nat' f g k k'
def mapO (f:Int→Int) (g:α→β):Out α→Out β
 | .ok a s=>.ok (g a) (mapP f s)
 | .bad b s=>.bad b (mapP f s)
 | .out=>.out
theorem hd_map (l:List Token):hdOf (l.map (mapT f)) = hdOf l:=by cases l <;> rfl
theorem pos_map (fin:Int) (l:List Token):posOf (f fin) (l.map (mapT f)) = f (posOf fin l):=by cases l <;> rfl
theorem code_map (b:Bool) (l:List Token):codeOf b (l.map (mapT f)) = codeOf b l:=by cases l <;> rfl
theorem Nat'.run {g:α→β} (fin:Int):∀ (m:M α) (m':M β) (s:PS),Nat' f g m m'→m'.run (f fin) (mapP f s) = mapO f g (m.run fin s)
 | .ret a,_,s,rfl=>rfl
 | .fail b,_,s,rfl=>rfl
 | .out,_,s,rfl=>rfl
 | .look k,_,s,⟨k',rfl,h⟩=>by
  have:=Nat'.run fin (k (hdOf s.rest)) (k' (hdOf s.rest)) s (h _)
  simp only [M.run]
  rw [← this]
  simp only [mapP,hd_map]
 | .adv k,_,s,⟨k',rfl,h⟩=>by
  obtain ⟨r,i,p⟩:=s
  cases r with
  | nil=>rfl
  | cons t r=>exact Nat'.run fin k k' ⟨r,i,p⟩ h
 | .pos k,_,s,⟨k',rfl,h⟩=>by
  have:=Nat'.run fin (k (posOf fin s.rest)) (k' (f (posOf fin s.rest))) s (h _)
  simp only [M.run]
  rw [← this]
  simp only [mapP,pos_map]
 | .setI i k,_,s,⟨k',rfl,h⟩=>Nat'.run fin k k' ⟨s.rest,i,s.reps⟩ h
 | .getI k,_,s,⟨k',rfl,h⟩=>Nat'.run fin (k s.inner) (k' s.inner) s (h _)
 | .rep b k,_,s,⟨k',rfl,h⟩=>by
  have:=Nat'.run fin k k' ⟨s.rest,s.inner,s.reps ++ [(codeOf b s.rest,posOf fin s.rest)]⟩ h
  simp only [M.run]
  rw [← this]
  simp only [mapP,pos_map,code_map,List.map_append,List.map_cons,List.map_nil]
end M
end Go.Proofs.YtbecjgckobhmpaaGreatDoor
end
section
namespace Go.Proofs.YtbecjgckobhmpaaGreatDoor
open Go Go.AM Go.Proofs
abbrev Bytes:=List UInt8
def wordsL (l:List Bytes):Bytes:=joinL [32] (l.filter (fun s=>!s.isEmpty))
def onlyL (c:Bool) (l:List Bytes):Bytes:=bif c then wordsL l else []
def numL (n:Int):Bytes:=digs 20 n.toNat
def ruleI (s:ByteArray):ByteArray × Int × Int × Int:=(ruleTab.find? (fun r=>strEq r.1 s)).getD (bs [],0,0,0)
def levI (x:Node):Int :=
 bif x.kind == 7 || x.kind == 8 then 0 else bif x.kind == 6 then 1 else bif x.kind == 5 then (ruleI x.name).2.1 else bif x.kind == 4 then 11 else 12
def opd (a:Int × Bytes) (req:Int):Bytes:=bif decide (a.1 < req) then [40] ++ (a.2 ++ [41]) else a.2
def nth (ks:List (Int × Bytes)) (i:Nat):Int × Bytes:=ks.getD i (0,[])
def txtOf (k:Int) (nm:ByteArray) (n:Int) (ks:List (Int × Bytes)):Bytes :=
 bif k == 1 then numL n
 else bif k == 2 then (bif ks.isEmpty then tl nm else tl nm ++ ([91] ++ (opd (nth ks 0) 0 ++ [93])))
 else bif k == 3 then [111,108,100,40] ++ (opd (nth ks 0) 0 ++ [41])
 else bif k == 4 then [33] ++ opd (nth ks 0) 11
 else bif k == 5 then wordsL [opd (nth ks 0) (ruleI nm).2.2.1,tl nm,opd (nth ks 1) (ruleI nm).2.2.2]
 else bif k == 6 then wordsL [opd (nth ks 0) 2,[63],opd (nth ks 1) 1,[58],opd (nth ks 2) 1]
 else bif k == 7 then wordsL [[97,108,108],tl nm,[60],numL n,[58],opd (nth ks 0) 0]
 else bif k == 8 then wordsL [[115,111,109,101],tl nm,[60],numL n,[58],opd (nth ks 0) 0]
 else []
mutual
def txt:Node→Bytes
 | ⟨k,nm,_,n,_,_,_,ks,_⟩=>txtOf k nm n (txts ks)
def txts:List Node→List (Int × Bytes)
 | []=>[]
 | x :: r=>(levI x,txt x) :: txts r
end
theorem txt_eq (x:Node):txt x = txtOf x.kind x.name x.n (txts x.kids):=by cases x; rfl
mutual
def sz:Node→Nat
 | ⟨_,_,_,_,_,_,_,ks,_⟩=>1 + szs ks
def szs:List Node→Nat
 | []=>0
 | x :: r=>sz x + szs r
end
theorem sz_eq (x:Node):sz x = 1 + szs x.kids:=by cases x; rfl
theorem sz_pos (x:Node):1≤sz x:=by rw [sz_eq]; omega
theorem szs_mem:(l:List Node)→∀ x ∈ l,sz x≤szs l
 | [],x,h=>by cases h
 | y :: r,x,h=>by
  simp only [szs]
  rcases List.mem_cons.1 h with rfl | h
  ·omega
  ·have:=szs_mem r x h; omega
theorem szs_len:(l:List Node)→l.length≤szs l
 | []=>by simp [szs]
 | y :: r=>by simp only [szs,List.length_cons]; have:=szs_len r; have:=sz_pos y; omega
theorem szs_append:(a b:List Node)→szs (a ++ b) = szs a + szs b
 | [],b=>by simp [szs]
 | x :: r,b=>by simp [szs,szs_append r b]; omega
def sizedL (x:Node):Bytes:=wordsL [tl x.name,[58],numL x.n]
def commasL (l:List Bytes):Bytes:=joinL [44,32] l
def pairL:List Bytes→List Bytes
 | a :: b :: r=>wordsL [a,[58,61],b] :: pairL r
 | _=>[]
def assignsL (l:List Bytes):Bytes:=commasL (pairL l)
def sharedL (x:Node):Bytes :=
 wordsL [onlyL x.ghost [[103,104,111,115,116]],[115,104,97,114,101,100],bif x.len != 0 then tl x.name ++ ([91] ++ (numL x.len ++ [93])) else tl x.name,[58],
  bif strEq x.other (bs []) then numL x.n else tl x.other,onlyL (x.init != 0) [[61],numL x.init]]
def tx (ks:List Node):List Bytes:=ks.map txt
def tnth (ks:List Node) (i:Nat):Bytes:=(tx ks).getD i []
def stmtL (x:Node):Bytes :=
 bif x.kind == 20 then wordsL [[97,115,115,101,114,116],tnth x.kids 0]
 else bif x.kind == 29 then wordsL [[97,119,97,105,116],tnth x.kids 0]
 else bif x.kind == 26 then [102,101,110,99,101]
 else bif x.kind == 30 then [115,107,105,112]
 else bif x.kind == 21 then wordsL [onlyL (x.n == 1) [[114,101,108,101,97,115,101]],assignsL (tx (x.kids.take 2)),onlyL (decide (2 < (x.kids.length:Int))) [[119,105,116,104],assignsL (tx (x.kids.drop 2))]]
 else bif x.kind == 22 then wordsL [[97,116,111,109,105,99],[123],assignsL (tx (x.kids.drop 1)),[125],onlyL ((x.kids.head?.map Node.kind).getD 0 != 63) [[119,104,101,110],tnth x.kids 0]]
 else bif x.kind == 23 then wordsL [[99,97,115],commasL (tx (x.kids.take 3)),[105,110,116,111],tnth x.kids 3,onlyL (decide (4 < (x.kids.length:Int))) [[119,105,116,104],assignsL (tx (x.kids.drop 4))]]
 else bif x.kind == 24 then wordsL [[97,99,113,117,105,114,101],tl x.name]
 else bif x.kind == 25 then wordsL [[102,114,101,101],tl x.name]
 else bif x.kind == 27 then wordsL [[115,112,97,119,110],tl x.name]
 else bif x.kind == 28 then wordsL [[106,111,105,110],tl x.name]
 else bif x.kind == 33 then wordsL [[99,97,108,108],tl x.name ++ ([40] ++ (commasL (tx x.kids) ++ [41]))]
 else []
def simpL (x:Node):Bytes :=
 bif x.kind == 61 then wordsL [onlyL (x.n == 1) [[97,115,108,101,101,112]],[116,104,114,101,97,100],tl x.name,[61],tl x.other ++ ([40] ++ (commasL (tx x.kids) ++ [41]))]
 else bif x.kind == 52 then sizedL x
 else bif x.kind == 50 then sharedL x
 else bif x.kind == 53 then wordsL [[108,111,99,107],tl x.name,[105,110,118,97,114,105,97,110,116],tnth x.kids 0]
 else bif x.kind == 54 then wordsL [[114,101,108,121],tnth x.kids 0]
 else bif x.kind == 55 then wordsL [[103,117,97,114,97,110,116,101,101],tnth x.kids 0]
 else bif x.kind == 56 then wordsL [[102,114,97,109,101],commasL (tx x.kids)]
 else bif x.kind == 35 then wordsL [onlyL x.ghost [[103,104,111,115,116]],[108,111,99,97,108],sizedL x]
 else stmtL x
def headL (x:Node):Bytes :=
 bif x.kind == 60 then wordsL [[109,111,100,117,108,101],tl x.name,[111,119,110,101,114],tl x.other]
 else bif x.kind == 51 then wordsL [[114,101,99,111,114,100],tl x.name]
 else bif x.kind == 57 then wordsL [[112,114,111,99],tl x.name ++ ([40] ++ (commasL (x.kids.dropLast.map sizedL) ++ [41])),onlyL (!(strEq x.other (bs []))) [[108,111,99,107,101,100],tl x.other]]
 else bif x.kind == 31 then wordsL [[105,102],tnth x.kids 0]
 else wordsL [[119,104,105,108,101],tnth x.kids 0,onlyL ((x.kids[1]?.map Node.kind).getD 0 != 63) [[118,97,114,105,97,110,116],tnth x.kids 1]]
abbrev Lines:=List (Nat × Bytes)
def openL (d:Nat) (h:Bytes):Nat × Bytes:=(d,wordsL [h,[123]])
def elseE (ks:List Node):Bool:=(ks[2]?.map (fun y:Node=>y.kids.isEmpty)).getD true
def nthI (l:List Lines) (i:Nat):Lines:=l.getD i []
mutual
def itm (d:Nat):Node→Lines
 | ⟨k,nm,o,n,l,i,g,ks,p⟩ =>
  bif k == 60 || k == 51 then openL d (headL ⟨k,nm,o,n,l,i,g,ks,p⟩) :: (itms (d + 1) ks ++ [(d,[125])])
  else bif k == 57 then openL d (headL ⟨k,nm,o,n,l,i,g,ks,p⟩) :: (nthI (inns (d + 1) ks) (ks.length - 1) ++ [(d,[125])])
  else bif k == 31 then openL d (headL ⟨k,nm,o,n,l,i,g,ks,p⟩) :: (nthI (inns (d + 1) ks) 1 ++ ((bif elseE ks then [] else (d,[125,32,101,108,115,101,32,123]) :: nthI (inns (d + 1) ks) 2) ++ [(d,[125])]))
  else bif k == 32 then openL d (headL ⟨k,nm,o,n,l,i,g,ks,p⟩) :: (nthI (inns (d + 1) ks) 2 ++ [(d,[125])])
  else [(d,simpL ⟨k,nm,o,n,l,i,g,ks,p⟩ ++ [59])]
def itms (d:Nat):List Node→Lines
 | []=>[]
 | x :: r=>itm d x ++ itms d r
def inn (d:Nat):Node→Lines
 | ⟨_,_,_,_,_,_,_,ks,_⟩=>itms d ks
def inns (d:Nat):List Node→List Lines
 | []=>[]
 | x :: r=>inn d x :: inns d r
end
def lineT (p:Nat × Bytes):Bytes:=repL [32,32] p.1 ++ (p.2 ++ [10])
def linesT (l:Lines):Bytes:=l.flatMap lineT
def srcT (x:Node):Bytes:=linesT (itms 0 x.kids)
end Go.Proofs.YtbecjgckobhmpaaGreatDoor
end
section
namespace Go.Proofs.YtbecjgckobhmpaaGreatDoor
open Go Go.AM Go.Proofs
mutual
def okT:Node→Bool
 | ⟨k,nm,o,n,l,i,g,ks,p⟩=>fieldsB ⟨k,nm,o,n,l,i,g,ks,p⟩ && (kidsB ⟨k,nm,o,n,l,i,g,ks,p⟩ && okTs ks)
def okTs:List Node→Bool
 | []=>true
 | x :: r=>okT x && okTs r
end
theorem okTs_all:(l:List Node)→okTs l = l.all okT
 | []=>by simp [okTs]
 | x :: r=>by simp [okTs,okTs_all r]
theorem okT_eq (x:Node):okT x = (fieldsB x && (kidsB x && x.kids.all okT)):=by
 cases x; simp [okT,okTs_all]
inductive Lim (b:Nat):Node→Prop where
 | mk (x:Node) (h1:(tl x.name).length≤b) (h2:(tl x.other).length≤b) (h3:x.kids.length≤b) (h4:∀ y ∈ x.kids,Lim b y):Lim b x
theorem Lim.mono {b c:Nat} (h:b≤c) {x:Node} (hx:Lim b x):Lim c x:=by
 induction hx with
 | mk x h1 h2 h3 h4 ih=>exact .mk x (by omega) (by omega) (by omega) ih
theorem F64_eq {b:Nat} (hb:b≤9223372036854775807):∀ (m:Nat) (x:Node),sz x≤m→Lim b x→∀ n,30 + 3 * sz x≤n→F64 n x = some (okT x):=by
 intro m
 induction m with
 | zero=>intro x hx; have:=sz_pos x; omega
 | succ m ih =>
  intro x hx hlim n hn
  obtain ⟨_,h1,h2,h3,h4⟩:=hlim
  have hlen:=szs_len x.kids
  have hsz:=sz_eq x
  obtain ⟨n,rfl⟩:∃ m,n = m + 2:=⟨n - 2,by omega⟩
  have e99:F99 (n + 1) x.kids = some (x.kids.all okT):=by
   show F99_step (F99 n) (F64 n) n x.kids = _
   unfold F99_step
   rw [iter_all x.kids okT (by omega) (fun k y hy=>by
    have hlt:=lt_of_get hy
    have hm:y ∈ x.kids:=List.mem_of_getElem? hy
    have hys:=szs_mem x.kids y hm
    have c1:decide ((k:Int) < (x.kids.length:Int)) = true:=by simpa using hlt
    rw [c1,idxL_some hy]
    simp only [cond_true,Option.bind_some,ih y (by omega) (h4 y hm) n (by omega)]
    cases okT y <;> rfl) (by simp) (by omega)]
   cases x.kids.all okT <;> rfl
  show F64_step (F99 (n + 1)) (F64 (n + 1)) (n + 1) x = _
  unfold F64_step
  rw [F97_eq x (by omega) (by omega) (by omega),F98_eq x (by omega) (by omega) (by omega),e99,okT_eq]
  simp only [Option.bind_some]
  cases fieldsB x <;> cases kidsB x <;> simp
def okE (x:Node):Prop:=okT x = true∧isE x.kind = true
theorem okT_parts {x:Node} (h:okT x = true):fieldsB x = true∧kidsB x = true∧∀ y ∈ x.kids,okT y = true:=by
 rw [okT_eq] at h
 simp only [Bool.and_eq_true,List.all_eq_true] at h
 exact ⟨h.1,h.2.1,h.2.2⟩
theorem ex1_iff {p:Node→Bool} {l:List Node} (h:ex1 p l = true):∃ a,l = [a]∧p a = true:=by
 match l,h with
 | [a],h=>exact ⟨a,rfl,h⟩
theorem ex2_iff {p q:Node→Bool} {l:List Node} (h:ex2 p q l = true):∃ a b,l = [a,b]∧p a = true∧q b = true:=by
 match l,h with
 | [a,b],h=>simp only [ex2,Bool.and_eq_true] at h; exact ⟨a,b,rfl,h⟩
theorem ex3_iff {p q r:Node→Bool} {l:List Node} (h:ex3 p q r l = true):∃ a b c,l = [a,b,c]∧p a = true∧q b = true∧r c = true:=by
 match l,h with
 | [a,b,c],h=>simp only [ex3,Bool.and_eq_true] at h; exact ⟨a,b,c,rfl,h⟩
theorem isE_cases {k:Int} (h:isE k = true):k = 1∨k = 2∨k = 3∨k = 4∨k = 5∨k = 6∨k = 7∨k = 8:=by
 simp only [isE,Bool.and_eq_true,decide_eq_true_eq] at h
 omega
theorem okE_ind {P:Node→Prop}
  (c1:∀ x,x.kind = 1→x.kids = []→inR x.n = true→P x)
  (c2:∀ x,x.kind = 2→x.kids = []→pathB (tl x.name) = true→P x)
  (c2':∀ x a,x.kind = 2→x.kids = [a]→pathB (tl x.name) = true→okE a→P a→P x)
  (c3:∀ x a,x.kind = 3→x.kids = [a]→okE a→P a→P x)
  (c4:∀ x a,x.kind = 4→x.kids = [a]→okE a→P a→P x)
  (c5:∀ x a b,x.kind = 5→x.kids = [a,b]→levelI x.name≠0→okE a→P a→okE b→P b→P x)
  (c6:∀ x a b c,x.kind = 6→x.kids = [a,b,c]→okE a→P a→okE b→P b→okE c→P c→P x)
  (c7:∀ x a,(x.kind = 7∨x.kind = 8)→x.kids = [a]→nameB (tl x.name) = true→inR x.n = true→okE a→P a→P x) :
  ∀ x,okE x→P x:=by
 have key:∀ m x,sz x≤m→okE x→P x:=by
  intro m
  induction m with
  | zero=>intro x hx; have:=sz_pos x; omega
  | succ m ih =>
   intro x hx hE
   obtain ⟨hT,he⟩:=hE
   obtain ⟨hf,hk,hks⟩:=okT_parts hT
   have hsz:=sz_eq x
   have kid:∀ y,y ∈ x.kids→isE y.kind = true→okE y∧P y:=fun y hy hye=>by
    have h0:okE y:=⟨hks y hy,hye⟩
    have:=szs_mem x.kids y hy
    exact ⟨h0,ih y (by omega) h0⟩
   rcases isE_cases he with h | h | h | h | h | h | h | h
   ·simp [fieldsB,fldGood,h] at hf
    simp [kidsB,leafK,h] at hk
    exact c1 x h hk hf.1
   ·simp [fieldsB,fldGood,h] at hf
    simp [kidsB,leafK,h] at hk
    rcases hk with hk | hk
    ·exact c2 x h hk hf.1
    ·obtain ⟨a,ha,hea⟩:=ex1_iff hk
     obtain ⟨k1,k2⟩:=kid a (by simp [ha]) hea
     exact c2' x a h ha hf.1 k1 k2
   ·simp [kidsB,leafK,h] at hk
    obtain ⟨a,ha,hea⟩:=ex1_iff hk
    have hea':a.kind = 2:=by simpa [kX] using hea
    obtain ⟨k1,k2⟩:=kid a (by simp [ha]) (by rw [hea']; rfl)
    exact c3 x a h ha k1 k2
   ·simp [kidsB,leafK,oneK,h] at hk
    obtain ⟨a,ha,hea⟩:=ex1_iff hk
    obtain ⟨k1,k2⟩:=kid a (by simp [ha]) hea
    exact c4 x a h ha k1 k2
   ·simp [fieldsB,fldGood,h] at hf
    simp [kidsB,leafK,oneK,h] at hk
    obtain ⟨a,b,ha,hea,heb⟩:=ex2_iff hk
    obtain ⟨k1,k2⟩:=kid a (by simp [ha]) hea
    obtain ⟨k3,k4⟩:=kid b (by simp [ha]) heb
    exact c5 x a b h ha hf.1 k1 k2 k3 k4
   ·simp [kidsB,leafK,oneK,h] at hk
    obtain ⟨a,b,c,ha,hea,heb,hec⟩:=ex3_iff hk
    obtain ⟨k1,k2⟩:=kid a (by simp [ha]) hea
    obtain ⟨k3,k4⟩:=kid b (by simp [ha]) heb
    obtain ⟨k5,k6⟩:=kid c (by simp [ha]) hec
    exact c6 x a b c h ha k1 k2 k3 k4 k5 k6
   ·simp [fieldsB,fldGood,h] at hf
    simp [kidsB,leafK,oneK,h] at hk
    obtain ⟨a,ha,hea⟩:=ex1_iff hk
    obtain ⟨k1,k2⟩:=kid a (by simp [ha]) hea
    exact c7 x a (.inl h) ha hf.1.1 hf.1.2 k1 k2
   ·simp [fieldsB,fldGood,h] at hf
    simp [kidsB,leafK,oneK,h] at hk
    obtain ⟨a,ha,hea⟩:=ex1_iff hk
    obtain ⟨k1,k2⟩:=kid a (by simp [ha]) hea
    exact c7 x a (.inr h) ha hf.1.1 hf.1.2 k1 k2
 exact fun x hx=>key (sz x) x (Nat.le_refl _) hx
theorem nameB_len {s:Bytes} (h:nameB s = true):1≤s.length∧s.length≤16:=by
 simp [nameB] at h
 exact ⟨by omega,h.1.1.2⟩
theorem pathN_len:∀ (k:Nat) {s:Bytes},pathN k s = true→1≤s.length∧s.length≤17 * k
 | 0,s,h=>by simp [pathN] at h
 | k + 1,s,h=>by
  simp only [pathN,Bool.and_eq_true] at h
  have h1:=nameB_len h.1
  have sp:=cutB_spec s
  cases hc:(cutB s).2 with
  | none=>rw [(sp.1 hc).1] at h1; omega
  | some r =>
   have h2:=h.2
   rw [hc] at h2
   have h3:=pathN_len k h2
   have:=congrArg List.length (sp.2 r hc).1
   simp at this
   omega
theorem pathB_len {s:Bytes} (h:pathB s = true):1≤s.length∧s.length≤51:=pathN_len 3 h
theorem level_cases {s:ByteArray} (h:levelI s≠0):tl s ∈ [[61,61,62],[124,124],[38,38],[61,61],[33,61],[60],[60,61],[124],[94],[38],[43],[45],[42]]:=by
 have e:∀ l:List UInt8,strEq s (bs l) = decide (tl s = l):=fun l=>Bool.eq_iff_iff.2 (by rw [decide_eq_true_iff]; simp [strEq,bs,tl])
 simp only [levelI,e] at h
 simp only [List.mem_cons,List.not_mem_nil,or_false]
 by_cases h1:tl s = [61,61,62]
 ·exact .inl h1
 by_cases h2:tl s = [124,124]
 ·simp [h2]
 by_cases h3:tl s = [38,38]
 ·simp [h3]
 by_cases h4:tl s = [61,61]
 ·simp [h4]
 by_cases h5:tl s = [33,61]
 ·simp [h5]
 by_cases h6:tl s = [60]
 ·simp [h6]
 by_cases h7:tl s = [60,61]
 ·simp [h7]
 by_cases h8:tl s = [124]
 ·simp [h8]
 by_cases h9:tl s = [94]
 ·simp [h9]
 by_cases h10:tl s = [38]
 ·simp [h10]
 by_cases h11:tl s = [43]
 ·simp [h11]
 by_cases h12:tl s = [45]
 ·simp [h12]
 by_cases h13:tl s = [42]
 ·simp [h13]
 simp [h1,h2,h3,h4,h5,h6,h7,h8,h9,h10,h11,h12,h13] at h
theorem level_len {s:ByteArray} (h:levelI s≠0):1≤(tl s).length∧(tl s).length≤3:=by
 have:=level_cases h
 simp only [List.mem_cons,List.not_mem_nil,or_false] at this
 rcases this with h | h | h | h | h | h | h | h | h | h | h | h | h <;> rw [h] <;> simp
theorem digs_len:∀ (f u:Nat),(digs f u).length≤f
 | 0,_=>by simp [digs]
 | f + 1,u=>by
  simp only [digs]
  split
  ·simp
  ·have:=digs_len f (u / 10); simp; omega
theorem digs_pos (f u:Nat):1≤(digs (f + 1) u).length:=by
 simp only [digs]
 split <;> simp
theorem numL_len (n:Int):1≤(numL n).length∧(numL n).length≤20:=⟨digs_pos 19 _,digs_len 20 _⟩
theorem joinL_len (sep:Bytes):∀ (l:List Bytes),(joinL sep l).length≤(l.map List.length).sum + sep.length * l.length
 | []=>by simp [joinL]
 | [x]=>by simp [joinL]
 | x :: y :: r=>by
  have:=joinL_len sep (y :: r)
  simp only [joinL,List.length_append,List.map_cons,List.sum_cons,List.length_cons] at *
  have e:sep.length * (r.length + 1 + 1) = sep.length * (r.length + 1) + sep.length:=by rw [Nat.mul_succ]
  omega
theorem filter_sum (l:List Bytes) (p:Bytes→Bool):((l.filter p).map List.length).sum≤(l.map List.length).sum:=by
 induction l with
 | nil=>simp
 | cons x r ih =>
  simp only [List.filter_cons]
  split <;> simp <;> omega
theorem wordsL_len (l:List Bytes):(wordsL l).length≤(l.map List.length).sum + l.length:=by
 have h1:=joinL_len [32] (l.filter (fun s=>!s.isEmpty))
 have h2:=filter_sum l (fun s=>!s.isEmpty)
 have h3:=List.length_filter_le (fun s:Bytes=>!s.isEmpty) l
 refine Nat.le_trans h1 ?_
 simp only [List.length_cons,List.length_nil]
 omega
theorem opd_len (a:Int × Bytes) (r:Int):(opd a r).length≤a.2.length + 2:=by
 unfold opd
 cases decide (a.1 < r) <;> simp
theorem txt_len:∀ x,okE x→(txt x).length≤80 * sz x:=by
 apply okE_ind
 ·intro x h hk hn
  have:=numL_len x.n
  rw [txt_eq,sz_eq,hk]
  simp [txtOf,h]
  omega
 ·intro x h hk hn
  have:=pathB_len hn
  rw [txt_eq,sz_eq,hk]
  simp [txtOf,h,txts]
  omega
 ·intro x a h hk hn _ ih
  have:=pathB_len hn
  have:=opd_len (levI a,txt a) 0
  rw [txt_eq,sz_eq,hk]
  simp [txtOf,h,txts,nth,szs] at *
  omega
 ·intro x a h hk _ ih
  have:=opd_len (levI a,txt a) 0
  rw [txt_eq,sz_eq,hk]
  simp [txtOf,h,txts,nth,szs] at *
  omega
 ·intro x a h hk _ ih
  have:=opd_len (levI a,txt a) 11
  rw [txt_eq,sz_eq,hk]
  simp [txtOf,h,txts,nth,szs] at *
  omega
 ·intro x a b h hk hl _ iha _ ihb
  have:=level_len hl
  have h1:=opd_len (levI a,txt a) (ruleI x.name).2.2.1
  have h2:=opd_len (levI b,txt b) (ruleI x.name).2.2.2
  have h3:=wordsL_len [opd (levI a,txt a) (ruleI x.name).2.2.1,tl x.name,opd (levI b,txt b) (ruleI x.name).2.2.2]
  rw [txt_eq,sz_eq,hk]
  simp [txtOf,h,txts,nth,szs] at *
  omega
 ·intro x a b c h hk _ iha _ ihb _ ihc
  have h1:=opd_len (levI a,txt a) 2
  have h2:=opd_len (levI b,txt b) 1
  have h4:=opd_len (levI c,txt c) 1
  have h3:=wordsL_len [opd (levI a,txt a) 2,[63],opd (levI b,txt b) 1,[58],opd (levI c,txt c) 1]
  rw [txt_eq,sz_eq,hk]
  simp [txtOf,h,txts,nth,szs] at *
  omega
 ·intro x a h hk hnm hn _ ih
  have:=nameB_len hnm
  have:=numL_len x.n
  have h1:=opd_len (levI a,txt a) 0
  have h2:=wordsL_len [[97,108,108],tl x.name,[60],numL x.n,[58],opd (levI a,txt a) 0]
  have h3:=wordsL_len [[115,111,109,101],tl x.name,[60],numL x.n,[58],opd (levI a,txt a) 0]
  rw [txt_eq,sz_eq,hk]
  rcases h with h | h <;> simp [txtOf,h,txts,nth,szs] at * <;> omega
end Go.Proofs.YtbecjgckobhmpaaGreatDoor
end
section
namespace Go.Proofs.YtbecjgckobhmpaaGreatDoor
open Go Go.AM Go.Proofs
theorem ktake {l:List Node}:∀ {k:Nat} {x:Node},l[k]? = some x→szs (l.take k) + sz x≤szs l∧szs (l.take (k + 1)) = szs (l.take k) + sz x:=by
 induction l with
 | nil=>intro k x h; simp at h
 | cons y r ih =>
  intro k x h
  cases k with
  | zero =>
   simp only [List.getElem?_cons_zero,Option.some.injEq] at h
   subst h
   simp [szs]
  | succ k =>
   have:=ih (k:=k) (x:=x) (by simpa using h)
   simp only [List.take_succ_cons,szs] at this ⊢
   omega
theorem take_mem {l:List Node} {k:Nat} {y z:Node} (hy:l[k]? = some y) (hz:z ∈ l.take (k + 1)):z ∈ l.take k∨z = y:=by
 rw [List.take_add_one,hy] at hz
 simpa using hz
mutual
def dep:Node→Nat
 | ⟨_,_,_,_,_,_,_,ks,_⟩=>1 + deps ks
def deps:List Node→Nat
 | []=>0
 | x :: r=>max (dep x) (deps r)
end
theorem dep_eq (x:Node):dep x = 1 + deps x.kids:=by cases x; rfl
theorem deps_le:∀ (l:List Node) (B:Nat),deps l≤B ↔ ∀ y ∈ l,dep y≤B
 | [],B=>by simp [deps]
 | x :: r,B=>by
  simp only [deps,List.mem_cons,forall_eq_or_imp,← deps_le r B]
  omega
theorem dep_pos (x:Node):1≤dep x:=by rw [dep_eq]; omega
theorem dep_mem {x y:Node} (h:y ∈ x.kids):dep y + 1≤dep x:=by
 have:=(deps_le x.kids (deps x.kids)).1 (Nat.le_refl _) y h
 rw [dep_eq x]
 omega
def smallP (x:Node):Prop:=sz x≤1500∧dep x≤40
instance (x:Node):Decidable (smallP x):=inferInstanceAs (Decidable (_∧_))
theorem G96:∀ (m:Nat) (x:Node),sz x≤m→sz x≤100000→∀ (d c:Nat),c≤1500→d≤100→∀ n,2000 + sz x≤n →
  T (F96 n x (d:Int) (c:Int)) (fun r=>r.1 = decide (c + sz x≤1500∧d + dep x≤41)∧(r.1 = true→r.2 = ((c + sz x:Nat):Int))):=by
 intro m
 induction m with
 | zero=>intro x hx; have:=sz_pos x; omega
 | succ m ih =>
  intro x hx hx2 d c hc hd n hn
  obtain ⟨n,rfl⟩:∃ k,n = k + 1:=⟨n - 1,by omega⟩
  have hsz:=sz_eq x
  have hdp:=dep_eq x
  have hlen:=szs_len x.kids
  have hpos:=sz_pos x
  show T (F96_step (F96 n) n x (d:Int) (c:Int)) _
  unfold F96_step
  have e1:w64 ((c:Int) + 1) = ((c + 1:Nat):Int):=w64_nat (by omega)
  rw [e1]
  by_cases hb:1500 < c + 1∨40 < d
  ·have c1:(decide ((1500:Int) < ((c + 1:Nat):Int)) || decide ((40:Int) < (d:Int))) = true:=by simp; omega
   rw [c1]
   refine T.some ⟨?_,fun h=>by simp at h⟩
   have:=dep_pos x
   have hno:¬ (c + sz x≤1500∧d + dep x≤41):=by omega
   simp [hno]
  ·have c1:(decide ((1500:Int) < ((c + 1:Nat):Int)) || decide ((40:Int) < (d:Int))) = false:=by simp; omega
   rw [c1]
   simp only [cond_false]
   refine T.bind (P:=fun r=>match r with | .inl _=>¬ (c + sz x≤1500∧d + dep x≤41) | .inr v=>(c + sz x≤1500∧d + dep x≤41)∧v = ((c + sz x:Nat):Int)) ?_ (fun r h=>by
    cases r with
    | inl v=>exact T.some ⟨(decide_eq_false h).symm,fun h=>by simp at h⟩
    | inr v=>exact T.some ⟨(decide_eq_true h.1).symm,fun _=>h.2⟩)
   refine iter_inv x.kids (fun (k:Nat) (a:Nat)=>((k:Int),(a:Int))) (fun k a=>a = c + 1 + szs (x.kids.take k)∧a≤1500∧∀ y ∈ x.kids.take k,d + 1 + dep y≤41) _ (fun k a y hy ha=>?_) (fun a ha=>?_) n (c + 1) (by omega) ⟨by simp [szs],by omega,by simp⟩
   ·have hlt:=lt_of_get hy
    have hm:=List.mem_of_getElem? hy
    have hys:=szs_mem x.kids y hm
    have htk:=ktake hy
    have hdm:=dep_mem hm
    have c2:decide ((k:Int) < (x.kids.length:Int)) = true:=by simpa using hlt
    obtain ⟨r,hr,hr1,hr2⟩:=ih y (by omega) (by omega) (d + 1) a ha.2.1 (by omega) n (by omega)
    simp only [c2,cond_true,idxL_some hy,Option.bind_some,w64_nat (k:=d) (by omega),hr,w64_nat (k:=k) (by omega)]
    cases hb:r.1
    ·right
     refine ⟨_,rfl,?_⟩
     rw [hb] at hr1
     have hr1':¬ (a + sz y≤1500∧d + 1 + dep y≤41):=by
      intro h
      rw [decide_eq_true h] at hr1
      cases hr1
     show ¬ (c + sz x≤1500∧d + dep x≤41)
     omega
    ·rw [hb] at hr1
     have hr1':a + sz y≤1500∧d + 1 + dep y≤41:=of_decide_eq_true hr1.symm
     left
     refine ⟨a + sz y,?_,?_,hr1'.1,?_⟩
     ·simp only [Bool.not_true,cond_false]
      rw [hr2 hb]
     ·rw [htk.2]; omega
     ·intro z hz
      rcases take_mem hy hz with hz | rfl
      ·exact ha.2.2 z hz
      ·exact hr1'.2
   ·have c2:decide ((x.kids.length:Int) < (x.kids.length:Int)) = false:=by simp
    simp only [c2,cond_false]
    have h1:=ha.1
    rw [List.take_length] at h1
    refine ⟨_,rfl,⟨by omega,?_⟩,?_⟩
    ·have:deps x.kids≤40 - d:=(deps_le _ _).2 (fun y hy=>by have:=ha.2.2 y (by simpa using hy); omega)
     omega
    ·rw [h1]
     congr 1
     omega
theorem G59 (x:Node) (hs:sz x≤100000) {n:Nat} (hn:2000 + sz x≤n):F59 n x = some (decide (smallP x)):=by
 obtain ⟨r,hr,h1,_⟩:=G96 (sz x) x (Nat.le_refl _) hs 1 0 (by omega) (by omega) n hn
 unfold F59
 erw [hr]
 simp only [Option.bind_some,h1]
 congr 1
 rw [decide_eq_decide]
 unfold smallP
 omega
theorem G61:∀ (m:Nat) (x:Node),sz x≤m→sz x≤100000→∀ (lim D:Nat),lim≤1500→D≤100→∀ n,2000 + sz x≤n →
  T (F61 n x (lim:Int) (D:Int)) (fun r=>∃ v:Nat,r.1 = (v:Int)∧1≤v∧v≤sz x∧(r.2 = false→¬ dep x≤D)∧(r.2 = true→v≤lim→v = sz x∧dep x≤D)):=by
 intro m
 induction m with
 | zero=>intro x hx; have:=sz_pos x; omega
 | succ m ih =>
  intro x hx hx2 lim D hl hD n hn
  obtain ⟨n,rfl⟩:∃ k,n = k + 1:=⟨n - 1,by omega⟩
  have hsz:=sz_eq x
  have hdp:=dep_eq x
  have hlen:=szs_len x.kids
  have hpos:=sz_pos x
  have hdpos:=dep_pos x
  show T (F61_step (F61 n) n x (lim:Int) (D:Int)) _
  unfold F61_step
  refine T.cond (fun hc=>T.some ⟨1,rfl,by omega,by omega,fun _=>?_,fun h=>by simp at h⟩) (fun hc=>?_)
  ·have hc:D = 0:=by simp at hc; omega
   omega
  have hc:1≤D:=by simp at hc; omega
  refine T.bind (P:=fun r=>match r with | .inl u=>(∃ v:Nat,u = (v:Int)∧1≤v∧v≤sz x)∧¬ (dep x≤D) | .inr u=>∃ v:Nat,u = (v:Int)∧1≤v∧v≤sz x∧(v≤lim→v = sz x∧dep x≤D)) ?_ (fun r h=>by
   cases r with
   | inl u=>obtain ⟨⟨v,h1,h2,h3⟩,h4⟩:=h; exact T.some ⟨v,h1,h2,h3,fun _=>h4,fun h=>by simp at h⟩
   | inr u=>obtain ⟨v,h1,h2,h3,h4⟩:=h; exact T.some ⟨v,h1,h2,h3,fun h=>by simp at h,fun _=>h4⟩)
  refine iter_inv x.kids (fun (k:Nat) (a:Nat)=>((a:Int),(k:Int))) (fun k a=>1≤a∧a≤1 + szs (x.kids.take k)∧(a≤lim→a = 1 + szs (x.kids.take k)∧∀ y ∈ x.kids.take k,dep y + 1≤D)) _ (fun k a y hy ha=>?_) (fun a ha=>?_) n 1 (by omega) ⟨by omega,by omega,fun _=>⟨by simp [szs],by simp⟩⟩
  ·have hlt:=lt_of_get hy
   have hm:=List.mem_of_getElem? hy
   have hys:=szs_mem x.kids y hm
   have htk:=ktake hy
   have hdm:=dep_mem hm
   by_cases hal:a≤lim
   ·have c2:(decide ((k:Int) < (x.kids.length:Int)) && decide ((a:Int)≤(lim:Int))) = true:=by simp; omega
    have e1:w64 ((lim:Int) - (a:Int)) = ((lim - a:Nat):Int):=by rw [w64_id (by omega) (by omega)]; omega
    have e2:w64 ((D:Int) - 1) = ((D - 1:Nat):Int):=by rw [w64_id (by omega) (by omega)]; omega
    obtain ⟨r,hr,v,hv,hv1,hv2,hr1,hr2⟩:=ih y (by omega) (by omega) (lim - a) (D - 1) (by omega) (by omega) n (by omega)
    simp only [c2,cond_true,idxL_some hy,Option.bind_some,e1,e2,hr,w64_nat (k:=k) (by omega)]
    cases hb:r.2
    ·right
     refine ⟨_,rfl,⟨a,rfl,by omega,by omega⟩,?_⟩
     have:=hr1 hb
     omega
    ·left
     have e3:w64 ((a:Int) + r.1) = ((a + v:Nat):Int):=by rw [hv,w64_id (by omega) (by omega)]; omega
     refine ⟨a + v,by simp only [Bool.not_true,cond_false,e3],by omega,by omega,fun hle=>?_⟩
     obtain ⟨h5,h6⟩:=hr2 hb (by omega)
     have h7:=ha.2.2 hal
     refine ⟨by omega,fun z hz=>?_⟩
     rcases take_mem hy hz with hz | rfl
     ·exact h7.2 z hz
     ·omega
   ·right
    have c2:(decide ((k:Int) < (x.kids.length:Int)) && decide ((a:Int)≤(lim:Int))) = false:=by simp; omega
    simp only [c2,cond_false]
    have:=ktake hy
    exact ⟨_,rfl,a,rfl,ha.1,by omega,fun h=>absurd h hal⟩
  ·have c2:(decide ((x.kids.length:Int) < (x.kids.length:Int)) && decide ((a:Int)≤(lim:Int))) = false:=by simp
   simp only [c2,cond_false]
   have h1:=ha.2
   rw [List.take_length] at h1
   refine ⟨_,rfl,a,rfl,ha.1,by omega,fun hle=>?_⟩
   have h2:=h1.2 hle
   refine ⟨by omega,?_⟩
   have:deps x.kids≤D - 1:=(deps_le _ _).2 (fun y hy=>by have:=h2.2 y hy; omega)
   omega
theorem G27 (x:Node) (hs:sz x≤100000) {n:Nat} (hn:2000 + sz x≤n):F27 n x = some (decide (smallP x)):=by
 obtain ⟨r,hr,v,hv,h1,h2,h3,h4⟩:=G61 (sz x) x (Nat.le_refl _) hs 1500 40 (by omega) (by omega) n hn
 unfold F27
 erw [hr]
 simp only [Option.bind_some]
 congr 1
 have hsm:smallP x ↔ sz x≤1500∧dep x≤40:=Iff.rfl
 cases hb:r.2
 ·have:=h3 hb
  rw [Bool.false_and]
  exact (decide_eq_false (fun h=>by rw [hsm] at h; omega)).symm
 ·rw [Bool.true_and,hv]
  refine decide_eq_decide.2 ?_
  rw [hsm]
  constructor
  ·intro h
   have:=h4 hb (by omega)
   omega
  ·intro h
   omega
theorem strEq_iff {a b:ByteArray}:strEq a b = true ↔ a = b:=by
 constructor
 ·intro h
  have h':tl a = tl b:=by simpa [strEq,tl] using h
  have:=congrArg bs h'
  rwa [bs_tl,bs_tl] at this
 ·rintro rfl
  exact strEq_self a
theorem G30:∀ (m:Nat) (x y:Node),sz x≤m→sz x≤100000→∀ n,2000 + sz x≤n→T (F30 n x y) (fun r=>r = true ↔ x = y):=by
 intro m
 induction m with
 | zero=>intro x y hx; have:=sz_pos x; omega
 | succ m ih =>
  intro x y hx hx2 n hn
  obtain ⟨n,rfl⟩:∃ k,n = k + 1:=⟨n - 1,by omega⟩
  have hsz:=sz_eq x
  have hlen:=szs_len x.kids
  show T (F30_step (F30 n) n x y) _
  unfold F30_step
  refine T.cond (fun hc=>T.some ?_) (fun hc=>?_)
  ·constructor
   ·intro h; cases h
   ·rintro rfl
    simp [strEq_self] at hc
  simp only [Bool.or_eq_false_iff,bne_eq_false_iff_eq,Bool.not_eq_false',beq_iff_eq,strEq_iff] at hc
  obtain ⟨⟨⟨⟨⟨⟨⟨h1,h2⟩,h3⟩,h4⟩,h5⟩,h6⟩,h7⟩,h8⟩:=hc
  have hxy:x = y ↔ x.kids = y.kids:=by
   cases x; cases y
   simp only at h1 h2 h3 h4 h5 h6 h7 h8
   subst h1 h2 h3 h4 h5 h6 h7 h8
   simp
  rw [hxy]
  refine T.cond (fun hc=>T.some ?_) (fun hc=>?_)
  ·constructor
   ·intro h; cases h
   ·intro h
    rw [h] at hc
    simp at hc
  have hl:x.kids.length = y.kids.length:=by simp at hc; omega
  refine T.bind (P:=fun r=>match r with | .inl _=>x.kids≠y.kids | .inr _=>x.kids = y.kids) ?_ (fun r h=>by
   cases r with
   | inl v=>exact T.some ⟨fun h=>(by cases h),fun h'=>absurd h' h⟩
   | inr v=>exact T.some ⟨fun _=>h,fun _=>rfl⟩)
  refine iter_inv x.kids (fun (k:Nat) (_:Unit)=>(k:Int)) (fun k _=>x.kids.take k = y.kids.take k) _ (fun k a z hz ha=>?_) (fun a ha=>?_) n () (by omega) (by simp)
  ·have hlt:=lt_of_get hz
   have hm:=List.mem_of_getElem? hz
   have hys:=szs_mem x.kids z hm
   have c2:decide ((k:Int) < (x.kids.length:Int)) = true:=by simpa using hlt
   obtain ⟨z2,hz2⟩:∃ z2,y.kids[k]? = some z2:=⟨y.kids[k]'(by omega),List.getElem?_eq_getElem (by omega)⟩
   obtain ⟨r,hr,hr1⟩:=ih z z2 (by omega) (by omega) n (by omega)
   simp only [c2,cond_true,idxL_some hz,idxL_some hz2,Option.bind_some,hr,w64_nat (k:=k) (by omega)]
   cases hb:r
   ·right
    refine ⟨_,rfl,fun h=>?_⟩
    rw [h,hz2] at hz
    have:z = z2:=by simpa using hz.symm
    rw [hr1.2 this] at hb
    cases hb
   ·left
    have:=hr1.1 hb
    subst this
    refine ⟨(),rfl,?_⟩
    rw [List.take_add_one,List.take_add_one,ha,hz,hz2]
  ·have c2:decide ((x.kids.length:Int) < (x.kids.length:Int)) = false:=by simp
   simp only [c2,cond_false]
   refine ⟨_,rfl,?_⟩
   show x.kids = y.kids
   rw [List.take_length,hl,List.take_length] at ha
   exact ha
theorem sz_mapN (f:Int→Int):∀ (m:Nat) (x:Node),sz x≤m→sz (mapN f x) = sz x∧dep (mapN f x) = dep x:=by
 intro m
 induction m with
 | zero=>intro x hx; have:=sz_pos x; omega
 | succ m ih =>
  intro x hx
  have hl:∀ l:List Node,szs l≤m→szs (l.map (mapN f)) = szs l∧deps (l.map (mapN f)) = deps l:=by
   intro l
   induction l with
   | nil=>intro _; exact ⟨rfl,rfl⟩
   | cons y r ihl =>
    intro h
    simp only [szs] at h
    have:=sz_pos y
    have h1:=ih y (by omega)
    have h2:=ihl (by omega)
    simp only [List.map_cons,szs,deps]
    omega
  have hsz:=sz_eq x
  have:=hl x.kids (by omega)
  rw [mapN_eq,sz_eq,dep_eq,sz_eq x,dep_eq x]
  simp only
  omega
theorem Teq {α:Type} {o:Option α} {v:α} (h:T o (fun e=>e = v)):o = Option.some v:=by
 obtain ⟨r,hr,rfl⟩:=h
 exact hr
theorem G34:∀ (m:Nat) (x:Node),sz x≤m→sz x≤100000→∀ n,2000 + sz x≤n→F34 n x = some (mapN (fun _=>0) x):=by
 intro m
 induction m with
 | zero=>intro x hx; have:=sz_pos x; omega
 | succ m ih =>
  intro x hx hx2 n hn
  obtain ⟨n,rfl⟩:∃ k,n = k + 1:=⟨n - 1,by omega⟩
  have hsz:=sz_eq x
  have hlen:=szs_len x.kids
  show F34_step (F34 n) n x = _
  unfold F34_step
  refine Teq (T.bind (P:=fun r=>r = mapN (fun _=>0) x) ?_ fun r h=>T.some h)
  refine iter_inv x.kids (fun (k:Nat) (a:Node)=>((k:Int),a)) (fun k a=>a = Node.mk x.kind x.name x.other x.n x.len x.init x.ghost ((x.kids.take k).map (mapN fun _=>0)) 0) _ (fun k a y hy ha=>?_) (fun a ha=>?_) n (Node.mk x.kind x.name x.other x.n x.len x.init x.ghost ([]:List Node) 0) (by omega) (by simp)
  ·have hlt:=lt_of_get hy
   have hm:=List.mem_of_getElem? hy
   have hys:=szs_mem x.kids y hm
   have c2:decide ((k:Int) < (x.kids.length:Int)) = true:=by simpa using hlt
   subst ha
   left
   simp only [c2,cond_true,idxL_some hy,Option.bind_some,ih y (by omega) (by omega) n (by omega),w64_nat (k:=k) (by omega)]
   rw [app104 (by simp only [List.length_map,List.length_take,List.length_cons,List.length_nil]; omega)]
   refine ⟨_,rfl,?_⟩
   rw [List.take_add_one,hy]
   simp
  ·have c2:decide ((x.kids.length:Int) < (x.kids.length:Int)) = false:=by simp
   simp only [c2,cond_false]
   refine ⟨_,rfl,?_⟩
   rw [ha,mapN_eq,List.take_length]
end Go.Proofs.YtbecjgckobhmpaaGreatDoor
end
section
namespace Go.Proofs.YtbecjgckobhmpaaGreatDoor
open Go Go.AM Go.Proofs
theorem F232_eq:F232 = some (keyNames.map bs):=by kernel_rfl
theorem keys_len:keyNames.length = 37:=by kernel_rfl
theorem F206_eq (s:ByteArray) {n:Nat} (hn:50≤n):F206 n s = some (keyNames.any (tl s == ·)):=by
 unfold F206
 rw [F232_eq]
 simp only [Option.bind_some]
 have hl:(keyNames.map bs).length = 37:=by rw [List.length_map,keys_len]
 rw [iter_all (keyNames.map bs) (fun x=>!(strEq x s)) (by omega) (fun k x hx=>by
  have hlt:=lt_of_get hx
  have c1:decide ((k:Int) < ((keyNames.map bs).length:Int)) = true:=by simpa using hlt
  rw [c1,idxL_some hx]
  simp only [cond_true,Option.bind_some]
  exact cond_not_if _ _ _) (by simp) (by omega)]
 have e:(keyNames.map bs).all (fun x=>!(strEq x s)) = !(keyNames.any (tl s == ·)):=by
  rw [List.all_map,List.not_any_eq_all_not]
  congr 1
  funext l
  simp only [Function.comp,strEq]
  congr 1
  exact Bool.eq_iff_iff.2 (by
   simp only [beq_iff_eq]
   exact eq_comm)
 rw [e]
 cases keyNames.any (tl s == ·) <;> rfl
theorem nameP2 (k:Nat) (b:UInt8):(!((!isLetI b.toNat) && (((k:Int) == 0) || (bif decide ((b.toNat:Int) < 48) then ((b.toNat:Int) != 95) else ((decide (57 < (b.toNat:Int))) && ((b.toNat:Int) != 95)))))) = nameP k b:=by
 unfold nameP
 congr 2
 congr 1
 generalize (b.toNat:Int) = z
 cases decide (z < 48) <;> cases z != 95 <;> cases decide (57 < z) <;> rfl
theorem F174_eq (s:ByteArray) (hs:(tl s).length≤9223372036854775807) {n:Nat} (hn:50≤n) (hl:(tl s).length < n):F174 n s = some (nameB (tl s)):=by
 unfold F174
 rw [iter_allI (tl s) nameP hs (fun k b hb=>by
  have hlt:=lt_of_get hb
  have c1:decide ((k:Int) < (s.size:Int)) = true:=by rw [size_tl]; simpa using hlt
  rw [c1,idxS_some hb]
  simp only [cond_true,Option.bind_some]
  rw [← nameP2]
  exact cond_not_if _ _ _) (by rw [size_tl]; simp) hl,allI_name]
 rw [F206_eq s hn,size_tl]
 cases hc:nameCs (tl s)
 ·simp [nameB,hc]
 ·simp only [if_true,Option.bind_some]
  have e:(decide (1≤((tl s).length:Int)) && decide (((tl s).length:Int)≤16)) = (decide (1≤(tl s).length) && decide ((tl s).length≤16)):=by
   congr 1
   ·rw [decide_eq_decide]; omega
   ·rw [decide_eq_decide]; omega
  rw [e]
  unfold nameB
  rw [hc]
  cases decide (1≤(tl s).length) <;> cases decide ((tl s).length≤16) <;> simp
theorem cutB_none:∀ (a:Bytes),46 ∉ a→cutB a = (a,none)
 | [],_=>rfl
 | b :: r,h=>by
  simp only [List.mem_cons,not_or] at h
  have hb:(b == 46) = false:=by
   cases hbb:b == 46
   ·rfl
   ·exact absurd (by simpa using hbb:b = 46).symm h.1
  simp [cutB,hb,cutB_none r h.2]
theorem cutB_dot:∀ (a r:Bytes),46 ∉ a→cutB (a ++ 46 :: r) = (a,some r)
 | [],r,_=>by simp [cutB]
 | b :: a,r,h=>by
  simp only [List.mem_cons,not_or] at h
  have hb:(b == 46) = false:=by
   cases hbb:b == 46
   ·rfl
   ·exact absurd (by simpa using hbb:b = 46).symm h.1
  simp [cutB,hb,cutB_dot a r h.2]
theorem pathN_succ:∀ (k:Nat) (s:Bytes),pathN k s = true→pathN (k + 1) s = true
 | 0,s,h=>by simp [pathN] at h
 | k + 1,s,h=>by
  rw [pathN,Bool.and_eq_true] at h ⊢
  refine ⟨h.1,?_⟩
  have h2:=h.2
  cases hc:(cutB s).2 with
  | none=>rfl
  | some r =>
   rw [hc] at h2
   exact pathN_succ k r h2
theorem pathN_le {k j:Nat} (h:k≤j) {s:Bytes} (hs:pathN k s = true):pathN j s = true:=by
 induction h with
 | refl=>exact hs
 | step _ ih=>exact pathN_succ _ _ ih
theorem F205_T (s:ByteArray) (hs:(tl s).length≤9223372036854775807) {n:Nat} (hn:50≤n) (hl:(tl s).length < n):T (F205 n s) (fun b=>b = true→pathB (tl s) = true):=by
 unfold F205
 refine T.bind (P:=fun r=>match r with
  | .inl _=>True
  | .inr v=>∃ (c f:Nat),v = ((c:Int),(f:Int))∧f≤(tl s).length∧1≤c∧46 ∉ (tl s).drop f∧∀ j,pathN j ((tl s).drop f) = true→pathN (j + (c - 1)) (tl s) = true) ?_ (fun r h=>by
  cases r with
  | inl _=>exact T.some (fun h=>by cases h)
  | inr v =>
   obtain ⟨c,f,rfl,hf,hc,hd,hp⟩:=h
   refine T.cond (fun h3=>?_) (fun _=>T.some (fun h=>by cases h))
   have h3':c≤3:=by simp at h3; omega
   rw [size_tl,subS_eq hf (by omega)]
   simp only [Option.bind_some]
   have e:((tl s).drop f).take ((tl s).length - f) = (tl s).drop f:=List.take_of_length_le (by simp)
   rw [e,F174_eq _ (by rw [tl_bs]; simp; omega) hn (by rw [tl_bs]; simp; omega)]
   refine T.some (fun hb=>?_)
   rw [tl_bs] at hb
   have h1:pathN 1 ((tl s).drop f) = true:=by
    simp only [pathN]
    rw [cutB_none _ hd]
    simpa using hb
   exact pathN_le (show 1 + (c - 1)≤3 by omega) (hp 1 h1))
 refine iter_inv (tl s) (fun (k:Nat) (a:Nat × Nat)=>((a.1:Int),(a.2:Int),(k:Int))) (fun k a=>a.2≤k∧1≤a.1∧2 * a.1≤a.2 + 2∧46 ∉ ((tl s).take k).drop a.2∧∀ j,pathN j ((tl s).drop a.2) = true→pathN (j + (a.1 - 1)) (tl s) = true) _
  (fun k a b hb ha=>?_) (fun a ha=>?_) n (1,0) hl ⟨by simp,by simp,by simp,by simp,fun j h=>by simpa using h⟩
 ·have hlt:=lt_of_get hb
  have c1:decide ((k:Int) < (s.size:Int)) = true:=by rw [size_tl]; simpa using hlt
  have hi:idxS s (k:Int) = some (b.toNat:Int):=idxS_some hb
  have ht2:(tl s).take (k + 1) = (tl s).take k ++ [b]:=by rw [List.take_add_one,hb]; rfl
  have hlen:((tl s).take k).length = k:=by simp; omega
  have e1:w64 ((k:Int) + 1) = ((k + 1:Nat):Int):=w64_nat (by omega)
  have e2:w64 ((a.1:Int) + 1) = ((a.1 + 1:Nat):Int):=w64_nat (by omega)
  simp only [c1,cond_true,hi,Option.bind_some,e1,e2]
  by_cases h46:b = 46
  ·subst h46
   have c2:((((46:UInt8).toNat:Nat):Int) != 46) = false:=rfl
   rw [c2]
   simp only [cond_false]
   rw [subS_eq ha.1 (by omega)]
   simp only [Option.bind_some]
   rw [F174_eq _ (by rw [tl_bs]; simp; omega) hn (by rw [tl_bs]; simp; omega)]
   simp only [Option.bind_some,tl_bs]
   cases hnm:nameB (((tl s).drop a.2).take (k - a.2))
   ·exact .inr ⟨_,rfl,trivial⟩
   ·left
    have hnl:=(nameB_len hnm).1
    simp only [List.length_take,List.length_drop] at hnl
    refine ⟨(a.1 + 1,k + 1),rfl,by simp,by simp,by simp; omega,?_,fun j hj=>?_⟩
    ·rw [List.drop_eq_nil_of_le (by simp; omega)]
     simp
    ·have hcut:(tl s).drop a.2 = ((tl s).drop a.2).take (k - a.2) ++ 46 :: (tl s).drop (k + 1):=by
      have hx:(tl s)[k] = 46:=by
       have:=List.getElem?_eq_getElem hlt
       rw [hb] at this
       exact (Option.some.inj this).symm
      conv=>lhs; rw [← List.take_append_drop (k - a.2) ((tl s).drop a.2)]
      congr 1
      rw [List.drop_drop,show a.2 + (k - a.2) = k by omega,← List.getElem_cons_drop hlt,hx]
     have hno:46 ∉ ((tl s).drop a.2).take (k - a.2):=by
      have:=ha.2.2.2.1
      rwa [List.drop_take] at this
     have h5:pathN (j + 1) ((tl s).drop a.2) = true:=by
      rw [hcut]
      simp only [pathN]
      rw [cutB_dot _ _ hno]
      simp only [hnm,Bool.true_and]
      exact hj
     have h6:=ha.2.2.2.2 (j + 1) h5
     have h7:j + 1 + (a.1 - 1) = j + (a.1 + 1 - 1):=by omega
     rw [h7] at h6
     exact h6
  ·have c2:(((b.toNat:Nat):Int) != 46) = true:=by
    have:¬ ((b.toNat:Nat):Int) = 46:=by
     intro e
     apply h46
     apply UInt8.toNat.inj
     simp
     omega
    simpa using this
   rw [c2]
   simp only [cond_true]
   left
   refine ⟨(a.1,a.2),rfl,by simp; omega,by simp; omega,by simp; omega,?_,ha.2.2.2.2⟩
   rw [ht2,List.drop_append_of_le_length (by omega)]
   simp only [List.mem_append,List.mem_singleton,not_or]
   exact ⟨ha.2.2.2.1,fun e=>h46 e.symm⟩
 ·have c1:decide (((tl s).length:Int) < (s.size:Int)) = false:=by rw [size_tl]; simp
  simp only [c1,cond_false]
  have h4:=ha.2.2.2.1
  simp only [List.take_length] at h4
  exact ⟨_,rfl,a.1,a.2,rfl,ha.1,ha.2.1,h4,ha.2.2.2.2⟩
theorem F170_T (l:Bytes) (c:Int) (hl:l.length≤100) {n:Nat} (hn:200≤n):T (F170 n (bs l) c) (fun b=>b = true→∃ u ∈ l,((u.toNat:Nat):Int) = c):=by
 unfold F170
 refine T.bind (P:=fun r=>match r with | .inl _=>∃ u ∈ l,((u.toNat:Nat):Int) = c | .inr _=>True) ?_ (fun r h=>by
  cases r with
  | inl _=>exact T.some (fun _=>h)
  | inr _=>exact T.some (fun h=>by cases h))
 refine iter_inv l (fun (k:Nat) (_:Unit)=>(k:Int)) (fun _ _=>True) _ (fun k _ b hb _=>?_) (fun _ _=>?_) n () (by omega) trivial
 ·have hlt:=lt_of_get hb
  have c1:decide ((k:Int) < ((bs l).size:Int)) = true:=by rw [size_bs]; simpa using hlt
  have hi:idxS (bs l) (k:Int) = some (b.toNat:Int):=idxS_some hb
  simp only [c1,cond_true,hi,Option.bind_some,w64_nat (k:=k) (by omega)]
  cases hc:((b.toNat:Nat):Int) == c
  ·exact .inl ⟨(),rfl,trivial⟩
  ·exact .inr ⟨_,rfl,b,List.mem_of_getElem? hb,by simpa using hc⟩
 ·have c1:decide ((l.length:Int) < ((bs l).size:Int)) = false:=by rw [size_bs]; simp
  simp only [c1,cond_false]
  exact ⟨_,rfl,trivial⟩
structure Only (l:Bytes) (x:Node):Prop where
 nm:(∃ u ∈ l,((u.toNat:Nat):Int) = 110)∨strEq x.name (bs []) = true
 ot:(∃ u ∈ l,((u.toNat:Nat):Int) = 111)∨strEq x.other (bs []) = true
 gh:(∃ u ∈ l,((u.toNat:Nat):Int) = 103)∨x.ghost = false
 nn:(∃ u ∈ l,((u.toNat:Nat):Int) = 35)∨x.n = 0
 ln:(∃ u ∈ l,((u.toNat:Nat):Int) = 108)∨x.len = 0
 it:(∃ u ∈ l,((u.toNat:Nat):Int) = 105)∨x.init = 0
 r1:inR x.n = true
 r2:inR x.len = true
 r3:inR x.init = true
theorem F104_T (x:Node) (l:Bytes) (hl:l.length≤100) {n:Nat} (hn:200≤n):T (F104 n x (bs l)) (fun b=>b = true→Only l x):=by
 have no:∀ {P:Prop},(false = true→P):=fun h=>by cases h
 unfold F104
 refine (F170_T l 110 hl hn).bind fun v1 h1=>T.cond (fun _=>T.some no) (fun c1=>?_)
 refine (F170_T l 111 hl hn).bind fun v2 h2=>T.cond (fun _=>T.some no) (fun c2=>?_)
 refine (F170_T l 103 hl hn).bind fun v3 h3=>T.cond (fun _=>T.some no) (fun c3=>?_)
 refine (F170_T l 35 hl hn).bind fun v4 h4=>T.cond (fun _=>T.some no) (fun c4=>?_)
 refine (F170_T l 108 hl hn).bind fun v5 h5=>T.cond (fun _=>T.some no) (fun c5=>?_)
 refine (F170_T l 105 hl hn).bind fun v6 h6=>T.cond (fun _=>T.some no) (fun c6=>?_)
 have e:∀ i,F171 i = some (inR i):=fun _=>rfl
 simp only [e,Option.bind_some]
 refine T.cond (fun r1=>T.cond (fun r2=>T.some fun r3=>?_) (fun _=>T.some no)) (fun _=>T.some no)
 refine ⟨?_,?_,?_,?_,?_,?_,r1,r2,r3⟩
 ·cases v1
  ·right; simpa using c1
  ·exact .inl (h1 rfl)
 ·cases v2
  ·right; simpa using c2
  ·exact .inl (h2 rfl)
 ·cases v3
  ·right; simpa using c3
  ·exact .inl (h3 rfl)
 ·cases v4
  ·right; simpa using c4
  ·exact .inl (h4 rfl)
 ·cases v5
  ·right; simpa using c5
  ·exact .inl (h5 rfl)
 ·cases v6
  ·right; simpa using c6
  ·exact .inl (h6 rfl)
end Go.Proofs.YtbecjgckobhmpaaGreatDoor
end
section
namespace Go.Proofs.YtbecjgckobhmpaaGreatDoor
open Go Go.AM Go.Proofs
def Cls (c:Int) (y:Node):Prop :=
 if c = 1 then okT y = true∧isStmt y.kind = true
 else if c = 2 then okT y = true∧y.kind = 52
 else if c = 3 then okT y = true∧y.kind = 58
 else if c = 4 then okT y = true∧isDecl y.kind = true
 else if c = 5 then okT y = true∧isItm y.kind = true
 else if c = 6 then okT y = true∧y.kind = 1
 else if c = 7 then okT y = true∧y.kind = 2∧y.kids = []
 else okE y
structure Cl (n:Nat) (x:Node):Prop where
 e:T (F106 n x) (fun b=>b = true→okE x)
 r:T (F173 n x) (fun b=>b = true→okT x = true∧x.kind = 2)
 s:T (F202 n x) (fun b=>b = true→okT x = true∧isStmt x.kind = true)
 b:T (F231 n x) (fun b=>b = true→okT x = true∧x.kind = 34)
 d:T (F203 n x) (fun b=>b = true→okT x = true∧isDecl x.kind = true)
 i:T (F204 n x) (fun b=>b = true→okT x = true∧isItm x.kind = true)
theorem okT_mk {x:Node} (hf:fieldsB x = true) (hk:kidsB x = true) (h:∀ y ∈ x.kids,okT y = true):okT x = true:=by
 rw [okT_eq,hf,hk]
 simpa using h
theorem no {P:Prop}:(false = true→P):=fun h=>by cases h
theorem fields_of {l:Bytes} {x:Node} (o:Only l x) (hg:fldGood x = true) (a1:(∃ u ∈ l,((u.toNat:Nat):Int) = 110)→hasName x.kind = true) (a2:(∃ u ∈ l,((u.toNat:Nat):Int) = 111)→hasOther x.kind = true)
  (a3:(∃ u ∈ l,((u.toNat:Nat):Int) = 35)→hasN x.kind = true) (a4:(∃ u ∈ l,((u.toNat:Nat):Int) = 108)→(x.kind == 50) = true) (a5:(∃ u ∈ l,((u.toNat:Nat):Int) = 105)→(x.kind == 50) = true)
  (a6:(∃ u ∈ l,((u.toNat:Nat):Int) = 103)→(x.kind == 50 || x.kind == 35) = true):fieldsB x = true:=by
 unfold fieldsB
 rw [hg]
 simp only [Bool.true_and,Bool.and_eq_true,Bool.or_eq_true]
 refine ⟨o.nm.imp a1 id,o.ot.imp a2 id,o.nn.imp a3 (fun h=>by simpa using h),o.ln.imp a4 (fun h=>by simpa using h),o.it.imp a5 (fun h=>by simpa using h),?_⟩
 rcases o.gh with h | h
 ·have:=a6 h
  simp only [Bool.or_eq_true] at this
  exact .inl this
 ·exact .inr (by simpa using h)
theorem kids0 {x:Node} (h:((x.kids.length:Int) == 0) = true):x.kids = []:=by
 rw [len0] at h
 simpa using h
theorem lenb {l:List Node} {k:Nat} (h:((l.length:Int) == (k:Int)) = true):l.length = k:=by
 simp at h
 omega
theorem list1 {l:List Node} (h:((l.length:Int) == 1) = true):∃ a,l = [a]:=by
 have:=lenb (k:=1) h
 match l,this with
 | [a],_=>exact ⟨a,rfl⟩
theorem list2 {l:List Node} (h:((l.length:Int) == 2) = true):∃ a b,l = [a,b]:=by
 have:=lenb (k:=2) h
 match l,this with
 | [a,b],_=>exact ⟨a,b,rfl⟩
theorem list3 {l:List Node} (h:((l.length:Int) == 3) = true):∃ a b c,l = [a,b,c]:=by
 have:=lenb (k:=3) h
 match l,this with
 | [a,b,c],_=>exact ⟨a,b,c,rfl⟩
theorem leaf_ok {x:Node} (hl:leafK x.kind = true) (hf:fieldsB x = true) (h0:x.kids = []):okT x = true :=
 okT_mk hf (by simp [kidsB,hl,h0]) (by simp [h0])
def Nm (N:Nat) (x:Node):Prop:=(tl x.name).length≤N∧(tl x.other).length≤N
theorem F174k {N n:Nat} (hN:N≤9223372036854775807) (hn:N + 300≤n) {s:ByteArray} (h:(tl s).length≤N):F174 n s = some (nameB (tl s)):=F174_eq s (by omega) (by omega) (by omega)
theorem F205k {N n:Nat} (hN:N≤9223372036854775807) (hn:N + 300≤n) {s:ByteArray} (h:(tl s).length≤N):T (F205 n s) (fun b=>b = true→pathB (tl s) = true):=F205_T s (by omega) (by omega) (by omega)
theorem F230_T {n:Nat} (hn:300≤n) (x:Node):T (F230 n x) (fun b=>b = true→okT x = true∧x.kind = 63):=by
 unfold F230
 refine T.cond (fun h=>?_) (fun _=>T.some no)
 have h:x.kind = 63:=by simpa using h
 refine (F104_T x [] (by simp) (by omega)).bind fun v o=>T.cond (fun hv=>T.some fun h0=>?_) (fun _=>T.some no)
 exact ⟨leaf_ok (by simp [leafK,h]) (fields_of (o hv) (by simp [fldGood,h]) (by simp) (by simp) (by simp) (by simp) (by simp) (by simp)) (kids0 h0),h⟩
theorem F172_T {N n:Nat} (hN:N≤9223372036854775807) (hn:N + 300≤n) {y:Node} (hy:Nm N y) (c:Int) (k:Cl n y):T (F172 (n + 1) c y) (fun b=>b = true→Cls c y):=by
 show T (F172_step (F204 n) (F203 n) (F229 n) (F231 n) (F202 n) (F173 n) (F106 n) (F172 n) (F105 n) n c y) _
 unfold F172_step
 refine T.cond (fun h=>k.s.bind fun b hb=>T.some ?_) (fun h1=>?_)
 ·have:c = 1:=by simpa using h
  simpa [Cls,this] using hb
 have h1:¬ c = 1:=by simpa using h1
 refine T.cond (fun h=>?_) (fun h2=>?_)
 ·have hc:c = 2:=by simpa using h
  refine T.cond (fun h=>?_) (fun _=>T.some no)
  have h:y.kind = 52:=by simpa using h
  refine (F104_T y [110,35] (by simp) (by omega)).bind fun v o=>T.cond (fun hv=>?_) (fun _=>T.some no)
  rw [F174k hN hn hy.1]
  simp only [Option.bind_some]
  refine T.cond (fun hnm=>T.some fun h0=>?_) (fun _=>T.some no)
  have o:=o hv
  simp only [Cls,hc]
  exact ⟨leaf_ok (by simp [leafK,h]) (fields_of o (by simp [fldGood,h,hnm,o.r1]) (by simp [h,hasName]) (by simp) (by simp [h,hasN]) (by simp) (by simp) (by simp)) (kids0 h0),h⟩
 have h2:¬ c = 2:=by simpa using h2
 refine T.cond (fun h=>?_) (fun h3=>?_)
 ·have hc:c = 3:=by simpa using h
  refine T.cond (fun h=>?_) (fun _=>T.some no)
  have h:y.kind = 58:=by simpa using h
  refine (F104_T y [110,35] (by simp) (by omega)).bind fun v o=>T.cond (fun hv=>?_) (fun _=>T.some no)
  rw [F174k hN hn hy.1]
  simp only [Option.bind_some]
  refine T.cond (fun hnm=>T.some fun h0=>?_) (fun _=>T.some no)
  have o:=o hv
  simp only [Cls,hc]
  exact ⟨leaf_ok (by simp [leafK,h]) (fields_of o (by simp [fldGood,h,hnm,o.r1]) (by simp [h,hasName]) (by simp) (by simp [h,hasN]) (by simp) (by simp) (by simp)) (kids0 h0),h⟩
 have h3:¬ c = 3:=by simpa using h3
 refine T.cond (fun h=>k.d.bind fun b hb=>T.some ?_) (fun h4=>?_)
 ·have:c = 4:=by simpa using h
  simpa [Cls,this] using hb
 have h4:¬ c = 4:=by simpa using h4
 refine T.cond (fun h=>k.i.bind fun b hb=>T.some ?_) (fun h5=>?_)
 ·have:c = 5:=by simpa using h
  simpa [Cls,this] using hb
 have h5:¬ c = 5:=by simpa using h5
 refine T.cond (fun h=>?_) (fun h6=>?_)
 ·have hc:c = 6:=by simpa using h
  refine T.cond (fun h=>k.e.bind fun b hb=>T.some fun hb'=>?_) (fun _=>T.some no)
  have h:y.kind = 1:=by simpa using h
  simp only [Cls,hc]
  exact ⟨(hb hb').1,h⟩
 have h6:¬ c = 6:=by simpa using h6
 refine T.cond (fun h=>?_) (fun h7=>?_)
 ·have hc:c = 7:=by simpa using h
  refine k.r.bind fun b hb=>T.cond (fun hb'=>T.some fun h0=>?_) (fun _=>T.some no)
  simp only [Cls,hc]
  exact ⟨(hb hb').1,(hb hb').2,kids0 h0⟩
 have h7:¬ c = 7:=by simpa using h7
 refine k.e.bind fun b hb=>T.some fun hb'=>?_
 simp only [Cls,h1,h2,h3,h4,h5,h6,h7,if_false]
 exact hb hb'
theorem F105_T {N n:Nat} (hN:N≤9223372036854775807) (hn:N + 300≤n) (x:Node) (c:Int) (hk:∀ y ∈ x.kids,Nm N y∧Cl n y) (hl:x.kids.length≤200) :
  T (F105 (n + 2) x c) (fun b=>b = true→∀ y ∈ x.kids,Cls c y):=by
 show T (F105_step (F204 (n + 1)) (F203 (n + 1)) (F229 (n + 1)) (F231 (n + 1)) (F202 (n + 1)) (F173 (n + 1)) (F106 (n + 1)) (F172 (n + 1)) (F105 (n + 1)) (n + 1) x c) _
 unfold F105_step
 refine T.bind (P:=fun r=>match r with | .inl _=>True | .inr _=>∀ y ∈ x.kids,Cls c y) ?_ (fun r h=>by
  cases r with
  | inl _=>exact T.some no
  | inr _=>exact T.some (fun _=>h))
 refine iter_inv x.kids (fun (k:Nat) (_:Unit)=>(k:Int)) (fun k _=>∀ y ∈ x.kids.take k,Cls c y) _ (fun k _ y hy ih=>?_) (fun _ ih=>?_) (n + 1) () (by omega) (by simp)
 ·have hlt:=lt_of_get hy
  have c1:decide ((k:Int) < (x.kids.length:Int)) = true:=by simpa using hlt
  obtain ⟨h1,h2⟩:=hk y (List.mem_of_getElem? hy)
  obtain ⟨v,hv,hq⟩:=F172_T hN hn h1 c h2
  simp only [c1,cond_true,idxL_some hy,Option.bind_some,hv,w64_nat (k:=k) (by omega)]
  cases v
  ·exact .inr ⟨_,rfl,trivial⟩
  ·refine .inl ⟨(),rfl,fun z hz=>?_⟩
   rw [List.take_add_one,hy] at hz
   simp only [List.mem_append,Option.toList_some,List.mem_singleton] at hz
   rcases hz with hz | rfl
   ·exact ih z hz
   ·exact hq rfl
 ·have c1:decide ((x.kids.length:Int) < (x.kids.length:Int)) = false:=by simp
  simp only [c1,cond_false]
  refine ⟨_,rfl,?_⟩
  simpa using ih
theorem allI_snoc {α:Type} (p:Nat→α→Bool):∀ (l:List α) (k:Nat) (x:α),allI p k (l ++ [x]) = (allI p k l && p (k + l.length) x)
 | [],k,x=>by simp [allI]
 | y :: r,k,x=>by
  simp only [List.cons_append,allI,allI_snoc p r (k + 1) x,List.length_cons,Bool.and_assoc]
  rw [show k + 1 + r.length = k + (r.length + 1) by omega]
theorem allI_and {α:Type} (p q:Nat→α→Bool):∀ (l:List α) (k:Nat),allI (fun j y=>p j y && q j y) k l = (allI p k l && allI q k l)
 | [],_=>rfl
 | x :: r,k=>by
  simp only [allI,allI_and p q r (k + 1)]
  cases p k x <;> cases q k x <;> simp
theorem allI_const {α:Type} (q:α→Bool):∀ (l:List α) (k:Nat),allI (fun _ y=>q y) k l = l.all q
 | [],_=>rfl
 | x :: r,k=>by simp only [allI,List.all_cons,allI_const q r (k + 1)]
theorem F229_T {n:Nat} (x:Node) (f:Nat) (hf:f≤x.kids.length) (hk:∀ y ∈ x.kids,Cl n y) (hl:x.kids.length≤200) (hn:300≤n) :
  T (F229 (n + 1) x (f:Int)) (fun b=>b = true→pairsB (x.kids.drop f) = true∧∀ y ∈ x.kids.drop f,okT y = true):=by
 show T (F229_step (F204 n) (F203 n) (F229 n) (F231 n) (F202 n) (F173 n) (F106 n) (F172 n) (F105 n) n x (f:Int)) _
 unfold F229_step
 refine T.bind (P:=fun r=>match r with | .inl _=>True | .inr _=>allI (fun j y=>prP j y && okT y) 0 (x.kids.drop f) = true) ?_ (fun r h=>by
  cases r with
  | inl _=>exact T.some no
  | inr _ =>
   refine T.some (fun hb=>?_)
   rw [allI_and,Bool.and_eq_true,allI_const] at h
   have hb':(x.kids.drop f).length % 2 = 0:=by
    rw [w64_id (by omega) (by omega)] at hb
    have e:((x.kids.length:Int) - (f:Int)) = ((x.kids.length - f:Nat):Int):=by omega
    rw [e] at hb
    have e2:Int.tmod ((x.kids.length - f:Nat):Int) 2 = (((x.kids.length - f) % 2:Nat):Int):=(Int.ofNat_tmod _ 2).symm
    rw [e2] at hb
    simp only [beq_iff_eq] at hb
    rw [List.length_drop]
    omega
   refine ⟨?_,List.all_eq_true.1 h.2⟩
   rw [← pairs_all _ 0 rfl,h.1,hb']
   rfl)
 have hst:((f:Int)) = ((f + 0:Nat):Int):=rfl
 have key:=iter_inv (ρ:=Unit ⊕ Unit) (step:=fun s1:Int=>bif decide (s1 < (x.kids.length:Int)) then
   (bif (Int.tmod (w64 (s1 - (f:Int))) 2) == 0 then
    ((idxL x.kids s1).bind fun x4 =>
    (F173 n x4).bind fun x5 =>
    bif !x5 then
     (some (.inr (.inl ())))
    else
     (bif (Int.tmod (w64 (s1 - (f:Int))) 2) == 1 then
      ((idxL x.kids s1).bind fun x8 =>
      (F106 n x8).bind fun x9 =>
      bif !x9 then
       (some (.inr (.inl ())))
      else
       (some (.inl (w64 (s1 + 1)))))
     else
      (some (.inl (w64 (s1 + 1))))))
   else
    (bif (Int.tmod (w64 (s1 - (f:Int))) 2) == 1 then
     ((idxL x.kids s1).bind fun x11 =>
     (F106 n x11).bind fun x12 =>
     bif !x12 then
      (some (.inr (.inl ())))
     else
      (some (.inl (w64 (s1 + 1)))))
    else
     (some (.inl (w64 (s1 + 1))))))
  else
   (some (.inr (.inr ())))) (x.kids.drop f) (fun (k:Nat) (_:Unit)=>((f + k:Nat):Int)) (fun k _=>allI (fun j y=>prP j y && okT y) 0 ((x.kids.drop f).take k) = true)
  (fun r=>match r with | .inl _=>True | .inr _=>allI (fun j y=>prP j y && okT y) 0 (x.kids.drop f) = true)
  (fun k _ y hy ih=>by
   have hy':x.kids[f + k]? = some y:=by simpa using hy
   have hlt:=lt_of_get hy'
   have hltk:=lt_of_get hy
   have c1:decide (((f + k:Nat):Int) < (x.kids.length:Int)) = true:=decide_eq_true (by omega)
   have K:=hk y (List.mem_of_getElem? hy')
   have e1:w64 (((f + k:Nat):Int) - (f:Int)) = (k:Int):=by rw [w64_id (by omega) (by omega)]; omega
   have e2:Int.tmod (k:Int) 2 = ((k % 2:Nat):Int):=(Int.ofNat_tmod k 2).symm
   have e3:w64 (((f + k:Nat):Int) + 1) = ((f + (k + 1):Nat):Int):=w64_nat (by omega)
   have snoc:prP k y = true→okT y = true→allI (fun j y=>prP j y && okT y) 0 ((x.kids.drop f).take (k + 1)) = true:=fun h1 h2=>by
    rw [List.take_add_one,hy]
    show allI _ 0 (_ ++ [y]) = true
    rw [allI_snoc,ih]
    have:((x.kids.drop f).take k).length = k:=by
     rw [List.length_take]
     omega
    simp [this,h1,h2]
   simp only [c1,cond_true,e1,e2,idxL_some hy',Option.bind_some,e3]
   rcases Nat.mod_two_eq_zero_or_one k with h0 | h1
   ·rw [h0]
    obtain ⟨v,hv,hq⟩:=K.r
    simp only [hv,Option.bind_some]
    cases v
    ·exact .inr ⟨_,rfl,trivial⟩
    ·exact .inl ⟨(),rfl,snoc (by simp [prP,(hq rfl).2,isE]) (hq rfl).1⟩
   ·rw [h1]
    obtain ⟨v,hv,hq⟩:=K.e
    simp only [hv,Option.bind_some]
    cases v
    ·exact .inr ⟨_,rfl,trivial⟩
    ·exact .inl ⟨(),rfl,snoc (by simp [prP,h1,(hq rfl).2]) (hq rfl).1⟩)
  (fun _ ih=>by
   have c1:decide (((f + (x.kids.drop f).length:Nat):Int) < (x.kids.length:Int)) = false:=by simp; omega
   simp only [c1,cond_false]
   rw [List.take_length] at ih
   exact ⟨_,rfl,ih⟩) n () (by simp; omega) (by simp [allI])
 exact key
end Go.Proofs.YtbecjgckobhmpaaGreatDoor
end
section
namespace Go.Proofs.YtbecjgckobhmpaaGreatDoor
open Go Go.AM Go.Proofs
theorem idx0 {l:List Node} {y:Node} (h:l[0]? = some y):idxL l 0 = some y:=idxL_some (k:=0) h
theorem idx1 {l:List Node} {y:Node} (h:l[1]? = some y):idxL l 1 = some y:=idxL_some (k:=1) h
theorem idx2 {l:List Node} {y:Node} (h:l[2]? = some y):idxL l 2 = some y:=idxL_some (k:=2) h
theorem idx3 {l:List Node} {y:Node} (h:l[3]? = some y):idxL l 3 = some y:=idxL_some (k:=3) h
theorem levels_ok:(F73.getD []).all (fun l=>l.all (fun e=>levelI e != 0)) = true:=by kernel_rfl
theorem strEq_eq {a b:ByteArray} (h:strEq a b = true):a = b:=by
 have h':tl a = tl b:=by simpa [strEq,tl] using h
 have:=congrArg bs h'
 rwa [bs_tl,bs_tl] at this
theorem op_T {n:Nat} (hn:300≤n) (s:ByteArray) (x15:List (List ByteArray)) (h15:F73 = some x15) :
  T (iter (σ:=Bool × Int) (ρ:=Bool) (fun s16=>bif decide (s16.2 < (x15.length:Int)) then
        ((iter (σ:=Bool × Int) (ρ:=Bool) (fun s18=>(idxL x15 s16.2).bind fun x19 =>
         bif decide (s18.2 < (x19.length:Int)) then
          (bif s18.1 then
           (some (.inl (true,w64 (s18.2 + 1))))
          else
           ((idxL x15 s16.2).bind fun x22 =>
           (idxL x22 s18.2).bind fun x23 =>
           some (.inl ((strEq x23 s),w64 (s18.2 + 1)))))
         else
          (some (.inr s18.1))) n (s16.1,(0:Int))).bind fun r24 =>
        some (.inl (r24,w64 (s16.2 + 1))))
       else
        (some (.inr s16.1))) n ((strEq s (bs [61,61,62])),(0:Int))) (fun b=>b = true→levelI s≠0):=by
 have hall:∀ l ∈ x15,∀ e ∈ l,strEq e s = true→levelI s≠0:=by
  intro l hl e he h
  have h1:=levels_ok
  rw [h15] at h1
  have h2:=List.all_eq_true.1 (List.all_eq_true.1 h1 l hl) e he
  rw [← strEq_eq h]
  simpa using h2
 have hl8:x15.length = 8:=by
  have:(F73.getD []).length = 8:=by kernel_rfl
  rw [h15] at this
  exact this
 have hl4:∀ l ∈ x15,l.length≤4:=by
  have:(F73.getD []).all (fun l=>decide (l.length≤4)) = true:=by kernel_rfl
  rw [h15] at this
  intro l hl
  simpa using List.all_eq_true.1 this l hl
 refine iter_inv x15 (fun (k:Nat) (a:Bool)=>(a,(k:Int))) (fun _ a=>a = true→levelI s≠0) _ (fun k a l hl ih=>?_) (fun a ih=>?_) n _ (by omega) ?_
 ·have hlt:=lt_of_get hl
  have hm:=List.mem_of_getElem? hl
  have c1:decide ((k:Int) < (x15.length:Int)) = true:=by simpa using hlt
  have t:=iter_inv (ρ:=Bool) (step:=fun s18:Bool × Int=>(idxL x15 (k:Int)).bind fun x19 =>
         bif decide (s18.2 < (x19.length:Int)) then
          (bif s18.1 then
           (some (.inl (true,w64 (s18.2 + 1))))
          else
           ((idxL x15 (k:Int)).bind fun x22 =>
           (idxL x22 s18.2).bind fun x23 =>
           some (.inl ((strEq x23 s),w64 (s18.2 + 1)))))
         else
          (some (.inr s18.1))) l (fun (j:Nat) (a:Bool)=>(a,(j:Int))) (fun _ a=>a = true→levelI s≠0) (fun a=>a = true→levelI s≠0)
   (fun j a e he ih2=>by
    have hlt2:=lt_of_get he
    have hll:=hl4 l hm
    have c2:decide ((j:Int) < (l.length:Int)) = true:=by simpa using hlt2
    simp only [idxL_some hl,Option.bind_some,c2,cond_true,idxL_some he,w64_nat (k:=j) (by omega)]
    left
    cases a
    ·exact ⟨strEq e s,rfl,fun h=>hall l hm e (List.mem_of_getElem? he) h⟩
    ·exact ⟨true,rfl,ih2⟩)
   (fun a ih2=>⟨a,by
    have c2:decide ((l.length:Int) < (l.length:Int)) = false:=by simp
    simp only [idxL_some hl,Option.bind_some,c2,cond_false],ih2⟩) n a (by have:=hl4 l hm; omega) ih
  obtain ⟨r,hr,hq⟩:=t
  left
  refine ⟨r,?_,hq⟩
  simp only [c1,cond_true,w64_nat (k:=k) (by omega)]
  refine Eq.trans (congrArg (fun z=>Option.bind z _) hr) rfl
 ·have c1:decide ((x15.length:Int) < (x15.length:Int)) = false:=by simp
  simp only [c1,cond_false]
  exact ⟨_,rfl,ih⟩
 ·intro h
  have:=strEq_eq h
  rw [this]
  have e:levelI (bs [61,61,62]) = 2:=by kernel_rfl
  rw [e]
  decide
variable {N:Nat} {x:Node}
theorem and_t {a b:Bool} (h:(a && b) = true):a = true∧b = true:=by simpa using h
structure Kids (N M:Nat) (x:Node):Prop where
 hN:N≤9223372036854775807
 hM:N + 300≤M
 nm:Nm N x
 len:x.kids.length≤200
 kids:∀ y ∈ x.kids,Nm N y∧∀ n,M≤n→Cl n y
theorem Kids.all {M:Nat} (K:Kids N M x) {n:Nat} (hn:M≤n) (c:Int):T (F105 (n + 2) x c) (fun b=>b = true→∀ y ∈ x.kids,Cls c y) :=
 F105_T K.hN (by have:=K.hM; omega) x c (fun y hy=>⟨(K.kids y hy).1,(K.kids y hy).2 n hn⟩) K.len
theorem ref_T {M:Nat} (K:Kids N M x) {n:Nat} (hn:M + 3≤n):T (F173 n x) (fun b=>b = true→okT x = true∧x.kind = 2):=by
 obtain ⟨n,rfl⟩:∃ k,n = k + 3:=⟨n - 3,by omega⟩
 have hM:=K.hM
 show T (F173_step (F204 (n + 2)) (F203 (n + 2)) (F229 (n + 2)) (F231 (n + 2)) (F202 (n + 2)) (F173 (n + 2)) (F106 (n + 2)) (F172 (n + 2)) (F105 (n + 2)) (n + 2) x) _
 unfold F173_step
 refine T.cond (fun h=>?_) (fun _=>T.some no)
 have h:x.kind = 2:=by simpa using h
 refine (F104_T x [110] (by simp) (by omega)).bind fun v o=>T.cond (fun hv=>?_) (fun _=>T.some no)
 refine (F205k K.hN (by omega) K.nm.1).bind fun w hw=>T.cond (fun hw'=>?_) (fun _=>T.some no)
 refine T.cond (fun hl=>?_) (fun _=>T.some no)
 refine (K.all (by omega) 0).bind fun z hz=>T.some fun hz'=>?_
 have hE:=hz hz'
 have o:=o hv
 refine ⟨okT_mk (fields_of o (by simp [fldGood,h,hw hw']) (by simp [h,hasName]) (by simp) (by simp) (by simp) (by simp) (by simp)) ?_ (fun y hy=>(hE y hy).1),h⟩
 have hl':x.kids.length≤1:=by simp at hl; omega
 match hx:x.kids,hl' with
 | [],_=>simp [kidsB,leafK,h,hx]
 | [a],_ =>
  rw [hx] at hE
  have:=(hE a (by simp)).2
  simp [kidsB,leafK,h,hx,ex1,eX,this]
theorem expr_T {M:Nat} (K:Kids N M x) {n:Nat} (hn:M + 4≤n):T (F106 n x) (fun b=>b = true→okE x):=by
 obtain ⟨n,rfl⟩:∃ k,n = k + 3:=⟨n - 3,by omega⟩
 have hM:=K.hM
 have e1:∀ {k:Int},x.kind = k→(1≤k∧k≤8)→okT x = true→okE x:=fun h1 h2 h3=>⟨h3,by rw [h1]; simp [isE]; omega⟩
 have kid0:∀ {l:List Node},x.kids = l→(∀ y ∈ x.kids,Cls 0 y)→∀ y ∈ l,okE y:=fun h1 h2 y hy=>h2 y (by rw [h1]; exact hy)
 show T (F106_step (F204 (n + 2)) (F203 (n + 2)) (F229 (n + 2)) (F231 (n + 2)) (F202 (n + 2)) (F173 (n + 2)) (F106 (n + 2)) (F172 (n + 2)) (F105 (n + 2)) (n + 2) x) _
 unfold F106_step
 refine T.cond (fun h=>?_) (fun _=>T.cond (fun h=>?_) (fun _=>T.cond (fun h=>?_) (fun _=>T.cond (fun h=>?_) (fun _=>T.cond (fun h=>?_) (fun _=>T.cond (fun h=>?_) (fun _=>?_))))))
 ·have h:x.kind = 1:=by simpa using h
  refine (F104_T x [35] (by simp) (by omega)).bind fun v o=>T.some fun hb=>?_
  obtain ⟨hv,h0⟩:=and_t hb
  have o:=o hv
  exact e1 h (by omega) (leaf_ok (by simp [leafK,h]) (fields_of o (by simp [fldGood,h,o.r1]) (by simp) (by simp) (by simp [h,hasN]) (by simp) (by simp) (by simp)) (kids0 h0))
 ·have h:x.kind = 2:=by simpa using h
  exact (ref_T K (by omega)).bind fun v hv=>T.some fun hb=>e1 h (by omega) (hv hb).1
 ·have h:x.kind = 3:=by simpa using h
  refine (F104_T x [] (by simp) (by omega)).bind fun v o=>T.cond (fun hv=>?_) (fun _=>T.some no)
  obtain ⟨hv,hl⟩:=and_t hv
  obtain ⟨a,ha⟩:=list1 hl
  have i0:idxL x.kids 0 = some a:=idx0 (by simp [ha])
  rw [i0]
  simp only [Option.bind_some]
  refine (((K.kids a (by simp [ha])).2 (n + 2) (by omega)).r).bind fun w hw=>T.some fun hb=>?_
  obtain ⟨k1,k2⟩:=hw hb
  exact e1 h (by omega) (okT_mk (fields_of (o hv) (by simp [fldGood,h]) (by simp) (by simp) (by simp) (by simp) (by simp) (by simp)) (by simp [kidsB,leafK,h,ha,ex1,kX,k2]) (by rw [ha]; simpa using k1))
 ·have h:x.kind = 4:=by simpa using h
  refine (F104_T x [] (by simp) (by omega)).bind fun v o=>T.cond (fun hv=>?_) (fun _=>T.some no)
  obtain ⟨hv,hl⟩:=and_t hv
  obtain ⟨a,ha⟩:=list1 hl
  refine (K.all (by omega) 0).bind fun w hw=>T.some fun hb=>?_
  have hE:=kid0 ha (hw hb)
  have:=(hE a (by simp)).2
  exact e1 h (by omega) (okT_mk (fields_of (o hv) (by simp [fldGood,h]) (by simp) (by simp) (by simp) (by simp) (by simp) (by simp)) (by simp [kidsB,leafK,oneK,h,ha,ex1,eX,this]) (by rw [ha]; exact fun y hy=>(hE y hy).1))
 ·have h:x.kind = 5:=by simpa using h
  obtain ⟨x15,h15⟩:∃ l,F73 = some l:=⟨_,rfl⟩
  rw [h15]
  simp only [Option.bind_some]
  refine (op_T (by omega) x.name x15 h15).bind fun w hw=>T.cond (fun hw'=>?_) (fun _=>T.some no)
  refine (F104_T x [110] (by simp) (by omega)).bind fun v o=>T.cond (fun hv=>?_) (fun _=>T.some no)
  obtain ⟨hv,hl⟩:=and_t hv
  obtain ⟨a,b,ha⟩:=list2 hl
  refine (K.all (by omega) 0).bind fun w2 hw2=>T.some fun hb=>?_
  have hE:=kid0 ha (hw2 hb)
  have e2:=(hE a (by simp)).2
  have e3:=(hE b (by simp)).2
  exact e1 h (by omega) (okT_mk (fields_of (o hv) (by simp [fldGood,h,hw hw']) (by simp [h,hasName]) (by simp) (by simp) (by simp) (by simp) (by simp)) (by simp [kidsB,leafK,oneK,h,ha,ex2,eX,e2,e3]) (by rw [ha]; exact fun y hy=>(hE y hy).1))
 ·have h:x.kind = 6:=by simpa using h
  refine (F104_T x [] (by simp) (by omega)).bind fun v o=>T.cond (fun hv=>?_) (fun _=>T.some no)
  obtain ⟨hv,hl⟩:=and_t hv
  obtain ⟨a,b,c,ha⟩:=list3 hl
  refine (K.all (by omega) 0).bind fun w2 hw2=>T.some fun hb=>?_
  have hE:=kid0 ha (hw2 hb)
  have e2:=(hE a (by simp)).2
  have e3:=(hE b (by simp)).2
  have e4:=(hE c (by simp)).2
  exact e1 h (by omega) (okT_mk (fields_of (o hv) (by simp [fldGood,h]) (by simp) (by simp) (by simp) (by simp) (by simp) (by simp)) (by simp [kidsB,leafK,oneK,h,ha,ex3,eX,e2,e3,e4]) (by rw [ha]; exact fun y hy=>(hE y hy).1))
 ·simp only [some_cond,bor,Option.bind_some]
  refine T.cond (fun h=>?_) (fun _=>T.some no)
  have h:x.kind = 7∨x.kind = 8:=by simpa using h
  refine (F104_T x [110,35] (by simp) (by omega)).bind fun v o=>T.cond (fun hv=>?_) (fun _=>T.some no)
  rw [F174k K.hN (by omega) K.nm.1]
  simp only [Option.bind_some]
  refine T.cond (fun hnl=>?_) (fun _=>T.some no)
  obtain ⟨hnm,hl⟩:=and_t hnl
  obtain ⟨a,ha⟩:=list1 hl
  refine (K.all (by omega) 0).bind fun w hw=>T.some fun hb=>?_
  have hE:=kid0 ha (hw hb)
  have e2:=(hE a (by simp)).2
  have o:=o hv
  rcases h with h | h
  ·exact e1 h (by omega) (okT_mk (fields_of o (by simp [fldGood,h,hnm,o.r1]) (by simp [h,hasName]) (by simp) (by simp [h,hasN]) (by simp) (by simp) (by simp)) (by simp [kidsB,leafK,oneK,h,ha,ex1,eX,e2]) (by rw [ha]; exact fun y hy=>(hE y hy).1))
  ·exact e1 h (by omega) (okT_mk (fields_of o (by simp [fldGood,h,hnm,o.r1]) (by simp [h,hasName]) (by simp) (by simp [h,hasN]) (by simp) (by simp) (by simp)) (by simp [kidsB,leafK,oneK,h,ha,ex1,eX,e2]) (by rw [ha]; exact fun y hy=>(hE y hy).1))
theorem block_T {M:Nat} (K:Kids N M x) {n:Nat} (hn:M + 3≤n):T (F231 n x) (fun b=>b = true→okT x = true∧x.kind = 34):=by
 obtain ⟨n,rfl⟩:∃ k,n = k + 3:=⟨n - 3,by omega⟩
 have hM:=K.hM
 show T (F231_step (F204 (n + 2)) (F203 (n + 2)) (F229 (n + 2)) (F231 (n + 2)) (F202 (n + 2)) (F173 (n + 2)) (F106 (n + 2)) (F172 (n + 2)) (F105 (n + 2)) (n + 2) x) _
 unfold F231_step
 refine T.cond (fun h=>?_) (fun _=>T.some no)
 have h:x.kind = 34:=by simpa using h
 refine (F104_T x [] (by simp) (by omega)).bind fun v o=>T.cond (fun hv=>?_) (fun _=>T.some no)
 refine (K.all (by omega) 1).bind fun z hz=>T.some fun hz'=>?_
 have hE:∀ y ∈ x.kids,okT y = true∧isStmt y.kind = true:=fun y hy=>by simpa [Cls] using hz hz' y hy
 refine ⟨okT_mk (fields_of (o hv) (by simp [fldGood,h]) (by simp) (by simp) (by simp) (by simp) (by simp) (by simp)) ?_ (fun y hy=>(hE y hy).1),h⟩
 simp [kidsB,leafK,oneK,h]
 exact fun y hy=>(hE y hy).2
theorem item_T {M:Nat} (K:Kids N M x) {n:Nat} (hn:M + 3≤n):T (F204 n x) (fun b=>b = true→okT x = true∧isItm x.kind = true):=by
 obtain ⟨n,rfl⟩:∃ k,n = k + 3:=⟨n - 3,by omega⟩
 have hM:=K.hM
 show T (F204_step (F204 (n + 2)) (F203 (n + 2)) (F229 (n + 2)) (F231 (n + 2)) (F202 (n + 2)) (F173 (n + 2)) (F106 (n + 2)) (F172 (n + 2)) (F105 (n + 2)) (n + 2) x) _
 unfold F204_step
 refine T.cond (fun h=>?_) (fun _=>T.cond (fun h=>?_) (fun _=>T.some no))
 ·have h:x.kind = 60:=by simpa using h
  refine (F104_T x [110,111] (by simp) (by omega)).bind fun v o=>T.cond (fun hv=>?_) (fun _=>T.some no)
  rw [F174k K.hN (by omega) K.nm.1,F174k K.hN (by omega) K.nm.2]
  simp only [Option.bind_some]
  refine T.cond (fun hn1=>T.cond (fun hn2=>?_) (fun _=>T.some no)) (fun _=>T.some no)
  refine (K.all (by omega) 4).bind fun z hz=>T.some fun hz'=>?_
  have hE:∀ y ∈ x.kids,okT y = true∧isDecl y.kind = true:=fun y hy=>by simpa [Cls] using hz hz' y hy
  refine ⟨okT_mk (fields_of (o hv) (by simp [fldGood,h,hn1,hn2]) (by simp [h,hasName]) (by simp [h,hasOther]) (by simp) (by simp) (by simp) (by simp)) ?_ (fun y hy=>(hE y hy).1),by simp [isItm,h]⟩
  simp [kidsB,leafK,oneK,h]
  exact fun y hy=>(hE y hy).2
 ·have h:x.kind = 61:=by simpa using h
  refine (F104_T x [110,111,35] (by simp) (by omega)).bind fun v o=>T.cond (fun hv=>?_) (fun _=>T.some no)
  obtain ⟨hv,h1⟩:=and_t hv
  rw [F174k K.hN (by omega) K.nm.1]
  simp only [Option.bind_some]
  refine T.cond (fun hn1=>?_) (fun _=>T.some no)
  refine (F205k K.hN (by omega) K.nm.2).bind fun w hw=>T.cond (fun hw'=>?_) (fun _=>T.some no)
  refine (K.all (by omega) 6).bind fun z hz=>T.some fun hz'=>?_
  have hE:∀ y ∈ x.kids,okT y = true∧y.kind = 1:=fun y hy=>by simpa [Cls] using hz hz' y hy
  have o:=o hv
  have h01:x.n = 0∨x.n = 1:=by
   have:=o.r1
   simp only [inR,Bool.and_eq_true,decide_eq_true_eq] at this
   simp at h1
   omega
  refine ⟨okT_mk (fields_of o (by simp [fldGood,h,hn1,hw hw']; exact h01) (by simp [h,hasName]) (by simp [h,hasOther]) (by simp [h,hasN]) (by simp) (by simp) (by simp)) ?_ (fun y hy=>(hE y hy).1),by simp [isItm,h]⟩
  simp [kidsB,leafK,oneK,h,kX]
  exact fun y hy=>(hE y hy).2
end Go.Proofs.YtbecjgckobhmpaaGreatDoor
end
section
namespace Go.Proofs.YtbecjgckobhmpaaGreatDoor
open Go Go.AM Go.Proofs
variable {N:Nat} {x:Node}
theorem Kids.pairs {M:Nat} (K:Kids N M x) {n:Nat} (hn:M≤n) (f:Nat) (hf:f≤x.kids.length) :
  T (F229 (n + 1) x (f:Int)) (fun b=>b = true→pairsB (x.kids.drop f) = true∧∀ y ∈ x.kids.drop f,okT y = true) :=
 F229_T x f hf (fun y hy=>(K.kids y hy).2 n hn) K.len (by have:=K.hM; omega)
theorem stmt_T {M:Nat} (K:Kids N M x) {n:Nat} (hn:M + 4≤n):T (F202 n x) (fun b=>b = true→okT x = true∧isStmt x.kind = true):=by
 obtain ⟨n,rfl⟩:∃ k,n = k + 3:=⟨n - 3,by omega⟩
 have hM:=K.hM
 have e1:∀ {k:Int},x.kind = k→isStmt k = true→okT x = true→okT x = true∧isStmt x.kind = true:=fun h1 h2 h3=>⟨h3,by rw [h1]; exact h2⟩
 have kid0:∀ {l:List Node},x.kids = l→(∀ y ∈ x.kids,Cls 0 y)→∀ y ∈ l,okE y:=fun h1 h2 y hy=>h2 y (by rw [h1]; exact hy)
 have KC:∀ y ∈ x.kids,Cl (n + 2) y:=fun y hy=>(K.kids y hy).2 (n + 2) (by omega)
 show T (F202_step (F204 (n + 2)) (F203 (n + 2)) (F229 (n + 2)) (F231 (n + 2)) (F202 (n + 2)) (F173 (n + 2)) (F106 (n + 2)) (F172 (n + 2)) (F105 (n + 2)) (n + 2) x) _
 unfold F202_step
 simp only [some_cond,bor,Option.bind_some]
 refine T.cond (fun h=>?_) (fun _=>?_)
 ·have h:x.kind = 20∨x.kind = 29:=by simpa using h
  refine (F104_T x [] (by simp) (by omega)).bind fun v o=>T.cond (fun hv=>?_) (fun _=>T.some no)
  obtain ⟨hv,hl⟩:=and_t hv
  obtain ⟨a,ha⟩:=list1 hl
  refine (K.all (by omega) 0).bind fun w hw=>T.some fun hb=>?_
  have hE:=kid0 ha (hw hb)
  have e2:=(hE a (by simp)).2
  rcases h with h | h
  ·exact e1 h rfl (okT_mk (fields_of (o hv) (by simp [fldGood,h]) (by simp) (by simp) (by simp) (by simp) (by simp) (by simp)) (by simp [kidsB,leafK,oneK,h,ha,ex1,eX,e2]) (by rw [ha]; exact fun y hy=>(hE y hy).1))
  ·exact e1 h rfl (okT_mk (fields_of (o hv) (by simp [fldGood,h]) (by simp) (by simp) (by simp) (by simp) (by simp) (by simp)) (by simp [kidsB,leafK,oneK,h,ha,ex1,eX,e2]) (by rw [ha]; exact fun y hy=>(hE y hy).1))
 refine T.cond (fun h=>?_) (fun _=>?_)
 ·have h:x.kind = 26∨x.kind = 30:=by simpa using h
  refine (F104_T x [] (by simp) (by omega)).bind fun v o=>T.some fun hb=>?_
  obtain ⟨hv,h0⟩:=and_t hb
  rcases h with h | h
  ·exact e1 h rfl (leaf_ok (by simp [leafK,h]) (fields_of (o hv) (by simp [fldGood,h]) (by simp) (by simp) (by simp) (by simp) (by simp) (by simp)) (kids0 h0))
  ·exact e1 h rfl (leaf_ok (by simp [leafK,h]) (fields_of (o hv) (by simp [fldGood,h]) (by simp) (by simp) (by simp) (by simp) (by simp) (by simp)) (kids0 h0))
 refine T.cond (fun h=>?_) (fun _=>?_)
 ·have h:x.kind = 21:=by simpa using h
  refine (F104_T x [35] (by simp) (by omega)).bind fun v o=>T.cond (fun hv=>?_) (fun _=>T.some no)
  obtain ⟨hv,hl⟩:=and_t hv
  obtain ⟨hv,h1⟩:=and_t hv
  have hl2:2≤x.kids.length:=by simp at hl; omega
  refine (K.pairs (n:=n + 1) (by omega) 0 (by omega)).bind fun w hw=>T.some fun hb=>?_
  obtain ⟨p1,p2⟩:=hw hb
  simp only [List.drop_zero] at p1 p2
  have o:=o hv
  have h01:x.n = 0∨x.n = 1:=by
   have:=o.r1
   simp only [inR,Bool.and_eq_true,decide_eq_true_eq] at this
   simp at h1
   omega
  refine e1 h rfl (okT_mk (fields_of o (by simp [fldGood,h]; exact h01) (by simp) (by simp) (by simp [h,hasN]) (by simp) (by simp) (by simp)) ?_ p2)
  have hne:x.kids≠[]:=by intro e; rw [e] at hl2; simp at hl2
  simp [kidsB,leafK,oneK,h,p1,hne]
 refine T.cond (fun h=>?_) (fun _=>?_)
 ·have h:x.kind = 22:=by simpa using h
  refine (F104_T x [] (by simp) (by omega)).bind fun v o=>T.cond (fun hv=>?_) (fun _=>T.some no)
  obtain ⟨hv,hl⟩:=and_t hv
  have hl1:1≤x.kids.length:=by simp at hl; omega
  obtain ⟨a,r,ha⟩:∃ a r,x.kids = a :: r:=by
   cases hx:x.kids with
   | nil=>rw [hx] at hl1; simp at hl1
   | cons a r=>exact ⟨a,r,rfl⟩
  have i0:idxL x.kids 0 = some a:=idx0 (by simp [ha])
  rw [i0]
  simp only [Option.bind_some]
  have fin:∀ w:Bool,(w = true→pairsB (x.kids.drop 1) = true∧∀ y ∈ x.kids.drop 1,okT y = true)→w = true→okT a = true→(isE a.kind = true∨a.kind = 63)→okT x = true∧isStmt x.kind = true:=by
   intro w hw hb hta hka
   obtain ⟨p1,p2⟩:=hw hb
   rw [ha] at p1 p2
   simp only [List.drop_succ_cons,List.drop_zero] at p1 p2
   refine e1 h rfl (okT_mk (fields_of (o hv) (by simp [fldGood,h]) (by simp) (by simp) (by simp) (by simp) (by simp) (by simp)) ?_ ?_)
   ·simp [kidsB,leafK,oneK,h,ha,atomK,enX,p1]
    exact hka
   ·rw [ha]
    intro y hy
    rcases List.mem_cons.1 hy with rfl | hy
    ·exact hta
    ·exact p2 y hy
  refine (F230_T (by omega) a).bind fun w hw=>T.cond (fun hw'=>?_) (fun _=>?_)
  ·refine (K.pairs (n:=n + 1) (by omega) 1 hl1).bind fun w2 hw2=>T.some fun hb=>fin w2 hw2 hb (hw hw').1 (.inr (hw hw').2)
  ·refine ((KC a (by simp [ha])).e).bind fun w hw=>T.cond (fun hw'=>?_) (fun _=>T.some no)
   refine (K.pairs (n:=n + 1) (by omega) 1 hl1).bind fun w2 hw2=>T.some fun hb=>fin w2 hw2 hb (hw hw').1 (.inl (hw hw').2)
 refine T.cond (fun h=>?_) (fun _=>?_)
 ·have h:x.kind = 23:=by simpa using h
  refine (F104_T x [] (by simp) (by omega)).bind fun v o=>T.cond (fun hv=>?_) (fun _=>T.some no)
  obtain ⟨hv,hl⟩:=and_t hv
  have hl4:4≤x.kids.length:=by simp at hl; omega
  obtain ⟨a,b,c,d,r,ha⟩:∃ a b c d r,x.kids = a :: b :: c :: d :: r:=by
   match hx:x.kids,hl4 with
   | a :: b :: c :: d :: r,_=>exact ⟨a,b,c,d,r,rfl⟩
  have i0:idxL x.kids 0 = some a:=idx0 (by simp [ha])
  have i1:idxL x.kids 1 = some b:=idx1 (by simp [ha])
  have i2:idxL x.kids 2 = some c:=idx2 (by simp [ha])
  have i3:idxL x.kids 3 = some d:=idx3 (by simp [ha])
  rw [i0,i1,i2,i3]
  simp only [Option.bind_some]
  refine ((KC a (by simp [ha])).r).bind fun w1 h1=>T.cond (fun h1'=>?_) (fun _=>T.some no)
  refine ((KC b (by simp [ha])).e).bind fun w2 h2=>T.cond (fun h2'=>?_) (fun _=>T.some no)
  refine ((KC c (by simp [ha])).e).bind fun w3 h3=>T.cond (fun h3'=>?_) (fun _=>T.some no)
  refine ((KC d (by simp [ha])).r).bind fun w4 h4=>T.cond (fun h4'=>?_) (fun _=>T.some no)
  refine (K.pairs (n:=n + 1) (by omega) 4 hl4).bind fun w5 h5=>T.some fun hb=>?_
  obtain ⟨p1,p2⟩:=h5 hb
  rw [ha] at p1 p2
  simp only [List.drop_succ_cons,List.drop_zero] at p1 p2
  refine e1 h rfl (okT_mk (fields_of (o hv) (by simp [fldGood,h]) (by simp) (by simp) (by simp) (by simp) (by simp) (by simp)) ?_ ?_)
  ·simp [kidsB,leafK,oneK,h,ha,casK,kX,eX,p1,(h1 h1').2,(h2 h2').2,(h3 h3').2,(h4 h4').2]
  ·rw [ha]
   intro y hy
   simp only [List.mem_cons] at hy
   rcases hy with rfl | rfl | rfl | rfl | hy
   ·exact (h1 h1').1
   ·exact (h2 h2').1
   ·exact (h3 h3').1
   ·exact (h4 h4').1
   ·exact p2 y hy
 refine T.cond (fun h=>?_) (fun _=>?_)
 ·have h:x.kind = 24∨x.kind = 25:=by simpa using h
  refine (F104_T x [110] (by simp) (by omega)).bind fun v o=>T.cond (fun hv=>?_) (fun _=>T.some no)
  refine (F205k K.hN (by omega) K.nm.1).bind fun w hw=>T.some fun hb=>?_
  obtain ⟨hw',h0⟩:=and_t hb
  rcases h with h | h
  ·exact e1 h rfl (leaf_ok (by simp [leafK,h]) (fields_of (o hv) (by simp [fldGood,h,hw hw']) (by simp [h,hasName]) (by simp) (by simp) (by simp) (by simp) (by simp)) (kids0 h0))
  ·exact e1 h rfl (leaf_ok (by simp [leafK,h]) (fields_of (o hv) (by simp [fldGood,h,hw hw']) (by simp [h,hasName]) (by simp) (by simp) (by simp) (by simp) (by simp)) (kids0 h0))
 refine T.cond (fun h=>?_) (fun _=>?_)
 ·have h:x.kind = 27∨x.kind = 28:=by simpa using h
  refine (F104_T x [110] (by simp) (by omega)).bind fun v o=>T.cond (fun hv=>?_) (fun _=>T.some no)
  rw [F174k K.hN (by omega) K.nm.1]
  simp only [Option.bind_some]
  refine T.some fun hb=>?_
  obtain ⟨hw',h0⟩:=and_t hb
  rcases h with h | h
  ·exact e1 h rfl (leaf_ok (by simp [leafK,h]) (fields_of (o hv) (by simp [fldGood,h,hw']) (by simp [h,hasName]) (by simp) (by simp) (by simp) (by simp) (by simp)) (kids0 h0))
  ·exact e1 h rfl (leaf_ok (by simp [leafK,h]) (fields_of (o hv) (by simp [fldGood,h,hw']) (by simp [h,hasName]) (by simp) (by simp) (by simp) (by simp) (by simp)) (kids0 h0))
 refine T.cond (fun h=>?_) (fun _=>?_)
 ·have h:x.kind = 31:=by simpa using h
  refine (F104_T x [] (by simp) (by omega)).bind fun v o=>T.cond (fun hv=>?_) (fun _=>T.some no)
  obtain ⟨hv,hl⟩:=and_t hv
  obtain ⟨a,b,c,ha⟩:=list3 hl
  have i0:idxL x.kids 0 = some a:=idx0 (by simp [ha])
  have i1:idxL x.kids 1 = some b:=idx1 (by simp [ha])
  have i2:idxL x.kids 2 = some c:=idx2 (by simp [ha])
  rw [i0,i1,i2]
  simp only [Option.bind_some]
  refine ((KC a (by simp [ha])).e).bind fun w1 h1=>T.cond (fun h1'=>?_) (fun _=>T.some no)
  refine ((KC b (by simp [ha])).b).bind fun w2 h2=>T.cond (fun h2'=>?_) (fun _=>T.some no)
  refine ((KC c (by simp [ha])).b).bind fun w3 h3=>T.some fun h3'=>?_
  refine e1 h rfl (okT_mk (fields_of (o hv) (by simp [fldGood,h]) (by simp) (by simp) (by simp) (by simp) (by simp) (by simp)) (by simp [kidsB,leafK,oneK,h,ha,ex3,eX,kX,(h1 h1').2,(h2 h2').2,(h3 h3').2]) ?_)
  rw [ha]
  intro y hy
  simp only [List.mem_cons,List.not_mem_nil,or_false] at hy
  rcases hy with rfl | rfl | rfl
  ·exact (h1 h1').1
  ·exact (h2 h2').1
  ·exact (h3 h3').1
 refine T.cond (fun h=>?_) (fun _=>?_)
 ·have h:x.kind = 32:=by simpa using h
  refine (F104_T x [] (by simp) (by omega)).bind fun v o=>T.cond (fun hv=>?_) (fun _=>T.some no)
  obtain ⟨hv,hl⟩:=and_t hv
  obtain ⟨a,b,c,ha⟩:=list3 hl
  have i0:idxL x.kids 0 = some a:=idx0 (by simp [ha])
  have i1:idxL x.kids 1 = some b:=idx1 (by simp [ha])
  have i2:idxL x.kids 2 = some c:=idx2 (by simp [ha])
  rw [i0,i1,i2]
  simp only [Option.bind_some]
  have fin:okE a→okT b = true→(isE b.kind = true∨b.kind = 63)→okT c = true∧c.kind = 34→okT x = true∧isStmt x.kind = true:=by
   intro h1 h2 h3 h4
   refine e1 h rfl (okT_mk (fields_of (o hv) (by simp [fldGood,h]) (by simp) (by simp) (by simp) (by simp) (by simp) (by simp)) (by simp [kidsB,leafK,oneK,h,ha,ex3,eX,enX,kX,h1.2,h4.2]; exact h3) ?_)
   rw [ha]
   intro y hy
   simp only [List.mem_cons,List.not_mem_nil,or_false] at hy
   rcases hy with rfl | rfl | rfl
   ·exact h1.1
   ·exact h2
   ·exact h4.1
  refine ((KC a (by simp [ha])).e).bind fun w1 h1=>T.cond (fun h1'=>?_) (fun _=>T.some no)
  refine (F230_T (by omega) b).bind fun w2 h2=>T.cond (fun h2'=>?_) (fun _=>?_)
  ·exact ((KC c (by simp [ha])).b).bind fun w3 h3=>T.some fun h3'=>fin (h1 h1') (h2 h2').1 (.inr (h2 h2').2) (h3 h3')
  ·refine ((KC b (by simp [ha])).e).bind fun w2 h2=>T.cond (fun h2'=>?_) (fun _=>T.some no)
   exact ((KC c (by simp [ha])).b).bind fun w3 h3=>T.some fun h3'=>fin (h1 h1') (h2 h2').1 (.inl (h2 h2').2) (h3 h3')
 refine T.cond (fun h=>?_) (fun _=>?_)
 ·have h:x.kind = 33:=by simpa using h
  refine (F104_T x [110] (by simp) (by omega)).bind fun v o=>T.cond (fun hv=>?_) (fun _=>T.some no)
  refine (F205k K.hN (by omega) K.nm.1).bind fun w hw=>T.cond (fun hw'=>?_) (fun _=>T.some no)
  refine (K.all (by omega) 0).bind fun z hz=>T.some fun hz'=>?_
  have hE:=kid0 rfl (hz hz')
  refine e1 h rfl (okT_mk (fields_of (o hv) (by simp [fldGood,h,hw hw']) (by simp [h,hasName]) (by simp) (by simp) (by simp) (by simp) (by simp)) ?_ (fun y hy=>(hE y hy).1))
  simp [kidsB,leafK,oneK,h]
  exact fun y hy=>(hE y hy).2
 refine T.cond (fun h=>?_) (fun _=>T.some no)
 have h:x.kind = 35:=by simpa using h
 refine (F104_T x [110,35,103] (by simp) (by omega)).bind fun v o=>T.cond (fun hv=>?_) (fun _=>T.some no)
 rw [F174k K.hN (by omega) K.nm.1]
 simp only [Option.bind_some]
 refine T.some fun hb=>?_
 obtain ⟨hw',h0⟩:=and_t hb
 have o:=o hv
 exact e1 h rfl (leaf_ok (by simp [leafK,h]) (fields_of o (by simp [fldGood,h,hw',o.r1]) (by simp [h,hasName]) (by simp) (by simp [h,hasN]) (by simp) (by simp) (by simp [h])) (kids0 h0))
theorem decl_T {M:Nat} (K:Kids N M x) {n:Nat} (hn:M + 4≤n):T (F203 n x) (fun b=>b = true→okT x = true∧isDecl x.kind = true):=by
 obtain ⟨n,rfl⟩:∃ k,n = k + 3:=⟨n - 3,by omega⟩
 have hM:=K.hM
 have hlen:=K.len
 have e1:∀ {k:Int},x.kind = k→isDecl k = true→okT x = true→okT x = true∧isDecl x.kind = true:=fun h1 h2 h3=>⟨h3,by rw [h1]; exact h2⟩
 have kid0:∀ {l:List Node},x.kids = l→(∀ y ∈ x.kids,Cls 0 y)→∀ y ∈ l,okE y:=fun h1 h2 y hy=>h2 y (by rw [h1]; exact hy)
 have KC:∀ y ∈ x.kids,Cl (n + 2) y:=fun y hy=>(K.kids y hy).2 (n + 2) (by omega)
 show T (F203_step (F204 (n + 2)) (F203 (n + 2)) (F229 (n + 2)) (F231 (n + 2)) (F202 (n + 2)) (F173 (n + 2)) (F106 (n + 2)) (F172 (n + 2)) (F105 (n + 2)) (n + 2) x) _
 unfold F203_step
 refine T.cond (fun h=>?_) (fun _=>?_)
 ·have h:x.kind = 51:=by simpa using h
  refine (F104_T x [110] (by simp) (by omega)).bind fun v o=>T.cond (fun hv=>?_) (fun _=>T.some no)
  rw [F174k K.hN (by omega) K.nm.1]
  simp only [Option.bind_some]
  refine T.cond (fun hn1=>?_) (fun _=>T.some no)
  refine (K.all (by omega) 2).bind fun z hz=>T.some fun hz'=>?_
  have hE:∀ y ∈ x.kids,okT y = true∧y.kind = 52:=fun y hy=>by simpa [Cls] using hz hz' y hy
  refine e1 h rfl (okT_mk (fields_of (o hv) (by simp [fldGood,h,hn1]) (by simp [h,hasName]) (by simp) (by simp) (by simp) (by simp) (by simp)) ?_ (fun y hy=>(hE y hy).1))
  simp [kidsB,leafK,oneK,h,kX]
  exact fun y hy=>(hE y hy).2
 refine T.cond (fun h=>?_) (fun _=>?_)
 ·have h:x.kind = 50:=by simpa using h
  refine (F104_T x [110,111,35,108,105,103] (by simp) (by omega)).bind fun v o=>T.cond (fun hv=>?_) (fun _=>T.some no)
  rw [F174k K.hN (by omega) K.nm.1,F174k K.hN (by omega) K.nm.2]
  simp only [Option.bind_some]
  have o:=o hv
  refine T.cond (fun hn1=>T.cond (fun hoe=>T.some fun h0=>?_) (fun _=>T.cond (fun hn0=>T.some fun hb=>?_) (fun _=>T.some no))) (fun _=>T.some no)
  ·exact e1 h rfl (leaf_ok (by simp [leafK,h]) (fields_of o (by simp [fldGood,h,hn1,o.r1,o.r2,o.r3,hoe]) (by simp [h,hasName]) (by simp [h,hasOther]) (by simp [h,hasN]) (by simp [h]) (by simp [h]) (by simp [h])) (kids0 h0))
  ·obtain ⟨hn2,h0⟩:=and_t hb
   have hn0':x.n = 0:=by simpa using hn0
   have r1:=o.r1
   exact e1 h rfl (leaf_ok (by simp [leafK,h]) (fields_of o (by simp [fldGood,h,hn1,o.r1,o.r2,o.r3,hn2]; exact .inr hn0') (by simp [h,hasName]) (by simp [h,hasOther]) (by simp [h,hasN]) (by simp [h]) (by simp [h]) (by simp [h])) (kids0 h0))
 refine T.cond (fun h=>?_) (fun _=>?_)
 ·have h:x.kind = 53:=by simpa using h
  refine (F104_T x [110] (by simp) (by omega)).bind fun v o=>T.cond (fun hv=>?_) (fun _=>T.some no)
  rw [F174k K.hN (by omega) K.nm.1]
  simp only [Option.bind_some]
  refine T.cond (fun hnl=>?_) (fun _=>T.some no)
  obtain ⟨hn1,hl⟩:=and_t hnl
  obtain ⟨a,ha⟩:=list1 hl
  refine (K.all (by omega) 0).bind fun w hw=>T.some fun hb=>?_
  have hE:=kid0 ha (hw hb)
  have e2:=(hE a (by simp)).2
  exact e1 h rfl (okT_mk (fields_of (o hv) (by simp [fldGood,h,hn1]) (by simp [h,hasName]) (by simp) (by simp) (by simp) (by simp) (by simp)) (by simp [kidsB,leafK,oneK,h,ha,ex1,eX,e2]) (by rw [ha]; exact fun y hy=>(hE y hy).1))
 simp only [some_cond,bor,Option.bind_some]
 refine T.cond (fun h=>?_) (fun _=>?_)
 ·have h:x.kind = 54∨x.kind = 55:=by simpa using h
  refine (F104_T x [] (by simp) (by omega)).bind fun v o=>T.cond (fun hv=>?_) (fun _=>T.some no)
  obtain ⟨hv,hl⟩:=and_t hv
  obtain ⟨a,ha⟩:=list1 hl
  refine (K.all (by omega) 0).bind fun w hw=>T.some fun hb=>?_
  have hE:=kid0 ha (hw hb)
  have e2:=(hE a (by simp)).2
  rcases h with h | h
  ·exact e1 h rfl (okT_mk (fields_of (o hv) (by simp [fldGood,h]) (by simp) (by simp) (by simp) (by simp) (by simp) (by simp)) (by simp [kidsB,leafK,oneK,h,ha,ex1,eX,e2]) (by rw [ha]; exact fun y hy=>(hE y hy).1))
  ·exact e1 h rfl (okT_mk (fields_of (o hv) (by simp [fldGood,h]) (by simp) (by simp) (by simp) (by simp) (by simp) (by simp)) (by simp [kidsB,leafK,oneK,h,ha,ex1,eX,e2]) (by rw [ha]; exact fun y hy=>(hE y hy).1))
 refine T.cond (fun h=>?_) (fun _=>?_)
 ·have h:x.kind = 56:=by simpa using h
  refine (F104_T x [] (by simp) (by omega)).bind fun v o=>T.cond (fun hv=>?_) (fun _=>T.some no)
  obtain ⟨hv,hl⟩:=and_t hv
  refine (K.all (by omega) 7).bind fun w hw=>T.some fun hb=>?_
  have hE:∀ y ∈ x.kids,okT y = true∧y.kind = 2∧y.kids = []:=fun y hy=>by simpa [Cls] using hw hb y hy
  have hne:x.kids≠[]:=by intro e; rw [e] at hl; simp at hl
  refine e1 h rfl (okT_mk (fields_of (o hv) (by simp [fldGood,h]) (by simp) (by simp) (by simp) (by simp) (by simp) (by simp)) ?_ (fun y hy=>(hE y hy).1))
  simp [kidsB,leafK,oneK,h,hne,plainX]
  exact fun y hy=>(hE y hy).2
 refine T.cond (fun h=>?_) (fun _=>T.some no)
 have h:x.kind = 57:=by simpa using h
 by_cases hne:x.kids = []
 ·have c1:((x.kids.length:Int) == 0) = true:=by simp [hne]
  rw [c1]
  exact T.some no
 have c1:((x.kids.length:Int) == 0) = false:=by
  have:0 < x.kids.length:=List.length_pos_iff.2 hne
  exact nbeq (by omega)
 have i1:=idx_last hne (by omega)
 have s1:=sub_last hne (by omega)
 rw [c1,i1,s1,F174k K.hN (by omega) K.nm.1,F174k K.hN (by omega) K.nm.2]
 simp only [cond_false,Option.bind_some]
 have hbm:x.kids.getLast hne ∈ x.kids:=List.getLast_mem hne
 refine T.bind (P:=fun r=>match r with
  | .inl _=>True
  | .inr _=>Only [110,111] x∧nameB (tl x.name) = true∧(strEq x.other (bs []) = true∨nameB (tl x.other) = true)∧okT (x.kids.getLast hne) = true∧(x.kids.getLast hne).kind = 34) ?_ (fun r hr=>?_)
 ·refine (F104_T x [110,111] (by simp) (by omega)).bind fun v o=>T.cond (fun _=>T.some trivial) (fun hv=>?_)
  have hv:v = true:=by simpa using hv
  refine T.cond (fun _=>T.some trivial) (fun hn1=>?_)
  have hn1:nameB (tl x.name) = true:=by simpa using hn1
  refine T.cond (fun _=>?_) (fun hoe=>?_)
  ·refine T.cond (fun _=>T.some trivial) (fun hn2=>?_)
   have hn2:nameB (tl x.other) = true:=by simpa using hn2
   refine ((KC _ hbm).b).bind fun w hw=>?_
   cases w
   ·exact T.some trivial
   ·exact T.some ⟨o hv,hn1,.inr hn2,hw rfl⟩
  ·have hoe:strEq x.other (bs []) = true:=by simpa using hoe
   refine ((KC _ hbm).b).bind fun w hw=>?_
   cases w
   ·exact T.some trivial
   ·exact T.some ⟨o hv,hn1,.inl hoe,hw rfl⟩
 ·cases r with
  | inl _=>exact T.some no
  | inr _ =>
   obtain ⟨o,hn1,hn2,hb1,hb2⟩:=hr
   have hsub:∀ y ∈ x.kids.dropLast,y ∈ x.kids:=fun y hy=>List.dropLast_subset _ hy
   have t:=F105_T K.hN (n:=n) (by omega) (Node.mk 0 (bs []) (bs []) 0 0 0 false x.kids.dropLast 0) 3 (fun y hy=>⟨(K.kids y (hsub y hy)).1,(K.kids y (hsub y hy)).2 n (by omega)⟩) (by simp; omega)
   refine t.bind fun w hw=>T.some fun hb=>?_
   have hE:∀ y ∈ x.kids.dropLast,okT y = true∧y.kind = 58:=fun y hy=>by simpa [Cls] using hw hb y hy
   refine e1 h rfl (okT_mk (fields_of o (by simp [fldGood,h,hn1]; exact hn2) (by simp [h,hasName]) (by simp [h,hasOther]) (by simp) (by simp) (by simp) (by simp)) ?_ ?_)
   ·simp [kidsB,leafK,oneK,h,procK,List.getLast?_eq_some_getLast hne,hb2,kX]
    exact fun y hy=>(hE y hy).2
   ·intro y hy
    rw [← List.dropLast_concat_getLast hne] at hy
    simp only [List.mem_append,List.mem_singleton] at hy
    rcases hy with hy | rfl
    ·exact (hE y hy).1
    ·exact hb1
theorem cl_all {b:Nat} (hb:b≤9223372036854775807):∀ (m:Nat) (x:Node),sz x≤m→sz x≤200→Lim b x→∀ n,b + 300 + 8 * sz x≤n→Cl n x:=by
 intro m
 induction m with
 | zero=>intro x hx; have:=sz_pos x; omega
 | succ m ih =>
  intro x hx h200 hlim n hn
  obtain ⟨_,h1,h2,h3,h4⟩:=hlim
  have hsz:=sz_eq x
  have hlen:=szs_len x.kids
  have hpos:=sz_pos x
  have K:Kids b (b + 300 + 8 * (sz x - 1)) x:=⟨hb,by omega,⟨h1,h2⟩,by omega,fun y hy=>by
   have hys:=szs_mem x.kids y hy
   have hl:=h4 y hy
   refine ⟨?_,fun n' hn'=>ih y (by omega) (by omega) hl n' (by omega)⟩
   cases hl with
   | mk _ a1 a2 _ _=>exact ⟨a1,a2⟩⟩
  exact ⟨expr_T K (by omega),ref_T K (by omega),stmt_T K (by omega),block_T K (by omega),decl_T K (by omega),item_T K (by omega)⟩
end Go.Proofs.YtbecjgckobhmpaaGreatDoor
end
section
namespace Go.Proofs.YtbecjgckobhmpaaGreatDoor
open Go Go.AM Go.Proofs
def ltr (b:UInt8):Bool:=(decide (65≤b.toNat) && decide (b.toNat≤90)) || (decide (97≤b.toNat) && decide (b.toNat≤122))
def dgt (b:UInt8):Bool:=decide (48≤b.toNat) && decide (b.toNat≤57)
def wrd (b:UInt8):Bool:=ltr b || (dgt b || b.toNat == 95)
def wht (b:UInt8):Bool:=b.toNat == 32 || (b.toNat == 9 || (b.toNat == 10 || b.toNat == 13))
def nol (b:UInt8):Bool:=b.toNat != 10
def two (l:List UInt8):Bool:=([47,47]:List UInt8).isPrefixOf l
def skp:Bool→List UInt8→List UInt8
 | _,[]=>[]
 | true,b :: l=>if nol b then skp true l else skp false l
 | false,b :: l=>if wht b then skp false l else if two (b :: l) then skp true l else b :: l
theorem skp_nil (c:Bool):skp c [] = []:=by cases c <;> rfl
theorem skp_wht:∀ l,skp false l = skp false (l.dropWhile wht)
 | []=>rfl
 | b :: l=>by
  rw [List.dropWhile_cons]
  split
  ·rename_i h
   simp only [skp,h,if_true]
   exact skp_wht l
  ·rfl
theorem wht_nol {b:UInt8} (h:¬ nol b = true):wht b = true:=by
 simp [nol] at h
 simp [wht,h]
theorem skp_cmt:∀ l,skp true l = skp false (l.dropWhile nol)
 | []=>rfl
 | b :: l=>by
  rw [List.dropWhile_cons]
  split
  ·rename_i h
   simp only [skp,h,if_true]
   exact skp_cmt l
  ·rename_i h
   simp only [skp,wht_nol h,if_true]
   rw [if_neg h]
theorem two_cons {b:UInt8} {l:List UInt8} (h:two (b :: l) = true):b = 47:=by
 simp [two,List.isPrefixOf] at h
 exact h.1.symm
theorem skp_two:∀ l,two l = true→skp false l = skp false (l.dropWhile nol)
 | [],h=>by simp [two] at h
 | b :: l,h=>by
  have hb:=two_cons h
  subst hb
  have h1:wht 47 = false:=by decide
  have h2:nol 47 = true:=by decide
  rw [List.dropWhile_cons,if_pos h2,← skp_cmt]
  simp [skp,h1,h]
theorem skp_fix:∀ l,l.takeWhile wht = []→two l = false→skp false l = l
 | [],_,_=>rfl
 | b :: l,h1,h2=>by
  rw [List.takeWhile_cons] at h1
  split at h1
  ·cases h1
  ·rename_i h
   simp only [skp,h2]
   rw [if_neg h]
   rfl
theorem skp_suf:∀ (l:List UInt8) (c:Bool),∃ p,l = p ++ skp c l
 | [],c=>⟨[],by rw [skp_nil]; rfl⟩
 | b :: l,true=>by
  simp only [skp]
  split
  ·obtain ⟨p,hp⟩:=skp_suf l true
   exact ⟨b :: p,by rw [List.cons_append,← hp]⟩
  ·obtain ⟨p,hp⟩:=skp_suf l false
   exact ⟨b :: p,by rw [List.cons_append,← hp]⟩
 | b :: l,false=>by
  simp only [skp]
  split
  ·obtain ⟨p,hp⟩:=skp_suf l false
   exact ⟨b :: p,by rw [List.cons_append,← hp]⟩
  ·split
   ·obtain ⟨p,hp⟩:=skp_suf l true
    exact ⟨b :: p,by rw [List.cons_append,← hp]⟩
   ·exact ⟨[],rfl⟩
theorem skp_len (c:Bool) (l:List UInt8):(skp c l).length≤l.length:=by
 obtain ⟨p,hp⟩:=skp_suf l c
 have:=congrArg List.length hp
 rw [List.length_append] at this
 omega
theorem take_tw {α:Type} (p:α→Bool):∀ l:List α,l.take (l.takeWhile p).length = l.takeWhile p
 | []=>rfl
 | b :: l=>by
  rw [List.takeWhile_cons]
  split
  ·rw [List.length_cons,List.take_succ_cons,take_tw p l]
  ·rfl
theorem drop_tw {α:Type} (p:α→Bool):∀ l:List α,l.drop (l.takeWhile p).length = l.dropWhile p
 | []=>rfl
 | b :: l=>by
  rw [List.takeWhile_cons,List.dropWhile_cons]
  split
  ·rw [List.length_cons,List.drop_succ_cons,drop_tw p l]
  ·rfl
theorem mem_tw {α:Type} {p:α→Bool} {y:α}:∀ {l:List α},y ∈ l.takeWhile p→p y = true
 | [],h=>by cases h
 | b :: l,h=>by
  rw [List.takeWhile_cons] at h
  split at h
  ·rename_i hb
   rcases List.mem_cons.1 h with rfl | h
   ·exact hb
   ·exact mem_tw h
  ·cases h
theorem len_tw {α:Type} (p:α→Bool) (l:List α):(l.takeWhile p).length≤l.length:=by
 have:=congrArg List.length (List.takeWhile_append_dropWhile (p:=p) (l:=l))
 rw [List.length_append] at this
 omega
def symL:List (List UInt8):=[[61,61,62],[61,61],[58,61],[33,61],[60,61],[38,38],[124,124],[123],[125],[40],[41],[91],[93],[59],[58],[44],[46],[63],[61],[33],[60],[38],[124],[94],[43],[45],[42]]
theorem symL_ok:∀ t ∈ symL,1≤t.length∧t.length≤3∧∀ y ∈ t,y≠10:=by decide
def numOk (b:UInt8) (l:List UInt8):Bool :=
 decide ((l.takeWhile dgt).length≤9) && (((b.toNat != 48) || (l.takeWhile dgt).length == 1) && (l.dropWhile dgt).head?.all (fun c=>!wrd c))
def tokL:List UInt8→Option (Nat × Nat)
 | []=>none
 | b :: l =>
  bif ltr b then (bif decide (((b :: l).takeWhile wrd).length≤16) then some (1,((b :: l).takeWhile wrd).length) else none)
  else bif dgt b then (bif numOk b (b :: l) then some (2,((b :: l).takeWhile dgt).length) else none)
  else (symL.find? (fun t=>t.isPrefixOf (b :: l))).map fun t=>(3,t.length)
theorem tokL_cons (b:UInt8) (l:List UInt8):tokL (b :: l) =
  (bif ltr b then (bif decide (((b :: l).takeWhile wrd).length≤16) then some (1,((b :: l).takeWhile wrd).length) else none)
  else bif dgt b then (bif numOk b (b :: l) then some (2,((b :: l).takeWhile dgt).length) else none)
  else (symL.find? (fun t=>t.isPrefixOf (b :: l))).map fun t=>(3,t.length)):=rfl
theorem tokL_spec {l:List UInt8} {k m:Nat} (h:tokL l = some (k,m)):1≤m∧m≤l.length∧(∀ y ∈ l.take m,y≠10)∧1≤k∧k≤3:=by
 cases l with
 | nil=>cases h
 | cons b l =>
  rw [tokL_cons] at h
  cases h1:ltr b
  ·rw [h1,cond_false] at h
   cases h2:dgt b
   ·rw [h2,cond_false] at h
    cases h3:symL.find? (fun t=>t.isPrefixOf (b :: l)) with
    | none=>rw [h3] at h; cases h
    | some t =>
     rw [h3] at h
     simp only [Option.map_some,Option.some.injEq,Prod.mk.injEq] at h
     obtain ⟨rfl,rfl⟩:=h
     have hm:=List.mem_of_find?_eq_some h3
     have hp:=List.find?_some h3
     obtain ⟨r,hr⟩:=List.isPrefixOf_iff_prefix.1 hp
     have hs:=symL_ok t hm
     rw [← hr]
     refine ⟨hs.1,by rw [List.length_append]; omega,?_,by omega,by omega⟩
     rw [List.take_left]
     exact hs.2.2
   ·rw [h2,cond_true] at h
    cases h3:numOk b (b :: l)
    ·rw [h3] at h; cases h
    ·rw [h3,cond_true] at h
     simp only [Option.some.injEq,Prod.mk.injEq] at h
     obtain ⟨rfl,rfl⟩:=h
     refine ⟨?_,len_tw _ _,?_,by omega,by omega⟩
     ·rw [List.takeWhile_cons,if_pos h2]; simp
     ·rw [take_tw]
      intro y hy e
      subst e
      have:=mem_tw hy
      revert this
      decide
  ·rw [h1,cond_true] at h
   cases h3:decide (((b :: l).takeWhile wrd).length≤16)
   ·rw [h3] at h; cases h
   ·rw [h3,cond_true] at h
    simp only [Option.some.injEq,Prod.mk.injEq] at h
    obtain ⟨rfl,rfl⟩:=h
    refine ⟨?_,len_tw _ _,?_,by omega,by omega⟩
    ·rw [List.takeWhile_cons,if_pos (by simp [wrd,h1])]; simp
    ·rw [take_tw]
     intro y hy e
     subst e
     have:=mem_tw hy
     revert this
     decide
def consT (t:Token):List Token ⊕ (Int × Int)→List Token ⊕ (Int × Int)
 | .inl ts=>.inl (t :: ts)
 | .inr e=>.inr e
def lexS (N:Nat) (g:List UInt8→List Token ⊕ (Int × Int)) (c:Nat):List UInt8→List Token ⊕ (Int × Int)
 | []=>.inl []
 | b :: r=>if c = 1500 then .inr (2,((N - (b :: r).length:Nat):Int)) else
  match tokL (b :: r) with
  | none=>.inr (10,((N - (b :: r).length:Nat):Int))
  | some km=>consT ⟨(km.1:Int),bs ((b :: r).take km.2),((N - (b :: r).length:Nat):Int)⟩ (g ((b :: r).drop km.2))
def lexG (N:Nat):Nat→Nat→List UInt8→List Token ⊕ (Int × Int)
 | 0,_,_=>.inl []
 | f + 1,c,l=>lexS N (lexG N f (c + 1)) c (skp false l)
end Go.Proofs.YtbecjgckobhmpaaGreatDoor
end
section
namespace Go.Proofs.YtbecjgckobhmpaaGreatDoor
open Go Go.AM Go.Proofs
abbrev Tk:=Nat × Bytes
def tkn:Nat→Bytes→Option (List Tk)
 | 0,_=>none
 | f + 1,l=>match skp false l with
  | []=>some []
  | b :: r=>match tokL (b :: r) with
   | none=>none
   | some km=>(tkn f ((b :: r).drop km.2)).map ((km.1,(b :: r).take km.2) :: ·)
def tk (l:Bytes):Option (List Tk):=tkn (l.length + 1) l
theorem tkn_fuel:∀ (f f':Nat) (l:Bytes),l.length < f→l.length < f'→tkn f l = tkn f' l:=by
 intro f
 induction f with
 | zero=>intro f' l h; omega
 | succ f ih =>
  intro f' l h h'
  cases f' with
  | zero=>omega
  | succ f' =>
   simp only [tkn]
   have hk:=skp_len false l
   cases hs:skp false l with
   | nil=>rfl
   | cons b r =>
    rw [hs] at hk
    cases ht:tokL (b :: r) with
    | none=>simp only [ht]
    | some km =>
     have hm:=tokL_spec ht
     simp only [ht]
     have hd:=List.length_drop (i:=km.2) (l:=b :: r)
     rw [ih f' _ (by omega) (by omega)]
theorem tk_eq (l:Bytes):tk l = match skp false l with
  | []=>some []
  | b :: r=>match tokL (b :: r) with
   | none=>none
   | some km=>(tk ((b :: r).drop km.2)).map ((km.1,(b :: r).take km.2) :: ·):=by
 have hk:=skp_len false l
 unfold tk
 rw [tkn]
 cases hs:skp false l with
 | nil=>rfl
 | cons b r =>
  rw [hs] at hk
  cases ht:tokL (b :: r) with
  | none=>simp only [ht]
  | some km =>
   have hm:=tokL_spec ht
   have hd:=List.length_drop (i:=km.2) (l:=b :: r)
   simp only [ht]
   rw [tkn_fuel l.length (((b :: r).drop km.2).length + 1) _ (by omega) (by omega)]
theorem tk_nil:tk [] = some []:=rfl
def nw (r:Bytes):Prop:=∀ b,r.head? = some b→wrd b = false
theorem tk_step {w r:Bytes} {k:Nat} (hs:skp false (w ++ r) = w ++ r) (ht:tokL (w ++ r) = some (k,w.length)):tk (w ++ r) = (tk r).map ((k,w) :: ·):=by
 rw [tk_eq,hs]
 cases hw:w ++ r with
 | nil=>rw [hw] at ht; cases ht
 | cons b z =>
  rw [hw] at ht
  simp only [ht]
  rw [← hw,List.drop_left,List.take_left]
theorem tk_blank (r:Bytes):tk (32 :: r) = tk r:=by
 rw [tk_eq,tk_eq r]
 have:skp false (32 :: r) = skp false r:=by
  have h:wht 32 = true:=by decide
  simp [skp,h]
 rw [this]
theorem skp_head {b:UInt8} {l:Bytes} (h1:wht b = false) (h2:b≠47):skp false (b :: l) = b :: l:=by
 have ht:two (b :: l) = false:=by
  cases h:two (b :: l)
  ·rfl
  ·exact absurd (two_cons h) h2
 simp [skp,h1,ht]
theorem tw_all {α:Type} {p:α→Bool} {r:List α}:∀ {w:List α},(∀ y ∈ w,p y = true)→(∀ b,r.head? = some b→p b = false)→(w ++ r).takeWhile p = w∧(w ++ r).dropWhile p = r
 | [],_,h=>by
  cases r with
  | nil=>exact ⟨rfl,rfl⟩
  | cons b r =>
   have:=h b rfl
   exact ⟨by rw [List.nil_append,List.takeWhile_cons,if_neg (by simp [this])],by rw [List.nil_append,List.dropWhile_cons,if_neg (by simp [this])]⟩
 | x :: w,hw,h=>by
  have hx:=hw x (by simp)
  obtain ⟨e1,e2⟩:=tw_all (w:=w) (fun y hy=>hw y (by simp [hy])) h
  rw [List.cons_append,List.takeWhile_cons,List.dropWhile_cons,if_pos hx,if_pos hx,e1,e2]
  exact ⟨rfl,rfl⟩
theorem ltr_of {b:UInt8} (h:isLetI b.toNat = true):ltr b = true:=by
 simp only [isLetI,ltr,Bool.or_eq_true,Bool.and_eq_true,decide_eq_true_eq] at h ⊢
 omega
theorem wrd_of {b:UInt8} (h:isWordI b.toNat = true):wrd b = true:=by
 simp only [isWordI,isLetI,isDigI,wrd,ltr,dgt,Bool.or_eq_true,Bool.and_eq_true,decide_eq_true_eq,beq_iff_eq] at h ⊢
 omega
theorem ltr_wrd {b:UInt8} (h:ltr b = true):wrd b = true:=by simp [wrd,h]
theorem ltr_skp {b:UInt8} {l:Bytes} (h:ltr b = true):skp false (b :: l) = b :: l:=by
 refine skp_head ?_ (by rintro rfl; revert h; decide)
 cases hw:wht b
 ·rfl
 ·simp only [wht,ltr,Bool.or_eq_true,Bool.and_eq_true,decide_eq_true_eq,beq_iff_eq] at h hw
  omega
theorem dgt_skp {b:UInt8} {l:Bytes} (h:dgt b = true):skp false (b :: l) = b :: l:=by
 refine skp_head ?_ (by rintro rfl; revert h; decide)
 cases hw:wht b
 ·rfl
 ·simp only [wht,dgt,Bool.or_eq_true,Bool.and_eq_true,decide_eq_true_eq,beq_iff_eq] at h hw
  omega
theorem dgt_not_ltr {b:UInt8} (h:dgt b = true):ltr b = false:=by
 cases hw:ltr b
 ·rfl
 ·simp only [ltr,dgt,Bool.or_eq_true,Bool.and_eq_true,decide_eq_true_eq] at h hw
  omega
theorem tk_word {w r:Bytes} (hw:nameCs w = true) (h1:1≤w.length) (h2:w.length≤16) (hr:nw r):tk (w ++ r) = (tk r).map ((1,w) :: ·):=by
 cases w with
 | nil=>simp at h1
 | cons b w =>
  simp only [nameCs,Bool.and_eq_true,List.all_eq_true] at hw
  have hb:=ltr_of hw.1
  have hall:∀ y ∈ b :: w,wrd y = true:=by
   intro y hy
   rcases List.mem_cons.1 hy with rfl | hy
   ·exact ltr_wrd hb
   ·exact wrd_of (hw.2 y hy)
  refine tk_step (ltr_skp hb) ?_
  obtain ⟨e1,_⟩:=tw_all hall hr
  rw [List.cons_append,tokL_cons]
  rw [List.cons_append] at e1
  rw [hb,e1]
  have:decide ((b :: w).length≤16) = true:=by simpa using h2
  simp only [this,cond_true]
theorem tk_name {w r:Bytes} (hw:nameB w = true) (hr:nw r):tk (w ++ r) = (tk r).map ((1,w) :: ·):=by
 simp only [nameB,Bool.and_eq_true,decide_eq_true_eq] at hw
 exact tk_word hw.2 hw.1.1.1 hw.1.1.2 hr
theorem digs_all:∀ (f u:Nat),∀ b ∈ digs f u,dgt b = true
 | 0,u,b,h=>by cases h
 | f + 1,u,b,h=>by
  have hd:∀ k:Nat,k < 10→dgt (UInt8.ofNat (48 + k)) = true:=by decide
  rw [digs] at h
  split at h
  ·rename_i hu
   rw [List.mem_singleton.1 h]
   exact hd u hu
  ·rcases List.mem_append.1 h with h | h
   ·exact digs_all f _ b h
   ·rw [List.mem_singleton.1 h]
    exact hd _ (Nat.mod_lt _ (by omega))
theorem digs_le:∀ (f u k:Nat),u < 10 ^ (k + 1)→(digs f u).length≤k + 1
 | 0,u,k,h=>by simp [digs]
 | f + 1,u,k,h=>by
  rw [digs]
  split
  ·simp
  ·rename_i hu
   cases k with
   | zero=>simp at h; omega
   | succ k =>
    have:u / 10 < 10 ^ (k + 1):=by
     rw [Nat.div_lt_iff_lt_mul (by omega)]
     rw [Nat.pow_succ] at h
     omega
    have:=digs_le f (u / 10) k this
    simp
    omega
theorem digs_head:∀ (f u:Nat),u≠0→u < 10 ^ f→∃ b r,digs f u = b :: r∧b.toNat≠48
 | 0,u,h0,h=>by simp at h; omega
 | f + 1,u,h0,h=>by
  rw [digs]
  split
  ·rename_i hu
   refine ⟨_,_,rfl,?_⟩
   have:∀ k:Nat,k < 10→k≠0→(UInt8.ofNat (48 + k)).toNat≠48:=by decide
   exact this u hu h0
  ·rename_i hu
   have:u / 10 < 10 ^ f:=by
    rw [Nat.div_lt_iff_lt_mul (by omega)]
    rw [Nat.pow_succ] at h
    omega
   obtain ⟨b,r,e,hb⟩:=digs_head f (u / 10) (by omega) this
   rw [e]
   exact ⟨b,r ++ [UInt8.ofNat (48 + u % 10)],rfl,hb⟩
theorem tk_num {n:Int} {r:Bytes} (hn:inR n = true) (hr:nw r):tk (numL n ++ r) = (tk r).map ((2,numL n) :: ·):=by
 have hu:n.toNat < 10 ^ (8 + 1):=by
  simp only [inR,Bool.and_eq_true,decide_eq_true_eq] at hn
  omega
 have hall:=digs_all 20 n.toNat
 have hlen:=digs_le 20 n.toNat 8 hu
 have hpos:=digs_pos 19 n.toNat
 unfold numL
 cases hd:digs 20 n.toNat with
 | nil=>rw [hd] at hpos; simp at hpos
 | cons b w =>
  rw [hd] at hall hlen
  have hb:=hall b (by simp)
  have hr2:∀ c,r.head? = some c→dgt c = false:=fun c hc=>by
   have:=hr c hc
   simp only [wrd,Bool.or_eq_false_iff] at this
   exact this.2.1
  obtain ⟨e1,e2⟩:=tw_all hall hr2
  refine tk_step (dgt_skp hb) ?_
  rw [List.cons_append,tokL_cons]
  rw [List.cons_append] at e1 e2
  rw [dgt_not_ltr hb,hb,e1]
  have hok:numOk b (b :: (w ++ r)) = true:=by
   unfold numOk
   rw [e1,e2]
   simp only [Bool.and_eq_true,decide_eq_true_eq,Bool.or_eq_true,bne_iff_ne,ne_eq,beq_iff_eq]
   refine ⟨by omega,?_,?_⟩
   ·by_cases h48:b.toNat = 48
    ·right
     by_cases h0:n.toNat = 0
     ·have:digs 20 0 = [48]:=rfl
      rw [h0,this] at hd
      cases hd
      rfl
     ·obtain ⟨b',r',e,hb'⟩:=digs_head 20 n.toNat h0 (by omega)
      rw [hd] at e
      cases e
      exact absurd h48 hb'
    ·exact .inl h48
   ·cases hrr:r with
    | nil=>rfl
    | cons c z =>
     have:=hr c (by rw [hrr]; rfl)
     simp [this]
  simp only [hok,cond_true,cond_false]
theorem tk_sym {b:UInt8} {s r:Bytes} (h1:ltr b = false) (h2:dgt b = false) (h3:wht b = false) (h4:b≠47) (hf:symL.find? (fun t=>t.isPrefixOf (b :: s ++ r)) = some (b :: s)):tk (b :: s ++ r) = (tk r).map ((3,b :: s) :: ·):=by
 refine tk_step (skp_head h3 h4) ?_
 rw [List.cons_append,tokL_cons]
 rw [List.cons_append] at hf
 rw [h1,h2,hf]
 rfl
theorem tk_op {s:ByteArray} (h:levelI s≠0) (r:Bytes):tk (tl s ++ 32 :: r) = (tk (32 :: r)).map ((3,tl s) :: ·):=by
 have hc:=level_cases h
 generalize tl s = w at hc
 simp only [List.mem_cons,List.not_mem_nil,or_false] at hc
 rcases hc with rfl | rfl | rfl | rfl | rfl | rfl | rfl | rfl | rfl | rfl | rfl | rfl | rfl <;>
  exact tk_sym (by decide) (by decide) (by decide) (by decide) rfl
def pathT:Nat→Bytes→List Tk
 | 0,_=>[]
 | k + 1,s=>match (cutB s).2 with
  | none=>[(1,(cutB s).1)]
  | some r=>(1,(cutB s).1) :: (3,[46]) :: pathT k r
theorem nw_cons {b:UInt8} {r:Bytes} (h:wrd b = false):nw (b :: r):=fun c hc=>by
 have:b = c:=by simpa using hc
 subst this
 exact h
theorem tk_path:∀ (k:Nat) {s r:Bytes},pathN k s = true→nw r→tk (s ++ r) = (tk r).map (pathT k s ++ ·)
 | 0,s,r,h,_=>by cases h
 | k + 1,s,r,h,hr=>by
  simp only [pathN,Bool.and_eq_true] at h
  obtain ⟨h1,h2⟩:=h
  cases hc:(cutB s).2 with
  | none =>
   have e:=((cutB_spec s).1 hc).1
   rw [e] at h1
   simp only [pathT,hc,e]
   exact tk_name h1 hr
  | some q =>
   rw [hc] at h2
   have e:=((cutB_spec s).2 q hc).1
   simp only [pathT,hc]
   conv=>lhs; rw [e]
   have ih:=tk_path k h2 hr
   rw [List.append_assoc,tk_name (r:=46 :: q ++ r) h1 (nw_cons (by decide))]
   have e46:tk (46 :: q ++ r) = (tk (q ++ r)).map ((3,[46]) :: ·):=tk_sym (s:=[]) (r:=q ++ r) (by decide) (by decide) (by decide) (by decide) rfl
   rw [e46,ih]
   simp only [Option.map_map]
   rfl
end Go.Proofs.YtbecjgckobhmpaaGreatDoor
end
section
namespace Go.Proofs.YtbecjgckobhmpaaGreatDoor
open Go Go.AM Go.Proofs
inductive Lx (N:Nat):List UInt8→List Token→Prop where
 | nil {l:List UInt8}:skp false l = []→Lx N l []
 | cons {l w r:List UInt8} {k:Nat} {ts:List Token}:skp false l = w ++ r→tokL (w ++ r) = some (k,w.length)→Lx N r ts→Lx N l (⟨(k:Int),bs w,((N - (w ++ r).length:Nat):Int)⟩ :: ts)
theorem lexG_Lx {N:Nat}:∀ {f c:Nat} {l:List UInt8} {ts:List Token},l.length < f→lexG N f c l = .inl ts→c≤1500→Lx N l ts∧c + ts.length≤1500
 | 0,_,_,_,h,_,_=>absurd h (Nat.not_lt_zero _)
 | f + 1,c,l,ts,hl,h,hc0=>by
  simp only [lexG] at h
  have hk:=skp_len false l
  cases hs:skp false l with
  | nil =>
   rw [hs] at h
   cases h
   exact ⟨.nil hs,by simpa using hc0⟩
  | cons b r =>
   rw [hs] at h hk
   simp only [lexS] at h
   by_cases hc:c = 1500
   ·rw [if_pos hc] at h; cases h
   ·rw [if_neg hc] at h
    cases ht:tokL (b :: r) with
    | none=>rw [ht] at h; cases h
    | some km =>
     rw [ht] at h
     simp only at h
     have hm:=tokL_spec ht
     cases hg:lexG N f (c + 1) ((b :: r).drop km.2) with
     | inr e=>rw [hg] at h; cases h
     | inl us =>
      rw [hg] at h
      cases h
      have hd:=List.length_drop (i:=km.2) (l:=b :: r)
      obtain ⟨i1,i2⟩:=lexG_Lx (by omega) hg (by omega)
      have e:(b :: r) = (b :: r).take km.2 ++ (b :: r).drop km.2:=(List.take_append_drop _ _).symm
      have hw:((b :: r).take km.2).length = km.2:=by rw [List.length_take]; omega
      refine ⟨?_,by simp only [List.length_cons]; omega⟩
      have:=Lx.cons (N:=N) (l:=l) (w:=(b :: r).take km.2) (r:=(b :: r).drop km.2) (k:=km.1) (by rw [← e]; exact hs) (by rw [← e,hw]; exact ht) i1
      rw [← e] at this
      exact this
theorem Lx_lexG {N:Nat} {l:List UInt8} {ts:List Token} (h:Lx N l ts):∀ {f c:Nat},l.length < f→c + ts.length≤1500→lexG N f c l = .inl ts:=by
 induction h with
 | nil hs =>
  intro f c hl _
  cases f with
  | zero=>omega
  | succ f=>simp only [lexG,hs,lexS]
 | @cons l w r k ts hs ht _ ih =>
  intro f c hl hc
  simp only [List.length_cons] at hc
  cases f with
  | zero=>omega
  | succ f =>
   have hk:=skp_len false l
   have hm:=tokL_spec ht
   rw [hs,List.length_append] at hk
   rw [lexG,hs]
   cases w with
   | nil=>simp at hm
   | cons b w =>
    rw [List.cons_append] at ht ⊢
    simp only [lexS,if_neg (show c≠1500 by omega),ht]
    have e1:(b :: (w ++ r)).drop (b :: w).length = r:=by rw [← List.cons_append,List.drop_left]
    have e2:(b :: (w ++ r)).take (b :: w).length = b :: w:=by rw [← List.cons_append,List.take_left]
    rw [e1,e2,ih (by simp only [List.length_cons] at hk; omega) (by omega)]
    rfl
def sepB (b:UInt8):Bool:=!wrd b && symL.all fun t=>!(t.drop 1).contains b
theorem sym_no47:∀ t ∈ symL,t.head?≠some 47:=by decide
theorem tokL_head {l:List UInt8} {km:Nat × Nat} (h:tokL l = some km):l.head?≠some 47∧l≠[]:=by
 cases l with
 | nil=>cases h
 | cons b l =>
  refine ⟨fun e=>?_,by simp⟩
  simp only [List.head?_cons,Option.some.injEq] at e
  subst e
  rw [tokL_cons] at h
  have h1:ltr 47 = false:=by decide
  have h2:dgt 47 = false:=by decide
  rw [h1,h2] at h
  simp only [cond_false] at h
  cases h3:symL.find? (fun t=>t.isPrefixOf (47 :: l)) with
  | none=>rw [h3] at h; cases h
  | some t =>
   have hm:=List.mem_of_find?_eq_some h3
   have hp:=List.find?_some h3
   cases t with
   | nil=>have:=symL_ok [] hm; simp at this
   | cons y t =>
    simp only [List.isPrefixOf,Bool.and_eq_true,beq_iff_eq] at hp
    have:=sym_no47 _ hm
    simp [hp.1] at this
theorem tw_pre {p:UInt8→Bool}:∀ (w r r':List UInt8),((w ++ r).takeWhile p).length = w.length→(∀ b,r'.head? = some b→p b = false)→(w ++ r').takeWhile p = w∧(w ++ r').dropWhile p = r'∧(w ++ r).dropWhile p = r
 | [],r,r',h,hr=>by
  simp only [List.nil_append,List.length_nil,List.length_eq_zero_iff] at h ⊢
  have hd:∀ x:List UInt8,x.takeWhile p = []→x.dropWhile p = x:=by
   intro x hx
   have:=List.takeWhile_append_dropWhile (p:=p) (l:=x)
   rw [hx,List.nil_append] at this
   exact this
  have ht:r'.takeWhile p = []:=by
   cases r' with
   | nil=>rfl
   | cons b r'=>rw [List.takeWhile_cons,hr b rfl]; simp
  exact ⟨ht,hd r' ht,hd r h⟩
 | b :: w,r,r',h,hr=>by
  rw [List.cons_append,List.takeWhile_cons] at h
  rw [List.cons_append,List.takeWhile_cons,List.dropWhile_cons,List.cons_append,List.dropWhile_cons]
  cases hb:p b
  ·rw [hb] at h; simp at h
  ·rw [hb] at h
   simp only [if_true,List.length_cons,Nat.add_right_cancel_iff] at h ⊢
   have:=tw_pre w r r' h hr
   exact ⟨by rw [this.1],this.2⟩
def Fol (r r':List UInt8):Prop:=r' <+: r∨(∃ b x,r' = b :: x∧sepB b = true)∨∃ r1 b x,r1 <+: r∧r' = r1 ++ b :: x∧sepB b = true
theorem wrd_dgt {b:UInt8} (h:wrd b = false):dgt b = false:=by
 cases hd:dgt b
 ·rfl
 ·simp [wrd,hd] at h
theorem tokL_fol {w r r':List UInt8} {k:Nat} (h:tokL (w ++ r) = some (k,w.length)) (hf:Fol r r'):tokL (w ++ r') = some (k,w.length):=by
 have hm:=tokL_spec h
 cases w with
 | nil=>simp at hm
 | cons b w =>
  have hh:∀ (p:UInt8→Bool),(∀ c,wrd c = false→p c = false)→(∀ c,r.head? = some c→p c = false)→∀ c,r'.head? = some c→p c = false:=by
   intro p hp hr c hc
   have hsep:∀ d,sepB d = true→p d = false:=fun d hd=>by
    simp only [sepB,Bool.and_eq_true,Bool.not_eq_true'] at hd
    exact hp d hd.1
   rcases hf with ⟨x,hx⟩ | ⟨d,x,rfl,hd⟩ | ⟨r1,d,x,hr1,rfl,hd⟩
   ·cases r' with
    | nil=>cases hc
    | cons y r' =>
     simp only [List.head?_cons,Option.some.injEq] at hc
     subst hc
     exact hr y (by rw [← hx]; rfl)
   ·simp only [List.head?_cons,Option.some.injEq] at hc
    subst hc
    exact hsep d hd
   ·cases r1 with
    | nil =>
     simp only [List.nil_append,List.head?_cons,Option.some.injEq] at hc
     subst hc
     exact hsep d hd
    | cons y r1 =>
     obtain ⟨x',hx'⟩:=hr1
     exact hr c (by rw [← hx']; exact hc)
  have hstop:∀ (p:UInt8→Bool),((b :: w ++ r).takeWhile p).length = (b :: w).length→∀ c,r.head? = some c→p c = false:=by
   intro p hl c hc
   cases r with
   | nil=>cases hc
   | cons y r =>
    simp only [List.head?_cons,Option.some.injEq] at hc
    subst hc
    cases hy:p y
    ·rfl
    ·have e:=(tw_pre (p:=p) (b :: w) (y :: r) [] hl (by simp)).2.2
     have:=List.dropWhile_append_of_pos (p:=p) (l₁:=b :: w) (l₂:=y :: r)
     have hall:(b :: w ++ y :: r).takeWhile p = b :: w:=by
      have e1:=List.takeWhile_append_dropWhile (p:=p) (l:=b :: w ++ y :: r)
      rw [e] at e1
      exact List.append_cancel_right e1
     have hd2:(y :: r).dropWhile p≠y :: r:=by rw [List.dropWhile_cons,hy]; intro e; have:=congrArg List.length e; have h3:=(List.dropWhile_sublist p (l:=r)).length_le; simp at this; omega
     have hpre:∀ z ∈ b :: w,p z = true:=by
      intro z hz
      rw [← hall] at hz
      exact mem_tw hz
     rw [List.dropWhile_append_of_pos hpre] at e
     exact absurd e hd2
  have h':tokL (b :: (w ++ r)) = some (k,(b :: w).length):=h
  show tokL (b :: (w ++ r')) = some (k,(b :: w).length)
  rw [tokL_cons] at h' ⊢
  cases h1:ltr b
  ·rw [h1,cond_false] at h'
   rw [cond_false]
   cases h2:dgt b
   ·rw [h2,cond_false] at h'
    rw [cond_false]
    cases h3:symL.find? (fun t=>t.isPrefixOf (b :: (w ++ r))) with
    | none=>rw [h3] at h'; cases h'
    | some t =>
     rw [h3] at h'
     simp only [Option.map_some,Option.some.injEq,Prod.mk.injEq] at h'
     obtain ⟨rfl,hl⟩:=h'
     have hmem:=List.mem_of_find?_eq_some h3
     have hp:=List.find?_some h3
     have ht:t = b :: w:=by
      have hp':t <+: b :: w ++ r:=List.isPrefixOf_iff_prefix.1 hp
      obtain ⟨x,hx⟩:=hp'
      exact (List.append_inj hx hl).1
     subst ht
     obtain ⟨pre,pos,hsym,hno⟩:=(List.find?_eq_some_iff_append.1 h3).2
     have h4:symL.find? (fun t=>t.isPrefixOf (b :: (w ++ r'))) = some (b :: w):=by
      rw [List.find?_eq_some_iff_append]
      refine ⟨List.isPrefixOf_iff_prefix.2 ⟨r',rfl⟩,pre,pos,hsym,fun a ha=>?_⟩
      have hna:=hno a ha
      simp only [Bool.not_eq_true',Bool.eq_false_iff,ne_eq,List.isPrefixOf_iff_prefix] at hna ⊢
      intro hpa
      apply hna
      have hpa:a <+: b :: w ++ r':=hpa
      by_cases hla:a.length≤(b :: w).length
      ·exact (List.prefix_of_prefix_length_le hpa (List.prefix_append _ _) hla).trans (List.prefix_append _ _)
      ·rcases hf with hf | ⟨d,x,rfl,hd⟩ | ⟨r1,d,x,hr1,rfl,hd⟩
       ·exact hpa.trans ((List.prefix_append_right_inj _).2 hf)
       rotate_left
       ·by_cases hlr:a.length≤(b :: w ++ r1).length
        ·have h1:a <+: b :: w ++ r1:=List.prefix_of_prefix_length_le hpa (by rw [← List.append_assoc]; exact List.prefix_append _ _) hlr
         exact h1.trans ((List.prefix_append_right_inj _).2 hr1)
        ·exfalso
         have hwa:b :: w ++ r1 <+: a:=List.prefix_of_prefix_length_le (by rw [← List.append_assoc]; exact List.prefix_append _ _) hpa (by omega)
         obtain ⟨y,rfl⟩:=hwa
         rw [← List.append_assoc] at hpa
         have hy:y <+: d :: x:=(List.prefix_append_right_inj _).1 hpa
         cases y with
         | nil=>simp at hlr
         | cons y0 y =>
          obtain ⟨z,hz⟩:=hy
          simp only [List.cons_append,List.cons.injEq] at hz
          simp only [sepB,Bool.and_eq_true,List.all_eq_true,Bool.not_eq_true'] at hd
          have hin:(b :: w ++ r1 ++ y0 :: y) ∈ symL:=by rw [hsym]; exact List.mem_append_left _ ha
          have:=hd.2 _ hin
          rw [← hz.1] at this
          simp at this
       ·exfalso
        have hwa:b :: w <+: a:=List.prefix_of_prefix_length_le (List.prefix_append _ _) hpa (by omega)
        obtain ⟨y,rfl⟩:=hwa
        have hy:y <+: d :: x:=(List.prefix_append_right_inj _).1 hpa
        cases y with
        | nil=>simp at hla
        | cons y0 y =>
         obtain ⟨z,hz⟩:=hy
         simp only [List.cons_append,List.cons.injEq] at hz
         simp only [sepB,Bool.and_eq_true,List.all_eq_true,Bool.not_eq_true'] at hd
         have hin:(b :: w ++ y0 :: y) ∈ symL:=by rw [hsym]; exact List.mem_append_left _ ha
         have:=hd.2 _ hin
         rw [← hz.1] at this
         simp at this
     rw [h4]
     rfl
   ·rw [h2,cond_true] at h'
    rw [cond_true]
    cases h3:numOk b (b :: (w ++ r))
    ·rw [h3] at h'; cases h'
    ·rw [h3,cond_true] at h'
     simp only [Option.some.injEq,Prod.mk.injEq] at h'
     obtain ⟨rfl,hl⟩:=h'
     have hl':((b :: w ++ r).takeWhile dgt).length = (b :: w).length:=hl
     have e:=tw_pre (p:=dgt) (b :: w) r r' hl' (hh dgt (fun c=>wrd_dgt) (hstop dgt hl'))
     have e':(b :: (w ++ r')).takeWhile dgt = b :: w:=e.1
     have e2':(b :: (w ++ r')).dropWhile dgt = r':=e.2.1
     have e3':(b :: (w ++ r)).dropWhile dgt = r:=e.2.2
     have hn:numOk b (b :: (w ++ r')) = true:=by
      unfold numOk at h3 ⊢
      rw [e3',hl] at h3
      rw [e',e2']
      simp only [Bool.and_eq_true] at h3 ⊢
      refine ⟨h3.1,h3.2.1,?_⟩
      have h5:=hh wrd (fun c h=>h) (fun c hc=>by
       have:=h3.2.2
       rw [hc] at this
       simpa using this)
      cases hr:r'.head? with
      | none=>rfl
      | some c=>simp [h5 c hr]
     rw [hn,e']
     rfl
  ·rw [h1,cond_true] at h'
   rw [cond_true]
   cases h3:decide (((b :: (w ++ r)).takeWhile wrd).length≤16)
   ·rw [h3] at h'; cases h'
   ·rw [h3,cond_true] at h'
    simp only [Option.some.injEq,Prod.mk.injEq] at h'
    obtain ⟨rfl,hl⟩:=h'
    have hl':((b :: w ++ r).takeWhile wrd).length = (b :: w).length:=hl
    have e:=tw_pre (p:=wrd) (b :: w) r r' hl' (hh wrd (fun c h=>h) (hstop wrd hl'))
    have e':(b :: (w ++ r')).takeWhile wrd = b :: w:=e.1
    rw [hl] at h3
    rw [e',h3]
    rfl
theorem two_false {b:UInt8} {l:List UInt8} (h:b≠47):two (b :: l) = false:=by
 cases ht:two (b :: l)
 ·rfl
 ·exact absurd (two_cons ht) h
theorem skp_to {x x':List UInt8} (hx:∃ b y,x = b :: y∧b≠47) (hx':∃ b y,x' = b :: y∧b≠47∧wht b = false):∀ (g:List UInt8) (c:Bool),skp c (g ++ x) = x→skp c (g ++ x') = x'
 | [],c,h=>by
  obtain ⟨b,y,rfl,hb⟩:=hx
  obtain ⟨b',y',rfl,hb',hw⟩:=hx'
  simp only [List.nil_append] at h ⊢
  cases c
  ·simp only [skp,hw,two_false hb']
   rfl
  ·exfalso
   rw [skp] at h
   have h1:=skp_len true y
   have h2:=skp_len false y
   have h3:=congrArg List.length h
   split at h3 <;> simp only [List.length_cons] at h3 <;> omega
 | a :: g,true,h=>by
  rw [List.cons_append,skp] at h ⊢
  split
  ·rename_i hn
   rw [if_pos hn] at h
   exact skp_to hx hx' g true h
  ·rename_i hn
   rw [if_neg hn] at h
   exact skp_to hx hx' g false h
 | a :: g,false,h=>by
  have htwo:two (a :: (g ++ x')) = two (a :: (g ++ x)):=by
   cases g with
   | nil =>
    obtain ⟨b,y,rfl,hb⟩:=hx
    obtain ⟨b',y',rfl,hb',hw⟩:=hx'
    simp only [two,List.nil_append,List.isPrefixOf]
    have e1:((47:UInt8) == b) = false:=by simpa using fun h:(47:UInt8) = b=>hb h.symm
    have e2:((47:UInt8) == b') = false:=by simpa using fun h:(47:UInt8) = b'=>hb' h.symm
    simp [e1,e2]
   | cons b g=>simp [two,List.isPrefixOf]
  rw [List.cons_append,skp] at h ⊢
  rw [htwo]
  split
  ·rename_i hn
   rw [if_pos hn] at h
   exact skp_to hx hx' g false h
  ·rename_i hn
   rw [if_neg hn] at h
   split
   ·rename_i hn2
    rw [if_pos hn2] at h
    exact skp_to hx hx' g true h
   ·rename_i hn2
    rw [if_neg hn2] at h
    exfalso
    have:=congrArg List.length h
    simp at this
    omega
theorem tokL_wht {l:List UInt8} {km:Nat × Nat} (h:tokL l = some km):∃ b y,l = b :: y∧b≠47:=by
 have h1:=tokL_head h
 cases l with
 | nil=>exact absurd rfl h1.2
 | cons b y=>exact ⟨b,y,rfl,fun e=>h1.1 (by rw [e]; rfl)⟩
theorem skp_wfix {l b y} {g:List UInt8} (h:skp false g = l) (hl:l = b :: y):wht b = false:=by
 subst h
 revert hl
 suffices ∀ (g:List UInt8) (c:Bool),skp c g = b :: y→wht b = false from fun hl=>this g false hl
 intro g
 induction g with
 | nil=>intro c h; rw [skp_nil] at h; cases h
 | cons a g ih =>
  intro c h
  cases c
  ·rw [skp] at h
   split at h
   ·exact ih false h
   ·rename_i hn
    split at h
    ·exact ih true h
    ·simp only [List.cons.injEq] at h
     rw [← h.1]
     simpa using hn
  ·rw [skp] at h
   split at h
   ·exact ih true h
   ·exact ih false h
theorem Lx.split {N:Nat}:∀ {us:List Token} {l:List UInt8} {t:Token} {vs:List Token},Lx N l (us ++ t :: vs) →
  ∃ p r,l = p ++ r∧Lx N r vs∧t.pos + ((tl t.text).length:Int) = ((N - (tl t.text ++ r).length:Nat):Int) + ((tl t.text).length:Int)∧(∀ N',N' + r.length = N→Lx N' p (us ++ [t]))
 | [],l,t,vs,h=>by
  cases h with
  | @cons _ w r k _ hs ht hr =>
   obtain ⟨g,hg⟩:=skp_suf l false
   rw [hs] at hg
   refine ⟨g ++ w,r,by rw [List.append_assoc]; exact hg,hr,rfl,fun N' hN=>?_⟩
   have ht':=tokL_fol (r':=[]) ht (.inl (List.nil_prefix))
   have hs':skp false (g ++ (w ++ [])) = w ++ []:=skp_to (tokL_wht ht) (by
    obtain ⟨b,y,e,hb⟩:=tokL_wht ht'
    refine ⟨b,y,e,hb,?_⟩
    have hw:=tokL_spec ht
    cases w with
    | nil=>simp at hw
    | cons c w =>
     simp only [List.cons_append,List.cons.injEq] at e
     rw [← e.1]
     exact skp_wfix hs rfl) g false (by rw [← hg]; exact hs)
   have:=Lx.cons (N:=N') (l:=g ++ w) (w:=w) (r:=[]) (k:=k) (by simpa using hs') ht' (.nil rfl)
   have e:N' - (w ++ []).length = N - (w ++ r).length:=by
    simp only [List.length_append,List.length_nil]; omega
   rw [e] at this
   exact this
 | u :: us,l,t,vs,h=>by
  cases h with
  | @cons _ w r0 k _ hs ht hr =>
   obtain ⟨p,r,rfl,h2,h3,h4⟩:=Lx.split hr
   obtain ⟨g,hg⟩:=skp_suf l false
   rw [hs] at hg
   refine ⟨g ++ (w ++ p),r,by rw [hg]; simp,h2,h3,fun N' hN=>?_⟩
   have ht':=tokL_fol (r':=p) ht (.inl (List.prefix_append _ _))
   have hs':skp false (g ++ (w ++ p)) = w ++ p:=skp_to (tokL_wht ht) (by
    obtain ⟨b,y,e,hb⟩:=tokL_wht ht'
    refine ⟨b,y,e,hb,?_⟩
    have hw:=tokL_spec ht
    cases w with
    | nil=>simp at hw
    | cons c w =>
     simp only [List.cons_append,List.cons.injEq] at e
     rw [← e.1]
     exact skp_wfix hs rfl) g false (by rw [← hg]; exact hs)
   have:=Lx.cons (N:=N') (l:=g ++ (w ++ p)) (w:=w) (r:=p) (k:=k) hs' ht' (h4 N' hN)
   have e:N' - (w ++ p).length = N - (w ++ (p ++ r)).length:=by
    simp only [List.length_append]; omega
   rw [e] at this
   exact this
theorem Lx.le {N:Nat} {l:List UInt8} {ts:List Token} (h:Lx N l ts) (hN:l.length≤N):ts.Pairwise (fun a b=>a.pos + 1≤b.pos)∧∀ t ∈ ts,((N - l.length:Nat):Int)≤t.pos∧t.pos + ((tl t.text).length:Int)≤(N:Int)∧1≤(tl t.text).length:=by
 induction h with
 | nil hs=>exact ⟨.nil,by simp⟩
 | @cons l w r k ts hs ht _ ih =>
  have hk:=skp_len false l
  have hm:=tokL_spec ht
  rw [hs] at hk
  have hlen:=@List.length_append _ w r
  obtain ⟨i1,i2⟩:=ih (by omega)
  constructor
  ·refine List.pairwise_cons.2 ⟨fun t ht=>?_,i1⟩
   have:=(i2 t ht).1
   simp only
   omega
  ·intro t ht
   rcases List.mem_cons.1 ht with rfl | ht
   ·simp only [tl_bs]
    omega
   ·have:=i2 t ht
    omega
end Go.Proofs.YtbecjgckobhmpaaGreatDoor
end
section
namespace Go.Proofs.YtbecjgckobhmpaaGreatDoor
open Go Go.AM Go.Proofs
theorem words_ne {l:List Bytes} (h:∀ s ∈ l,s≠[]):wordsL l = joinL [32] l:=by
 unfold wordsL
 rw [List.filter_eq_self.2 (fun s hs=>by have:=h s hs; simpa using this)]
def opT (a:Int × List Tk) (req:Int):List Tk:=bif decide (a.1 < req) then (3,[40]) :: (a.2 ++ [(3,[41])]) else a.2
def nthT (ks:List (Int × List Tk)) (i:Nat):Int × List Tk:=ks.getD i (0,[])
def tkOf (k:Int) (nm:ByteArray) (n:Int) (ks:List (Int × List Tk)):List Tk :=
 bif k == 1 then [(2,numL n)]
 else bif k == 2 then (bif ks.isEmpty then pathT 3 (tl nm) else pathT 3 (tl nm) ++ ((3,[91]) :: (opT (nthT ks 0) 0 ++ [(3,[93])])))
 else bif k == 3 then (1,[111,108,100]) :: (3,[40]) :: (opT (nthT ks 0) 0 ++ [(3,[41])])
 else bif k == 4 then (3,[33]) :: opT (nthT ks 0) 11
 else bif k == 5 then opT (nthT ks 0) (ruleI nm).2.2.1 ++ ((3,tl nm) :: opT (nthT ks 1) (ruleI nm).2.2.2)
 else bif k == 6 then opT (nthT ks 0) 2 ++ ((3,[63]) :: (opT (nthT ks 1) 1 ++ ((3,[58]) :: opT (nthT ks 2) 1)))
 else bif k == 7 then (1,[97,108,108]) :: (1,tl nm) :: (3,[60]) :: (2,numL n) :: (3,[58]) :: opT (nthT ks 0) 0
 else bif k == 8 then (1,[115,111,109,101]) :: (1,tl nm) :: (3,[60]) :: (2,numL n) :: (3,[58]) :: opT (nthT ks 0) 0
 else []
mutual
def tkx:Node→List Tk
 | ⟨k,nm,_,n,_,_,_,ks,_⟩=>tkOf k nm n (tkxs ks)
def tkxs:List Node→List (Int × List Tk)
 | []=>[]
 | x :: r=>(levI x,tkx x) :: tkxs r
end
theorem tkx_eq (x:Node):tkx x = tkOf x.kind x.name x.n (tkxs x.kids):=by cases x; rfl
def hd1 (l:Bytes):Prop:=∃ b t,l = b :: t∧b≠61
theorem hd1.ne {l:Bytes} (h:hd1 l):l≠[]:=by obtain ⟨b,t,rfl,_⟩:=h; simp
theorem hd1.app {l:Bytes} (h:hd1 l) (r:Bytes):hd1 (l ++ r):=by
 obtain ⟨b,t,rfl,h⟩:=h
 exact ⟨b,t ++ r,rfl,h⟩
theorem hd1_opd {x:Node} (h:hd1 (txt x)) (req:Int):hd1 (opd (levI x,txt x) req):=by
 unfold opd
 cases decide (levI x < req)
 ·exact h
 ·exact ⟨40,txt x ++ [41],rfl,by decide⟩
theorem name_hd {w:Bytes} (h:nameB w = true):hd1 w:=by
 simp only [nameB,Bool.and_eq_true,decide_eq_true_eq] at h
 cases w with
 | nil=>simp at h
 | cons b w =>
  simp only [nameCs,Bool.and_eq_true] at h
  refine ⟨b,w,rfl,?_⟩
  rintro rfl
  exact absurd h.2.1 (by decide)
theorem path_hd {w:Bytes} (h:pathB w = true):hd1 w:=by
 simp only [pathB,pathN,Bool.and_eq_true] at h
 have h1:=name_hd h.1
 cases hc:(cutB w).2 with
 | none=>rw [((cutB_spec w).1 hc).1] at h1; exact h1
 | some q =>
  rw [((cutB_spec w).2 q hc).1]
  exact h1.app _
theorem num_hd (n:Int):hd1 (numL n):=by
 have hpos:=digs_pos 19 n.toNat
 unfold numL
 cases hd:digs 20 n.toNat with
 | nil=>rw [hd] at hpos; simp at hpos
 | cons b w =>
  refine ⟨b,w,rfl,?_⟩
  rintro rfl
  have:=digs_all 20 n.toNat 61 (by rw [hd]; simp)
  revert this
  decide
theorem op_ne {s:ByteArray} (h:levelI s≠0):tl s≠[]:=fun e=>by
 have:=(level_len h).1
 rw [e] at this
 simp at this
theorem join2 (a b c:Bytes):joinL [32] [a,b,c] = a ++ 32 :: (b ++ 32 :: c):=by simp [joinL]
theorem join5 (a b c d e:Bytes):joinL [32] [a,b,c,d,e] = a ++ 32 :: (b ++ 32 :: (c ++ 32 :: (d ++ 32 :: e))):=by simp [joinL]
theorem join6 (a b c d e f:Bytes):joinL [32] [a,b,c,d,e,f] = a ++ 32 :: (b ++ 32 :: (c ++ 32 :: (d ++ 32 :: (e ++ 32 :: f)))):=by simp [joinL]
theorem txt_hd:∀ x,okE x→hd1 (txt x):=by
 refine okE_ind ?_ ?_ ?_ ?_ ?_ ?_ ?_ ?_
 ·intro x h _ _; rw [txt_eq]; simp only [txtOf,h]; exact num_hd _
 ·intro x h hk hp; rw [txt_eq,hk]; simp [txtOf,h,txts]; exact path_hd hp
 ·intro x a h hk hp _ _; rw [txt_eq,hk]; simp [txtOf,h,txts]; exact (path_hd hp).app _
 ·intro x a h hk _ _; rw [txt_eq,hk]; simp [txtOf,h,txts]; exact ⟨_,_,rfl,by decide⟩
 ·intro x a h hk _ _; rw [txt_eq,hk]; simp [txtOf,h,txts]; exact ⟨_,_,rfl,by decide⟩
 ·intro x a b h hk hl _ ha _ hb
  rw [txt_eq,hk]
  simp only [txtOf,h,txts,nth]
  show hd1 (wordsL [opd (levI a,txt a) _,tl x.name,opd (levI b,txt b) _])
  rw [words_ne (by simp; exact ⟨(hd1_opd ha _).ne,op_ne hl,(hd1_opd hb _).ne⟩),join2]
  exact (hd1_opd ha _).app _
 ·intro x a b c h hk _ ha _ hb _ hc
  rw [txt_eq,hk]
  simp only [txtOf,h,txts,nth]
  show hd1 (wordsL [opd (levI a,txt a) _,[63],opd (levI b,txt b) _,[58],opd (levI c,txt c) _])
  rw [words_ne (by simp; exact ⟨(hd1_opd ha _).ne,(hd1_opd hb _).ne,(hd1_opd hc _).ne⟩),join5]
  exact (hd1_opd ha _).app _
 ·intro x a h hk hn _ _ ha
  rw [txt_eq,hk]
  rcases h with h | h
  ·simp only [txtOf,h,txts,nth]
   show hd1 (wordsL [[97,108,108],tl x.name,[60],numL x.n,[58],opd (levI a,txt a) 0])
   rw [words_ne (by simp; exact ⟨(name_hd hn).ne,(num_hd _).ne,(hd1_opd ha _).ne⟩),join6]
   exact ⟨_,_,rfl,by decide⟩
  ·simp only [txtOf,h,txts,nth]
   show hd1 (wordsL [[115,111,109,101],tl x.name,[60],numL x.n,[58],opd (levI a,txt a) 0])
   rw [words_ne (by simp; exact ⟨(name_hd hn).ne,(num_hd _).ne,(hd1_opd ha _).ne⟩),join6]
   exact ⟨_,_,rfl,by decide⟩
theorem txt5 {x a b:Node} (h:x.kind = 5) (hk:x.kids = [a,b]) (hl:levelI x.name≠0) (ha:okE a) (hb:okE b) :
  txt x = opd (levI a,txt a) (ruleI x.name).2.2.1 ++ 32 :: (tl x.name ++ 32 :: opd (levI b,txt b) (ruleI x.name).2.2.2):=by
 rw [txt_eq,hk]
 simp only [txtOf,h,txts,nth]
 show wordsL [opd (levI a,txt a) _,tl x.name,opd (levI b,txt b) _] = _
 rw [words_ne (by simp; exact ⟨(hd1_opd (txt_hd a ha) _).ne,op_ne hl,(hd1_opd (txt_hd b hb) _).ne⟩),join2]
theorem txt6 {x a b c:Node} (h:x.kind = 6) (hk:x.kids = [a,b,c]) (ha:okE a) (hb:okE b) (hc:okE c) :
  txt x = opd (levI a,txt a) 2 ++ 32 :: ([63] ++ 32 :: (opd (levI b,txt b) 1 ++ 32 :: ([58] ++ 32 :: opd (levI c,txt c) 1))):=by
 rw [txt_eq,hk]
 simp only [txtOf,h,txts,nth]
 show wordsL [opd (levI a,txt a) _,[63],opd (levI b,txt b) _,[58],opd (levI c,txt c) _] = _
 rw [words_ne (by simp; exact ⟨(hd1_opd (txt_hd a ha) _).ne,(hd1_opd (txt_hd b hb) _).ne,(hd1_opd (txt_hd c hc) _).ne⟩),join5]
theorem txt7 {x a:Node} (h:x.kind = 7∨x.kind = 8) (hk:x.kids = [a]) (hn:nameB (tl x.name) = true) (ha:okE a) :
  txt x = (bif x.kind == 7 then [97,108,108] else [115,111,109,101]) ++ 32 :: (tl x.name ++ 32 :: ([60] ++ 32 :: (numL x.n ++ 32 :: ([58] ++ 32 :: opd (levI a,txt a) 0)))):=by
 rw [txt_eq,hk]
 rcases h with h | h
 ·simp only [txtOf,h,txts,nth]
  show wordsL [[97,108,108],tl x.name,[60],numL x.n,[58],opd (levI a,txt a) 0] = _
  rw [words_ne (by simp; exact ⟨(name_hd hn).ne,(num_hd _).ne,(hd1_opd (txt_hd a ha) _).ne⟩),join6]
  rfl
 ·simp only [txtOf,h,txts,nth]
  show wordsL [[115,111,109,101],tl x.name,[60],numL x.n,[58],opd (levI a,txt a) 0] = _
  rw [words_ne (by simp; exact ⟨(name_hd hn).ne,(num_hd _).ne,(hd1_opd (txt_hd a ha) _).ne⟩),join6]
  rfl
theorem tk_opd {x:Node} (h:∀ r,nw r→tk (txt x ++ r) = (tk r).map (tkx x ++ ·)) (req:Int) {r:Bytes} (hr:nw r):tk (opd (levI x,txt x) req ++ r) = (tk r).map (opT (levI x,tkx x) req ++ ·):=by
 unfold opd opT
 cases decide (levI x < req)
 ·exact h r hr
 ·simp only [cond_true,List.append_assoc]
  have e1:tk (40 :: [] ++ (txt x ++ ([41] ++ r))) = (tk (txt x ++ ([41] ++ r))).map ((3,[40]) :: ·):=tk_sym (by decide) (by decide) (by decide) (by decide) rfl
  have e2:tk (41 :: [] ++ r) = (tk r).map ((3,[41]) :: ·):=tk_sym (by decide) (by decide) (by decide) (by decide) rfl
  refine e1.trans ?_
  rw [h ([41] ++ r) (nw_cons (by decide))]
  have e2':tk ([41] ++ r) = (tk r).map ((3,[41]) :: ·):=e2
  rw [e2']
  simp only [Option.map_map]
  congr 1
  funext z
  simp
theorem nw32 (r:Bytes):nw (32 :: r):=nw_cons (by decide)
theorem tk_txt:∀ x,okE x→∀ r,nw r→tk (txt x ++ r) = (tk r).map (tkx x ++ ·):=by
 refine okE_ind ?_ ?_ ?_ ?_ ?_ ?_ ?_ ?_
 ·intro x h _ hn r hr
  rw [txt_eq,tkx_eq]; simp only [txtOf,tkOf,h]
  exact tk_num hn hr
 ·intro x h hk hp r hr
  rw [txt_eq,tkx_eq,hk]; simp only [txtOf,tkOf,h,txts,tkxs]
  exact tk_path 3 hp hr
 ·intro x a h hk hp _ ih r hr
  rw [txt_eq,tkx_eq,hk]; simp only [txtOf,tkOf,h,txts,tkxs,nth,nthT]
  show tk (tl x.name ++ ([91] ++ (opd (levI a,txt a) 0 ++ [93])) ++ r) = (tk r).map (pathT 3 (tl x.name) ++ ((3,[91]) :: (opT (levI a,tkx a) 0 ++ [(3,[93])])) ++ ·)
  have e1:tk (91 :: [] ++ (opd (levI a,txt a) 0 ++ ([93] ++ r))) = _:=tk_sym (by decide) (by decide) (by decide) (by decide) rfl
  have e2:tk (93 :: [] ++ r) = _:=tk_sym (by decide) (by decide) (by decide) (by decide) rfl
  simp only [List.append_assoc]
  rw [tk_path 3 (r:=[91] ++ (opd (levI a,txt a) 0 ++ ([93] ++ r))) hp (nw_cons (by decide))]
  have e1':tk ([91] ++ (opd (levI a,txt a) 0 ++ ([93] ++ r))) = _:=e1
  have e2':tk ([93] ++ r) = _:=e2
  rw [e1',tk_opd ih 0 (r:=[93] ++ r) (nw_cons (by decide)),e2']
  simp only [Option.map_map]
  congr 1
  funext z
  simp
 ·intro x a h hk _ ih r hr
  rw [txt_eq,tkx_eq,hk]; simp only [txtOf,tkOf,h,txts,tkxs,nth,nthT]
  show tk (([111,108,100]:Bytes) ++ ([40] ++ (opd (levI a,txt a) 0 ++ [41])) ++ r) = (tk r).map ((1,[111,108,100]) :: (3,[40]) :: (opT (levI a,tkx a) 0 ++ [(3,[41])]) ++ ·)
  have e1:tk (40 :: [] ++ (opd (levI a,txt a) 0 ++ ([41] ++ r))) = _:=tk_sym (by decide) (by decide) (by decide) (by decide) rfl
  have e2:tk (41 :: [] ++ r) = _:=tk_sym (by decide) (by decide) (by decide) (by decide) rfl
  simp only [List.append_assoc]
  rw [tk_word (w:=[111,108,100]) (r:=[40] ++ (opd (levI a,txt a) 0 ++ ([41] ++ r))) (by decide) (by decide) (by decide) (nw_cons (by decide))]
  have e1':tk ([40] ++ (opd (levI a,txt a) 0 ++ ([41] ++ r))) = _:=e1
  have e2':tk ([41] ++ r) = _:=e2
  rw [e1',tk_opd ih 0 (r:=[41] ++ r) (nw_cons (by decide)),e2']
  simp only [Option.map_map]
  congr 1
  funext z
  simp
 ·intro x a h hk hx ih r hr
  rw [txt_eq,tkx_eq,hk]; simp only [txtOf,tkOf,h,txts,tkxs,nth,nthT]
  show tk ([33] ++ opd (levI a,txt a) 11 ++ r) = (tk r).map ((3,[33]) :: opT (levI a,tkx a) 11 ++ ·)
  obtain ⟨b,t,e,hb⟩:=hd1_opd (txt_hd a hx) 11
  have e1:tk (33 :: [] ++ (opd (levI a,txt a) 11 ++ r)) = _:=tk_sym (by decide) (by decide) (by decide) (by decide) (by
   rw [e]
   have hb':((61:UInt8) == b) = false:=by simpa using fun e=>hb e.symm
   simp [symL,List.find?,List.isPrefixOf,hb'])
  simp only [List.append_assoc]
  have e1':tk ([33] ++ (opd (levI a,txt a) 11 ++ r)) = _:=e1
  rw [e1',tk_opd ih 11 hr]
  simp only [Option.map_map]
  rfl
 ·intro x a b h hk hl ha iha hb ihb r hr
  rw [txt5 h hk hl ha hb,tkx_eq,hk]; simp only [tkOf,h,tkxs,nthT]
  show _ = (tk r).map (opT (levI a,tkx a) (ruleI x.name).2.2.1 ++ ((3,tl x.name) :: opT (levI b,tkx b) (ruleI x.name).2.2.2) ++ ·)
  simp only [List.append_assoc,List.cons_append]
  rw [tk_opd iha _ (nw32 _),tk_blank,tk_op hl,tk_blank,tk_opd ihb _ hr]
  simp only [Option.map_map]
  rfl
 ·intro x a b c h hk ha iha hb ihb hc ihc r hr
  rw [txt6 h hk ha hb hc,tkx_eq,hk]; simp only [tkOf,h,tkxs,nthT]
  show _ = (tk r).map (opT (levI a,tkx a) 2 ++ ((3,[63]) :: (opT (levI b,tkx b) 1 ++ ((3,[58]) :: opT (levI c,tkx c) 1))) ++ ·)
  simp only [List.append_assoc,List.cons_append,List.nil_append]
  have e1:∀ z:Bytes,tk (63 :: 32 :: z) = (tk (32 :: z)).map ((3,[63]) :: ·):=fun z=>tk_sym (s:=[]) (r:=32 :: z) (by decide) (by decide) (by decide) (by decide) rfl
  have e2:∀ z:Bytes,tk (58 :: 32 :: z) = (tk (32 :: z)).map ((3,[58]) :: ·):=fun z=>tk_sym (s:=[]) (r:=32 :: z) (by decide) (by decide) (by decide) (by decide) rfl
  rw [tk_opd iha _ (nw32 _),tk_blank,e1,tk_blank,tk_opd ihb _ (nw32 _),tk_blank,e2,tk_blank,tk_opd ihc _ hr]
  simp only [Option.map_map]
  congr 1
 ·intro x a h hk hn hi ha ih r hr
  rw [txt7 h hk hn ha,tkx_eq,hk]
  have e1:∀ z:Bytes,tk (60 :: 32 :: z) = (tk (32 :: z)).map ((3,[60]) :: ·):=fun z=>tk_sym (s:=[]) (r:=32 :: z) (by decide) (by decide) (by decide) (by decide) rfl
  have e2:∀ z:Bytes,tk (58 :: 32 :: z) = (tk (32 :: z)).map ((3,[58]) :: ·):=fun z=>tk_sym (s:=[]) (r:=32 :: z) (by decide) (by decide) (by decide) (by decide) rfl
  have hw:∀ z:Bytes,tk ((bif x.kind == 7 then [97,108,108] else [115,111,109,101]) ++ 32 :: z) = (tk (32 :: z)).map ((1,bif x.kind == 7 then [97,108,108] else [115,111,109,101]) :: ·):=fun z=>by
   cases x.kind == 7
   ·exact tk_word (w:=[115,111,109,101]) (by decide) (by decide) (by decide) (nw32 z)
   ·exact tk_word (w:=[97,108,108]) (by decide) (by decide) (by decide) (nw32 z)
  have htk:tkOf x.kind x.name x.n (tkxs [a]) = (1,bif x.kind == 7 then [97,108,108] else [115,111,109,101]) :: (1,tl x.name) :: (3,[60]) :: (2,numL x.n) :: (3,[58]) :: opT (levI a,tkx a) 0:=by
   rcases h with h | h <;> simp only [tkOf,h,tkxs,nthT] <;> rfl
  rw [htk]
  simp only [List.append_assoc,List.cons_append,List.nil_append]
  rw [hw,tk_blank,tk_name hn (nw32 _),tk_blank,e1,tk_blank,tk_num hi (nw32 _),tk_blank,e2,tk_blank,tk_opd ih _ hr]
  simp only [Option.map_map]
  rfl
theorem Lx.tk {N:Nat} {l:List UInt8} {ts:List Token} (h:Lx N l ts):tk l = some (ts.map fun t=>(t.kind.toNat,tl t.text)):=by
 induction h with
 | nil hs=>rw [tk_eq,hs]; rfl
 | @cons l w r k ts hs ht _ ih =>
  have hm:=tokL_spec ht
  rw [tk_eq,hs]
  cases w with
  | nil=>simp at hm
  | cons b w =>
   rw [List.cons_append] at ht ⊢
   simp only [ht]
   have e1:(b :: (w ++ r)).drop (b :: w).length = r:=by rw [← List.cons_append,List.drop_left]
   have e2:(b :: (w ++ r)).take (b :: w).length = b :: w:=by rw [← List.cons_append,List.take_left]
   rw [e1,e2,ih]
   rfl
end Go.Proofs.YtbecjgckobhmpaaGreatDoor
end
section
namespace Go.Proofs.YtbecjgckobhmpaaGreatDoor
open Go Go.AM Go.Proofs
theorem joinF_eq {xs:List ByteArray} {sep:ByteArray} (h1:xs.length≤1000000) (h2:(joinL (tl sep) (xs.map tl)).length≤1000000000):joinF xs sep = some (bs (joinL (tl sep) (xs.map tl))):=by
 show (if xs.length≤140737488355328∧(joinL (tl sep) (xs.map tl)).length≤140737488355328 then some (bs (joinL (tl sep) (xs.map tl))) else none) = _
 rw [if_pos ⟨by omega,by omega⟩]
theorem joinL_nil:∀ (l:List Bytes),joinL [] l = l.flatten
 | []=>rfl
 | [x]=>by simp [joinL]
 | x :: y :: r=>by
  have:=joinL_nil (y :: r)
  simp only [joinL,this,List.flatten_cons,List.nil_append]
theorem F82_eq {l:List ByteArray} (h1:l.length≤1000) (h2:((l.map tl).flatten).length≤1000000000):F82 l = some (bs ((l.map tl).flatten)):=by
 have e:=joinL_nil (l.map tl)
 unfold F82
 rw [joinF_eq (by omega) (by rw [show tl (bs []) = [] from rfl,e]; exact h2)]
 simp only [Option.bind_some,show tl (bs []) = [] from rfl,e]
theorem filter_ne (l:List ByteArray):(l.filter (fun s=>!(strEq s (bs [])))).map tl = (l.map tl).filter (fun s=>!s.isEmpty):=by
 rw [List.filter_map]
 congr 1
 apply List.filter_congr
 intro s _
 simp only [Function.comp]
 congr 1
 have:strEq s (bs []) = (tl s == []):=rfl
 rw [this]
 cases tl s <;> rfl
theorem F85_eq {l:List ByteArray} (h1:l.length≤1000) (h2:(wordsL (l.map tl)).length≤1000000000) {n:Nat} (hn:l.length < n):F85 n l = some (bs (wordsL (l.map tl))):=by
 unfold F85
 obtain ⟨r,hr,rfl⟩:=iter_inv (step:=fun s1:List ByteArray × Int=>bif decide (s1.2 < (l.length:Int)) then
   ((idxL l s1.2).bind fun x3 =>
   bif !(strEq x3 (bs [])) then
    ((appL 16 s1.1 ([x3]:List ByteArray)).bind fun x5 =>
    some (.inl (x5,w64 (s1.2 + 1))))
   else
    (some (.inl (s1.1,w64 (s1.2 + 1)))))
  else
   (some (.inr s1.1))) l (fun (k:Nat) (a:List ByteArray)=>(a,(k:Int))) (fun k a=>a = (l.take k).filter (fun s=>!(strEq s (bs [])))) (fun r=>r = l.filter (fun s=>!(strEq s (bs []))))
  (fun k a x hx ha=>by
   have hlt:=lt_of_get hx
   have c1:decide ((k:Int) < (l.length:Int)) = true:=by simpa using hlt
   have ht:l.take (k + 1) = l.take k ++ [x]:=by
    rw [List.take_add_one,hx]; rfl
   simp only [c1,cond_true,idxL_some hx,Option.bind_some,w64_nat (k:=k) (by omega)]
   left
   cases he:strEq x (bs [])
   ·have hal:a.length≤k:=by
     rw [ha]
     refine Nat.le_trans (List.length_filter_le _ _) ?_
     simp; omega
    simp only [Bool.not_false,cond_true,appL]
    rw [if_pos (by simp; omega)]
    exact ⟨a ++ [x],rfl,by rw [ht,List.filter_append,← ha]; simp [he]⟩
   ·simp only [Bool.not_true,cond_false]
    exact ⟨a,rfl,by rw [ht,List.filter_append,← ha]; simp [he]⟩)
  (fun a ha=>⟨a,by simp,by rw [ha]; simp⟩) n [] hn (by simp)
 erw [hr]
 simp only [Option.bind_some]
 have e:(l.filter (fun s=>!(strEq s (bs [])))).map tl = (l.map tl).filter (fun s=>!s.isEmpty):=filter_ne l
 rw [joinF_eq (by have:=List.length_filter_le (fun s=>!(strEq s (bs []))) l; omega) (by rw [e]; exact h2)]
 simp only [Option.bind_some,e]
 rfl
theorem F84_eq (s:ByteArray) {n:Nat} (hn:14≤n):F84 n s = some ((ruleI s).1,(ruleI s).2.1,(ruleI s).2.2.1,(ruleI s).2.2.2):=by
 unfold F84
 have hlen:ruleTab.length = 13:=by kernel_rfl
 have:=iter_runF (step:=fun s2:Int=>bif decide (s2 < 13) then
   ((idxL ruleTab s2).bind fun x4 =>
   bif strEq x4.1 s then
    (some (.inr (.inl (x4.1,x4.2.1,x4.2.2.1,x4.2.2.2))))
   else
    (some (.inl (w64 (s2 + 1)))))
  else
   (some (.inr (.inr ())):Option (Int ⊕ ((ByteArray × Int × Int × Int) ⊕ Unit)))) ruleTab (fun (k:Nat) (_:Unit)=>(k:Int)) (fun _ _ x=>if strEq x.1 s then .inr (.inl x) else .inl ()) (fun _=>.inr ())
  (fun k a x hx=>by
   have hlt:=lt_of_get hx
   have c1:decide ((k:Int) < 13) = true:=by simp; omega
   simp only [c1,cond_true,idxL_some hx,Option.bind_some,w64_nat (k:=k) (by omega)]
   cases strEq x.1 s <;> rfl) (fun _=>by rw [hlen]; rfl) n () (by omega)
 erw [this]
 have key:∀ (l:List (ByteArray × Int × Int × Int)) (k:Nat),runF (A:=Unit) (ρ:=(ByteArray × Int × Int × Int) ⊕ Unit) (fun _ _ x=>if strEq x.1 s then .inr (.inl x) else .inl ()) (fun _=>.inr ()) k l () = match l.find? (fun r=>strEq r.1 s) with | some r=>.inl r | none=>.inr ():=by
  intro l
  induction l with
  | nil=>intro k; rfl
  | cons x r ih =>
   intro k
   simp only [runF,List.find?_cons]
   by_cases hx:strEq x.1 s = true
   ·simp [hx]
   ·simp only [Bool.not_eq_true] at hx
    simp only [hx]
    simpa using ih (k + 1)
 rw [key]
 simp only [Option.bind_some,ruleI]
 cases ruleTab.find? (fun r=>strEq r.1 s) <;> rfl
theorem F134_eq (x:Node) {n:Nat} (hn:14≤n):F134 n x = some (levI x):=by
 unfold F134 levI
 simp only [Option.bind_some,F84_eq _ hn,some_cond,bor]
theorem itoa_eq {n:Int} (h:inR n = true):itoaF n = some (bs (numL n)):=by
 simp only [inR,Bool.and_eq_true,decide_eq_true_eq] at h
 unfold itoaF
 rw [if_pos (by omega)]
 rfl
theorem F83_of {x:Node} {n:Nat} (hn:14≤n) (h:F54 n x = some (bs (txt x))) (hl:(txt x).length≤100000) (r:Int):F83 (n + 1) x r = some (bs (opd (levI x,txt x) r)):=by
 show F83_step (F83 n) (F54 n) n x r = _
 unfold F83_step
 rw [F134_eq x hn,h]
 simp only [Option.bind_some,opd]
 cases decide (levI x < r)
 ·rfl
 ·simp only [cond_true]
  rw [F82_eq (by simp) (by simp [tl,bs]; omega)]
  simp [bs,tl]
theorem F54_eq:∀ x,okE x→sz x≤200→∀ n,30 + 2 * sz x≤n→F54 n x = some (bs (txt x)):=by
 have len:∀ y,okE y→sz y≤200→(txt y).length≤16000:=fun y hy hs=>by have:=txt_len y hy; omega
 have opl:∀ y (r:Int),okE y→sz y≤200→(opd (levI y,txt y) r).length≤16002:=fun y r hy hs=>by
  have h1:=len y hy hs
  have h2:=opd_len (levI y,txt y) r
  simp at h2
  omega
 apply okE_ind
 ·intro x h hk hn hs n hf
  obtain ⟨n,rfl⟩:∃ m,n = m + 1:=⟨n - 1,by omega⟩
  show F54_step (F83 n) (F54 n) n x = _
  unfold F54_step
  rw [txt_eq]
  simp [h,itoa_eq hn,txtOf]
 ·intro x h hk hn hs n hf
  obtain ⟨n,rfl⟩:∃ m,n = m + 1:=⟨n - 1,by omega⟩
  show F54_step (F83 n) (F54 n) n x = _
  unfold F54_step
  rw [txt_eq]
  simp [h,hk,txtOf,txts,bs_tl]
 ·intro x a h hk hn ha ih hs n hf
  have hsz:sz x = 1 + sz a:=by rw [sz_eq,hk]; simp [szs]
  obtain ⟨n,rfl⟩:∃ m,n = m + 2:=⟨n - 2,by omega⟩
  have ea:=F83_of (n:=n) (by omega) (ih (by omega) n (by omega)) (by have:=len a ha (by omega); omega) 0
  have h1:=opl a 0 ha (by omega)
  have h2:=pathB_len hn
  show F54_step (F83 (n + 1)) (F54 (n + 1)) (n + 1) x = _
  unfold F54_step
  rw [txt_eq]
  simp only [h,hk,idxL]
  simp [txtOf,txts,nth,ea]
  rw [F82_eq (by simp) (by simp [tl,bs] at *; omega)]
  simp [bs,tl]
 ·intro x a h hk ha ih hs n hf
  have hsz:sz x = 1 + sz a:=by rw [sz_eq,hk]; simp [szs]
  obtain ⟨n,rfl⟩:∃ m,n = m + 2:=⟨n - 2,by omega⟩
  have ea:=F83_of (n:=n) (by omega) (ih (by omega) n (by omega)) (by have:=len a ha (by omega); omega) 0
  have h1:=opl a 0 ha (by omega)
  show F54_step (F83 (n + 1)) (F54 (n + 1)) (n + 1) x = _
  unfold F54_step
  rw [txt_eq]
  simp only [h,hk,idxL]
  simp [txtOf,txts,nth,ea]
  rw [F82_eq (by simp) (by simp [tl,bs] at *; omega)]
  simp [bs,tl]
 ·intro x a h hk ha ih hs n hf
  have hsz:sz x = 1 + sz a:=by rw [sz_eq,hk]; simp [szs]
  obtain ⟨n,rfl⟩:∃ m,n = m + 2:=⟨n - 2,by omega⟩
  have ea:=F83_of (n:=n) (by omega) (ih (by omega) n (by omega)) (by have:=len a ha (by omega); omega) 11
  have h1:=opl a 11 ha (by omega)
  show F54_step (F83 (n + 1)) (F54 (n + 1)) (n + 1) x = _
  unfold F54_step
  rw [txt_eq]
  simp only [h,hk,idxL]
  simp [txtOf,txts,nth,ea]
  rw [F82_eq (by simp) (by simp [tl,bs] at *; omega)]
  simp [bs,tl]
 ·intro x a b h hk hl ha iha hb ihb hs n hf
  have hsz:sz x = 1 + (sz a + sz b):=by rw [sz_eq,hk]; simp [szs]
  obtain ⟨n,rfl⟩:∃ m,n = m + 2:=⟨n - 2,by omega⟩
  have ea:=F83_of (n:=n) (by omega) (iha (by omega) n (by omega)) (by have:=len a ha (by omega); omega) (ruleI x.name).2.2.1
  have eb:=F83_of (n:=n) (by omega) (ihb (by omega) n (by omega)) (by have:=len b hb (by omega); omega) (ruleI x.name).2.2.2
  have h1:=opl a (ruleI x.name).2.2.1 ha (by omega)
  have h2:=opl b (ruleI x.name).2.2.2 hb (by omega)
  have h3:=level_len hl
  have h4:=wordsL_len [opd (levI a,txt a) (ruleI x.name).2.2.1,tl x.name,opd (levI b,txt b) (ruleI x.name).2.2.2]
  show F54_step (F83 (n + 1)) (F54 (n + 1)) (n + 1) x = _
  unfold F54_step
  rw [txt_eq]
  simp only [h,hk,F84_eq _ (show 14≤n + 1 by omega),idxL]
  simp [txtOf,txts,nth,ea,eb]
  rw [F85_eq (by simp) (by simp [tl,bs] at *; omega) (by simp; omega)]
  simp [bs,tl]
 ·intro x a b c h hk ha iha hb ihb hc ihc hs n hf
  have hsz:sz x = 1 + (sz a + (sz b + sz c)):=by rw [sz_eq,hk]; simp [szs]
  obtain ⟨n,rfl⟩:∃ m,n = m + 2:=⟨n - 2,by omega⟩
  have ea:=F83_of (n:=n) (by omega) (iha (by omega) n (by omega)) (by have:=len a ha (by omega); omega) 2
  have eb:=F83_of (n:=n) (by omega) (ihb (by omega) n (by omega)) (by have:=len b hb (by omega); omega) 1
  have ec:=F83_of (n:=n) (by omega) (ihc (by omega) n (by omega)) (by have:=len c hc (by omega); omega) 1
  have h1:=opl a 2 ha (by omega)
  have h2:=opl b 1 hb (by omega)
  have h3:=opl c 1 hc (by omega)
  have h4:=wordsL_len [opd (levI a,txt a) 2,[63],opd (levI b,txt b) 1,[58],opd (levI c,txt c) 1]
  show F54_step (F83 (n + 1)) (F54 (n + 1)) (n + 1) x = _
  unfold F54_step
  rw [txt_eq]
  simp only [h,hk,idxL]
  simp [txtOf,txts,nth,ea,eb,ec]
  rw [F85_eq (by simp) (by simp [tl,bs] at *; omega) (by simp; omega)]
  simp [bs,tl]
 ·intro x a h hk hnm hn ha ih hs n hf
  have hsz:sz x = 1 + sz a:=by rw [sz_eq,hk]; simp [szs]
  obtain ⟨n,rfl⟩:∃ m,n = m + 2:=⟨n - 2,by omega⟩
  have ea:=F83_of (n:=n) (by omega) (ih (by omega) n (by omega)) (by have:=len a ha (by omega); omega) 0
  have h1:=opl a 0 ha (by omega)
  have h2:=nameB_len hnm
  have h3:=numL_len x.n
  have h4:=wordsL_len [[97,108,108],tl x.name,[60],numL x.n,[58],opd (levI a,txt a) 0]
  have h5:=wordsL_len [[115,111,109,101],tl x.name,[60],numL x.n,[58],opd (levI a,txt a) 0]
  show F54_step (F83 (n + 1)) (F54 (n + 1)) (n + 1) x = _
  unfold F54_step
  rw [txt_eq]
  rcases h with h | h
  ·simp only [h,hk,idxL,itoa_eq hn]
   simp [txtOf,txts,nth,ea]
   rw [F85_eq (by simp) (by simp [tl,bs] at *; omega) (by simp; omega)]
   simp [bs,tl]
  ·simp only [h,hk,idxL,itoa_eq hn]
   simp [txtOf,txts,nth,ea]
   rw [F85_eq (by simp) (by simp [tl,bs] at *; omega) (by simp; omega)]
   simp [bs,tl]
end Go.Proofs.YtbecjgckobhmpaaGreatDoor
end
section
namespace Go.Proofs.YtbecjgckobhmpaaGreatDoor
open Go Go.AM Go.Proofs
theorem ix0 {l:List Node} {y:Node} (h:l[0]? = some y):idxL l 0 = some y:=idxL_some (k:=0) h
theorem ix1 {l:List Node} {y:Node} (h:l[1]? = some y):idxL l 1 = some y:=idxL_some (k:=1) h
theorem ix2 {l:List Node} {y:Node} (h:l[2]? = some y):idxL l 2 = some y:=idxL_some (k:=2) h
theorem catT_eq {a b:ByteArray} (h:(tl a).length + (tl b).length≤1000000000000000):catS a b = some (bs (tl a ++ tl b)):=by
 unfold catS
 rw [if_pos (by rw [size_tl,size_tl]; omega)]
 rfl
theorem op_all:([[61,61,62],[124,124],[38,38],[61,61],[33,61],[60],[60,61],[124],[94],[38],[43],[45],[42]]:List Bytes).all (fun l=>F189 (bs l) == some (ruleI (bs l)).2.1 && F131 (bs l) == some ((ruleI (bs l)).2.2.1,(ruleI (bs l)).2.2.2)) = true:=by kernel_rfl
theorem op_eq {s:ByteArray} (h:levelI s≠0):F189 s = some (ruleI s).2.1∧F131 s = some ((ruleI s).2.2.1,(ruleI s).2.2.2):=by
 have:=List.all_eq_true.1 op_all _ (level_cases h)
 rw [bs_tl] at this
 simpa using this
theorem F188_eq {x:Node} (h:x.kind = 5→levelI x.name≠0):F188 x = some (levI x):=by
 unfold F188 levI
 by_cases h5:x.kind = 5
 ·have:=(op_eq (h h5)).1
  simp [h5,this]
 ·have e5:(x.kind == 5) = false:=nbeq h5
  simp only [e5,cond_false,some_cond,bor,Option.bind_some]
theorem okE_op {x:Node} (h:okE x):x.kind = 5→levelI x.name≠0:=fun h5=>by
 have:=(okT_parts h.1).1
 simp [fieldsB,fldGood,h5] at this
 exact this.1
theorem F130_of {x:Node} {n:Nat} (hx:okE x) (h:F80 n x = some (bs (txt x))) (hl:(txt x).length≤100000) (r:Int):F130 (n + 1) x r = some (bs (opd (levI x,txt x) r)):=by
 show F130_step (F130 n) (F80 n) n x r = _
 unfold F130_step
 rw [F188_eq (okE_op hx),h]
 simp only [Option.bind_some,opd]
 cases decide (levI x < r)
 ·rfl
 ·simp only [cond_true]
  rw [catT_eq (by simp [tl_bs]; omega)]
  simp only [Option.bind_some]
  rw [catT_eq (by simp [tl_bs]; omega)]
  simp [tl_bs]
theorem F80_eq:∀ x,okE x→sz x≤200→∀ n,30 + 2 * sz x≤n→F80 n x = some (bs (txt x)):=by
 have len:∀ y,okE y→sz y≤200→(txt y).length≤16000:=fun y hy hs=>by have:=txt_len y hy; omega
 have opl:∀ y (r:Int),okE y→sz y≤200→(opd (levI y,txt y) r).length≤16002:=fun y r hy hs=>by
  have h1:=len y hy hs
  have h2:=opd_len (levI y,txt y) r
  simp at h2
  omega
 have opn:∀ y (r:Int),okE y→opd (levI y,txt y) r≠[]:=fun y r hy=>(hd1_opd (txt_hd y hy) r).ne
 apply okE_ind
 ·intro x h hk hn hs n hf
  obtain ⟨n,rfl⟩:∃ m,n = m + 1:=⟨n - 1,by omega⟩
  show F80_step (F130 n) (F80 n) n x = _
  unfold F80_step
  rw [txt_eq]
  simp [h,itoa_eq hn,txtOf]
 ·intro x h hk hn hs n hf
  obtain ⟨n,rfl⟩:∃ m,n = m + 1:=⟨n - 1,by omega⟩
  show F80_step (F130 n) (F80 n) n x = _
  unfold F80_step
  rw [txt_eq]
  simp [h,hk,txtOf,txts,bs_tl]
 ·intro x a h hk hn ha ih hs n hf
  have hsz:sz x = 1 + sz a:=by rw [sz_eq,hk]; simp [szs]
  obtain ⟨n,rfl⟩:∃ m,n = m + 2:=⟨n - 2,by omega⟩
  have ea:=F130_of (n:=n) ha (ih (by omega) n (by omega)) (by have:=len a ha (by omega); omega) 0
  have h1:=opl a 0 ha (by omega)
  have h2:=pathB_len hn
  have i0:idxL x.kids 0 = some a:=ix0 (by simp [hk])
  have c0:((x.kids.length:Int) == 0) = false:=by simp [hk]
  show F80_step (F130 (n + 1)) (F80 (n + 1)) (n + 1) x = _
  unfold F80_step
  rw [txt_eq]
  simp only [h,c0,i0,ea,Int.reduceBEq,cond_true,cond_false,Option.bind_some]
  simp (disch:=(simp only [tl_bs,List.length_append,List.length_cons,List.length_nil]; omega)) only [catT_eq,tl_bs,Option.bind_some]
  simp [txtOf,txts,nth,hk]
 ·intro x a h hk ha ih hs n hf
  have hsz:sz x = 1 + sz a:=by rw [sz_eq,hk]; simp [szs]
  obtain ⟨n,rfl⟩:∃ m,n = m + 2:=⟨n - 2,by omega⟩
  have ea:=F130_of (n:=n) ha (ih (by omega) n (by omega)) (by have:=len a ha (by omega); omega) 0
  have h1:=opl a 0 ha (by omega)
  have i0:idxL x.kids 0 = some a:=ix0 (by simp [hk])
  show F80_step (F130 (n + 1)) (F80 (n + 1)) (n + 1) x = _
  unfold F80_step
  rw [txt_eq]
  simp only [h,i0,ea,Int.reduceBEq,cond_true,cond_false,Option.bind_some]
  simp (disch:=(simp only [tl_bs,List.length_append,List.length_cons,List.length_nil]; omega)) only [catT_eq,tl_bs,Option.bind_some]
  simp [txtOf,txts,nth,hk]
 ·intro x a h hk ha ih hs n hf
  have hsz:sz x = 1 + sz a:=by rw [sz_eq,hk]; simp [szs]
  obtain ⟨n,rfl⟩:∃ m,n = m + 2:=⟨n - 2,by omega⟩
  have ea:=F130_of (n:=n) ha (ih (by omega) n (by omega)) (by have:=len a ha (by omega); omega) 11
  have h1:=opl a 11 ha (by omega)
  have i0:idxL x.kids 0 = some a:=ix0 (by simp [hk])
  show F80_step (F130 (n + 1)) (F80 (n + 1)) (n + 1) x = _
  unfold F80_step
  rw [txt_eq]
  simp only [h,i0,ea,Int.reduceBEq,cond_true,cond_false,Option.bind_some]
  simp (disch:=(simp only [tl_bs,List.length_append,List.length_cons,List.length_nil]; omega)) only [catT_eq,tl_bs,Option.bind_some]
  simp [txtOf,txts,nth,hk]
 ·intro x a b h hk hl ha iha hb ihb hs n hf
  have hsz:sz x = 1 + (sz a + sz b):=by rw [sz_eq,hk]; simp [szs]
  obtain ⟨n,rfl⟩:∃ m,n = m + 2:=⟨n - 2,by omega⟩
  have ea:=F130_of (n:=n) ha (iha (by omega) n (by omega)) (by have:=len a ha (by omega); omega) (ruleI x.name).2.2.1
  have eb:=F130_of (n:=n) hb (ihb (by omega) n (by omega)) (by have:=len b hb (by omega); omega) (ruleI x.name).2.2.2
  have h1:=opl a (ruleI x.name).2.2.1 ha (by omega)
  have h2:=opl b (ruleI x.name).2.2.2 hb (by omega)
  have h3:=level_len hl
  have i0:idxL x.kids 0 = some a:=ix0 (by simp [hk])
  have i1:idxL x.kids 1 = some b:=ix1 (by simp [hk])
  have hw:=words_ne (l:=[opd (levI a,txt a) (ruleI x.name).2.2.1,tl x.name,opd (levI b,txt b) (ruleI x.name).2.2.2]) (by
   simp only [List.mem_cons,List.not_mem_nil,or_false,forall_eq_or_imp,forall_eq]
   exact ⟨opn a _ ha,op_ne hl,opn b _ hb⟩)
  show F80_step (F130 (n + 1)) (F80 (n + 1)) (n + 1) x = _
  unfold F80_step
  rw [txt_eq]
  simp only [h,i0,i1,(op_eq hl).2,ea,eb,Int.reduceBEq,cond_true,cond_false,Option.bind_some]
  simp (disch:=(simp only [tl_bs,List.length_append,List.length_cons,List.length_nil]; omega)) only [catT_eq,tl_bs,Option.bind_some]
  simp [txtOf,txts,nth,hk,hw,joinL]
 ·intro x a b c h hk ha iha hb ihb hc ihc hs n hf
  have hsz:sz x = 1 + (sz a + (sz b + sz c)):=by rw [sz_eq,hk]; simp [szs]
  obtain ⟨n,rfl⟩:∃ m,n = m + 2:=⟨n - 2,by omega⟩
  have ea:=F130_of (n:=n) ha (iha (by omega) n (by omega)) (by have:=len a ha (by omega); omega) 2
  have eb:=F130_of (n:=n) hb (ihb (by omega) n (by omega)) (by have:=len b hb (by omega); omega) 1
  have ec:=F130_of (n:=n) hc (ihc (by omega) n (by omega)) (by have:=len c hc (by omega); omega) 1
  have h1:=opl a 2 ha (by omega)
  have h2:=opl b 1 hb (by omega)
  have h3:=opl c 1 hc (by omega)
  have i0:idxL x.kids 0 = some a:=ix0 (by simp [hk])
  have i1:idxL x.kids 1 = some b:=ix1 (by simp [hk])
  have i2:idxL x.kids 2 = some c:=ix2 (by simp [hk])
  have hw:=words_ne (l:=[opd (levI a,txt a) 2,[63],opd (levI b,txt b) 1,[58],opd (levI c,txt c) 1]) (by
   simp only [List.mem_cons,List.not_mem_nil,or_false,forall_eq_or_imp,forall_eq]
   exact ⟨opn a _ ha,by simp,opn b _ hb,by simp,opn c _ hc⟩)
  show F80_step (F130 (n + 1)) (F80 (n + 1)) (n + 1) x = _
  unfold F80_step
  rw [txt_eq]
  simp only [h,i0,i1,i2,ea,eb,ec,Int.reduceBEq,cond_true,cond_false,Option.bind_some]
  simp (disch:=(simp only [tl_bs,List.length_append,List.length_cons,List.length_nil]; omega)) only [catT_eq,tl_bs,Option.bind_some]
  simp [txtOf,txts,nth,hk,hw,joinL]
 ·intro x a h hk hnm hn ha ih hs n hf
  have hsz:sz x = 1 + sz a:=by rw [sz_eq,hk]; simp [szs]
  obtain ⟨n,rfl⟩:∃ m,n = m + 2:=⟨n - 2,by omega⟩
  have ea:=F130_of (n:=n) ha (ih (by omega) n (by omega)) (by have:=len a ha (by omega); omega) 0
  have h1:=opl a 0 ha (by omega)
  have h2:=nameB_len hnm
  have h3:=numL_len x.n
  have i0:idxL x.kids 0 = some a:=ix0 (by simp [hk])
  have hw:∀ w:Bytes,w≠[]→wordsL [w,tl x.name,[60],numL x.n,[58],opd (levI a,txt a) 0] = joinL [32] [w,tl x.name,[60],numL x.n,[58],opd (levI a,txt a) 0]:=fun w hw=>words_ne (by
   simp only [List.mem_cons,List.not_mem_nil,or_false,forall_eq_or_imp,forall_eq]
   exact ⟨hw,(name_hd hnm).ne,by simp,(num_hd _).ne,by simp,opn a _ ha⟩)
  show F80_step (F130 (n + 1)) (F80 (n + 1)) (n + 1) x = _
  unfold F80_step
  rw [txt_eq]
  rcases h with h | h
  ·simp only [h,i0,ea,itoa_eq hn,Int.reduceBEq,cond_false,Option.bind_some]
   simp (disch:=(simp only [tl_bs,List.length_append,List.length_cons,List.length_nil]; omega)) only [catT_eq,tl_bs,Option.bind_some]
   simp [txtOf,txts,nth,hk,hw,joinL]
  ·simp only [h,i0,ea,itoa_eq hn,Int.reduceBEq,cond_true,cond_false,Option.bind_some]
   simp (disch:=(simp only [tl_bs,List.length_append,List.length_cons,List.length_nil]; omega)) only [catT_eq,tl_bs,Option.bind_some]
   simp [txtOf,txts,nth,hk,hw,joinL]
end Go.Proofs.YtbecjgckobhmpaaGreatDoor
end
section
namespace Go.Proofs.YtbecjgckobhmpaaGreatDoor
open Go Go.AM Go.Proofs
theorem szs_take_succ {l:List Node} {k:Nat} {x:Node} (h:l[k]? = some x):szs (l.take (k + 1)) = szs (l.take k) + sz x:=by
 rw [List.take_add_one,h,szs_append]
 simp [szs]
theorem F76_T:∀ (D:Nat) (x:Node) (lim:Int),0≤lim→lim≤1000→D≤100→∀ n,2000 + D≤n→T (F76 n x lim (D:Int)) (fun c=>1≤c∧c≤lim + 1∧(c≤lim→c = (sz x:Int))):=by
 intro D
 induction D with
 | zero =>
  intro x lim h0 h1 _ n hn
  obtain ⟨n,rfl⟩:∃ k,n = k + 1:=⟨n - 1,by omega⟩
  show T (F76_step (F76 n) n x lim 0) _
  unfold F76_step
  simp only [BEq.rfl,cond_true]
  rw [w64_id (by omega) (by omega)]
  exact T.some ⟨by omega,by omega,fun h=>by omega⟩
 | succ D ih =>
  intro x lim h0 h1 hD n hn
  obtain ⟨n,rfl⟩:∃ k,n = k + 1:=⟨n - 1,by omega⟩
  show T (F76_step (F76 n) n x lim ((D + 1:Nat):Int)) _
  unfold F76_step
  have c0:((((D + 1:Nat):Int)) == 0) = false:=by simp; omega
  simp only [c0,cond_false]
  refine T.bind (P:=fun c=>1≤c∧c≤lim + 1∧(c≤lim→c = (sz x:Int))) ?_ (fun _ h=>T.some h)
  refine iter_meas (fun s=>∃ i:Nat,s.2 = (i:Int)∧i≤x.kids.length∧1≤s.1∧s.1≤lim + 1∧(i:Int) + 1≤s.1∧(s.1≤lim→s.1 = 1 + (szs (x.kids.take i):Int))) (fun s=>(lim + 1 - s.1).toNat) _ (fun s hs=>?_) n _ (by simp; omega) ⟨0,rfl,by omega,by simp,by simp; omega,by simp,fun _=>by simp [szs]⟩
  obtain ⟨i,hi,hil,h2,h3,h4,h5⟩:=hs
  rw [hi]
  by_cases hc:i < x.kids.length∧s.1≤lim
  ·have c1:(decide ((i:Int) < (x.kids.length:Int)) && decide (s.1≤lim)) = true:=by simp; omega
   have hx:x.kids[i]? = some x.kids[i]:=List.getElem?_eq_getElem hc.1
   have e1:w64 (lim - s.1) = lim - s.1:=w64_id (by omega) (by omega)
   have e2:w64 (((D + 1:Nat):Int) - 1) = (D:Int):=by rw [w64_id (by omega) (by omega)]; omega
   obtain ⟨c,hcc,k1,k2,k3⟩:=ih x.kids[i] (lim - s.1) (by omega) (by omega) (by omega) n (by omega)
   have e3:w64 (s.1 + c) = s.1 + c:=w64_id (by omega) (by omega)
   rw [c1,idxL_some hx]
   simp only [cond_true,Option.bind_some,e1,e2,hcc,e3,w64_nat (k:=i) (by omega)]
   refine .inl ⟨_,rfl,⟨i + 1,rfl,by omega,by omega,by omega,by omega,fun h=>?_⟩,by simp; omega⟩
   have h6:=h5 hc.2
   have h7:=k3 (by simp at h; omega)
   have h8:=szs_take_succ hx
   simp only [] at h ⊢
   omega
  ·have c1:(decide ((i:Int) < (x.kids.length:Int)) && decide (s.1≤lim)) = false:=by simp; omega
   rw [c1]
   refine .inr ⟨_,rfl,by omega,by omega,fun h=>?_⟩
   have hil':i = x.kids.length:=by omega
   have h6:=h5 h
   rw [hil',List.take_length] at h6
   rw [sz_eq]
   omega
theorem F45_T (x:Node) {n:Nat} (hn:3000≤n):T (F45 n x 120) (fun b=>b = true→sz x≤120):=by
 unfold F45
 refine (F76_T 60 x 120 (by omega) (by omega) (by omega) n (by omega)).bind fun c hc=>T.some fun h=>?_
 have h':c≤120:=by simpa using h
 have:=hc.2.2 h'
 omega
end Go.Proofs.YtbecjgckobhmpaaGreatDoor
end
section
namespace Go.Proofs.YtbecjgckobhmpaaGreatDoor
open Go Go.AM Go.Proofs
namespace M
variable {α β σ ρ:Type}
def Tot (L:Nat) (m:M α):Prop:=∀ fin s,s.rest.length < L→m.run fin s≠.out
theorem Tot.mono {L L':Nat} {m:M α} (h:Tot L m) (hl:L'≤L):Tot L' m:=fun fin s hs=>h fin s (by omega)
theorem Tot.zero {m:M α}:Tot 0 m:=fun _ _ hs=>absurd hs (Nat.not_lt_zero _)
theorem tot_ret {L:Nat} (a:α):Tot L (.ret a):=fun _ _ _ h=>by cases h
theorem tot_fail {L:Nat} (b:Bool):Tot L (.fail b:M α):=fun _ _ _ h=>by cases h
theorem tot_pos {L:Nat} {k:Int→M α} (h:∀ x,Tot L (k x)):Tot L (.pos k):=fun fin s hs=>h _ fin s hs
theorem tot_look {L:Nat} {k:Option (Int × ByteArray)→M α} (h:∀ x,Tot L (k x)):Tot L (.look k):=fun fin s hs=>h _ fin s hs
theorem tot_cond {L:Nat} {c:Bool} {a b:M α} (h1:Tot L a) (h2:Tot L b):Tot L (bif c then a else b):=by cases c <;> assumption
theorem tot_bind {L:Nat} {m:M α} {k:α→M β} (h1:Tot L m) (h2:∀ a,Tot L (k a)):Tot L (m.bind k):=by
 intro fin s hs
 rw [run_bind]
 have hsuf:=run_suf fin m s
 have h:=h1 fin s hs
 cases hr:m.run fin s with
 | ok a s' =>
  rw [hr] at hsuf
  have:=List.IsSuffix.length_le hsuf
  exact h2 a fin s' (by omega)
 | bad b s'=>intro h; cases h
 | out=>exact absurd hr h
theorem run_accept (fin:Int) (a:ByteArray) (s:PS):(accept a).run fin s = match s.rest with
  | []=>.ok false s
  | t :: r=>bif strEq t.text a then .ok true ⟨r,s.inner,s.reps⟩ else .ok false s:=by
 obtain ⟨r,i,p⟩:=s
 cases r with
 | nil=>rfl
 | cons t r =>
  simp only [accept,run,hdOf]
  cases strEq t.text a <;> rfl
theorem run_kw (fin:Int) (a:ByteArray) (m m':M α) (s:PS):(kw a m m').run fin s = match s.rest with
  | []=>m'.run fin s
  | t :: r=>bif strEq t.text a then m.run fin ⟨r,s.inner,s.reps⟩ else m'.run fin s:=by
 rw [kw,run_bind,run_accept]
 obtain ⟨r,i,p⟩:=s
 cases r with
 | nil=>rfl
 | cons t r=>cases h:strEq t.text a <;> simp [h,andThen]
theorem tot_accept {L:Nat} (a:ByteArray):Tot L (accept a):=by
 intro fin s _
 rw [run_accept]
 cases s.rest with
 | nil=>intro h; cases h
 | cons t r=>cases h:strEq t.text a <;> simp [h]
theorem tot_expect {L:Nat} (a:ByteArray):Tot L (expect a):=tot_bind (tot_accept a) fun _=>tot_cond (tot_ret _) (tot_fail _)
theorem tot_kw {L:Nat} {a:ByteArray} {m m':M α} (h1:Tot (L - 1) m) (h2:Tot L m'):Tot L (kw a m m'):=by
 intro fin s hs
 rw [run_kw]
 obtain ⟨r,i,p⟩:=s
 cases r with
 | nil=>exact h2 fin _ hs
 | cons t r =>
  simp only [List.length_cons] at hs
  show (bif strEq t.text a then m.run fin ⟨r,i,p⟩ else m'.run fin ⟨t :: r,i,p⟩)≠.out
  cases h:strEq t.text a
  ·exact h2 fin ⟨t :: r,i,p⟩ (by simpa using hs)
  ·exact h1 fin ⟨r,i,p⟩ (by simp only; omega)
theorem tot_name {L:Nat}:Tot L name:=by
 rintro fin ⟨r,i,p⟩ _
 cases r with
 | nil=>intro h; cases h
 | cons t r =>
  simp only [name,run,hdOf]
  cases isNm (t.kind,t.text) <;> intro h <;> cases h
theorem tot_num {L:Nat}:Tot L num:=by
 rintro fin ⟨r,i,p⟩ _
 cases r with
 | nil=>intro h; cases h
 | cons t r =>
  simp only [num,run,hdOf]
  cases t.kind == 2 <;> intro h <;> cases h
theorem tot_numNode {L:Nat}:Tot L numNode:=tot_pos fun _=>tot_bind tot_num fun _=>tot_ret _
theorem tot_iter0 {L n:Nat} {step:σ→M (σ ⊕ ρ)} (h:∀ x,Tot L (step x)) (hless:∀ x fin s x' s',(step x).run fin s = .ok (.inl x') s'→s'.rest.length < s.rest.length) (hn:L≤n) (x:σ):Tot L (iterM step n x):=by
 intro fin s hs
 have key:∀ (n:Nat) (x:σ) (s:PS),s.rest.length < L→s.rest.length < n→(iterM step n x).run fin s≠.out:=by
  intro n
  induction n with
  | zero=>intro x s _ h; omega
  | succ n ih =>
   intro x s hL hn
   simp only [iterM,run_bind]
   have h1:=h x fin s hL
   cases hr:(step x).run fin s with
   | ok r s' =>
    cases r with
    | inl x' =>
     have:=hless x fin s x' s' hr
     exact ih x' s' (by omega) (by omega)
    | inr r=>intro e; cases e
   | bad b s'=>intro e; cases e
   | out=>exact absurd hr h1
 exact key n x s hs (by omega)
theorem tot_path {L n:Nat} (hn:3≤n):Tot L (path n):=by
 refine tot_bind tot_name fun x=>?_
 obtain ⟨n,rfl⟩:∃ m,n = m + 3:=⟨n - 3,by omega⟩
 have hs:∀ x,Tot L (pathS x):=fun x=>tot_cond (tot_bind (tot_accept _) fun b=>tot_cond (tot_ret _) (tot_bind tot_name fun _=>tot_ret _)) (tot_ret _)
 have h1:∀ (x:ByteArray × Int) (r:(ByteArray × Int) ⊕ ByteArray) (fin:Int) (s s':PS),(pathS x).run fin s = .ok r s'→match r with
   | .inl x'=>x'.2 = x.2 + 1∧x.2 < 2
   | .inr _=>True:=by
  intro x r fin s s' e
  unfold pathS at e
  cases hc:decide (x.2 < 2) <;> rw [hc] at e
  ·simp only [cond_false,run,Out.ok.injEq] at e
   rw [← e.1]; trivial
  ·simp only [cond_true,run_bind] at e
   cases hr:(accept (bs [46])).run fin s with
   | ok b s1 =>
    rw [hr] at e
    simp only [andThen] at e
    cases b
    ·simp only [Bool.not_false,cond_true,run,Out.ok.injEq] at e
     rw [← e.1]; trivial
    ·simp only [Bool.not_true,cond_false,run_bind] at e
     cases hr2:name.run fin s1 with
     | ok y s2 =>
      rw [hr2] at e
      simp only [andThen,run,Out.ok.injEq] at e
      rw [← e.1]
      exact ⟨rfl,by simpa using hc⟩
     | bad b s2=>rw [hr2] at e; cases e
     | out=>rw [hr2] at e; cases e
   | bad b s1=>rw [hr] at e; cases e
   | out=>rw [hr] at e; cases e
 intro fin s hL
 have key:∀ (k:Nat) (x:ByteArray × Int) (s:PS),s.rest.length < L→(2 - x.2:Int) < k→(iterM pathS k x).run fin s≠.out∨k = 0:=by
  intro k
  induction k with
  | zero=>intro x s _ _; exact .inr rfl
  | succ k ih =>
   intro x s hL hk
   refine .inl ?_
   simp only [iterM,run_bind]
   have h2:=hs x fin s hL
   have hsuf:=run_suf fin (pathS x) s
   cases hr:(pathS x).run fin s with
   | ok r s' =>
    rw [hr] at hsuf
    have hle:=List.IsSuffix.length_le hsuf
    have h3:=h1 x r fin s s' hr
    cases r with
    | inl x' =>
     simp only at h3
     rcases ih x' s' (by omega) (by omega) with h | h
     ·exact h
     ·omega
    | inr r=>intro e; cases e
   | bad b s'=>intro e; cases e
   | out=>exact absurd hr h2
 rcases key (n + 3) (x,0) s hL (by simp only; omega) with h | h
 ·exact h
 ·omega
theorem tot_binL {L n:Nat} {mB:Int→M Node} (a:Int) (h:∀ l,Tot (L - 1) (mB l)) (hn:L≤n) (x:Int × Node):Tot L (iterM (binStep mB a) n x):=by
 have hr:∀ l,Tot (L - 1) (rightS mB l):=fun l=>tot_cond (tot_bind (h _) fun _=>tot_ret _) (tot_cond (tot_bind (h _) fun _=>tot_ret _) (tot_bind (h _) fun _=>tot_ret _))
 refine tot_iter0 (fun y fin s hs=>?_) (fun y fin s x' s' e=>?_) hn x
 ·obtain ⟨r,i,p⟩:=s
  simp only [binStep,run]
  cases r with
  | nil=>exact fun h=>by cases h
  | cons t r =>
   cases hc:((levelI (textO (hdOf (t :: r))) == 0) || decide (levelI (textO (hdOf (t :: r))) < a)) || decide (y.1 < levelI (textO (hdOf (t :: r))))
   ·simp only [cond_false,run]
    simp only [List.length_cons] at hs
    exact tot_bind (hr _) (fun _=>tot_ret _) fin ⟨r,i,p⟩ (by simp only; omega)
   ·exact fun h=>by cases h
 ·obtain ⟨r,i,p⟩:=s
  simp only [binStep,run] at e
  cases hc:((levelI (textO (hdOf r)) == 0) || decide (levelI (textO (hdOf r)) < a)) || decide (y.1 < levelI (textO (hdOf r))) <;> rw [hc] at e
  ·cases r with
   | nil=>cases e
   | cons t r =>
    simp only [cond_false,run] at e
    have h2:=run_suf fin ((rightS mB (levelI (textO (hdOf (t :: r))))).bind fun j=>.ret (.inl (j.1,Node.mk 5 (textO (hdOf (t :: r))) (bs []) 0 0 0 false [y.2,j.2] (posOf fin (t :: r))):(Int × Node) ⊕ Node)) ⟨r,i,p⟩
    rw [e] at h2
    have:=List.IsSuffix.length_le h2
    simp only [List.length_cons] at this ⊢
    omega
  ·cases e
theorem tot_exprs:∀ L,(∀ n,5 * L + 4≤n→Tot L (ref n))∧(∀ n,5 * L + 5≤n→Tot L (unary n))∧(∀ n a,5 * L + 6≤n→Tot L (bin n a))∧(∀ n,5 * L + 7≤n→Tot L (cond n))∧(∀ n,5 * L + 8≤n→Tot L (expr n))
 | 0=>⟨fun _ _=>Tot.zero,fun _ _=>Tot.zero,fun _ _ _=>Tot.zero,fun _ _=>Tot.zero,fun _ _=>Tot.zero⟩
 | L + 1=>by
  obtain ⟨h1,h2,h3,h4,h5⟩:=tot_exprs L
  have i1:∀ n,5 * (L + 1) + 4≤n→Tot (L + 1) (ref n):=by
   intro n hn
   obtain ⟨m,rfl⟩:∃ m,n = m + 1:=⟨n - 1,by omega⟩
   rw [ref]
   exact tot_pos fun p=>tot_bind (tot_path (by omega)) fun x=>tot_kw (tot_bind (h5 m (by omega)) fun e=>tot_bind (tot_expect _) fun _=>tot_ret _) (tot_ret _)
  have i2:∀ n,5 * (L + 1) + 5≤n→Tot (L + 1) (unary n):=by
   intro n hn
   obtain ⟨m,rfl⟩:∃ m,n = m + 1:=⟨n - 1,by omega⟩
   rw [unary]
   refine tot_pos fun p=>tot_kw (tot_bind (h2 m (by omega)) fun e=>tot_ret _) (tot_look fun t=>tot_cond tot_numNode ?_)
   refine tot_kw (tot_bind (tot_expect _) fun _=>tot_bind (h1 m (by omega)) fun e=>tot_bind (tot_expect _) fun _=>tot_ret _) ?_
   exact tot_kw (tot_bind (h5 m (by omega)) fun e=>tot_bind (tot_expect _) fun _=>tot_ret _) (i1 m (by omega))
  have i3:∀ n a,5 * (L + 1) + 6≤n→Tot (L + 1) (bin n a):=by
   intro n a hn
   obtain ⟨m,rfl⟩:∃ m,n = m + 1:=⟨n - 1,by omega⟩
   rw [bin]
   exact tot_bind (i2 m (by omega)) fun x=>tot_binL (L:=L + 1) a (fun l=>h3 m l (by omega)) (by omega) _
  have i4:∀ n,5 * (L + 1) + 7≤n→Tot (L + 1) (cond n):=by
   intro n hn
   obtain ⟨m,rfl⟩:∃ m,n = m + 1:=⟨n - 1,by omega⟩
   rw [cond]
   refine tot_bind (i3 m 2 (by omega)) fun x=>tot_pos fun p=>?_
   have e:((accept (bs [63])).bind fun b=>bif !b then .ret x else (cond m).bind fun y=>(expect (bs [58])).bind fun _=>(cond m).bind fun z=>.ret (Node.mk 6 (bs []) (bs []) 0 0 0 false [x,y,z] p))
     = kw (bs [63]) ((cond m).bind fun y=>(expect (bs [58])).bind fun _=>(cond m).bind fun z=>.ret (Node.mk 6 (bs []) (bs []) 0 0 0 false [x,y,z] p)) (.ret x):=by
    unfold kw
    congr 1
    funext b
    cases b <;> rfl
   rw [e]
   exact tot_kw (tot_bind (h4 m (by omega)) fun y=>tot_bind (tot_expect _) fun _=>tot_bind (h4 m (by omega)) fun z=>tot_ret _) (tot_ret _)
  refine ⟨i1,i2,i3,i4,?_⟩
  intro n hn
  obtain ⟨m,rfl⟩:∃ m,n = m + 1:=⟨n - 1,by omega⟩
  rw [expr]
  intro fin s hs
  have hq:∀ k,s.rest≠[]→(quant (expr m) k).run fin s≠.out:=by
   intro k hne
   obtain ⟨r,i,p⟩:=s
   cases r with
   | nil=>exact absurd rfl hne
   | cons t r =>
    simp only [List.length_cons] at hs
    simp only [quant,run]
    exact tot_bind (L:=L) tot_name (fun x=>tot_bind (tot_expect _) fun _=>tot_bind tot_num fun v=>tot_bind (tot_expect _) fun _=>tot_bind (h5 m (by omega)) fun e=>tot_ret _) fin ⟨r,i,p⟩ (by simp only; omega)
  have hne:∀ a,a≠[]→strEq (textO (hdOf s.rest)) (bs a) = true→s.rest≠[]:=by
   intro a ha h e
   rw [e] at h
   simp only [hdOf,textO,strEq,bs] at h
   cases a with
   | nil=>exact ha rfl
   | cons b a=>simp at h
  simp only [exprS,run]
  cases c1:strEq (textO (hdOf s.rest)) (bs [97,108,108])
  ·cases c2:strEq (textO (hdOf s.rest)) (bs [115,111,109,101])
   ·exact i4 m (by omega) fin s hs
   ·exact hq 8 (hne _ (by simp) c2)
  ·exact hq 7 (hne _ (by simp) c1)
theorem tot_expr {L n:Nat} (hn:5 * L + 8≤n):Tot L (expr n):=(tot_exprs L).2.2.2.2 n hn
end M
end Go.Proofs.YtbecjgckobhmpaaGreatDoor
end
