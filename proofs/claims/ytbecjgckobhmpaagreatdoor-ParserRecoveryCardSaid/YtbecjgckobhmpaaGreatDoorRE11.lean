/-
  Proved here: a part of what the claim needs (texts PA ZE ZV PB PH PC1 PD PR PR2 ZW ZO PF PC2 PC3 PE YBF1 PG ZLA of the prover's own).
-/
import Derived.Test.YtbecjgckobhmpaaGreatDoorRE10
section
namespace Go.Proofs.YtbecjgckobhmpaaGreatDoor
open Go Go.AM Go.Proofs
inductive M (α:Type):Type where
 | ret (a:α)
 | fail (b:Bool)
 | out
 | look (k:Option (Int × ByteArray)→M α)
 | adv (k:M α)
 | pos (k:Int→M α)
 | setI (i:Int) (k:M α)
 | getI (k:Int→M α)
 | rep (b:Bool) (k:M α)
namespace M
variable {α β γ σ ρ:Type}
def bind:M α→(α→M β)→M β
 | .ret a,f=>f a
 | .fail b,_=>.fail b
 | .out,_=>.out
 | .look k,f=>.look fun t=>(k t).bind f
 | .adv k,f=>.adv (k.bind f)
 | .pos k,f=>.pos fun x=>(k x).bind f
 | .setI i k,f=>.setI i (k.bind f)
 | .getI k,f=>.getI fun x=>(k x).bind f
 | .rep b k,f=>.rep b (k.bind f)
def tryM:M α→(α→M β)→(Bool→M β)→M β
 | .ret a,f,_=>f a
 | .fail b,_,h=>h b
 | .out,_,_=>.out
 | .look k,f,h=>.look fun t=>(k t).tryM f h
 | .adv k,f,h=>.adv (k.tryM f h)
 | .pos k,f,h=>.pos fun x=>(k x).tryM f h
 | .setI i k,f,h=>.setI i (k.tryM f h)
 | .getI k,f,h=>.getI fun x=>(k x).tryM f h
 | .rep b k,f,h=>.rep b (k.tryM f h)
def iterM (step:σ→M (σ ⊕ ρ)):Nat→σ→M ρ
 | 0,_=>.out
 | n + 1,x=>(step x).bind fun r=>match r with
  | .inl x'=>iterM step n x'
  | .inr r=>.ret r
end M
structure PS where
 rest:List Token
 inner:Int
 reps:List (Int × Int)
def PS.ext (s:PS) (u:List Token):PS:=⟨s.rest ++ u,s.inner,s.reps⟩
inductive Out (α:Type):Type where
 | ok (a:α) (s:PS)
 | bad (b:Bool) (s:PS)
 | out
def posOf (fin:Int):List Token→Int
 | []=>fin
 | t :: _=>t.pos
def codeOf (b:Bool):List Token→Int
 | []=>21
 | _ :: _=>bif b then 2 else 20
def hdOf:List Token→Option (Int × ByteArray)
 | []=>none
 | t :: _=>some (t.kind,t.text)
namespace M
variable {α β γ σ ρ:Type}
def run (fin:Int):M α→PS→Out α
 | .ret a,s=>.ok a s
 | .fail b,s=>.bad b s
 | .out,_=>.out
 | .look k,s=>(k (hdOf s.rest)).run fin s
 | .adv k,s=>match s.rest with
  | []=>.out
  | _ :: r=>k.run fin ⟨r,s.inner,s.reps⟩
 | .pos k,s=>(k (posOf fin s.rest)).run fin s
 | .setI i k,s=>k.run fin ⟨s.rest,i,s.reps⟩
 | .getI k,s=>(k s.inner).run fin s
 | .rep b k,s=>k.run fin ⟨s.rest,s.inner,s.reps ++ [(codeOf b s.rest,posOf fin s.rest)]⟩
def andThen (o:Out α) (f:α→PS→Out β) (h:Bool→PS→Out β):Out β :=
 match o with
 | .ok a s=>f a s
 | .bad b s=>h b s
 | .out=>.out
theorem run_try (fin:Int) (f:α→M β) (h:Bool→M β):∀ (m:M α) (s:PS),(m.tryM f h).run fin s = andThen (m.run fin s) (fun a s=>(f a).run fin s) (fun b s=>(h b).run fin s)
 | .ret a,s=>rfl
 | .fail b,s=>rfl
 | .out,s=>rfl
 | .look k,s=>run_try fin f h (k (hdOf s.rest)) s
 | .adv k,s=>by
  obtain ⟨r,i,p⟩:=s
  cases r with
  | nil=>rfl
  | cons t r=>exact run_try fin f h k ⟨r,i,p⟩
 | .pos k,s=>run_try fin f h (k (posOf fin s.rest)) s
 | .setI i k,s=>run_try fin f h k ⟨s.rest,i,s.reps⟩
 | .getI k,s=>run_try fin f h (k s.inner) s
 | .rep b k,s=>run_try fin f h k ⟨s.rest,s.inner,s.reps ++ [(codeOf b s.rest,posOf fin s.rest)]⟩
theorem run_bind (fin:Int) (f:α→M β):∀ (m:M α) (s:PS),(m.bind f).run fin s = andThen (m.run fin s) (fun a s=>(f a).run fin s) (fun b s=>.bad b s)
 | .ret a,s=>rfl
 | .fail b,s=>rfl
 | .out,s=>rfl
 | .look k,s=>run_bind fin f (k (hdOf s.rest)) s
 | .adv k,s=>by
  obtain ⟨r,i,p⟩:=s
  cases r with
  | nil=>rfl
  | cons t r=>exact run_bind fin f k ⟨r,i,p⟩
 | .pos k,s=>run_bind fin f (k (posOf fin s.rest)) s
 | .setI i k,s=>run_bind fin f k ⟨s.rest,i,s.reps⟩
 | .getI k,s=>run_bind fin f (k s.inner) s
 | .rep b k,s=>run_bind fin f k ⟨s.rest,s.inner,s.reps ++ [(codeOf b s.rest,posOf fin s.rest)]⟩
theorem bind_assoc (f:α→M β) (g:β→M γ):∀ m:M α,(m.bind f).bind g = m.bind fun a=>(f a).bind g
 | .ret a=>rfl
 | .fail b=>rfl
 | .out=>rfl
 | .look k=>by simp only [bind]; congr 1; funext t; exact bind_assoc f g (k t)
 | .adv k=>by simp only [bind]; congr 1; exact bind_assoc f g k
 | .pos k=>by simp only [bind]; congr 1; funext t; exact bind_assoc f g (k t)
 | .setI i k=>by simp only [bind]; congr 1; exact bind_assoc f g k
 | .getI k=>by simp only [bind]; congr 1; funext t; exact bind_assoc f g (k t)
 | .rep b k=>by simp only [bind]; congr 1; exact bind_assoc f g k
def Ends (o:Out α) (P:PS→Prop):Prop:=match o with
 | .ok _ s=>P s
 | .bad _ s=>P s
 | .out=>True
theorem Ends.mono {o:Out α} {P Q:PS→Prop} (h:Ends o P) (k:∀ s,P s→Q s):Ends o Q:=by
 cases o <;> simp only [Ends] at h ⊢ <;> exact k _ h
theorem run_suf (fin:Int):∀ (m:M α) (s:PS),Ends (m.run fin s) fun s'=>s'.rest <:+ s.rest
 | .ret a,s=>List.suffix_refl _
 | .fail b,s=>List.suffix_refl _
 | .out,s=>trivial
 | .look k,s=>run_suf fin (k (hdOf s.rest)) s
 | .adv k,s=>by
  obtain ⟨r,i,p⟩:=s
  cases r with
  | nil=>trivial
  | cons t r=>exact (run_suf fin k ⟨r,i,p⟩).mono fun s' h=>h.trans (List.suffix_cons t r)
 | .pos k,s=>run_suf fin (k (posOf fin s.rest)) s
 | .setI i k,s=>run_suf fin k ⟨s.rest,i,s.reps⟩
 | .getI k,s=>run_suf fin (k s.inner) s
 | .rep b k,s=>run_suf fin k ⟨s.rest,s.inner,s.reps ++ [(codeOf b s.rest,posOf fin s.rest)]⟩
def Out.pre (p:List (Int × Int)):Out α→Out α
 | .ok a s=>.ok a ⟨s.rest,s.inner,p ++ s.reps⟩
 | .bad b s=>.bad b ⟨s.rest,s.inner,p ++ s.reps⟩
 | .out=>.out
theorem run_pre (fin:Int) (p:List (Int × Int)):∀ (m:M α) (s:PS),m.run fin ⟨s.rest,s.inner,p ++ s.reps⟩ = Out.pre p (m.run fin s)
 | .ret a,s=>rfl
 | .fail b,s=>rfl
 | .out,s=>rfl
 | .look k,s=>run_pre fin p (k (hdOf s.rest)) s
 | .adv k,s=>by
  obtain ⟨r,i,q⟩:=s
  cases r with
  | nil=>rfl
  | cons t r=>exact run_pre fin p k ⟨r,i,q⟩
 | .pos k,s=>run_pre fin p (k (posOf fin s.rest)) s
 | .setI i k,s=>run_pre fin p k ⟨s.rest,i,s.reps⟩
 | .getI k,s=>run_pre fin p (k s.inner) s
 | .rep b k,s=>by
  have h:=run_pre fin p k ⟨s.rest,s.inner,s.reps ++ [(codeOf b s.rest,posOf fin s.rest)]⟩
  simp only [run]
  rw [← h,List.append_assoc]
theorem run_pre0 (fin:Int) (m:M α) (r:List Token) (i:Int) (p:List (Int × Int)):m.run fin ⟨r,i,p⟩ = Out.pre p (m.run fin ⟨r,i,[]⟩):=by
 have:=run_pre fin p m ⟨r,i,[]⟩
 simpa using this
def drive:M α→PS→M α × PS
 | .ret a,s=>(.ret a,s)
 | .fail b,s=>(.fail b,s)
 | .out,s=>(.out,s)
 | .look k,s=>match s.rest with
  | []=>(.look k,s)
  | t :: _=>(k (some (t.kind,t.text))).drive s
 | .adv k,s=>match s.rest with
  | []=>(.adv k,s)
  | _ :: r=>k.drive ⟨r,s.inner,s.reps⟩
 | .pos k,s=>match s.rest with
  | []=>(.pos k,s)
  | t :: _=>(k t.pos).drive s
 | .setI i k,s=>k.drive ⟨s.rest,i,s.reps⟩
 | .getI k,s=>(k s.inner).drive s
 | .rep b k,s=>match s.rest with
  | []=>(.rep b k,s)
  | t :: _=>k.drive ⟨s.rest,s.inner,s.reps ++ [(bif b then 2 else 20,t.pos)]⟩
theorem drive_ext (fin:Int) (u:List Token):∀ (m:M α) (s:PS),m.run fin (s.ext u) = (m.drive s).1.run fin ((m.drive s).2.ext u)
 | .ret a,s=>rfl
 | .fail b,s=>rfl
 | .out,s=>rfl
 | .look k,s=>by
  obtain ⟨r,i,p⟩:=s
  cases r with
  | nil=>rfl
  | cons t r=>exact drive_ext fin u (k (some (t.kind,t.text))) ⟨t :: r,i,p⟩
 | .adv k,s=>by
  obtain ⟨r,i,p⟩:=s
  cases r with
  | nil=>rfl
  | cons t r=>exact drive_ext fin u k ⟨r,i,p⟩
 | .pos k,s=>by
  obtain ⟨r,i,p⟩:=s
  cases r with
  | nil=>rfl
  | cons t r=>exact drive_ext fin u (k t.pos) ⟨t :: r,i,p⟩
 | .setI i k,s=>drive_ext fin u k ⟨s.rest,i,s.reps⟩
 | .getI k,s=>drive_ext fin u (k s.inner) s
 | .rep b k,s=>by
  obtain ⟨r,i,p⟩:=s
  cases r with
  | nil=>rfl
  | cons t r=>exact drive_ext fin u k ⟨t :: r,i,p ++ [(bif b then 2 else 20,t.pos)]⟩
theorem ext_nil (s:PS):s.ext [] = s:=by simp [PS.ext]
theorem drive_run (fin:Int) (m:M α) (s:PS):m.run fin s = (m.drive s).1.run fin (m.drive s).2:=by
 have:=drive_ext fin [] m s
 rwa [ext_nil,ext_nil] at this
def Done:M α→Prop
 | .ret _=>True
 | .fail _=>True
 | .out=>True
 | _=>False
theorem drive_end:∀ (m:M α) (s:PS),(m.drive s).2.rest = []∨Done (m.drive s).1
 | .ret a,s=>.inr trivial
 | .fail b,s=>.inr trivial
 | .out,s=>.inr trivial
 | .look k,s=>by
  obtain ⟨r,i,p⟩:=s
  cases r with
  | nil=>exact .inl rfl
  | cons t r=>exact drive_end (k (some (t.kind,t.text))) ⟨t :: r,i,p⟩
 | .adv k,s=>by
  obtain ⟨r,i,p⟩:=s
  cases r with
  | nil=>exact .inl rfl
  | cons t r=>exact drive_end k ⟨r,i,p⟩
 | .pos k,s=>by
  obtain ⟨r,i,p⟩:=s
  cases r with
  | nil=>exact .inl rfl
  | cons t r=>exact drive_end (k t.pos) ⟨t :: r,i,p⟩
 | .setI i k,s=>drive_end k ⟨s.rest,i,s.reps⟩
 | .getI k,s=>drive_end (k s.inner) s
 | .rep b k,s=>by
  obtain ⟨r,i,p⟩:=s
  cases r with
  | nil=>exact .inl rfl
  | cons t r=>exact drive_end k ⟨t :: r,i,p ++ [(bif b then 2 else 20,t.pos)]⟩
theorem run_reps (fin:Int):∀ (m:M α) (s:PS),Ends (m.run fin s) fun s'=>s.reps <+: s'.reps
 | .ret a,s=>List.prefix_refl _
 | .fail b,s=>List.prefix_refl _
 | .out,s=>trivial
 | .look k,s=>run_reps fin (k (hdOf s.rest)) s
 | .adv k,s=>by
  obtain ⟨r,i,p⟩:=s
  cases r with
  | nil=>trivial
  | cons t r=>exact run_reps fin k ⟨r,i,p⟩
 | .pos k,s=>run_reps fin (k (posOf fin s.rest)) s
 | .setI i k,s=>run_reps fin k ⟨s.rest,i,s.reps⟩
 | .getI k,s=>run_reps fin (k s.inner) s
 | .rep b k,s=>(run_reps fin k ⟨s.rest,s.inner,s.reps ++ [(codeOf b s.rest,posOf fin s.rest)]⟩).mono fun s' h=>(List.prefix_append _ _).trans h
def EA:M α→Prop
 | .ret _=>False
 | .fail _=>True
 | .out=>True
 | .look k=>∀ t,EA (k t)
 | .adv k=>(∃ a,k = .ret a)∨EA k
 | .pos k=>∀ x,EA (k x)
 | .setI _ k=>EA k
 | .getI k=>∀ x,EA (k x)
 | .rep _ k=>EA k
def EAr (m:M α):Prop:=(∃ a,m = .ret a)∨EA m
theorem EA.r {m:M α} (h:EA m):EAr m:=.inr h
theorem EA.less (fin:Int):∀ (m:M α) (s:PS) (a:α) (s':PS),EA m→m.run fin s = .ok a s'→s'.rest.length < s.rest.length
 | .ret a,s,_,_,h,_=>h.elim
 | .fail b,s,_,_,_,h=>by simp [run] at h
 | .out,s,_,_,_,h=>by simp [run] at h
 | .look k,s,a,s',h,e=>EA.less fin (k (hdOf s.rest)) s a s' (h _) e
 | .adv k,s,a,s',h,e=>by
  obtain ⟨r,i,p⟩:=s
  cases r with
  | nil=>simp [run] at e
  | cons t r =>
   rcases h with ⟨b,rfl⟩ | h
   ·simp only [run,Out.ok.injEq] at e
    obtain ⟨_,rfl⟩:=e
    simp
   ·have:=EA.less fin k ⟨r,i,p⟩ a s' h e
    simp only [List.length_cons] at this ⊢
    omega
 | .pos k,s,a,s',h,e=>EA.less fin (k (posOf fin s.rest)) s a s' (h _) e
 | .setI i k,s,a,s',h,e=>EA.less fin k ⟨s.rest,i,s.reps⟩ a s' h e
 | .getI k,s,a,s',h,e=>EA.less fin (k s.inner) s a s' (h _) e
 | .rep b k,s,a,s',h,e=>EA.less fin k ⟨s.rest,s.inner,s.reps ++ [(codeOf b s.rest,posOf fin s.rest)]⟩ a s' h e
theorem EA.drive:∀ (m:M α) (s:PS),EAr m→EAr (m.drive s).1
 | .ret a,s,h=>h
 | .fail b,s,h=>h
 | .out,s,h=>h
 | .look k,s,h=>by
  obtain ⟨r,i,p⟩:=s
  cases r with
  | nil=>exact h
  | cons t r =>
   rcases h with ⟨a,h⟩ | h
   ·cases h
   ·exact EA.drive (k (some (t.kind,t.text))) ⟨t :: r,i,p⟩ (.inr (h _))
 | .adv k,s,h=>by
  obtain ⟨r,i,p⟩:=s
  cases r with
  | nil=>exact h
  | cons t r =>
   rcases h with ⟨a,h⟩ | h
   ·cases h
   ·exact EA.drive k ⟨r,i,p⟩ h
 | .pos k,s,h=>by
  obtain ⟨r,i,p⟩:=s
  cases r with
  | nil=>exact h
  | cons t r =>
   rcases h with ⟨a,h⟩ | h
   ·cases h
   ·exact EA.drive (k t.pos) ⟨t :: r,i,p⟩ (.inr (h _))
 | .setI i k,s,h=>by
  rcases h with ⟨a,h⟩ | h
  ·cases h
  ·exact EA.drive k ⟨s.rest,i,s.reps⟩ (.inr h)
 | .getI k,s,h=>by
  rcases h with ⟨a,h⟩ | h
  ·cases h
  ·exact EA.drive (k s.inner) s (.inr (h _))
 | .rep b k,s,h=>by
  obtain ⟨r,i,p⟩:=s
  cases r with
  | nil=>exact h
  | cons t r =>
   rcases h with ⟨a,h⟩ | h
   ·cases h
   ·exact EA.drive k ⟨t :: r,i,p ++ [(bif b then 2 else 20,t.pos)]⟩ (.inr h)
theorem EAr.end {fin:Int} {m:M α} {s:PS} {a:α} {s':PS} (h:EAr m) (hs:s.rest = []) (e:m.run fin s = .ok a s'):m = .ret a∧s' = s:=by
 rcases h with ⟨b,rfl⟩ | h
 ·simp only [run,Out.ok.injEq] at e
  obtain ⟨rfl,rfl⟩:=e
  exact ⟨rfl,rfl⟩
 ·have:=EA.less fin m s a s' h e
  rw [hs] at this
  simp at this
theorem Done.ok {fin:Int} {m:M α} {s:PS} {a:α} {s':PS} (h:Done m) (e:m.run fin s = .ok a s'):m = .ret a∧s' = s:=by
 cases m <;> simp only [Done] at h <;> simp only [run] at e
 ·simp only [Out.ok.injEq] at e
  obtain ⟨rfl,rfl⟩:=e
  exact ⟨rfl,rfl⟩
 all_goals cases e
theorem EAr.ext {fin:Int} {m:M α} {s:PS} {a:α} {s':PS} (h:EAr m) (e:m.run fin s = .ok a s') (fin':Int) (u:List Token):m.run fin' (s.ext u) = .ok a (s'.ext u):=by
 rw [drive_run] at e
 rw [drive_ext]
 have:(m.drive s).1 = .ret a∧s' = (m.drive s).2:=by
  rcases drive_end m s with h1 | h1
  ·exact (EA.drive m s h).end h1 e
  ·exact h1.ok e
 rw [this.1,this.2]
 rfl
theorem EAr.shrink {fin:Int} {m:M α} {s:PS} {u:List Token} {a:α} {s':PS} (h:EAr m) (e:m.run fin (s.ext u) = .ok a s') (hl:u.length≤s'.rest.length) (fin':Int):∃ s'',s' = s''.ext u∧m.run fin' s = .ok a s'':=by
 rw [drive_ext] at e
 have:(m.drive s).1 = .ret a∧s' = (m.drive s).2.ext u:=by
  rcases drive_end m s with h1 | h1
  ·rcases EA.drive m s h with ⟨b,h2⟩ | h2
   ·rw [h2] at e ⊢
    simp only [run,Out.ok.injEq] at e
    obtain ⟨rfl,rfl⟩:=e
    exact ⟨rfl,rfl⟩
   ·have:=EA.less fin _ _ a s' h2 e
    simp only [PS.ext,h1,List.nil_append] at this
    omega
  ·exact h1.ok e
 refine ⟨_,this.2,?_⟩
 rw [drive_run,this.1]
 rfl
theorem EAr.cut {fin fin':Int} {m:M α} {s:PS} {u:List Token} {a:α} {s':PS} (h:EAr m) (e:m.run fin (s.ext u) = .ok a s') (hl:s'.rest.length < u.length):∀ a'' s'',m.run fin' s≠.ok a'' s'':=by
 intro a'' s'' e2
 rw [h.ext e2 fin u] at e
 simp only [Out.ok.injEq] at e
 obtain ⟨_,rfl⟩:=e
 simp only [PS.ext,List.length_append] at hl
 omega
theorem EAr_ret (a:α):EAr (.ret a):=.inl ⟨a,rfl⟩
theorem EA_bind2 (f:α→M β) (h:∀ a,EA (f a)):∀ m:M α,EA (m.bind f)
 | .ret a=>h a
 | .fail _=>trivial
 | .out=>trivial
 | .look k=>fun t=>EA_bind2 f h (k t)
 | .adv k=>.inr (EA_bind2 f h k)
 | .pos k=>fun t=>EA_bind2 f h (k t)
 | .setI _ k=>EA_bind2 f h k
 | .getI k=>fun t=>EA_bind2 f h (k t)
 | .rep _ k=>EA_bind2 f h k
theorem EA_bind1 (f:α→M β) (h:∀ a,EAr (f a)):∀ m:M α,EA m→EA (m.bind f)
 | .ret a,e=>e.elim
 | .fail b,_=>trivial
 | .out,_=>trivial
 | .look k,e=>fun t=>EA_bind1 f h (k t) (e t)
 | .adv k,e=>by
  rcases e with ⟨a,rfl⟩ | e
  ·rcases h a with ⟨b,hb⟩ | hb
   ·exact .inl ⟨b,hb⟩
   ·exact .inr hb
  ·exact .inr (EA_bind1 f h k e)
 | .pos k,e=>fun t=>EA_bind1 f h (k t) (e t)
 | .setI i k,e=>EA_bind1 f h k e
 | .getI k,e=>fun t=>EA_bind1 f h (k t) (e t)
 | .rep b k,e=>EA_bind1 f h k e
def accept (a:ByteArray):M Bool:=.look fun t=>match t with
 | some t=>bif strEq t.2 a then .adv (.ret true) else .ret false
 | none=>.ret false
def expect (a:ByteArray):M Unit:=(accept a).bind fun b=>bif b then .ret () else .fail false
theorem EA_accept {f:Bool→M β} (a:ByteArray) (h1:EAr (f true)) (h2:EA (f false)):EA ((accept a).bind f):=by
 intro t
 cases t with
 | none=>exact h2
 | some t =>
  show EA ((bif strEq t.2 a then .adv (.ret true) else .ret false:M Bool).bind f)
  cases strEq t.2 a
  ·exact h2
  ·show EA (.adv (f true))
   rcases h1 with ⟨b,hb⟩ | hb
   ·exact .inl ⟨b,hb⟩
   ·exact .inr hb
theorem EA_expect (a:ByteArray):EA (expect a):=EA_accept a (EAr_ret _) trivial
theorem EA_cond {c:Bool} {a b:M α} (h1:EA a) (h2:EA b):EA (bif c then a else b):=by cases c <;> assumption
def EAs:M (σ ⊕ ρ)→Prop
 | .ret (.inl _)=>True
 | .ret (.inr _)=>False
 | .fail _=>True
 | .out=>True
 | .look k=>∀ t,EAs (k t)
 | .adv k=>(∃ a,k = .ret a)∨EAs k
 | .pos k=>∀ x,EAs (k x)
 | .setI _ k=>EAs k
 | .getI k=>∀ x,EAs (k x)
 | .rep _ k=>EAs k
theorem EA_step (f:σ→M ρ) (h:∀ a,EA (f a)):∀ m:M (σ ⊕ ρ),EAs m→EA (m.bind fun r=>match r with | .inl x'=>f x' | .inr r=>.ret r)
 | .ret (.inl a),_=>h a
 | .ret (.inr a),e=>e.elim
 | .fail b,_=>trivial
 | .out,_=>trivial
 | .look k,e=>fun t=>EA_step f h (k t) (e t)
 | .adv k,e=>by
  rcases e with ⟨a,rfl⟩ | e
  ·cases a with
   | inl a=>exact .inr (h a)
   | inr a=>exact .inl ⟨a,rfl⟩
  ·exact .inr (EA_step f h k e)
 | .pos k,e=>fun t=>EA_step f h (k t) (e t)
 | .setI i k,e=>EA_step f h k e
 | .getI k,e=>fun t=>EA_step f h (k t) (e t)
 | .rep b k,e=>EA_step f h k e
theorem EA_iter {step:σ→M (σ ⊕ ρ)} (h:∀ x,EAs (step x)):∀ (n:Nat) (x:σ),EA (iterM step n x)
 | 0,_=>trivial
 | n + 1,x=>EA_step (iterM step n) (EA_iter h n) (step x) (h x)
theorem EAs_bind2 (f:α→M (σ ⊕ ρ)) (h:∀ a,EAs (f a)):∀ m:M α,EAs (m.bind f)
 | .ret a=>h a
 | .fail _=>trivial
 | .out=>trivial
 | .look k=>fun t=>EAs_bind2 f h (k t)
 | .adv k=>.inr (EAs_bind2 f h k)
 | .pos k=>fun t=>EAs_bind2 f h (k t)
 | .setI _ k=>EAs_bind2 f h k
 | .getI k=>fun t=>EAs_bind2 f h (k t)
 | .rep _ k=>EAs_bind2 f h k
theorem EAs_try (f:α→M (σ ⊕ ρ)) (g:Bool→M (σ ⊕ ρ)) (h1:∀ a,EAs (f a)) (h2:∀ b,EAs (g b)):∀ m:M α,EAs (m.tryM f g)
 | .ret a=>h1 a
 | .fail b=>h2 b
 | .out=>trivial
 | .look k=>fun t=>EAs_try f g h1 h2 (k t)
 | .adv k=>.inr (EAs_try f g h1 h2 k)
 | .pos k=>fun t=>EAs_try f g h1 h2 (k t)
 | .setI _ k=>EAs_try f g h1 h2 k
 | .getI k=>fun t=>EAs_try f g h1 h2 (k t)
 | .rep _ k=>EAs_try f g h1 h2 k
theorem EAs_accept {f:Bool→M (σ ⊕ ρ)} (a:ByteArray) (h1:EAs (f true)∨∃ x,f true = .ret x) (h2:EAs (f false)):EAs ((accept a).bind f):=by
 intro t
 cases t with
 | none=>exact h2
 | some t =>
  show EAs ((bif strEq t.2 a then .adv (.ret true) else .ret false:M Bool).bind f)
  cases strEq t.2 a
  ·exact h2
  ·show EAs (.adv (f true))
   rcases h1 with h1 | h1
   ·exact .inr h1
   ·exact .inl h1
end M
end Go.Proofs.YtbecjgckobhmpaaGreatDoor
end
section
namespace Go.AM
open Go
def runF {α A ρ:Type} (f:Nat→A→α→A ⊕ ρ) (fin:A→ρ):Nat→List α→A→ρ
 | _,[],a=>fin a
 | k,x :: r,a=>match f k a x with
  | .inl a'=>runF f fin (k + 1) r a'
  | .inr v=>v
theorem iter_runF {α A ρ σ:Type} {step:σ→Option (σ ⊕ ρ)} (l:List α) (mk:Nat→A→σ) (f:Nat→A→α→A ⊕ ρ) (fin:A→ρ)
  (hin:∀ k a x,l[k]? = some x→step (mk k a) = some (match f k a x with | .inl a'=>.inl (mk (k + 1) a') | .inr v=>.inr v))
  (hend:∀ a,step (mk l.length a) = some (.inr (fin a))) :
  ∀ (n:Nat) (a:A),l.length < n→iter step n (mk 0 a) = some (runF f fin 0 l a):=by
 have key:∀ (r:List α) (k:Nat) (a:A) (n:Nat),l.drop k = r→k≤l.length→r.length < n→iter step n (mk k a) = some (runF f fin k r a):=by
  intro r
  induction r with
  | nil =>
   intro k a n hk hkl hn
   have hkl':k = l.length:=by
    have:=congrArg List.length hk
    simp at this
    omega
   cases n with
   | zero=>simp at hn
   | succ n=>subst hkl'; simp only [iter,hend,runF]
  | cons x r ih =>
   intro k a n hk hkl hn
   have hlt:k < l.length:=by
    have:=congrArg List.length hk
    simp at this
    omega
   have hx:l[k]? = some x:=by
    have:=congrArg (fun z=>z[0]?) hk
    simpa using this
   have hr:l.drop (k + 1) = r:=by
    have:=congrArg (List.drop 1) hk
    simpa [List.drop_drop,Nat.add_comm] using this
   cases n with
   | zero=>simp at hn
   | succ n =>
    simp only [iter,hin k a x hx,runF]
    cases hf:f k a x with
    | inl a'=>simpa using ih (k + 1) a' n hr (by omega) (by simpa using hn)
    | inr v=>rfl
 intro n a hn
 exact key l 0 a n rfl (by omega) hn
theorem w64_id {x:Int} (h1:-9223372036854775808≤x) (h2:x≤9223372036854775807):w64 x = x:=by
 show (if (true && decide (x % 18446744073709551616 ≥ 9223372036854775808)) = true then x % 18446744073709551616 - 18446744073709551616 else x % 18446744073709551616) = x
 split
 ·rename_i h
  simp at h
  omega
 ·rename_i h
  simp at h
  omega
theorem w64_nat {k:Nat} (h:k < 9223372036854775807):w64 ((k:Int) + 1) = ((k + 1:Nat):Int):=by
 rw [w64_id (by omega) (by omega)]; rfl
theorem idxL_some {α:Type} {l:List α} {k:Nat} {x:α} (h:l[k]? = some x):idxL l (k:Int) = some x:=by
 simp [idxL,h]
theorem idxS_some {s:ByteArray} {k:Nat} {b:UInt8} (h:s.data.toList[k]? = some b):idxS s (k:Int) = some (b.toNat:Int):=by
 have:s[k]? = some b:=by
  have h2:s.data[k]? = some b:=by simpa using h
  exact h2
 simp [idxS,this]
theorem lt_of_get {α:Type} {l:List α} {k:Nat} {x:α} (h:l[k]? = some x):k < l.length:=(List.getElem?_eq_some_iff.1 h).1
theorem some_cond {α:Type} (c:Bool) (a b:α):(bif c then some a else some b) = some (bif c then a else b):=by cases c <;> rfl
theorem bor (c d:Bool):(bif c then c else d) = (c || d):=by cases c <;> rfl
def allI {α:Type} (p:Nat→α→Bool):Nat→List α→Bool
 | _,[]=>true
 | k,x :: r=>p k x && allI p (k + 1) r
theorem runF_allI {α:Type} (p:Nat→α→Bool):∀ (l:List α) (k:Nat),runF (A:=Unit) (ρ:=Unit ⊕ Unit) (fun k _ x=>if p k x then .inl () else .inr (.inl ())) (fun _=>.inr ()) k l () = if allI p k l then .inr () else .inl ()
 | [],_=>rfl
 | x :: r,k=>by
  simp only [runF,allI]
  by_cases hp:p k x = true
  ·simp only [hp,if_true,runF_allI p r (k + 1),Bool.true_and]
  ·simp [hp]
theorem iter_allI {α:Type} {step:Int→Option (Int ⊕ (Unit ⊕ Unit))} (l:List α) (p:Nat→α→Bool) (hl:l.length≤9223372036854775807)
  (hin:∀ (k:Nat) x,l[k]? = some x→step (k:Int) = some (if p k x then .inl (w64 ((k:Int) + 1)) else .inr (.inl ())))
  (hend:step (l.length:Int) = some (.inr (.inr ()))) {n:Nat} (hn:l.length < n) :
  iter step n 0 = some (if allI p 0 l then .inr () else .inl ()):=by
 have:=iter_runF l (fun (k:Nat) (_:Unit)=>(k:Int)) (fun k _ x=>if p k x then .inl () else .inr (.inl ())) (fun _=>.inr ()) (step:=step)
  (fun k a x hx=>by
   rw [hin k x hx,w64_nat (by have:=lt_of_get hx; omega)]
   cases p k x <;> rfl)
  (fun _=>hend) n () hn
 rw [runF_allI] at this
 exact this
theorem iter_inv {α A ρ σ:Type} {step:σ→Option (σ ⊕ ρ)} (l:List α) (mk:Nat→A→σ) (I:Nat→A→Prop) (Q:ρ→Prop)
  (hin:∀ k a x,l[k]? = some x→I k a→(∃ a',step (mk k a) = some (.inl (mk (k + 1) a'))∧I (k + 1) a')∨(∃ r,step (mk k a) = some (.inr r)∧Q r))
  (hend:∀ a,I l.length a→∃ r,step (mk l.length a) = some (.inr r)∧Q r) :
  ∀ (n:Nat) (a:A),l.length < n→I 0 a→∃ r,iter step n (mk 0 a) = some r∧Q r:=by
 have key:∀ (j k:Nat) (a:A) (n:Nat),k + j = l.length→j < n→I k a→∃ r,iter step n (mk k a) = some r∧Q r:=by
  intro j
  induction j with
  | zero =>
   intro k a n hk hn hi
   have hk':k = l.length:=by omega
   subst hk'
   obtain ⟨r,hr,hq⟩:=hend a hi
   cases n with
   | zero=>omega
   | succ n=>exact ⟨r,by simp only [iter,hr],hq⟩
  | succ j ih =>
   intro k a n hk hn hi
   have hlt:k < l.length:=by omega
   cases n with
   | zero=>omega
   | succ n =>
    rcases hin k a l[k] (List.getElem?_eq_getElem hlt) hi with ⟨a',hs,hi'⟩ | ⟨r,hs,hq⟩
    ·obtain ⟨r,hr,hq⟩:=ih (k + 1) a' n (by omega) (by omega) hi'
     exact ⟨r,by simp only [iter,hs]; exact hr,hq⟩
    ·exact ⟨r,by simp only [iter,hs],hq⟩
 intro n a hn hi
 exact key l.length 0 a n (by omega) hn hi
theorem iter_meas {ρ σ:Type} {step:σ→Option (σ ⊕ ρ)} (I:σ→Prop) (m:σ→Nat) (Q:ρ→Prop)
  (h:∀ s,I s→(∃ s',step s = some (.inl s')∧I s'∧m s' < m s)∨(∃ r,step s = some (.inr r)∧Q r)) :
  ∀ (n:Nat) (s:σ),m s < n→I s→∃ r,iter step n s = some r∧Q r:=by
 intro n
 induction n with
 | zero=>intro s hn; omega
 | succ n ih =>
  intro s hn hi
  rcases h s hi with ⟨s',hs,hi',hm⟩ | ⟨r,hs,hq⟩
  ·obtain ⟨r,hr,hq⟩:=ih s' (by omega) hi'
   exact ⟨r,by simp only [iter,hs]; exact hr,hq⟩
  ·exact ⟨r,by simp only [iter,hs],hq⟩
def tl (s:ByteArray):List UInt8:=s.data.toList
theorem tl_def (s:ByteArray):s.data.toList = tl s:=rfl
theorem bs_tl (s:ByteArray):bs (tl s) = s:=rfl
theorem tl_bs (l:List UInt8):tl (bs l) = l:=rfl
theorem size_tl (s:ByteArray):s.size = (tl s).length:=rfl
theorem size_bs (l:List UInt8):(bs l).size = l.length:=rfl
theorem subS_eq {s:ByteArray} {a b:Nat} (h1:a≤b) (h2:b≤(tl s).length):subS s (a:Int) (b:Int) = some (bs (((tl s).drop a).take (b - a))):=by
 rw [subS,if_pos ⟨by omega,by omega,by rw [size_tl]; omega⟩]
 congr 1
 have:(s.extract a b).data.toList = ((tl s).drop a).take (b - a):=by
  rw [ByteArray.data_extract,Array.toList_extract]
  rfl
 rw [← this]
 rfl
def T {α:Type} (o:Option α) (Q:α→Prop):Prop:=∃ r,o = some r∧Q r
theorem T.some {α:Type} {v:α} {Q:α→Prop} (h:Q v):T (some v) Q:=⟨v,rfl,h⟩
theorem T.bind {α β:Type} {o:Option α} {f:α→Option β} {P:α→Prop} {Q:β→Prop} (h:T o P) (k:∀ a,P a→T (f a) Q):T (o.bind f) Q:=by
 obtain ⟨a,rfl,ha⟩:=h
 exact k a ha
theorem T.cond {α:Type} {c:Bool} {a b:Option α} {Q:α→Prop} (h1:c = true→T a Q) (h2:c = false→T b Q):T (bif c then a else b) Q:=by
 cases c
 ·exact h2 rfl
 ·exact h1 rfl
theorem T.mono {α:Type} {o:Option α} {P Q:α→Prop} (h:T o P) (k:∀ a,P a→Q a):T o Q:=by
 obtain ⟨a,rfl,ha⟩:=h
 exact ⟨a,rfl,k a ha⟩
theorem T.of_eq {α:Type} {o:Option α} {v:α} (h:o = Option.some v):T o (· = v):=⟨v,h,rfl⟩
end Go.AM
end
section
namespace Go.Proofs.YtbecjgckobhmpaaGreatDoor
open Go Go.AM Go.Proofs
def isLetI (x:Int):Bool:=((decide (65≤x)) && (decide (x≤90))) || ((decide (97≤x)) && (decide (x≤122)))
def isDigI (x:Int):Bool:=(decide (48≤x)) && (decide (x≤57))
def isWordI (x:Int):Bool:=isLetI x || x == 95 || isDigI x
def nameCs:List UInt8→Bool
 | []=>true
 | b :: r=>isLetI b.toNat && r.all (fun c=>isWordI c.toNat)
def nameB (s:List UInt8):Bool:=decide (1≤s.length) && decide (s.length≤16) && !(keyNames.any (s == ·)) && nameCs s
def cutB:List UInt8→List UInt8 × Option (List UInt8)
 | []=>([],none)
 | b :: r=>if b == 46 then ([],some r) else (b :: (cutB r).1,(cutB r).2)
theorem cutB_spec:∀ (l:List UInt8),((cutB l).2 = none→(cutB l).1 = l∧idxByte l 46 = -1)∧(∀ r,(cutB l).2 = some r→l = (cutB l).1 ++ 46 :: r∧idxByte l 46 = ((cutB l).1.length:Int))
 | []=>by simp [cutB,idxByte]
 | b :: r=>by
  have ih:=cutB_spec r
  by_cases hb:(b == 46) = true
  ·have:b = 46:=by simpa using hb
   subst this
   simp [cutB,idxByte]
  ·simp only [cutB,idxByte,hb]
   refine ⟨fun h=>?_,fun r' h=>?_⟩
   ·obtain ⟨h1,h2⟩:=ih.1 h
    simp [h1,h2]
   ·obtain ⟨h1,h2⟩:=ih.2 r' h
    refine ⟨by simp [← h1],?_⟩
    rw [h2]
    have:(((cutB r).1.length:Int) == -1) = false:=by simp
    simp [this]
def pathN:Nat→List UInt8→Bool
 | 0,_=>false
 | k + 1,s=>nameB (cutB s).1 && (match (cutB s).2 with | none=>true | some r=>pathN k r)
def pathB (s:List UInt8):Bool:=pathN 3 s
def levelI (s:ByteArray):Int :=
 bif strEq s (bs [61,61,62]) then 2 else bif strEq s (bs [124,124]) then 3 else bif strEq s (bs [38,38]) then 4
 else bif (strEq s (bs [61,61]) || (strEq s (bs [33,61]) || (strEq s (bs [60]) || strEq s (bs [60,61])))) then 5
 else bif strEq s (bs [124]) then 6 else bif strEq s (bs [94]) then 7 else bif strEq s (bs [38]) then 8
 else bif (strEq s (bs [43]) || strEq s (bs [45])) then 9 else bif strEq s (bs [42]) then 10 else 0
theorem F156_eq (s:ByteArray):F156 s = some (levelI s):=by
 unfold F156 levelI
 simp only [Option.bind_some,some_cond,bor]
def inR (n:Int):Bool:=(decide (0≤n)) && (decide (n≤999999999))
def isE (k:Int):Bool:=(decide (1≤k)) && (decide (k≤8))
def fldGood (x:Node):Bool :=
 bif x.kind == 1 then inR x.n
 else bif (x.kind == 2 || (x.kind == 24 || (x.kind == 25 || x.kind == 33))) then pathB (tl x.name)
 else bif x.kind == 5 then levelI x.name != 0
 else bif (x.kind == 7 || (x.kind == 8 || (x.kind == 58 || x.kind == 52))) then nameB (tl x.name) && inR x.n
 else bif x.kind == 35 then nameB (tl x.name) && inR x.n
 else bif x.kind == 21 then (x.n == 0) || (x.n == 1)
 else bif (x.kind == 27 || (x.kind == 28 || (x.kind == 51 || x.kind == 53))) then nameB (tl x.name)
 else bif x.kind == 50 then nameB (tl x.name) && (inR x.n && (inR x.len && (inR x.init && (strEq x.other (bs []) || ((x.n == 0) && nameB (tl x.other))))))
 else bif x.kind == 57 then nameB (tl x.name) && (strEq x.other (bs []) || nameB (tl x.other))
 else bif x.kind == 60 then nameB (tl x.name) && nameB (tl x.other)
 else bif x.kind == 61 then nameB (tl x.name) && (pathB (tl x.other) && ((x.n == 0) || (x.n == 1)))
 else true
def hasName (k:Int):Bool:=k == 2 || k == 24 || k == 25 || k == 33 || k == 5 || k == 7 || k == 8 || k == 58 || k == 52 || k == 35 || k == 27 || k == 28 || k == 51 || k == 53 || k == 50 || k == 57 || k == 60 || k == 61
def hasOther (k:Int):Bool:=k == 50 || k == 57 || k == 60 || k == 61
def hasN (k:Int):Bool:=k == 1 || k == 7 || k == 8 || k == 58 || k == 52 || k == 35 || k == 21 || k == 50 || k == 61
def fieldsB (x:Node):Bool :=
 fldGood x && ((hasName x.kind || strEq x.name (bs [])) && ((hasOther x.kind || strEq x.other (bs [])) && ((hasN x.kind || x.n == 0)
  && ((x.kind == 50 || x.len == 0) && ((x.kind == 50 || x.init == 0) && (x.kind == 50 || x.kind == 35 || x.ghost == false))))))
theorem strEq_self (s:ByteArray):strEq s s = true:=by simp [strEq]
def isStmt (k:Int):Bool:=((decide (20≤k)) && (decide (k≤35))) && (k != 34)
def isDecl (k:Int):Bool:=k == 51 || (k == 50 || (k == 53 || (k == 54 || (k == 55 || (k == 56 || k == 57)))))
def isItm (k:Int):Bool:=(k == 60) || (k == 61)
def leafK (k:Int):Bool:=k == 1 || (k == 26 || (k == 30 || (k == 24 || (k == 25 || (k == 27 || (k == 28 || (k == 35 || (k == 58 || (k == 52 || (k == 50 || k == 63))))))))))
def oneK (k:Int):Bool:=k == 4 || (k == 7 || (k == 8 || (k == 20 || (k == 29 || (k == 54 || (k == 55 || k == 53))))))
def eX (x:Node):Bool:=isE x.kind
def kX (k:Int) (x:Node):Bool:=x.kind == k
def enX (x:Node):Bool:=isE x.kind || x.kind == 63
def pairsB:List Node→Bool
 | []=>true
 | [_]=>false
 | a :: b :: r=>(a.kind == 2) && (isE b.kind && pairsB r)
def ex1 (p:Node→Bool):List Node→Bool
 | [a]=>p a
 | _=>false
def ex2 (p q:Node→Bool):List Node→Bool
 | [a,b]=>p a && q b
 | _=>false
def ex3 (p q r:Node→Bool):List Node→Bool
 | [a,b,c]=>p a && (q b && r c)
 | _=>false
def plainX (x:Node):Bool:=(x.kind == 2) && x.kids.isEmpty
def atomK:List Node→Bool
 | a :: r=>enX a && pairsB r
 | []=>false
def casK:List Node→Bool
 | a :: b :: c :: d :: r=>(kX 2 a && (eX b && (eX c && kX 2 d))) && pairsB r
 | _=>false
def procK (l:List Node):Bool:=match l.getLast? with
 | some b=>(b.kind == 34) && l.dropLast.all (kX 58)
 | none=>false
def kidsB (x:Node):Bool :=
 bif leafK x.kind then x.kids.isEmpty
 else bif x.kind == 2 then x.kids.isEmpty || ex1 eX x.kids
 else bif x.kind == 3 then ex1 (kX 2) x.kids
 else bif oneK x.kind then ex1 eX x.kids
 else bif x.kind == 5 then ex2 eX eX x.kids
 else bif x.kind == 6 then ex3 eX eX eX x.kids
 else bif x.kind == 21 then !x.kids.isEmpty && pairsB x.kids
 else bif x.kind == 22 then atomK x.kids
 else bif x.kind == 23 then casK x.kids
 else bif x.kind == 31 then ex3 eX (kX 34) (kX 34) x.kids
 else bif x.kind == 32 then ex3 eX enX (kX 34) x.kids
 else bif x.kind == 33 then x.kids.all eX
 else bif x.kind == 34 then x.kids.all (fun y=>isStmt y.kind)
 else bif x.kind == 51 then x.kids.all (kX 52)
 else bif x.kind == 56 then !x.kids.isEmpty && x.kids.all plainX
 else bif x.kind == 57 then procK x.kids
 else bif x.kind == 60 then x.kids.all (fun y=>isDecl y.kind)
 else bif x.kind == 61 then x.kids.all (kX 1)
 else bif x.kind == 62 then x.kids.all (fun y=>isItm y.kind)
 else false
end Go.Proofs.YtbecjgckobhmpaaGreatDoor
end
section
namespace Go.Proofs.YtbecjgckobhmpaaGreatDoor
open Go Go.AM Go.Proofs
def kindO (t:Option (Int × ByteArray)):Int:=match t with
 | some t=>t.1
 | none=>0
def textO (t:Option (Int × ByteArray)):ByteArray:=match t with
 | some t=>t.2
 | none=>bs []
def isNm (t:Int × ByteArray):Bool:=t.1 == 1 && !(isKey t.2)
def numV (s:ByteArray):Int:=(atoiF s).getD 0
namespace M
variable {α:Type}
def name:M ByteArray:=.look fun t=>match t with
 | some t=>bif isNm t then .adv (.ret t.2) else .fail false
 | none=>.fail false
def num:M Int:=.look fun t=>match t with
 | some t=>bif t.1 == 2 then .adv (.ret (numV t.2)) else .fail false
 | none=>.fail false
def len:M Int:=.look fun t=>match t with
 | some t=>bif t.1 == 2 then (bif numV t.2 == 0 then .fail true else .adv (.ret (numV t.2))) else .fail false
 | none=>.fail false
def numNode:M Node:=.pos fun p=>num.bind fun v=>.ret (Node.mk 1 (bs []) (bs []) v 0 0 false [] p)
def kw (a:ByteArray) (m m':M α):M α:=(accept a).bind fun b=>bif b then m else m'
def semi (x:α):M α:=(expect (bs [59])).bind fun _=>.ret x
def pathS (s:ByteArray × Int):M ((ByteArray × Int) ⊕ ByteArray) :=
 bif decide (s.2 < 2) then
  (accept (bs [46])).bind fun b=>bif !b then .ret (.inr s.1) else name.bind fun y=>.ret (.inl (bs (tl s.1 ++ 46 :: tl y),s.2 + 1))
 else .ret (.inr s.1)
def path (n:Nat):M ByteArray:=name.bind fun x=>iterM pathS n (x,0)
def refS (mE:M Node) (n:Nat):M Node:=.pos fun p=>(path n).bind fun x =>
 kw (bs [91]) (mE.bind fun e=>(expect (bs [93])).bind fun _=>.ret (Node.mk 2 x (bs []) 0 0 0 false [e] p))
  (.ret (Node.mk 2 x (bs []) 0 0 0 false [] p))
def unaryS (mR mU mE:M Node):M Node:=.pos fun p =>
 kw (bs [33]) (mU.bind fun e=>.ret (Node.mk 4 (bs []) (bs []) 0 0 0 false [e] p))
  (.look fun t=>bif kindO t == 2 then numNode else
   kw (bs [111,108,100]) ((expect (bs [40])).bind fun _=>mR.bind fun e=>(expect (bs [41])).bind fun _=>.ret (Node.mk 3 (bs []) (bs []) 0 0 0 false [e] p))
    (kw (bs [40]) (mE.bind fun e=>(expect (bs [41])).bind fun _=>.ret e) mR))
def rightS (mB:Int→M Node) (l:Int):M (Int × Node) :=
 bif l == 2 then (mB l).bind fun r=>.ret (l - 1,r)
 else bif l == 5 then (mB (l + 1)).bind fun r=>.ret (l - 1,r)
 else (mB (l + 1)).bind fun r=>.ret (l,r)
def binStep (mB:Int→M Node) (a0:Int) (s:Int × Node):M ((Int × Node) ⊕ Node):=.look fun t=>.pos fun p =>
 bif ((levelI (textO t) == 0) || decide (levelI (textO t) < a0)) || decide (s.1 < levelI (textO t)) then .ret (.inr s.2)
 else .adv ((rightS mB (levelI (textO t))).bind fun j=>.ret (.inl (j.1,Node.mk 5 (textO t) (bs []) 0 0 0 false [s.2,j.2] p)))
def binS (mU:M Node) (mB:Int→M Node) (n:Nat) (a0:Int):M Node:=mU.bind fun x=>iterM (binStep mB a0) n (10,x)
def condS (mB:Int→M Node) (mC:M Node):M Node:=(mB 2).bind fun x=>.pos fun p =>
 (accept (bs [63])).bind fun b=>bif !b then .ret x else
  mC.bind fun y=>(expect (bs [58])).bind fun _=>mC.bind fun z=>.ret (Node.mk 6 (bs []) (bs []) 0 0 0 false [x,y,z] p)
def quant (mE:M Node) (k:Int):M Node:=.pos fun p=>.adv (name.bind fun x=>(expect (bs [60])).bind fun _ =>
 num.bind fun v=>(expect (bs [58])).bind fun _=>mE.bind fun e=>.ret (Node.mk k x (bs []) v 0 0 false [e] p))
def exprS (mC mE:M Node):M Node:=.look fun t =>
 bif strEq (textO t) (bs [97,108,108]) then quant mE 7
 else bif strEq (textO t) (bs [115,111,109,101]) then quant mE 8
 else mC
mutual
def ref:Nat→M Node
 | 0=>.out
 | n + 1=>refS (expr n) n
def unary:Nat→M Node
 | 0=>.out
 | n + 1=>unaryS (ref n) (unary n) (expr n)
def bin:Nat→Int→M Node
 | 0,_=>.out
 | n + 1,a=>binS (unary n) (bin n) n a
def cond:Nat→M Node
 | 0=>.out
 | n + 1=>condS (bin n) (cond n)
def expr:Nat→M Node
 | 0=>.out
 | n + 1=>exprS (cond n) (expr n)
end
def partsL (part:M (List Node)) (acc:List Node):M (List Node ⊕ List Node) :=
 kw (bs [44]) (part.bind fun x=>.ret (.inl (acc ++ x))) (.ret (.inr acc))
def some' (n:Nat) (part:M (List Node)):M (List Node):=part.bind fun x=>iterM (partsL part) n x
def parts (n:Nat) (a:ByteArray) (part:M (List Node)):M (List Node) :=
 kw a (.ret []) (part.bind fun x=>(iterM (partsL part) n x).bind fun l=>(expect a).bind fun _=>.ret l)
def one (m:M Node):M (List Node):=m.bind fun x=>.ret [x]
def skipS (closed:Bool) (d:Int):M (Int ⊕ (Unit ⊕ Unit)):=.look fun t=>match t with
 | none=>.ret (.inr (.inr ()))
 | some t =>
  bif strEq t.2 (bs [59]) then (bif d == 0 then .adv (.ret (.inr (.inl ()))) else .adv (.ret (.inl d)))
  else bif strEq t.2 (bs [123]) then .adv (.ret (.inl (w64 (d + 1))))
  else bif strEq t.2 (bs [125]) then
   (bif (d == 0) && closed then .ret (.inr (.inl ()))
   else bif d == 0 then .adv (.ret (.inr (.inl ())))
   else bif w64 (d - 1) == 0 then .adv ((accept (bs [59])).bind fun _=>.ret (.inr (.inl ())))
   else .adv (.ret (.inl (w64 (d - 1)))))
  else .adv (.ret (.inl d))
def skip (n:Nat) (closed:Bool):M Unit:=.getI fun d=>.setI 0 ((iterM (skipS closed) n d).bind fun _=>.ret ())
def listS (n:Nat) (closed:Bool) (item:M Node) (acc:List Node):M (List Node ⊕ List Node):=.look fun t =>
 bif t.isNone then (bif closed then .fail false else .ret (.inr acc))
 else (bif closed then accept (bs [125]) else .ret false).bind fun b=>bif b then .ret (.inr acc)
  else item.tryM (fun x=>.ret (.inl (acc ++ [x]))) (fun b=>.rep b ((skip n closed).bind fun _=>.ret (.inl acc)))
def list (n:Nat) (closed:Bool) (item:M Node):M (List Node):=iterM (listS n closed item) n []
def sized (k:Int) (g:Bool) (p:Int):M Node:=name.bind fun x=>(expect (bs [58])).bind fun _=>num.bind fun v=>.ret (Node.mk k x (bs []) v 0 0 g [] p)
def field:M Node:=.pos fun p=>(sized 52 false p).bind fun x=>semi x
def param:M Node:=.pos fun p=>sized 58 false p
def pathNode (n:Nat):M Node:=.pos fun p=>(path n).bind fun x=>.ret (Node.mk 2 x (bs []) 0 0 0 false [] p)
def assign (n:Nat):M (List Node):=(ref n).bind fun a=>(expect (bs [58,61])).bind fun _=>(expr n).bind fun e=>.ret [a,e]
def with' (n:Nat):M (List Node):=(accept (bs [119,105,116,104])).bind fun b=>bif !b then .ret [] else some' n (assign n)
def none' (k p:Int):Node:=Node.mk k (bs []) (bs []) 0 0 0 false [] p
def atomic (n:Nat) (p:Int):M (List Node):=(expect (bs [123])).bind fun _=>.setI 1 ((parts n (bs [125]) (assign n)).bind fun l=>.setI 0
 (kw (bs [119,104,101,110]) ((expr n).bind fun e=>.ret ([e] ++ l)) (.ret ([none' 63 p] ++ l))))
def cas (n:Nat):M (List Node):=(ref n).bind fun a=>(expect (bs [44])).bind fun _=>(expr n).bind fun b=>(expect (bs [44])).bind fun _ =>
 (expr n).bind fun c=>(expect (bs [105,110,116,111])).bind fun _=>(ref n).bind fun d=>(with' n).bind fun l=>.ret ((([a] ++ [b]) ++ [c]) ++ [d] ++ l)
def loopS (mB:M Node) (n:Nat) (p:Int):M Node:=(expr n).bind fun c =>
 (kw (bs [118,97,114,105,97,110,116]) (expr n) (.ret (none' 63 p))).bind fun v=>mB.bind fun b=>.ret (Node.mk 32 (bs []) (bs []) 0 0 0 false [c,v,b] p)
def branchS (mB:M Node) (n:Nat) (p:Int):M Node:=(expr n).bind fun c=>mB.bind fun a =>
 (kw (bs [101,108,115,101]) mB (.ret (none' 34 p))).bind fun b=>.ret (Node.mk 31 (bs []) (bs []) 0 0 0 false [c,a,b] p)
def blockS (mL:M (List Node)):M Node:=.pos fun p=>(expect (bs [123])).bind fun _=>mL.bind fun l=>.ret (Node.mk 34 (bs []) (bs []) 0 0 0 false l p)
def nd (k:Int) (s:ByteArray) (l:List Node) (p:Int):Node:=Node.mk k s (bs []) 0 0 0 false l p
def stmtS (mIf mWh:Int→M Node) (n:Nat):M Node:=.pos fun p =>
 kw (bs [105,102]) (mIf p) <|
 kw (bs [119,104,105,108,101]) (mWh p) <|
 kw (bs [97,115,115,101,114,116]) ((expr n).bind fun e=>semi (nd 20 (bs []) [e] p)) <|
 kw (bs [97,119,97,105,116]) ((expr n).bind fun e=>semi (nd 29 (bs []) [e] p)) <|
 kw (bs [102,101,110,99,101]) (semi (nd 26 (bs []) [] p)) <|
 kw (bs [115,107,105,112]) (semi (nd 30 (bs []) [] p)) <|
 kw (bs [97,116,111,109,105,99]) ((atomic n p).bind fun l=>semi (nd 22 (bs []) l p)) <|
 kw (bs [99,97,115]) ((cas n).bind fun l=>semi (nd 23 (bs []) l p)) <|
 kw (bs [97,99,113,117,105,114,101]) ((path n).bind fun x=>semi (nd 24 x [] p)) <|
 kw (bs [102,114,101,101]) ((path n).bind fun x=>semi (nd 25 x [] p)) <|
 kw (bs [115,112,97,119,110]) (name.bind fun x=>semi (nd 27 x [] p)) <|
 kw (bs [106,111,105,110]) (name.bind fun x=>semi (nd 28 x [] p)) <|
 kw (bs [99,97,108,108]) ((path n).bind fun x=>(expect (bs [40])).bind fun _=>(parts n (bs [41]) (one (expr n))).bind fun l=>semi (nd 33 x l p)) <|
 kw (bs [103,104,111,115,116]) ((expect (bs [108,111,99,97,108])).bind fun _=>(sized 35 true p).bind fun x=>semi x) <|
 kw (bs [108,111,99,97,108]) ((sized 35 false p).bind fun x=>semi x) <|
 (kw (bs [114,101,108,101,97,115,101]) (.ret (Node.mk 21 (bs []) (bs []) 1 0 0 false [] p)) (.ret (Node.mk 21 (bs []) (bs []) 0 0 0 false [] p))).bind fun j =>
  (assign n).bind fun a=>(with' n).bind fun w=>semi (Node.mk j.kind j.name j.other j.n j.len j.init j.ghost (a ++ w) j.pos)
mutual
def loop:Nat→Int→M Node
 | 0,_=>.out
 | n + 1,p=>loopS (block n) n p
def branch:Nat→Int→M Node
 | 0,_=>.out
 | n + 1,p=>branchS (block n) n p
def stmt:Nat→M Node
 | 0=>.out
 | n + 1=>stmtS (branch n) (loop n) n
def stmts:Nat→M (List Node)
 | 0=>.out
 | n + 1=>list n true (stmt n)
def block:Nat→M Node
 | 0=>.out
 | n + 1=>blockS (stmts n)
end
def shared (g:Bool) (p:Int):M Node:=name.bind fun x =>
 (kw (bs [91]) (len.bind fun l=>(expect (bs [93])).bind fun _=>.ret (Node.mk 50 x (bs []) 0 l 0 g [] p)) (.ret (Node.mk 50 x (bs []) 0 0 0 g [] p))).bind fun j =>
 (expect (bs [58])).bind fun _ =>
 (Go.Proofs.YtbecjgckobhmpaaGreatDoor.M.look fun t=>bif (match t with | some t=>isNm t | none=>false) then name.bind fun o=>.ret (Node.mk j.kind j.name o j.n j.len j.init j.ghost j.kids j.pos)
  else num.bind fun v=>.ret (Node.mk j.kind j.name j.other v j.len j.init j.ghost j.kids j.pos)).bind fun j =>
 (kw (bs [61]) (num.bind fun v=>.ret (Node.mk j.kind j.name j.other j.n j.len v j.ghost j.kids j.pos)) (.ret j)).bind fun j=>semi j
def decl (n:Nat):M Node:=.pos fun p =>
 (kw (bs [114,101,99,111,114,100]) (name.bind fun x=>(expect (bs [123])).bind fun _=>(list n true field).bind fun l=>.ret (Sum.inl (nd 51 x l p))) <|
 kw (bs [103,104,111,115,116]) ((expect (bs [115,104,97,114,101,100])).bind fun _=>(shared true p).bind fun x=>.ret (.inl x)) <|
 kw (bs [115,104,97,114,101,100]) ((shared false p).bind fun x=>.ret (.inl x)) <|
 kw (bs [108,111,99,107]) (name.bind fun x=>(expect (bs [105,110,118,97,114,105,97,110,116])).bind fun _=>(expr n).bind fun e=>.ret (.inr (nd 53 x [e] p))) <|
 kw (bs [114,101,108,121]) ((expr n).bind fun e=>.ret (.inr (nd 54 (bs []) [e] p))) <|
 kw (bs [103,117,97,114,97,110,116,101,101]) ((expr n).bind fun e=>.ret (.inr (nd 55 (bs []) [e] p))) <|
 kw (bs [102,114,97,109,101]) ((some' n (one (pathNode n))).bind fun l=>.ret (.inr (nd 56 (bs []) l p))) <|
 kw (bs [112,114,111,99]) (name.bind fun x=>(expect (bs [40])).bind fun _=>(parts n (bs [41]) (one param)).bind fun l =>
  (kw (bs [108,111,99,107,101,100]) (name.bind fun o=>.ret (Node.mk 57 x o 0 0 0 false l p)) (.ret (Node.mk 57 x (bs []) 0 0 0 false l p))).bind fun j =>
  (block n).bind fun b=>.ret (.inl (Node.mk j.kind j.name j.other j.n j.len j.init j.ghost (j.kids ++ [b]) j.pos))) <|
 (.fail false:M (Node ⊕ Node))).bind fun j=>match j with
  | .inl x=>.ret x
  | .inr x=>semi x
def thread (v p:Int) (n:Nat):M Node:=name.bind fun x=>(expect (bs [61])).bind fun _=>(path n).bind fun o=>(expect (bs [40])).bind fun _ =>
 (parts n (bs [41]) (one numNode)).bind fun l=>semi (Node.mk 61 x o v 0 0 false l p)
def item (n:Nat):M Node:=.pos fun p =>
 kw (bs [109,111,100,117,108,101]) (name.bind fun x=>(expect (bs [111,119,110,101,114])).bind fun _=>name.bind fun o=>(expect (bs [123])).bind fun _ =>
  (list n true (decl n)).bind fun l=>.ret (Node.mk 60 x o 0 0 0 false l p)) <|
 kw (bs [97,115,108,101,101,112]) ((expect (bs [116,104,114,101,97,100])).bind fun _=>thread 1 p n) <|
 kw (bs [116,104,114,101,97,100]) (thread 0 p n) <|
 .fail false
def source (n:Nat):M (List Node):=list n false (item n)
end M
end Go.Proofs.YtbecjgckobhmpaaGreatDoor
end
section
namespace Go.Proofs.YtbecjgckobhmpaaGreatDoor
open Go Go.AM Go.Proofs
namespace M
variable {α β σ ρ:Type}
def In (j:Int):Int→M α→Prop
 | i,.ret _=>i = j
 | _,.fail _=>True
 | _,.out=>True
 | i,.look k=>∀ t,In j i (k t)
 | i,.adv k=>In j i k
 | i,.pos k=>∀ x,In j i (k x)
 | _,.setI i' k=>In j i' k
 | i,.getI k=>In j i (k i)
 | _,.rep _ _=>True
theorem pre_self {l:List (Int × Int)} {x:Int × Int} (h:l ++ [x] <+: l):False:=by
 have:=h.length_le
 simp only [List.length_append,List.length_cons,List.length_nil] at this
 omega
theorem In.run {j:Int} (fin:Int):∀ (m:M α) (s:PS) (a:α) (s':PS),In j s.inner m→m.run fin s = .ok a s'→s'.reps = s.reps→s'.inner = j
 | .ret a,s,_,_,h,e,_=>by cases e; exact h
 | .fail b,s,_,_,_,e,_=>by cases e
 | .out,s,_,_,_,e,_=>by cases e
 | .look k,s,a,s',h,e,hr=>In.run fin (k (hdOf s.rest)) s a s' (h _) e hr
 | .adv k,s,a,s',h,e,hr=>by
  obtain ⟨r,i,p⟩:=s
  cases r with
  | nil=>cases e
  | cons t r=>exact In.run fin k ⟨r,i,p⟩ a s' h e hr
 | .pos k,s,a,s',h,e,hr=>In.run fin (k (posOf fin s.rest)) s a s' (h _) e hr
 | .setI i k,s,a,s',h,e,hr=>In.run fin k ⟨s.rest,i,s.reps⟩ a s' h e hr
 | .getI k,s,a,s',h,e,hr=>In.run fin (k s.inner) s a s' h e hr
 | .rep b k,s,a,s',_,e,hr=>by
  exfalso
  have h:=run_reps fin k ⟨s.rest,s.inner,s.reps ++ [(codeOf b s.rest,posOf fin s.rest)]⟩
  have e':k.run fin ⟨s.rest,s.inner,s.reps ++ [(codeOf b s.rest,posOf fin s.rest)]⟩ = .ok a s':=e
  rw [e'] at h
  have h':s.reps ++ [(codeOf b s.rest,posOf fin s.rest)] <+: s'.reps:=h
  rw [hr] at h'
  exact pre_self h'
theorem in_bind0 {j l:Int} {k:α→M β} (hk:∀ a,In l j (k a)):∀ {m:M α} {i:Int},In j i m→In l i (m.bind k)
 | .ret a,_,h=>by cases h; exact hk a
 | .fail _,_,_=>trivial
 | .out,_,_=>trivial
 | .look m,_,h=>fun t=>in_bind0 hk (m:=m t) (h t)
 | .adv m,_,h=>in_bind0 hk (m:=m) h
 | .pos m,_,h=>fun t=>in_bind0 hk (m:=m t) (h t)
 | .setI i' m,_,h=>in_bind0 hk (m:=m) (i:=i') h
 | .getI m,i,h=>in_bind0 hk (m:=m i) (i:=i) h
 | .rep _ _,_,_=>trivial
theorem in_bind {i j l:Int} {k:α→M β} {m:M α} (hk:∀ a,In l j (k a)) (h:In j i m):In l i (m.bind k):=in_bind0 hk h
theorem in_try0 {j l:Int} {k:α→M β} {c:Bool→M β} (hk:∀ a,In l j (k a)) (hc:∀ b i,In l i (c b)):∀ {m:M α} {i:Int},In j i m→In l i (m.tryM k c)
 | .ret a,_,h=>by cases h; exact hk a
 | .fail b,i,_=>hc b i
 | .out,_,_=>trivial
 | .look m,_,h=>fun t=>in_try0 hk hc (m:=m t) (h t)
 | .adv m,_,h=>in_try0 hk hc (m:=m) h
 | .pos m,_,h=>fun t=>in_try0 hk hc (m:=m t) (h t)
 | .setI i' m,_,h=>in_try0 hk hc (m:=m) (i:=i') h
 | .getI m,i,h=>in_try0 hk hc (m:=m i) (i:=i) h
 | .rep _ _,_,_=>trivial
theorem in_cond {i j:Int} {c:Bool} {a b:M α} (h1:In j i a) (h2:In j i b):In j i (bif c then a else b):=by cases c <;> assumption
theorem in_iter0 {i:Int} {step:σ→M (σ ⊕ ρ)} (h:∀ x,In i i (step x)):∀ (n:Nat) (x:σ),In i i (iterM step n x)
 | 0,_=>trivial
 | n + 1,x=>in_bind (fun r=>by
   cases r with
   | inl x'=>exact in_iter0 h n x'
   | inr r=>exact rfl) (h x)
theorem in_iter {i:Int} {step:σ→M (σ ⊕ ρ)} {n:Nat} {x:σ} (h:∀ x,In i i (step x)):In i i (iterM step n x):=in_iter0 h n x
theorem in_accept {i:Int} {a:ByteArray}:In i i (accept a):=fun t=>by
 cases t with
 | none=>exact rfl
 | some t=>exact in_cond (a:=.adv (.ret true)) rfl rfl
theorem in_expect {i:Int} {a:ByteArray}:In i i (expect a):=in_bind (fun _=>in_cond rfl trivial) in_accept
theorem in_name {i:Int}:In i i name:=fun t=>by
 cases t with
 | none=>trivial
 | some t=>exact in_cond (a:=.adv (.ret t.2)) rfl trivial
theorem in_num {i:Int}:In i i num:=fun t=>by
 cases t with
 | none=>trivial
 | some t=>exact in_cond (a:=.adv (.ret (numV t.2))) rfl trivial
theorem in_len {i:Int}:In i i len:=fun t=>by
 cases t with
 | none=>trivial
 | some t=>exact in_cond (in_cond (b:=.adv (.ret (numV t.2))) trivial rfl) trivial
theorem in_path {i:Int} {n:Nat}:In i i (path n):=in_bind (fun _=>in_iter (fun _=>in_cond (in_bind (fun _=>in_cond rfl (in_bind (fun _=>rfl) in_name)) in_accept) rfl)) in_name
theorem in_kw {i j:Int} {a:ByteArray} {m m':M α} (h1:In j i m) (h2:In j i m'):In j i (kw a m m'):=in_bind (fun _=>in_cond h1 h2) in_accept
theorem in_semi {i:Int} {x:α}:In i i (semi x):=in_bind (fun _=>rfl) in_expect
theorem in_numNode {i:Int}:In i i numNode:=fun _=>in_bind (fun _=>rfl) in_num
theorem in_exprs {i:Int}:∀ n,In i i (ref n)∧In i i (unary n)∧(∀ a,In i i (bin n a))∧In i i (cond n)∧In i i (expr n)
 | 0=>by
  refine ⟨?_,?_,fun a=>?_,?_,?_⟩
  ·rw [ref]; trivial
  ·rw [unary]; trivial
  ·rw [bin]; trivial
  ·rw [cond]; trivial
  ·rw [expr]; trivial
 | n + 1=>by
  obtain ⟨h1,h2,h3,h4,h5⟩:=in_exprs (i:=i) n
  refine ⟨?_,?_,fun a=>?_,?_,?_⟩
  ·rw [ref]
   exact fun _=>in_bind (fun _=>in_kw (in_bind (fun _=>in_bind (fun _=>rfl) in_expect) h5) rfl) in_path
  ·rw [unary]
   refine fun p=>in_kw (in_bind (fun e=>rfl) h2) (fun t=>in_cond in_numNode ?_)
   refine in_kw (in_bind (fun _=>in_bind (fun e=>in_bind (fun _=>rfl) in_expect) h1) in_expect) ?_
   exact in_kw (in_bind (fun e=>in_bind (fun _=>rfl) in_expect) h5) h1
  ·rw [bin]
   refine in_bind (fun x=>in_iter (fun s t p=>in_cond rfl ?_)) h2
   show In i i (M.bind _ _)
   refine in_bind (fun j=>rfl) ?_
   exact in_cond (in_bind (fun r=>rfl) (h3 _)) (in_cond (in_bind (fun r=>rfl) (h3 _)) (in_bind (fun r=>rfl) (h3 _)))
  ·rw [cond]
   refine in_bind (fun x p=>in_bind (fun b=>in_cond rfl ?_) in_accept) (h3 2)
   exact in_bind (fun y=>in_bind (fun _=>in_bind (fun z=>rfl) h4) in_expect) h4
  ·rw [expr]
   have hq:∀ k,In i i (quant (expr n) k):=fun k p=>by
    show In i i (M.bind _ _)
    exact in_bind (fun x=>in_bind (fun _=>in_bind (fun v=>in_bind (fun _=>in_bind (fun e=>rfl) h5) in_expect) in_num) in_expect) in_name
   exact fun t=>in_cond (hq 7) (in_cond (hq 8) h4)
theorem in_expr {i:Int} (n:Nat):In i i (expr n):=(in_exprs n).2.2.2.2
theorem in_ref {i:Int} (n:Nat):In i i (ref n):=(in_exprs n).1
theorem in_partsL {i:Int} {part:M (List Node)} (h:In i i part) (n:Nat) (x:List Node):In i i (iterM (partsL part) n x):=in_iter (fun _=>in_kw (in_bind (fun _=>rfl) h) rfl)
theorem in_some {i:Int} {part:M (List Node)} (h:In i i part) (n:Nat):In i i (some' n part):=in_bind (fun x=>in_partsL h n x) h
theorem in_parts {i:Int} {part:M (List Node)} (h:In i i part) (n:Nat) (a:ByteArray):In i i (parts n a part):=in_kw rfl (in_bind (fun x=>in_bind (fun _=>in_bind (fun _=>rfl) in_expect) (in_partsL h n x)) h)
theorem in_one {i:Int} {m:M Node} (h:In i i m):In i i (one m):=in_bind (fun _=>rfl) h
theorem in_listS {i:Int} {item:M Node} (h:In i i item) (n:Nat) (closed:Bool) (acc:List Node):In i i (listS n closed item acc):=fun t=>by
 refine in_cond (in_cond trivial rfl) (in_bind (j:=i) (fun b=>in_cond rfl ?_) (in_cond in_accept rfl))
 exact in_try0 (β:=List Node ⊕ List Node) (j:=i) (l:=i) (k:=fun x=>.ret (.inl (acc ++ [x]))) (c:=fun b=>.rep b ((skip n closed).bind fun _=>.ret (.inl acc))) (fun _=>rfl) (fun _ _=>trivial) h
theorem in_list {i:Int} {item:M Node} (h:In i i item) (n:Nat) (closed:Bool):In i i (list n closed item):=in_iter (in_listS h n closed)
theorem in_sized {i k:Int} {g:Bool} {p:Int}:In i i (sized k g p):=in_bind (fun _=>in_bind (fun _=>in_bind (fun _=>rfl) in_num) in_expect) in_name
theorem in_field {i:Int}:In i i field:=fun _=>in_bind (fun _=>in_semi) in_sized
theorem in_param {i:Int}:In i i param:=fun _=>in_sized
theorem in_pathNode {i:Int} (n:Nat):In i i (pathNode n):=fun _=>in_bind (fun _=>rfl) in_path
theorem in_assign {i:Int} (n:Nat):In i i (assign n):=in_bind (fun _=>in_bind (fun _=>in_bind (fun _=>rfl) (in_expr n)) in_expect) (in_ref n)
theorem in_with {i:Int} (n:Nat):In i i (with' n):=in_bind (fun _=>in_cond rfl (in_some (in_assign n) n)) in_accept
theorem in_atomic (n:Nat) (p:Int):In 0 0 (atomic n p):=by
 refine in_bind (fun _=>?_) in_expect
 show In 0 1 (M.bind _ _)
 refine in_bind (j:=1) (fun l=>?_) (in_parts (in_assign n) n _)
 show In 0 0 (kw _ _ _)
 exact in_kw (in_bind (fun e=>rfl) (in_expr n)) rfl
theorem in_cas {i:Int} (n:Nat):In i i (cas n) :=
 in_bind (fun _=>in_bind (fun _=>in_bind (fun _=>in_bind (fun _=>in_bind (fun _=>in_bind (fun _=>in_bind (fun _=>in_bind (fun _=>rfl) (in_with n)) (in_ref n)) in_expect) (in_expr n)) in_expect) (in_expr n)) in_expect) (in_ref n)
theorem in_stmtS {mIf mWh:Int→M Node} (h1:∀ p,In 0 0 (mIf p)) (h2:∀ p,In 0 0 (mWh p)) (n:Nat):In 0 0 (stmtS mIf mWh n):=by
 refine fun p=>?_
 have hE:=in_expr (i:=0) n
 refine in_kw (h1 p) ?_
 refine in_kw (h2 p) ?_
 refine in_kw (in_bind (fun _=>in_semi) hE) ?_
 refine in_kw (in_bind (fun _=>in_semi) hE) ?_
 refine in_kw in_semi ?_
 refine in_kw in_semi ?_
 refine in_kw (in_bind (fun l=>in_semi) (in_atomic n p)) ?_
 refine in_kw (in_bind (fun l=>in_semi) (in_cas n)) ?_
 refine in_kw (in_bind (fun _=>in_semi) in_path) ?_
 refine in_kw (in_bind (fun _=>in_semi) in_path) ?_
 refine in_kw (in_bind (fun _=>in_semi) in_name) ?_
 refine in_kw (in_bind (fun _=>in_semi) in_name) ?_
 refine in_kw (in_bind (fun x=>in_bind (fun _=>in_bind (fun l=>in_semi) (in_parts (in_one hE) n _)) in_expect) in_path) ?_
 refine in_kw (in_bind (fun _=>in_bind (fun _=>in_semi) in_sized) in_expect) ?_
 refine in_kw (in_bind (fun _=>in_semi) in_sized) ?_
 exact in_bind (fun j=>in_bind (fun a=>in_bind (fun w=>in_semi) (in_with n)) (in_assign n)) (in_kw rfl rfl)
theorem in_stmts:∀ n,(∀ p,In 0 0 (loop n p))∧(∀ p,In 0 0 (branch n p))∧In 0 0 (stmt n)∧In 0 0 (stmts n)∧In 0 0 (block n)
 | 0=>by
  refine ⟨fun p=>?_,fun p=>?_,?_,?_,?_⟩
  ·rw [loop]; trivial
  ·rw [branch]; trivial
  ·rw [stmt]; trivial
  ·rw [stmts]; trivial
  ·rw [block]; trivial
 | n + 1=>by
  obtain ⟨h1,h2,h3,h4,h5⟩:=in_stmts n
  have hE:=in_expr (i:=0) n
  refine ⟨fun p=>?_,fun p=>?_,?_,?_,?_⟩
  ·rw [loop]
   exact in_bind (fun c=>in_bind (fun v=>in_bind (fun b=>rfl) h5) (in_kw hE rfl)) hE
  ·rw [branch]
   exact in_bind (fun c=>in_bind (fun a=>in_bind (fun b=>rfl) (in_kw h5 rfl)) h5) hE
  ·rw [stmt]; exact in_stmtS h2 h1 n
  ·rw [stmts]; exact in_list h3 n true
  ·rw [block]; exact fun p=>in_bind (fun _=>in_bind (fun l=>rfl) h4) in_expect
theorem in_shared {g:Bool} {p:Int}:In 0 0 (shared g p):=by
 refine in_bind (j:=0) (fun x=>in_bind (j:=0) (fun j=>in_bind (j:=0) (fun _=>in_bind (j:=0) (fun j=>in_bind (j:=0) (fun j=>in_semi) ?_) ?_) in_expect) ?_) in_name
 ·exact in_kw (in_bind (fun v=>rfl) in_num) rfl
 ·exact fun t=>in_cond (in_bind (fun o=>rfl) in_name) (in_bind (fun v=>rfl) in_num)
 ·exact in_kw (in_bind (fun l=>in_bind (fun _=>rfl) in_expect) in_len) rfl
theorem in_decl (n:Nat):In 0 0 (decl n):=by
 have hE:=in_expr (i:=0) n
 refine fun p=>in_bind (fun j=>by cases j with | inl x=>exact rfl | inr x=>exact in_semi) ?_
 refine in_kw (in_bind (fun x=>in_bind (fun _=>in_bind (fun l=>rfl) (in_list in_field n true)) in_expect) in_name) ?_
 refine in_kw (in_bind (fun _=>in_bind (fun x=>rfl) in_shared) in_expect) ?_
 refine in_kw (in_bind (fun x=>rfl) in_shared) ?_
 refine in_kw (in_bind (fun x=>in_bind (fun _=>in_bind (fun e=>rfl) hE) in_expect) in_name) ?_
 refine in_kw (in_bind (fun e=>rfl) hE) ?_
 refine in_kw (in_bind (fun e=>rfl) hE) ?_
 refine in_kw (in_bind (fun l=>rfl) (in_some (in_one (in_pathNode n)) n)) ?_
 refine in_kw ?_ trivial
 refine in_bind (fun x=>in_bind (fun _=>in_bind (fun l=>in_bind (fun j=>in_bind (fun b=>rfl) (in_stmts n).2.2.2.2) ?_) (in_parts (in_one in_param) n _)) in_expect) in_name
 exact in_kw (in_bind (fun o=>rfl) in_name) rfl
theorem in_thread (v p:Int) (n:Nat):In 0 0 (thread v p n) :=
 in_bind (fun _=>in_bind (fun _=>in_bind (fun _=>in_bind (fun _=>in_bind (fun _=>in_semi) (in_parts (in_one in_numNode) n _)) in_expect) in_path) in_expect) in_name
theorem in_item (n:Nat):In 0 0 (item n):=by
 refine fun p=>in_kw (in_bind (fun x=>in_bind (fun _=>in_bind (fun o=>in_bind (fun _=>in_bind (fun l=>rfl) (in_list (in_decl n) n true)) in_expect) in_name) in_expect) in_name) ?_
 exact in_kw (in_bind (fun _=>in_thread 1 p n) in_expect) (in_kw (in_thread 0 p n) trivial)
end M
end Go.Proofs.YtbecjgckobhmpaaGreatDoor
end
section
namespace Go.Proofs.YtbecjgckobhmpaaGreatDoor
open Go Go.AM Go.Proofs
def TkOk (t:Int × ByteArray):Prop :=
 (t.1 = 1∧nameCs (tl t.2) = true∧1≤(tl t.2).length∧(tl t.2).length≤16) ∨
 (t.1 = 2∧1≤(tl t.2).length∧(tl t.2).length≤9∧(∀ b ∈ tl t.2,48≤b.toNat∧b.toNat≤57)∧((tl t.2).length = 1∨(tl t.2).head?≠some 48)) ∨
 (t.1 = 3∧1≤(tl t.2).length∧(tl t.2).length≤3∧isKey t.2 = false)
def TksOk (l:List Token):Prop:=∀ t ∈ l,TkOk (t.kind,t.text)
theorem decL_some:∀ (l:List UInt8) (n:Nat),(∀ b ∈ l,48≤b.toNat∧b.toNat≤57)→∃ v,decL l n = some v
 | [],n,_=>⟨n,rfl⟩
 | b :: r,n,h=>by
  unfold decL
  rw [if_pos (h b (List.mem_cons_self ..))]
  exact decL_some r _ fun c hc=>h c (List.mem_cons_of_mem _ hc)
theorem atoi_ok {t:Int × ByteArray} (h:TkOk t) (h2:t.1 = 2):atoiF t.2 = some (numV t.2):=by
 rcases h with h | h | h
 ·omega
 ·obtain ⟨_,h3,h4,h5,_⟩:=h
  obtain ⟨v,hv⟩:=decL_some (tl t.2) 0 h5
  unfold numV atoiF
  rw [size_tl,tl_def,hv]
  rw [if_neg (by omega)]
  rfl
 ·omega
def addD (d:List Diag) (r:Int × Int):List Diag :=
 bif decide (20≤(d.length:Int)) then d
 else bif (match d.getLast? with | some x=>x.pos == r.2 | none=>false) then d else d ++ [⟨r.1,r.2⟩]
def addDs (d:List Diag) (l:List (Int × Int)):List Diag:=l.foldl addD d
def mkS (T:List Token) (fin:Int) (s:PS):RS:=⟨T,(T.length:Int) - (s.rest.length:Int),fin,s.inner,addDs [] s.reps⟩
def toO {α:Type} (T:List Token) (fin:Int):Out α→Option ((α ⊕ Bad) × RS)
 | .ok a s=>some (.inl a,mkS T fin s)
 | .bad b s=>some (.inr (codeOf b s.rest,posOf fin s.rest),mkS T fin s)
 | .out=>none
def Sim {α:Type} (f:RS→Option ((α ⊕ Bad) × RS)) (m:M α):Prop :=
 ∀ (T:List Token) (fin:Int) (s:PS),T.length≤1500→TksOk T→s.rest <:+ T→f (mkS T fin s) = toO T fin (m.run fin s)
theorem TksOk.suf {T r:List Token} (h:TksOk T) (hs:r <:+ T):TksOk r:=fun t ht=>h t (hs.subset ht)
section
variable {T:List Token} {fin:Int} {s:PS}
theorem mk_lt (hs:s.rest <:+ T):decide ((mkS T fin s).next < ((mkS T fin s).toks.length:Int)) = !s.rest.isEmpty:=by
 have:=hs.length_le
 cases h:s.rest with
 | nil=>simp [mkS,h]
 | cons t r=>simp [mkS,h]; omega
theorem mk_idx {t:Token} {r:List Token} (hs:t :: r <:+ T):idxL T ((T.length:Int) - ((t :: r).length:Int)) = some t:=by
 obtain ⟨p,rfl⟩:=hs
 have e:(((p ++ t :: r).length:Nat):Int) - (((t :: r).length:Nat):Int) = (p.length:Int):=by
  rw [List.length_append]; omega
 rw [e]
 exact idxL_some (by simp)
theorem mk_idx' {t:Token} {r:List Token} (hs:s.rest <:+ T) (h:s.rest = t :: r):idxL (mkS T fin s).toks (mkS T fin s).next = some t:=by
 rw [h] at hs
 have:=mk_idx hs
 unfold mkS
 rw [h]
 exact this
theorem mk_next {t:Token} {r:List Token} {i:Int} {p:List (Int × Int)} (hT:T.length≤1500) (hs:t :: r <:+ T):(mkS T fin ⟨t :: r,i,p⟩).setNext (w64 ((mkS T fin ⟨t :: r,i,p⟩).next + 1)) = mkS T fin ⟨r,i,p⟩:=by
 have:=hs.length_le
 simp only [List.length_cons] at this
 simp only [mkS,RS.setNext,List.length_cons]
 rw [w64_id (by omega) (by omega)]
 congr 1
 omega
theorem F91_mk (hs:s.rest <:+ T):F91 (mkS T fin s) = some (posOf fin s.rest):=by
 unfold F91
 rw [mk_lt hs]
 cases h:s.rest with
 | nil=>rfl
 | cons t r =>
  simp only [List.isEmpty_cons,Bool.not_false,cond_true]
  rw [mk_idx' hs h]
  rfl
theorem F101_mk (hs:s.rest <:+ T):F101 (mkS T fin s) = some (textO (hdOf s.rest)):=by
 unfold F101
 rw [mk_lt hs]
 cases h:s.rest with
 | nil=>rfl
 | cons t r =>
  simp only [List.isEmpty_cons,Bool.not_false,cond_true]
  rw [mk_idx' hs h]
  rfl
theorem F168_mk (hs:s.rest <:+ T):F168 (mkS T fin s) = some (kindO (hdOf s.rest)):=by
 unfold F168
 rw [mk_lt hs]
 cases h:s.rest with
 | nil=>rfl
 | cons t r =>
  simp only [List.isEmpty_cons,Bool.not_false,cond_true]
  rw [mk_idx' hs h]
  rfl
def isNmO (t:Option (Int × ByteArray)):Bool:=match t with
 | some t=>isNm t
 | none=>false
theorem F143_mk (hs:s.rest <:+ T):F143 (mkS T fin s) = some (isNmO (hdOf s.rest)):=by
 unfold F143
 rw [F168_mk hs]
 simp only [Option.bind_some]
 cases h:s.rest with
 | nil=>rfl
 | cons t r =>
  have e:=F101_mk (fin:=fin) hs
  rw [h] at e
  simp only [hdOf,kindO,isNmO,isNm]
  cases hk:t.kind == 1
  ·rfl
  ·simp only [cond_true]
   rw [e]
   rfl
theorem F68_mk (hs:s.rest <:+ T):F68 (mkS T fin s) = toO T fin (.bad false s):=by
 unfold F68
 rw [mk_lt hs,F91_mk hs]
 cases h:s.rest with
 | nil=>simp [toO,h,codeOf,posOf,mkS]
 | cons t r=>simp [toO,h,codeOf,posOf]
end
section
variable {α β σ ρ:Type}
def AllM (P:α→Prop):M α→Prop
 | .ret a=>P a
 | .fail _=>True
 | .out=>True
 | .look k=>∀ t,(∀ x,t = some x→TkOk x)→AllM P (k t)
 | .adv k=>AllM P k
 | .pos k=>∀ x,AllM P (k x)
 | .setI _ k=>AllM P k
 | .getI k=>∀ x,AllM P (k x)
 | .rep _ k=>AllM P k
theorem AllM.run {P:α→Prop} (fin:Int):∀ (m:M α) (s:PS) (a:α) (s':PS),AllM P m→TksOk s.rest→m.run fin s = .ok a s'→P a
 | .ret a,s,_,_,h,_,e=>by
  simp only [M.run,Out.ok.injEq] at e
  rw [← e.1]
  exact h
 | .fail b,s,_,_,_,_,e=>by simp [M.run] at e
 | .out,s,_,_,_,_,e=>by simp [M.run] at e
 | .look k,s,a,s',h,ht,e=>AllM.run fin (k (hdOf s.rest)) s a s' (h _ fun x hx=>by
   cases hr:s.rest with
   | nil=>rw [hr] at hx; cases hx
   | cons t r =>
    rw [hr] at hx
    simp only [hdOf,Option.some.injEq] at hx
    subst hx
    exact ht t (by rw [hr]; exact List.mem_cons_self ..)) ht e
 | .adv k,s,a,s',h,ht,e=>by
  obtain ⟨r,i,p⟩:=s
  cases r with
  | nil=>simp [M.run] at e
  | cons t r=>exact AllM.run fin k ⟨r,i,p⟩ a s' h (fun x hx=>ht x (List.mem_cons_of_mem _ hx)) e
 | .pos k,s,a,s',h,ht,e=>AllM.run fin (k (posOf fin s.rest)) s a s' (h _) ht e
 | .setI i k,s,a,s',h,ht,e=>AllM.run fin k ⟨s.rest,i,s.reps⟩ a s' h ht e
 | .getI k,s,a,s',h,ht,e=>AllM.run fin (k s.inner) s a s' (h _) ht e
 | .rep b k,s,a,s',h,ht,e=>AllM.run fin k ⟨s.rest,s.inner,s.reps ++ [(codeOf b s.rest,posOf fin s.rest)]⟩ a s' h ht e
theorem AllM.mono {P Q:α→Prop} (hq:∀ a,P a→Q a):∀ (m:M α),AllM P m→AllM Q m
 | .ret a,h=>hq a h
 | .fail _,_=>trivial
 | .out,_=>trivial
 | .look k,h=>fun t ht=>AllM.mono hq (k t) (h t ht)
 | .adv k,h=>AllM.mono hq k h
 | .pos k,h=>fun x=>AllM.mono hq (k x) (h x)
 | .setI _ k,h=>AllM.mono hq k h
 | .getI k,h=>fun x=>AllM.mono hq (k x) (h x)
 | .rep _ k,h=>AllM.mono hq k h
theorem AllM.top:∀ (m:M α),AllM (fun _=>True) m
 | .ret _=>trivial
 | .fail _=>trivial
 | .out=>trivial
 | .look k=>fun t _=>AllM.top (k t)
 | .adv k=>AllM.top k
 | .pos k=>fun x=>AllM.top (k x)
 | .setI _ k=>AllM.top k
 | .getI k=>fun x=>AllM.top (k x)
 | .rep _ k=>AllM.top k
theorem AllM.bind {P:α→Prop} {Q:β→Prop} {f:α→M β} (hf:∀ a,P a→AllM Q (f a)):∀ (m:M α),AllM P m→AllM Q (m.bind f)
 | .ret a,h=>hf a h
 | .fail _,_=>trivial
 | .out,_=>trivial
 | .look k,h=>fun t ht=>AllM.bind hf (k t) (h t ht)
 | .adv k,h=>AllM.bind hf k h
 | .pos k,h=>fun x=>AllM.bind hf (k x) (h x)
 | .setI _ k,h=>AllM.bind hf k h
 | .getI k,h=>fun x=>AllM.bind hf (k x) (h x)
 | .rep _ k,h=>AllM.bind hf k h
theorem AllM.try {P:α→Prop} {Q:β→Prop} {f:α→M β} {g:Bool→M β} (hf:∀ a,P a→AllM Q (f a)) (hg:∀ b,AllM Q (g b)):∀ (m:M α),AllM P m→AllM Q (m.tryM f g)
 | .ret a,h=>hf a h
 | .fail b,_=>hg b
 | .out,_=>trivial
 | .look k,h=>fun t ht=>AllM.try hf hg (k t) (h t ht)
 | .adv k,h=>AllM.try hf hg k h
 | .pos k,h=>fun x=>AllM.try hf hg (k x) (h x)
 | .setI _ k,h=>AllM.try hf hg k h
 | .getI k,h=>fun x=>AllM.try hf hg (k x) (h x)
 | .rep _ k,h=>AllM.try hf hg k h
theorem AllM.bind' {Q:β→Prop} {f:α→M β} {m:M α} (hf:∀ a,AllM Q (f a)):AllM Q (m.bind f):=AllM.bind (P:=fun _=>True) (fun a _=>hf a) m (AllM.top m)
theorem AllM.cond {P:α→Prop} {c:Bool} {a b:M α} (h1:AllM P a) (h2:AllM P b):AllM P (bif c then a else b):=by cases c <;> assumption
theorem AllM.kw {P:α→Prop} {a:ByteArray} {m m':M α} (h1:AllM P m) (h2:AllM P m'):AllM P (M.kw a m m'):=AllM.bind' fun _=>AllM.cond h1 h2
theorem AllM.iter {step:σ→M (σ ⊕ ρ)} {Q:ρ→Prop} (Inv:Nat→σ→Prop) {N:Nat} (h:∀ k x,k < N→Inv k x→AllM (Sum.elim (Inv (k + 1)) Q) (step x)):∀ (n k:Nat) (x:σ),k + n≤N→Inv k x→AllM Q (M.iterM step n x)
 | 0,_,_,_,_=>trivial
 | n + 1,k,x,hn,hi=>by
  refine AllM.bind ?_ _ (h k x (by omega) hi)
  intro r hr
  cases r with
  | inl x'=>exact AllM.iter Inv h n (k + 1) x' (by omega) hr
  | inr r=>exact hr
theorem sim_ret (a:α):Sim (fun s=>some (.inl a,s)) (.ret a):=fun _ _ _ _ _ _=>rfl
theorem sim_bind {f:RS→Option ((α ⊕ Bad) × RS)} {m:M α} {g:α→RS→Option ((β ⊕ Bad) × RS)} {k:α→M β} (P:α→Prop) (hP:AllM P m) (hf:Sim f m) (hg:∀ a,P a→Sim (g a) (k a)):Sim (fun s=>pbind (f s) g) (m.bind k):=by
 intro T fin s hT hok hs
 simp only [M.run_bind,hf T fin s hT hok hs]
 have hsuf:=M.run_suf fin m s
 cases hr:m.run fin s with
 | ok a s' =>
  rw [hr] at hsuf
  exact hg a (AllM.run fin m s a s' hP (hok.suf hs) hr) T fin s' hT hok (List.IsSuffix.trans hsuf hs)
 | bad b s'=>rfl
 | out=>rfl
theorem sim_bind' {f:RS→Option ((α ⊕ Bad) × RS)} {m:M α} {g:α→RS→Option ((β ⊕ Bad) × RS)} {k:α→M β} (hf:Sim f m) (hg:∀ a,Sim (g a) (k a)):Sim (fun s=>pbind (f s) g) (m.bind k) :=
 sim_bind (fun _=>True) (AllM.top m) hf fun a _=>hg a
theorem bind_ret:∀ m:M α,m.bind .ret = m
 | .ret a=>rfl
 | .fail b=>rfl
 | .out=>rfl
 | .look k=>by simp only [M.bind]; congr 1; funext t; exact bind_ret (k t)
 | .adv k=>by simp only [M.bind]; congr 1; exact bind_ret k
 | .pos k=>by simp only [M.bind]; congr 1; funext t; exact bind_ret (k t)
 | .setI i k=>by simp only [M.bind]; congr 1; exact bind_ret k
 | .getI k=>by simp only [M.bind]; congr 1; funext t; exact bind_ret (k t)
 | .rep b k=>by simp only [M.bind]; congr 1; exact bind_ret k
theorem sim_eta {f:RS→Option ((α ⊕ Bad) × RS)} {m:M α} (hf:Sim f m):Sim (fun s=>pbind (f s) fun r s'=>some (.inl r,s')) m:=by
 have:=sim_bind' (g:=fun r s'=>some (.inl r,s')) (k:=M.ret) hf fun a=>sim_ret a
 rwa [bind_ret] at this
theorem sim_cond {c:Bool} {f g:RS→Option ((α ⊕ Bad) × RS)} {a b:M α} (h1:Sim f a) (h2:Sim g b):Sim (fun s=>bif c then f s else g s) (bif c then a else b):=by cases c <;> assumption
theorem sim_setI {i:Int} {f:RS→Option ((α ⊕ Bad) × RS)} {m:M α} (h:Sim f m):Sim (fun s=>f (s.setInner i)) (.setI i m):=fun T fin s hT hok hs=>h T fin ⟨s.rest,i,s.reps⟩ hT hok hs
theorem sim_pos {g:Int→RS→Option ((α ⊕ Bad) × RS)} {k:Int→M α} (h:∀ x,Sim (g x) (k x)):Sim (fun s=>(F91 s).bind fun x=>g x s) (.pos k):=fun T fin s hT hok hs=>by
 simp only [F91_mk hs,Option.bind_some]
 exact h _ T fin s hT hok hs
theorem sim_kind {g:Int→RS→Option ((α ⊕ Bad) × RS)} {k:Option (Int × ByteArray)→M α} (h:∀ t,Sim (g (kindO t)) (k t)):Sim (fun s=>(F168 s).bind fun x=>g x s) (.look k):=fun T fin s hT hok hs=>by
 simp only [F168_mk hs,Option.bind_some]
 exact h _ T fin s hT hok hs
theorem sim_isNm {g:Bool→RS→Option ((α ⊕ Bad) × RS)} {k:Option (Int × ByteArray)→M α} (h:∀ t,Sim (g (isNmO t)) (k t)):Sim (fun s=>(F143 s).bind fun x=>g x s) (.look k):=fun T fin s hT hok hs=>by
 simp only [F143_mk hs,Option.bind_some]
 exact h _ T fin s hT hok hs
theorem sim_opt {γ:Type} {o:Option γ} {v:γ} {g:γ→RS→Option ((α ⊕ Bad) × RS)} {m:M α} (h:o = some v) (hg:Sim (g v) m):Sim (fun s=>o.bind fun x=>g x s) m:=by
 subst h
 exact hg
theorem appL_some {B:Nat} {l m:List α} (h:(l.length + m.length) * B≤140737488355328):appL B l m = some (l ++ m):=if_pos h
theorem sim_iter {step:σ→RS→Option (((σ ⊕ ρ) ⊕ Bad) × RS)} {mstep:σ→M (σ ⊕ ρ)} (Inv:Nat→σ→Prop) {N:Nat} (h:∀ k x,k < N→Inv k x→Sim (step x) (mstep x)∧AllM (Sum.elim (Inv (k + 1)) fun _=>True) (mstep x)) :
  ∀ (n k:Nat) (x:σ),k + n≤N→Inv k x→Sim (iterP step n x) (M.iterM mstep n x)
 | 0,_,_,_,_=>fun _ _ _ _ _ _=>rfl
 | n + 1,k,x,hn,hi=>by
  intro T fin s hT hok hs
  obtain ⟨h1,h2⟩:=h k x (by omega) hi
  simp only [iterP,M.iterM,M.run_bind,h1 T fin s hT hok hs]
  have hsuf:=M.run_suf fin (mstep x) s
  cases hr:(mstep x).run fin s with
  | ok a s' =>
   rw [hr] at hsuf
   have hp:=AllM.run fin _ s a s' h2 (hok.suf hs) hr
   cases a with
   | inl x'=>exact sim_iter Inv h n (k + 1) x' (by omega) hp T fin s' hT hok (List.IsSuffix.trans hsuf hs)
   | inr r=>rfl
  | bad b s'=>rfl
  | out=>rfl
theorem sim_iter' {step:σ→RS→Option (((σ ⊕ ρ) ⊕ Bad) × RS)} {mstep:σ→M (σ ⊕ ρ)} (h:∀ x,Sim (step x) (mstep x)) (n:Nat) (x:σ):Sim (iterP step n x) (M.iterM mstep n x) :=
 sim_iter (fun _ _=>True) (N:=n) (fun k x _ _=>⟨h x,(AllM.top _).mono fun r _=>by cases r <;> trivial⟩) n 0 x (by omega) trivial
end
theorem sim_fail {α:Type} (g:Unit→RS→Option ((α ⊕ Bad) × RS)):Sim (fun s=>pbind (F68 s) g) (.fail false):=fun T fin s hT hok hs=>by
 simp only [F68_mk hs]
 rfl
theorem sim_accept (a:ByteArray):Sim (F88 a) (M.accept a):=by
 intro T fin s hT hok hs
 obtain ⟨r,i,p⟩:=s
 unfold F88
 rw [mk_lt hs,F101_mk hs]
 cases r with
 | nil=>rfl
 | cons t r =>
  simp only [List.isEmpty_cons,Bool.not_false,cond_true,Option.bind_some,pbind,M.accept,M.run,hdOf,textO]
  cases strEq t.text a
  ·rfl
  ·simp only [cond_true]
   rw [mk_next hT hs]
   rfl
theorem sim_expect (a:ByteArray):Sim (F93 a) (M.expect a):=by
 unfold F93 M.expect
 refine sim_bind' (sim_accept a) fun b=>?_
 cases b
 ·exact sim_fail _
 ·exact sim_ret _
theorem sim_kw {α:Type} {a:ByteArray} {f g:RS→Option ((α ⊕ Bad) × RS)} {m m':M α} (h1:Sim f m) (h2:Sim g m'):Sim (fun s=>pbind (F88 a s) fun b s'=>bif b then f s' else g s') (M.kw a m m') :=
 sim_bind' (sim_accept a) fun _=>sim_cond h1 h2
theorem sim_semi {α:Type} {x:α}:Sim (fun s=>pbind (F93 (bs [59]) s) fun _ s'=>some (.inl x,s')) (M.semi x) :=
 sim_bind' (sim_expect _) fun _=>sim_ret _
theorem name_all:AllM (fun x=>(tl x).length≤16∧nameCs (tl x) = true∧1≤(tl x).length∧isKey x = false) M.name:=by
 intro t ht
 cases t with
 | none=>trivial
 | some t =>
  show AllM _ (bif isNm t then .adv (.ret t.2) else .fail false)
  cases hn:isNm t
  ·trivial
  ·have h:=ht t rfl
   simp only [isNm,Bool.and_eq_true,beq_iff_eq,Bool.not_eq_true'] at hn
   rcases h with h | h | h
   ·exact ⟨h.2.2.2,h.2.1,h.2.2.1,hn.2⟩
   ·omega
   ·omega
theorem sim_name:Sim F92 M.name:=by
 intro T fin s hT hok hs
 obtain ⟨r,i,p⟩:=s
 unfold F92
 rw [F143_mk hs]
 cases r with
 | nil =>
  simp only [hdOf,isNmO,Option.bind_some,Bool.not_false,cond_true,M.name,M.run]
  rw [F68_mk hs]
  rfl
 | cons t r =>
  simp only [hdOf,isNmO,Option.bind_some,M.name,M.run]
  cases hn:isNm (t.kind,t.text)
  ·simp only [Bool.not_false,cond_true,cond_false,M.run]
   rw [F68_mk hs]
   rfl
  ·simp only [Bool.not_true,cond_false,cond_true,pbind,M.run]
   rw [mk_next hT hs]
   have hl:=List.IsSuffix.length_le hs
   simp only [List.length_cons] at hl
   have e:w64 ((mkS T fin ⟨r,i,p⟩).next - 1) = (T.length:Int) - ((t :: r).length:Int):=by
    simp only [mkS,List.length_cons]
    rw [w64_id (by omega) (by omega)]
    omega
   rw [e]
   have e2:(mkS T fin ⟨r,i,p⟩).toks = T:=rfl
   rw [e2,mk_idx hs]
   rfl
theorem sim_num:Sim F103 M.num:=by
 intro T fin s hT hok hs
 obtain ⟨r,i,p⟩:=s
 unfold F103
 rw [F168_mk hs]
 cases r with
 | nil =>
  simp only [hdOf,kindO,Option.bind_some,M.num,M.run]
  rw [F68_mk hs]
  rfl
 | cons t r =>
  simp only [hdOf,kindO,Option.bind_some,M.num,M.run]
  cases hn:t.kind == 2
  ·have:(t.kind != 2) = true:=by simp [bne,hn]
   simp only [this,cond_true,cond_false,M.run]
   rw [F68_mk hs]
   rfl
  ·have:(t.kind != 2) = false:=by simp [bne,hn]
   simp only [this,cond_true,cond_false,M.run,pbind]
   rw [F101_mk hs]
   have ha:=atoi_ok (hok t (hs.subset (List.mem_cons_self ..))) (by simpa using hn)
   simp only [hdOf,textO,Option.bind_some] at ha ⊢
   rw [ha]
   simp only [Option.bind_some]
   rw [mk_next hT hs]
   rfl
theorem sim_len {α:Type} {g:Int→RS→Option ((α ⊕ Bad) × RS)} {k:Int→M α} (hg:∀ v,Sim (g v) (k v)) :
  Sim (fun s=>(F91 s).bind fun x=>pbind (F103 s) fun v s'=>bif v == 0 then some (.inr ((2:Int),x),s'.setNext (w64 (s'.next - 1))) else g v s') (M.len.bind k):=by
 intro T fin s hT hok hs
 simp only [F91_mk hs,Option.bind_some,sim_num T fin s hT hok hs]
 obtain ⟨r,i,p⟩:=s
 cases r with
 | nil=>rfl
 | cons t r =>
  simp only [M.num,M.len,M.run,M.bind,hdOf]
  cases hn:t.kind == 2
  ·rfl
  ·simp only [cond_true,M.run,toO,pbind]
   cases hz:numV t.text == 0
   ·simp only [cond_false,M.bind,M.run]
    exact hg _ T fin ⟨r,i,p⟩ hT hok ((List.suffix_cons t r).trans hs)
   ·simp only [cond_true,M.bind,M.run]
    have hl:=List.IsSuffix.length_le hs
    simp only [List.length_cons] at hl
    have e:(mkS T fin ⟨r,i,p⟩).setNext (w64 ((mkS T fin ⟨r,i,p⟩).next - 1)) = mkS T fin ⟨t :: r,i,p⟩:=by
     simp only [mkS,RS.setNext,List.length_cons]
     rw [w64_id (by omega) (by omega)]
     congr 1
     omega
    rw [e]
    rfl
theorem sim_numNode:Sim F153 M.numNode:=by
 unfold F153 M.numNode
 exact sim_pos fun x=>sim_bind' sim_num fun v=>sim_ret _
theorem sim_adv {α:Type} {f:RS→Option ((α ⊕ Bad) × RS)} {m:M α} (h:Sim f m) {T:List Token} {fin:Int} {t:Token} {r:List Token} {i:Int} {p:List (Int × Int)} (hT:T.length≤1500) (hok:TksOk T) (hs:t :: r <:+ T) :
  f ((mkS T fin ⟨t :: r,i,p⟩).setNext (w64 ((mkS T fin ⟨t :: r,i,p⟩).next + 1))) = toO T fin (m.run fin ⟨r,i,p⟩):=by
 rw [mk_next hT hs]
 exact h T fin ⟨r,i,p⟩ hT hok ((List.suffix_cons t r).trans hs)
end Go.Proofs.YtbecjgckobhmpaaGreatDoor
end
section
namespace Go.Proofs.YtbecjgckobhmpaaGreatDoor
open Go Go.AM Go.Proofs
namespace M
variable {α β σ ρ:Type}
def Tot (L:Nat) (m:M α):Prop:=∀ fin s,s.rest.length < L→m.run fin s≠.out
def Less (m:M α):Prop:=∀ fin s a s',m.run fin s = .ok a s'→s'.rest.length < s.rest.length
theorem Tot.mono {L L':Nat} {m:M α} (h:Tot L m) (hl:L'≤L):Tot L' m:=fun fin s hs=>h fin s (by omega)
theorem Tot.zero {m:M α}:Tot 0 m:=fun _ _ hs=>absurd hs (Nat.not_lt_zero _)
theorem tot_ret {L:Nat} (a:α):Tot L (.ret a):=fun _ _ _ h=>by cases h
theorem tot_fail {L:Nat} (b:Bool):Tot L (.fail b:M α):=fun _ _ _ h=>by cases h
theorem tot_pos {L:Nat} {k:Int→M α} (h:∀ x,Tot L (k x)):Tot L (.pos k):=fun fin s hs=>h _ fin s hs
theorem tot_look {L:Nat} {k:Option (Int × ByteArray)→M α} (h:∀ x,Tot L (k x)):Tot L (.look k):=fun fin s hs=>h _ fin s hs
theorem tot_setI {L:Nat} {i:Int} {k:M α} (h:Tot L k):Tot L (.setI i k):=fun fin s hs=>h fin ⟨s.rest,i,s.reps⟩ hs
theorem tot_cond {L:Nat} {c:Bool} {a b:M α} (h1:Tot L a) (h2:Tot L b):Tot L (bif c then a else b):=by cases c <;> assumption
theorem tot_bind {L:Nat} {m:M α} {k:α→M β} (h1:Tot L m) (h2:∀ a,Tot L (k a)):Tot L (m.bind k):=by
 intro fin s hs
 rw [run_bind]
 have hsuf:=run_suf fin m s
 have h:=h1 fin s hs
 cases hr:m.run fin s with
 | ok a s' =>
  rw [hr] at hsuf
  have:=List.IsSuffix.length_le hsuf
  exact h2 a fin s' (by omega)
 | bad b s'=>intro h; cases h
 | out=>exact absurd hr h
theorem tot_bindL {L:Nat} {m:M α} {k:α→M β} (h1:Tot L m) (hl:Less m) (h2:∀ a,Tot (L - 1) (k a)):Tot L (m.bind k):=by
 intro fin s hs
 rw [run_bind]
 have h:=h1 fin s hs
 cases hr:m.run fin s with
 | ok a s' =>
  have:=hl fin s a s' hr
  exact h2 a fin s' (by omega)
 | bad b s'=>intro h; cases h
 | out=>exact absurd hr h
theorem run_accept (fin:Int) (a:ByteArray) (s:PS):(accept a).run fin s = match s.rest with
  | []=>.ok false s
  | t :: r=>bif strEq t.text a then .ok true ⟨r,s.inner,s.reps⟩ else .ok false s:=by
 obtain ⟨r,i,p⟩:=s
 cases r with
 | nil=>rfl
 | cons t r =>
  simp only [accept,run,hdOf]
  cases strEq t.text a <;> rfl
theorem run_kw (fin:Int) (a:ByteArray) (m m':M α) (s:PS):(kw a m m').run fin s = match s.rest with
  | []=>m'.run fin s
  | t :: r=>bif strEq t.text a then m.run fin ⟨r,s.inner,s.reps⟩ else m'.run fin s:=by
 rw [kw,run_bind,run_accept]
 obtain ⟨r,i,p⟩:=s
 cases r with
 | nil=>rfl
 | cons t r=>cases h:strEq t.text a <;> simp [h,andThen]
theorem tot_accept {L:Nat} (a:ByteArray):Tot L (accept a):=by
 intro fin s _
 rw [run_accept]
 cases s.rest with
 | nil=>intro h; cases h
 | cons t r=>cases h:strEq t.text a <;> simp [h]
theorem tot_expect {L:Nat} (a:ByteArray):Tot L (expect a):=tot_bind (tot_accept a) fun _=>tot_cond (tot_ret _) (tot_fail _)
theorem tot_kw {L:Nat} {a:ByteArray} {m m':M α} (h1:Tot (L - 1) m) (h2:Tot L m'):Tot L (kw a m m'):=by
 intro fin s hs
 rw [run_kw]
 obtain ⟨r,i,p⟩:=s
 cases r with
 | nil=>exact h2 fin _ hs
 | cons t r =>
  simp only [List.length_cons] at hs
  show (bif strEq t.text a then m.run fin ⟨r,i,p⟩ else m'.run fin ⟨t :: r,i,p⟩)≠.out
  cases h:strEq t.text a
  ·exact h2 fin ⟨t :: r,i,p⟩ (by simpa using hs)
  ·exact h1 fin ⟨r,i,p⟩ (by simp only; omega)
theorem tot_name {L:Nat}:Tot L name:=by
 rintro fin ⟨r,i,p⟩ _
 cases r with
 | nil=>intro h; cases h
 | cons t r =>
  simp only [name,run,hdOf]
  cases isNm (t.kind,t.text) <;> intro h <;> cases h
theorem tot_num {L:Nat}:Tot L num:=by
 rintro fin ⟨r,i,p⟩ _
 cases r with
 | nil=>intro h; cases h
 | cons t r =>
  simp only [num,run,hdOf]
  cases t.kind == 2 <;> intro h <;> cases h
theorem tot_len {L:Nat}:Tot L len:=by
 rintro fin ⟨r,i,p⟩ _
 cases r with
 | nil=>intro h; cases h
 | cons t r =>
  simp only [len,run,hdOf]
  cases t.kind == 2
  ·intro h; cases h
  ·simp only [cond_true]
   cases numV t.text == 0 <;> intro h <;> cases h
theorem tot_numNode {L:Nat}:Tot L numNode:=tot_pos fun _=>tot_bind tot_num fun _=>tot_ret _
theorem tot_semi {L:Nat} (x:α):Tot L (semi x):=tot_bind (tot_expect _) fun _=>tot_ret _
theorem less_bind1 {m:M α} {k:α→M β} (h:Less m):Less (m.bind k):=by
 intro fin s b s' e
 rw [run_bind] at e
 cases hr:m.run fin s with
 | ok a s1 =>
  rw [hr] at e
  have h1:=h fin s a s1 hr
  have h2:=run_suf fin (k a) s1
  simp only [andThen] at e
  rw [e] at h2
  have:=List.IsSuffix.length_le h2
  omega
 | bad b s'=>rw [hr] at e; cases e
 | out=>rw [hr] at e; cases e
theorem less_bind2 {m:M α} {k:α→M β} (h:∀ a,Less (k a)):Less (m.bind k):=by
 intro fin s b s' e
 rw [run_bind] at e
 have hsuf:=run_suf fin m s
 cases hr:m.run fin s with
 | ok a s1 =>
  rw [hr] at e hsuf
  have:=List.IsSuffix.length_le hsuf
  have h1:=h a fin s1 b s' e
  omega
 | bad b s'=>rw [hr] at e; cases e
 | out=>rw [hr] at e; cases e
theorem less_pos {k:Int→M α} (h:∀ x,Less (k x)):Less (.pos k):=fun fin s a s' e=>h _ fin s a s' e
theorem less_fail {b:Bool}:Less (.fail b:M α):=fun fin s a s' e=>by cases e
theorem less_expect (a:ByteArray):Less (expect a):=fun fin s a' s' e=>EA.less fin _ s a' s' (EA_expect a) e
theorem less_semi (x:α):Less (semi x):=less_bind1 (less_expect _)
theorem less_kw {a:ByteArray} {m m':M α} (h:Less m'):Less (kw a m m'):=by
 intro fin s b s' e
 rw [run_kw] at e
 obtain ⟨r,i,p⟩:=s
 cases r with
 | nil=>exact h fin _ b s' e
 | cons t r =>
  simp only at e
  cases hc:strEq t.text a <;> rw [hc] at e
  ·exact h fin _ b s' e
  ·have h2:=run_suf fin m ⟨r,i,p⟩
   simp only [cond_true] at e
   rw [e] at h2
   have:=List.IsSuffix.length_le h2
   simp only [List.length_cons] at this ⊢
   omega
theorem kw_bind {a:ByteArray} {m m':M α} {f:α→M β}:(kw a m m').bind f = kw a (m.bind f) (m'.bind f):=by
 unfold kw
 rw [bind_assoc]
 congr 1
 funext b
 cases b <;> rfl
theorem tot_iter0 {L n:Nat} {step:σ→M (σ ⊕ ρ)} (h:∀ x,Tot L (step x)) (hless:∀ x fin s x' s',(step x).run fin s = .ok (.inl x') s'→s'.rest.length < s.rest.length) (hn:L≤n) (x:σ):Tot L (iterM step n x):=by
 intro fin s hs
 have key:∀ (n:Nat) (x:σ) (s:PS),s.rest.length < L→s.rest.length < n→(iterM step n x).run fin s≠.out:=by
  intro n
  induction n with
  | zero=>intro x s _ h; omega
  | succ n ih =>
   intro x s hL hn
   simp only [iterM,run_bind]
   have h1:=h x fin s hL
   cases hr:(step x).run fin s with
   | ok r s' =>
    cases r with
    | inl x' =>
     have:=hless x fin s x' s' hr
     exact ih x' s' (by omega) (by omega)
    | inr r=>intro e; cases e
   | bad b s'=>intro e; cases e
   | out=>exact absurd hr h1
 exact key n x s hs (by omega)
theorem partsL_less {part:M (List Node)} (acc:List Node) (fin:Int) (s:PS) (x':List Node) (s':PS) (e:(partsL part acc).run fin s = .ok (.inl x') s'):s'.rest.length < s.rest.length:=by
 unfold partsL at e
 rw [run_kw] at e
 obtain ⟨r,i,p⟩:=s
 cases r with
 | nil=>cases e
 | cons t r =>
  simp only at e
  cases hc:strEq t.text (bs [44]) <;> rw [hc] at e
  ·cases e
  ·have h2:=run_suf fin (part.bind fun x=>.ret (.inl (acc ++ x):List Node ⊕ List Node)) ⟨r,i,p⟩
   simp only [cond_true] at e
   rw [e] at h2
   have:=List.IsSuffix.length_le h2
   simp only [List.length_cons] at this ⊢
   omega
theorem tot_partsL {L n:Nat} {part:M (List Node)} (h:Tot L part) (hn:L≤n) (x:List Node):Tot L (iterM (partsL part) n x) :=
 tot_iter0 (fun acc=>tot_kw ((tot_bind h fun _=>tot_ret _).mono (by omega)) (tot_ret _)) partsL_less hn x
theorem tot_some {L n:Nat} {part:M (List Node)} (h:Tot L part) (hn:L≤n):Tot L (some' n part):=tot_bind h fun x=>tot_partsL h hn x
theorem tot_parts {L n:Nat} {part:M (List Node)} (h:Tot L part) (hn:L≤n) (a:ByteArray):Tot L (parts n a part) :=
 tot_kw (tot_ret _) (tot_bind h fun x=>tot_bind (tot_partsL h hn x) fun _=>tot_bind (tot_expect _) fun _=>tot_ret _)
theorem tot_one {L:Nat} {m:M Node} (h:Tot L m):Tot L (one m):=tot_bind h fun _=>tot_ret _
theorem tot_path {L n:Nat} (hn:3≤n):Tot L (path n):=by
 refine tot_bind tot_name fun x=>?_
 obtain ⟨n,rfl⟩:∃ m,n = m + 3:=⟨n - 3,by omega⟩
 have hs:∀ x,Tot L (pathS x):=fun x=>tot_cond (tot_bind (tot_accept _) fun b=>tot_cond (tot_ret _) (tot_bind tot_name fun _=>tot_ret _)) (tot_ret _)
 have h1:∀ (x:ByteArray × Int) (r:(ByteArray × Int) ⊕ ByteArray) (fin:Int) (s s':PS),(pathS x).run fin s = .ok r s'→match r with
   | .inl x'=>x'.2 = x.2 + 1∧x.2 < 2
   | .inr _=>True:=by
  intro x r fin s s' e
  unfold pathS at e
  cases hc:decide (x.2 < 2) <;> rw [hc] at e
  ·simp only [cond_false,run,Out.ok.injEq] at e
   rw [← e.1]; trivial
  ·simp only [cond_true,run_bind] at e
   cases hr:(accept (bs [46])).run fin s with
   | ok b s1 =>
    rw [hr] at e
    simp only [andThen] at e
    cases b
    ·simp only [Bool.not_false,cond_true,run,Out.ok.injEq] at e
     rw [← e.1]; trivial
    ·simp only [Bool.not_true,cond_false,run_bind] at e
     cases hr2:name.run fin s1 with
     | ok y s2 =>
      rw [hr2] at e
      simp only [andThen,run,Out.ok.injEq] at e
      rw [← e.1]
      exact ⟨rfl,by simpa using hc⟩
     | bad b s2=>rw [hr2] at e; cases e
     | out=>rw [hr2] at e; cases e
   | bad b s1=>rw [hr] at e; cases e
   | out=>rw [hr] at e; cases e
 intro fin s hL
 have key:∀ (k:Nat) (x:ByteArray × Int) (s:PS),s.rest.length < L→(2 - x.2:Int) < k→(iterM pathS k x).run fin s≠.out∨k = 0:=by
  intro k
  induction k with
  | zero=>intro x s _ _; exact .inr rfl
  | succ k ih =>
   intro x s hL hk
   refine .inl ?_
   simp only [iterM,run_bind]
   have h2:=hs x fin s hL
   have hsuf:=run_suf fin (pathS x) s
   cases hr:(pathS x).run fin s with
   | ok r s' =>
    rw [hr] at hsuf
    have hle:=List.IsSuffix.length_le hsuf
    have h3:=h1 x r fin s s' hr
    cases r with
    | inl x' =>
     simp only at h3
     rcases ih x' s' (by omega) (by omega) with h | h
     ·exact h
     ·omega
    | inr r=>intro e; cases e
   | bad b s'=>intro e; cases e
   | out=>exact absurd hr h2
 rcases key (n + 3) (x,0) s hL (by simp only; omega) with h | h
 ·exact h
 ·omega
theorem tot_binL {L n:Nat} {mB:Int→M Node} (a:Int) (h:∀ l,Tot (L - 1) (mB l)) (hn:L≤n) (x:Int × Node):Tot L (iterM (binStep mB a) n x):=by
 have hr:∀ l,Tot (L - 1) (rightS mB l):=fun l=>tot_cond (tot_bind (h _) fun _=>tot_ret _) (tot_cond (tot_bind (h _) fun _=>tot_ret _) (tot_bind (h _) fun _=>tot_ret _))
 refine tot_iter0 (fun y fin s hs=>?_) (fun y fin s x' s' e=>?_) hn x
 ·obtain ⟨r,i,p⟩:=s
  simp only [binStep,run]
  cases r with
  | nil=>exact fun h=>by cases h
  | cons t r =>
   cases hc:((levelI (textO (hdOf (t :: r))) == 0) || decide (levelI (textO (hdOf (t :: r))) < a)) || decide (y.1 < levelI (textO (hdOf (t :: r))))
   ·simp only [cond_false,run]
    simp only [List.length_cons] at hs
    exact tot_bind (hr _) (fun _=>tot_ret _) fin ⟨r,i,p⟩ (by simp only; omega)
   ·exact fun h=>by cases h
 ·obtain ⟨r,i,p⟩:=s
  simp only [binStep,run] at e
  cases hc:((levelI (textO (hdOf r)) == 0) || decide (levelI (textO (hdOf r)) < a)) || decide (y.1 < levelI (textO (hdOf r))) <;> rw [hc] at e
  ·cases r with
   | nil=>cases e
   | cons t r =>
    simp only [cond_false,run] at e
    have h2:=run_suf fin ((rightS mB (levelI (textO (hdOf (t :: r))))).bind fun j=>.ret (.inl (j.1,Node.mk 5 (textO (hdOf (t :: r))) (bs []) 0 0 0 false [y.2,j.2] (posOf fin (t :: r))):(Int × Node) ⊕ Node)) ⟨r,i,p⟩
    rw [e] at h2
    have:=List.IsSuffix.length_le h2
    simp only [List.length_cons] at this ⊢
    omega
  ·cases e
theorem tot_exprs:∀ L,(∀ n,5 * L + 4≤n→Tot L (ref n))∧(∀ n,5 * L + 5≤n→Tot L (unary n))∧(∀ n a,5 * L + 6≤n→Tot L (bin n a))∧(∀ n,5 * L + 7≤n→Tot L (cond n))∧(∀ n,5 * L + 8≤n→Tot L (expr n))
 | 0=>⟨fun _ _=>Tot.zero,fun _ _=>Tot.zero,fun _ _ _=>Tot.zero,fun _ _=>Tot.zero,fun _ _=>Tot.zero⟩
 | L + 1=>by
  obtain ⟨h1,h2,h3,h4,h5⟩:=tot_exprs L
  have i1:∀ n,5 * (L + 1) + 4≤n→Tot (L + 1) (ref n):=by
   intro n hn
   obtain ⟨m,rfl⟩:∃ m,n = m + 1:=⟨n - 1,by omega⟩
   rw [ref]
   exact tot_pos fun p=>tot_bind (tot_path (by omega)) fun x=>tot_kw (tot_bind (h5 m (by omega)) fun e=>tot_bind (tot_expect _) fun _=>tot_ret _) (tot_ret _)
  have i2:∀ n,5 * (L + 1) + 5≤n→Tot (L + 1) (unary n):=by
   intro n hn
   obtain ⟨m,rfl⟩:∃ m,n = m + 1:=⟨n - 1,by omega⟩
   rw [unary]
   refine tot_pos fun p=>tot_kw (tot_bind (h2 m (by omega)) fun e=>tot_ret _) (tot_look fun t=>tot_cond tot_numNode ?_)
   refine tot_kw (tot_bind (tot_expect _) fun _=>tot_bind (h1 m (by omega)) fun e=>tot_bind (tot_expect _) fun _=>tot_ret _) ?_
   exact tot_kw (tot_bind (h5 m (by omega)) fun e=>tot_bind (tot_expect _) fun _=>tot_ret _) (i1 m (by omega))
  have i3:∀ n a,5 * (L + 1) + 6≤n→Tot (L + 1) (bin n a):=by
   intro n a hn
   obtain ⟨m,rfl⟩:∃ m,n = m + 1:=⟨n - 1,by omega⟩
   rw [bin]
   exact tot_bind (i2 m (by omega)) fun x=>tot_binL (L:=L + 1) a (fun l=>h3 m l (by omega)) (by omega) _
  have i4:∀ n,5 * (L + 1) + 7≤n→Tot (L + 1) (cond n):=by
   intro n hn
   obtain ⟨m,rfl⟩:∃ m,n = m + 1:=⟨n - 1,by omega⟩
   rw [cond]
   refine tot_bind (i3 m 2 (by omega)) fun x=>tot_pos fun p=>?_
   have e:((accept (bs [63])).bind fun b=>bif !b then .ret x else (cond m).bind fun y=>(expect (bs [58])).bind fun _=>(cond m).bind fun z=>.ret (Node.mk 6 (bs []) (bs []) 0 0 0 false [x,y,z] p))
     = kw (bs [63]) ((cond m).bind fun y=>(expect (bs [58])).bind fun _=>(cond m).bind fun z=>.ret (Node.mk 6 (bs []) (bs []) 0 0 0 false [x,y,z] p)) (.ret x):=by
    unfold kw
    congr 1
    funext b
    cases b <;> rfl
   rw [e]
   exact tot_kw (tot_bind (h4 m (by omega)) fun y=>tot_bind (tot_expect _) fun _=>tot_bind (h4 m (by omega)) fun z=>tot_ret _) (tot_ret _)
  refine ⟨i1,i2,i3,i4,?_⟩
  intro n hn
  obtain ⟨m,rfl⟩:∃ m,n = m + 1:=⟨n - 1,by omega⟩
  rw [expr]
  intro fin s hs
  have hq:∀ k,s.rest≠[]→(quant (expr m) k).run fin s≠.out:=by
   intro k hne
   obtain ⟨r,i,p⟩:=s
   cases r with
   | nil=>exact absurd rfl hne
   | cons t r =>
    simp only [List.length_cons] at hs
    simp only [quant,run]
    exact tot_bind (L:=L) tot_name (fun x=>tot_bind (tot_expect _) fun _=>tot_bind tot_num fun v=>tot_bind (tot_expect _) fun _=>tot_bind (h5 m (by omega)) fun e=>tot_ret _) fin ⟨r,i,p⟩ (by simp only; omega)
  have hne:∀ a,a≠[]→strEq (textO (hdOf s.rest)) (bs a) = true→s.rest≠[]:=by
   intro a ha h e
   rw [e] at h
   simp only [hdOf,textO,strEq,bs] at h
   cases a with
   | nil=>exact ha rfl
   | cons b a=>simp at h
  simp only [exprS,run]
  cases c1:strEq (textO (hdOf s.rest)) (bs [97,108,108])
  ·cases c2:strEq (textO (hdOf s.rest)) (bs [115,111,109,101])
   ·exact i4 m (by omega) fin s hs
   ·exact hq 8 (hne _ (by simp) c2)
  ·exact hq 7 (hne _ (by simp) c1)
theorem skip_iter (closed:Bool) (fin:Int):∀ (n:Nat) (d:Int) (s:PS),s.rest.length < n→∃ x s',(iterM (skipS closed) n d).run fin s = .ok x s'∧s'.inner = s.inner∧s'.reps = s.reps∧s'.rest <:+ s.rest ∧
  (s'.rest.length < s.rest.length∨s.rest = []∨(closed = true∧∃ t r,s.rest = t :: r∧strEq t.text (bs [125]) = true)):=by
 intro n
 induction n with
 | zero=>intro d s h; omega
 | succ n ih =>
  intro d s hn
  obtain ⟨r,i,p⟩:=s
  cases r with
  | nil=>exact ⟨_,_,rfl,rfl,rfl,List.suffix_refl _,.inr (.inl rfl)⟩
  | cons t r =>
   simp only [List.length_cons] at hn
   have go:∀ d':Int,∃ x s',(iterM (skipS closed) n d').run fin ⟨r,i,p⟩ = .ok x s'∧s'.inner = i∧s'.reps = p∧s'.rest <:+ t :: r ∧
     (s'.rest.length < (t :: r).length∨t :: r = []∨(closed = true∧∃ t' r',t :: r = t' :: r'∧strEq t'.text (bs [125]) = true)):=by
    intro d'
    obtain ⟨x,s',h1,h2,h3,h4,_⟩:=ih d' ⟨r,i,p⟩ (by simp only; omega)
    refine ⟨x,s',h1,h2,h3,List.IsSuffix.trans h4 (List.suffix_cons t r),.inl ?_⟩
    have:=List.IsSuffix.length_le h4
    simp only [List.length_cons] at this ⊢
    omega
   have stop:∀ (s':PS),s' = ⟨r,i,p⟩→s'.inner = i∧s'.reps = p∧s'.rest <:+ t :: r∧(s'.rest.length < (t :: r).length∨t :: r = []∨(closed = true∧∃ t' r',t :: r = t' :: r'∧strEq t'.text (bs [125]) = true)):=by
    rintro s' rfl
    exact ⟨rfl,rfl,List.suffix_cons t r,.inl (by simp)⟩
   simp only [iterM,run_bind,skipS,run,hdOf]
   cases c1:strEq t.text (bs [59])
   ·cases c2:strEq t.text (bs [123])
    ·cases c3:strEq t.text (bs [125])
     ·exact go d
     ·cases c4:(d == 0) && closed
      ·cases c5:d == 0
       ·cases c6:w64 (d - 1) == 0
        ·exact go _
        ·simp only [cond_false,cond_true,run,run_bind,run_accept]
         cases r with
         | nil=>exact ⟨_,_,rfl,stop _ rfl⟩
         | cons t2 r2 =>
          cases c7:strEq t2.text (bs [59])
          ·simp only [c7,cond_false,andThen,run]
           exact ⟨_,_,rfl,stop _ rfl⟩
          ·simp only [c7,cond_true,andThen,run]
           exact ⟨_,_,rfl,rfl,rfl,(List.suffix_cons t2 r2).trans (List.suffix_cons t _),.inl (by simp only [List.length_cons]; omega)⟩
       ·exact ⟨_,_,rfl,stop _ rfl⟩
      ·simp only [Bool.and_eq_true] at c4
       exact ⟨_,_,rfl,rfl,rfl,List.suffix_refl _,.inr (.inr ⟨c4.2,t,r,rfl,c3⟩)⟩
    ·exact go _
   ·cases c5:d == 0
    ·exact go _
    ·exact ⟨_,_,rfl,stop _ rfl⟩
theorem run_skip {n:Nat} {closed:Bool} {fin:Int} {s:PS} (hn:s.rest.length < n):∃ s',(skip n closed).run fin s = .ok () s'∧s'.inner = 0∧s'.reps = s.reps∧s'.rest <:+ s.rest ∧
  (s'.rest.length < s.rest.length∨s.rest = []∨(closed = true∧∃ t r,s.rest = t :: r∧strEq t.text (bs [125]) = true)):=by
 obtain ⟨x,s',h1,h2,h3,h4,h5⟩:=skip_iter closed fin n s.inner ⟨s.rest,0,s.reps⟩ hn
 refine ⟨s',?_,h2,h3,h4,h5⟩
 simp only [skip,run,run_bind,h1,andThen]
theorem listS_less {n:Nat} {closed:Bool} {item:M Node} (hless:Less item) {fin:Int} {s:PS} (hn:s.rest.length < n) {acc x':List Node} {s':PS} (e:(listS n closed item acc).run fin s = .ok (.inl x') s'):s'.rest.length < s.rest.length:=by
 have hI:∀ s1:PS,s1 = s→(closed = true→∀ t r,s.rest = t :: r→strEq t.text (bs [125]) = false)→s.rest≠[] →
   (item.tryM (fun x=>.ret (.inl (acc ++ [x]))) (fun b=>.rep b ((skip n closed).bind fun _=>.ret (.inl acc))):M (List Node ⊕ List Node)).run fin s1 = .ok (.inl x') s'→s'.rest.length < s.rest.length:=by
  rintro s1 rfl hne hnil e
  rw [run_try] at e
  have hsuf:=run_suf fin item s1
  cases hr:item.run fin s1 with
  | ok a s2 =>
   rw [hr] at e
   simp only [andThen,run,Out.ok.injEq] at e
   rw [← e.2]
   exact hless fin s1 a s2 hr
  | bad b s2 =>
   rw [hr] at e hsuf
   have hle:=List.IsSuffix.length_le hsuf
   obtain ⟨s3,h1,_,_,h4,h5⟩:=run_skip (closed:=closed) (fin:=fin) (s:=⟨s2.rest,s2.inner,s2.reps ++ [(codeOf b s2.rest,posOf fin s2.rest)]⟩) (n:=n) (by simp only; omega)
   simp only [andThen,run,run_bind,h1,Out.ok.injEq] at e
   rw [← e.2]
   simp only at h5
   rcases h5 with h5 | h5 | ⟨hc,t,r,hr,h5⟩
   ·omega
   ·have:=List.IsSuffix.length_le h4
    have:=List.length_pos_iff.2 hnil
    simp only [h5,List.length_nil] at *
    omega
   ·by_cases hl:s2.rest.length < s1.rest.length
    ·have:=List.IsSuffix.length_le h4
     simp only at this
     omega
    ·have heq:s2.rest = s1.rest:=List.IsSuffix.eq_of_length_le hsuf (by omega)
     rw [hne hc t r (by rw [← heq]; exact hr)] at h5
     cases h5
  | out=>rw [hr] at e; cases e
 obtain ⟨r,i,p⟩:=s
 simp only [listS,run] at e
 cases r with
 | nil=>cases closed <;> cases e
 | cons t r =>
  simp only [hdOf,Option.isNone_some,cond_false] at e
  cases closed
  ·exact hI _ rfl (fun h=>by cases h) (by simp) e
  ·simp only [cond_true,run_bind,run_accept] at e
   cases hc:strEq t.text (bs [125]) <;> rw [hc] at e
   ·refine hI _ rfl (fun _ t' r' h=>?_) (by simp) e
    simp only [List.cons.injEq] at h
    rw [← h.1]
    exact hc
   ·cases e
theorem tot_list {L n:Nat} {closed:Bool} {item:M Node} (h:Tot L item) (hless:Less item) (hn:L≤n):Tot L (list n closed item):=by
 have hskip:Tot L (skip n closed):=fun fin s hs=>by
  obtain ⟨s',h1,_⟩:=run_skip (closed:=closed) (fin:=fin) (s:=s) (n:=n) (by omega)
  rw [h1]
  exact fun h=>by cases h
 have hstep:∀ acc,Tot L (listS n closed item acc):=by
  intro acc
  refine tot_look fun t=>tot_cond (tot_cond (tot_fail _) (tot_ret _)) (tot_bind (tot_cond (tot_accept _) (tot_ret _)) fun b=>tot_cond (tot_ret _) ?_)
  intro fin s hs
  rw [run_try]
  have h1:=h fin s hs
  have hsuf:=run_suf fin item s
  cases hr:item.run fin s with
  | ok a s2=>exact fun h=>by cases h
  | bad b s2 =>
   rw [hr] at hsuf
   have hle:=List.IsSuffix.length_le hsuf
   exact tot_bind hskip (fun _=>tot_ret _) fin ⟨s2.rest,s2.inner,s2.reps ++ [(codeOf b s2.rest,posOf fin s2.rest)]⟩ (by simp only; omega)
  | out=>exact absurd hr h1
 intro fin s hs
 have key:∀ (k:Nat) (x:List Node) (s:PS),s.rest.length < L→s.rest.length < k→(iterM (listS n closed item) k x).run fin s≠.out:=by
  intro k
  induction k with
  | zero=>intro x s _ h; omega
  | succ k ih =>
   intro x s hL hk
   simp only [iterM,run_bind]
   have h1:=hstep x fin s hL
   cases hr:(listS n closed item x).run fin s with
   | ok r s' =>
    cases r with
    | inl x' =>
     have:=listS_less hless (by omega) hr
     exact ih x' s' (by omega) (by omega)
    | inr r=>intro e; cases e
   | bad b s'=>intro e; cases e
   | out=>exact absurd hr h1
 exact key n [] s hs (by omega)
theorem EA_list (n:Nat) (item:M Node):EA (list n true item):=by
 refine EA_iter (fun acc=>?_) n []
 intro t
 cases t with
 | none=>trivial
 | some t =>
  show EAs ((accept (bs [125])).bind _)
  refine EAs_accept _ (.inr ⟨_,rfl⟩) ?_
  exact EAs_try (fun x=>.ret (.inl (acc ++ [x]))) (fun b=>.rep b ((skip n true).bind fun _=>.ret (.inl acc))) (fun _=>trivial) (fun b=>EAs_bind2 (fun _=>.ret (.inl acc)) (fun _=>trivial) (skip n true)) item
theorem tot_sized {L:Nat} (k:Int) (g:Bool) (p:Int):Tot L (sized k g p):=tot_bind tot_name fun _=>tot_bind (tot_expect _) fun _=>tot_bind tot_num fun _=>tot_ret _
theorem tot_field {L:Nat}:Tot L field:=tot_pos fun _=>tot_bind (tot_sized _ _ _) fun _=>tot_semi _
theorem less_field:Less field:=less_pos fun _=>less_bind2 fun _=>less_semi _
theorem tot_param {L:Nat}:Tot L param:=tot_pos fun _=>tot_sized _ _ _
theorem tot_pathNode {L n:Nat} (hn:3≤n):Tot L (pathNode n):=tot_pos fun _=>tot_bind (tot_path hn) fun _=>tot_ret _
theorem tot_expr {L n:Nat} (hn:5 * L + 8≤n):Tot L (expr n):=(tot_exprs L).2.2.2.2 n hn
theorem tot_ref {L n:Nat} (hn:5 * L + 8≤n):Tot L (ref n):=(tot_exprs L).1 n (by omega)
theorem tot_assign {L n:Nat} (hn:5 * L + 8≤n):Tot L (assign n):=tot_bind (tot_ref hn) fun _=>tot_bind (tot_expect _) fun _=>tot_bind (tot_expr hn) fun _=>tot_ret _
theorem tot_with {L n:Nat} (hn:5 * L + 8≤n):Tot L (with' n):=tot_bind (tot_accept _) fun _=>tot_cond (tot_ret _) (tot_some (tot_assign hn) (by omega))
theorem tot_atomic {L n:Nat} (hn:5 * L + 8≤n) (p:Int):Tot L (atomic n p) :=
 tot_bind (tot_expect _) fun _=>tot_setI (tot_bind (tot_parts (tot_assign hn) (by omega) _) fun _=>tot_setI (tot_kw ((tot_bind (tot_expr hn) fun _=>tot_ret _).mono (by omega)) (tot_ret _)))
theorem tot_cas {L n:Nat} (hn:5 * L + 8≤n):Tot L (cas n) :=
 tot_bind (tot_ref hn) fun _=>tot_bind (tot_expect _) fun _=>tot_bind (tot_expr hn) fun _=>tot_bind (tot_expect _) fun _=>tot_bind (tot_expr hn) fun _=>tot_bind (tot_expect _) fun _=>tot_bind (tot_ref hn) fun _=>tot_bind (tot_with hn) fun _=>tot_ret _
theorem less_stmtS (mIf mWh:Int→M Node) (n:Nat):Less (stmtS mIf mWh n):=by
 refine less_pos fun p=>?_
 repeat refine less_kw ?_
 exact less_bind2 fun _=>less_bind2 fun _=>less_bind2 fun _=>less_semi _
theorem less_stmt:∀ n,Less (stmt n)
 | 0=>fun fin s a s' e=>by rw [stmt] at e; cases e
 | n + 1=>by rw [stmt]; exact less_stmtS _ _ _
theorem tot_stmtS {L n:Nat} {mIf mWh:Int→M Node} (h1:∀ p,Tot (L - 1) (mIf p)) (h2:∀ p,Tot (L - 1) (mWh p)) (hn:5 * L + 8≤n):Tot L (stmtS mIf mWh n):=by
 refine tot_pos fun p=>?_
 have hE:Tot (L - 1) (expr n):=tot_expr (by omega)
 refine tot_kw (h1 p) ?_
 refine tot_kw (h2 p) ?_
 refine tot_kw (tot_bind hE fun _=>tot_semi _) ?_
 refine tot_kw (tot_bind hE fun _=>tot_semi _) ?_
 refine tot_kw (tot_semi _) ?_
 refine tot_kw (tot_semi _) ?_
 refine tot_kw (tot_bind (tot_atomic (by omega) p) fun _=>tot_semi _) ?_
 refine tot_kw (tot_bind (tot_cas (by omega)) fun _=>tot_semi _) ?_
 refine tot_kw (tot_bind (tot_path (by omega)) fun _=>tot_semi _) ?_
 refine tot_kw (tot_bind (tot_path (by omega)) fun _=>tot_semi _) ?_
 refine tot_kw (tot_bind tot_name fun _=>tot_semi _) ?_
 refine tot_kw (tot_bind tot_name fun _=>tot_semi _) ?_
 refine tot_kw (tot_bind (tot_path (by omega)) fun _=>tot_bind (tot_expect _) fun _=>tot_bind (tot_parts (tot_one hE) (by omega) _) fun _=>tot_semi _) ?_
 refine tot_kw (tot_bind (tot_expect _) fun _=>tot_bind (tot_sized _ _ _) fun _=>tot_semi _) ?_
 refine tot_kw (tot_bind (tot_sized _ _ _) fun _=>tot_semi _) ?_
 exact tot_bind (tot_kw (tot_ret _) (tot_ret _)) fun j=>tot_bind (tot_assign hn) fun _=>tot_bind (tot_with hn) fun _=>tot_semi _
theorem tot_stmts:∀ L,(∀ n p,5 * L + 19≤n→Tot L (loop n p))∧(∀ n p,5 * L + 19≤n→Tot L (branch n p))∧(∀ n,5 * L + 20≤n→Tot L (stmt n))∧(∀ n,5 * L + 21≤n→Tot L (stmts n))∧(∀ n,5 * L + 18≤n→Tot L (block n))
 | 0=>⟨fun _ _ _=>Tot.zero,fun _ _ _=>Tot.zero,fun _ _=>Tot.zero,fun _ _=>Tot.zero,fun _ _=>Tot.zero⟩
 | L + 1=>by
  obtain ⟨h1,h2,h3,h4,h5⟩:=tot_stmts L
  have i5:∀ n,5 * (L + 1) + 18≤n→Tot (L + 1) (block n):=by
   intro n hn
   obtain ⟨m,rfl⟩:∃ m,n = m + 1:=⟨n - 1,by omega⟩
   rw [block]
   exact tot_pos fun p=>tot_bindL (tot_expect _) (less_expect _) fun _=>tot_bind (h4 m (by omega)) fun _=>tot_ret _
  have i3:∀ n,5 * (L + 1) + 20≤n→Tot (L + 1) (stmt n):=by
   intro n hn
   obtain ⟨m,rfl⟩:∃ m,n = m + 1:=⟨n - 1,by omega⟩
   rw [stmt]
   exact tot_stmtS (fun p=>h2 m p (by omega)) (fun p=>h1 m p (by omega)) (by omega)
  refine ⟨?_,?_,i3,?_,i5⟩
  ·intro n p hn
   obtain ⟨m,rfl⟩:∃ m,n = m + 1:=⟨n - 1,by omega⟩
   rw [loop]
   exact tot_bind (tot_expr (by omega)) fun _=>tot_bind (tot_kw (tot_expr (by omega)) (tot_ret _)) fun _=>tot_bind (i5 m (by omega)) fun _=>tot_ret _
  ·intro n p hn
   obtain ⟨m,rfl⟩:∃ m,n = m + 1:=⟨n - 1,by omega⟩
   rw [branch]
   exact tot_bind (tot_expr (by omega)) fun _=>tot_bind (i5 m (by omega)) fun _=>tot_bind (tot_kw ((i5 m (by omega)).mono (by omega)) (tot_ret _)) fun _=>tot_ret _
  ·intro n hn
   obtain ⟨m,rfl⟩:∃ m,n = m + 1:=⟨n - 1,by omega⟩
   rw [stmts]
   exact tot_list (i3 m (by omega)) (less_stmt m) (by omega)
theorem tot_shared {L:Nat} (g:Bool) (p:Int):Tot L (shared g p):=by
 refine tot_bind tot_name fun x=>tot_bind (tot_kw (tot_bind tot_len fun _=>tot_bind (tot_expect _) fun _=>tot_ret _) (tot_ret _)) fun j=>tot_bind (tot_expect _) fun _=>?_
 refine tot_bind (tot_look fun t=>tot_cond (tot_bind tot_name fun _=>tot_ret _) (tot_bind tot_num fun _=>tot_ret _)) fun j=>?_
 exact tot_bind (tot_kw (tot_bind tot_num fun _=>tot_ret _) (tot_ret _)) fun j=>tot_semi _
theorem tot_decl {L n:Nat} (hn:5 * L + 30≤n):Tot L (decl n):=by
 have hE:Tot (L - 1) (expr n):=tot_expr (by omega)
 refine tot_pos fun p=>tot_bind ?_ fun j=>?_
 ·refine tot_kw (tot_bind tot_name fun _=>tot_bind (tot_expect _) fun _=>tot_bind (tot_list tot_field less_field (by omega)) fun _=>tot_ret _) ?_
  refine tot_kw (tot_bind (tot_expect _) fun _=>tot_bind (tot_shared _ _) fun _=>tot_ret _) ?_
  refine tot_kw (tot_bind (tot_shared _ _) fun _=>tot_ret _) ?_
  refine tot_kw (tot_bind tot_name fun _=>tot_bind (tot_expect _) fun _=>tot_bind hE fun _=>tot_ret _) ?_
  refine tot_kw (tot_bind hE fun _=>tot_ret _) ?_
  refine tot_kw (tot_bind hE fun _=>tot_ret _) ?_
  refine tot_kw (tot_bind (tot_some (tot_one (tot_pathNode (by omega))) (by omega)) fun _=>tot_ret _) ?_
  refine tot_kw ?_ (tot_fail _)
  exact tot_bind tot_name fun _=>tot_bind (tot_expect _) fun _=>tot_bind (tot_parts (tot_one tot_param) (by omega) _) fun _=>tot_bind (tot_kw (tot_bind tot_name fun _=>tot_ret _) (tot_ret _)) fun j=>tot_bind ((tot_stmts (L - 1)).2.2.2.2 n (by omega)) fun _=>tot_ret _
 ·cases j with
  | inl x=>exact tot_ret _
  | inr x=>exact tot_semi _
theorem less_decl (n:Nat):Less (decl n):=by
 refine less_pos fun p=>less_bind1 ?_
 repeat refine less_kw ?_
 exact less_fail
theorem tot_thread {L n:Nat} (v p:Int) (h1:3≤n) (h2:L≤n):Tot L (thread v p n) :=
 tot_bind tot_name fun _=>tot_bind (tot_expect _) fun _=>tot_bind (tot_path h1) fun _=>tot_bind (tot_expect _) fun _=>tot_bind (tot_parts (tot_one tot_numNode) h2 _) fun _=>tot_semi _
theorem tot_item {L n:Nat} (hn:5 * L + 30≤n):Tot L (item n):=by
 refine tot_pos fun p=>?_
 refine tot_kw (tot_bind tot_name fun _=>tot_bind (tot_expect _) fun _=>tot_bind tot_name fun _=>tot_bind (tot_expect _) fun _=>tot_bind (tot_list (tot_decl (by omega)) (less_decl n) (by omega)) fun _=>tot_ret _) ?_
 exact tot_kw (tot_bind (tot_expect _) fun _=>tot_thread _ _ (by omega) (by omega)) (tot_kw (tot_thread _ _ (by omega) (by omega)) (tot_fail _))
theorem EA_semi (x:α):EA (semi x):=EA_bind1 _ (fun _=>EAr_ret _) _ (EA_expect _)
theorem EA_kw {a:ByteArray} {m m':M α} (h1:EA m) (h2:EA m'):EA (kw a m m'):=EA_bind2 _ (fun _=>EA_cond h1 h2) _
theorem EA_thread (v p:Int) (n:Nat):EA (thread v p n) :=
 EA_bind2 _ (fun _=>EA_bind2 _ (fun _=>EA_bind2 _ (fun _=>EA_bind2 _ (fun _=>EA_bind2 _ (fun _=>EA_semi _) _) _) _) _) _
theorem EA_item (n:Nat):EA (item n):=by
 intro p
 refine EA_kw (EA_bind2 _ (fun _=>EA_bind2 _ (fun _=>EA_bind2 _ (fun _=>EA_bind2 _ (fun _=>EA_bind1 _ (fun _=>EAr_ret _) _ (EA_list n _)) _) _) _) _) ?_
 exact EA_kw (EA_bind2 _ (fun _=>EA_thread _ _ _) _) (EA_kw (EA_thread _ _ _) trivial)
theorem less_item (n:Nat):Less (item n):=fun fin s a s' e=>EA.less fin _ s a s' (EA_item n) e
theorem tot_source {L n:Nat} (hn:5 * L + 30≤n):Tot L (source n):=tot_list (tot_item hn) (less_item n) (by omega)
end M
end Go.Proofs.YtbecjgckobhmpaaGreatDoor
end
section
namespace Go.Proofs.YtbecjgckobhmpaaGreatDoor
open Go Go.AM Go.Proofs
def inK (k:Int):Bool:=k == 62 || k == 60 || k == 51 || k == 34
mutual
def its:Node→List Int
 | ⟨k,_,_,_,_,_,_,ks,_⟩=>itsL (inK k) ks
def itsL (b:Bool):List Node→List Int
 | []=>[]
 | y :: r=>(bif b then [y.pos] else []) ++ its y ++ itsL b r
end
theorem its_eq (x:Node):its x = itsL (inK x.kind) x.kids:=by cases x; rfl
theorem itsL_app (b:Bool):∀ l m:List Node,itsL b (l ++ m) = itsL b l ++ itsL b m
 | [],m=>by simp [itsL]
 | y :: r,m=>by simp [itsL,itsL_app b r m]
theorem itsL_nil {l:List Node} (h:∀ y ∈ l,its y = []):itsL false l = []:=by
 induction l with
 | nil=>simp [itsL]
 | cons y r ih=>simp [itsL,h y (List.mem_cons_self ..),ih fun z hz=>h z (List.mem_cons_of_mem _ hz)]
def isQ (t:Token):Prop:=t.kind = 3∧t.text = bs [63]
def isC (t:Token):Prop:=t.kind = 3∧t.text = bs [59]
namespace M
variable {α β σ ρ:Type}
theorem run_tail (fin:Int) {m:M α} {A X Y:List Token} {y:Token} {i j:Int} {a:α} {p p':List (Int × Int)} (e:m.run fin ⟨A ++ y :: X,i,p⟩ = .ok a ⟨y :: X,j,p'⟩):m.run fin ⟨A ++ y :: Y,i,p⟩ = .ok a ⟨y :: Y,j,p'⟩:=by
 have x1:∀ Z,(⟨A ++ y :: Z,i,p⟩:PS) = PS.ext ⟨A ++ [y],i,p⟩ Z:=fun Z=>by simp [PS.ext]
 rw [x1,drive_ext] at e
 rw [x1,drive_ext]
 have hd:Done (m.drive ⟨A ++ [y],i,p⟩).1:=by
  rcases drive_end m ⟨A ++ [y],i,p⟩ with h | h
  ·exfalso
   have hs:=run_suf fin (m.drive ⟨A ++ [y],i,p⟩).1 ((m.drive ⟨A ++ [y],i,p⟩).2.ext X)
   rw [e] at hs
   have:=List.IsSuffix.length_le hs
   simp only [PS.ext,h,List.nil_append,List.length_cons] at this
   omega
  ·exact h
 obtain ⟨h1,h2⟩:=hd.ok e
 rw [h1]
 generalize (m.drive ⟨A ++ [y],i,p⟩).2 = s at h2
 obtain ⟨r,i2,p2⟩:=s
 simp only [PS.ext,PS.mk.injEq] at h2
 obtain ⟨h3,rfl,rfl⟩:=h2
 have h4:[y] = r:=List.append_cancel_right (show [y] ++ X = r ++ X from h3)
 subst h4
 rfl
def TailQ (m:M α):Prop:=∀ fin A X a,m.run fin ⟨A ++ X,0,[]⟩ = .ok a ⟨X,0,[]⟩→∀ q Y,isQ q→m.run fin ⟨A ++ q :: Y,0,[]⟩ = .ok a ⟨q :: Y,0,[]⟩
theorem tail_EA {m:M α} (h:EAr m):TailQ m:=fun fin A X a e q Y _=>by
 have e':m.run fin (PS.ext ⟨A,0,[]⟩ X) = .ok a ⟨X,0,[]⟩:=e
 obtain ⟨s,h1,h2⟩:=EAr.shrink h e' (Nat.le_refl _) fin
 have h3:=EAr.ext h h2 fin (q :: Y)
 obtain ⟨r,i,p⟩:=s
 simp only [PS.ext,PS.mk.injEq] at h1
 obtain ⟨h4,rfl,rfl⟩:=h1
 have h5:r = []:=by
  have:=congrArg List.length h4
  simp at this
  exact this
 subst h5
 exact h3
theorem tail_ret (a:α):TailQ (.ret a):=tail_EA (EAr_ret a)
theorem tail_pos {k:Int→M α} (h:∀ x,TailQ (k x)) (hl:∀ x,Less (k x)):TailQ (.pos k):=fun fin A X a e q Y hq=>by
 cases A with
 | nil =>
  exfalso
  have:=hl _ fin ⟨X,0,[]⟩ a ⟨X,0,[]⟩ e
  simp at this
 | cons y A=>exact h _ fin (y :: A) X a e q Y hq
theorem tail_kw {a:ByteArray} (ha:a≠bs [63]) {m m':M α} (h1:TailQ m) (h2:TailQ m'):TailQ (kw a m m'):=fun fin A X b e q Y hq=>by
 rw [run_kw] at e ⊢
 have hqa:strEq q.text a = false:=by
  cases hc:strEq q.text a
  ·rfl
  ·have h3:tl q.text = tl a:=by simpa [strEq,tl] using hc
   exact absurd (show a = bs [63] by rw [← hq.2]; exact (congrArg bs h3).symm) ha
 cases A with
 | nil =>
  simp only [List.nil_append,hqa,cond_false] at e ⊢
  cases X with
  | nil=>exact h2 fin [] [] b e q Y hq
  | cons x X =>
   simp only at e
   cases hx:strEq x.text a
   ·rw [hx] at e; exact h2 fin [] (x :: X) b e q Y hq
   ·rw [hx] at e
    exfalso
    have hs:=run_suf fin m ⟨X,0,[]⟩
    have e':m.run fin ⟨X,0,[]⟩ = .ok b ⟨x :: X,0,[]⟩:=e
    rw [e'] at hs
    have:=List.IsSuffix.length_le hs
    simp at this
    omega
 | cons y A =>
  simp only [List.cons_append] at e ⊢
  cases hx:strEq y.text a
  ·rw [hx] at e; exact h2 fin (y :: A) X b e q Y hq
  ·rw [hx] at e; exact h1 fin A X b e q Y hq
theorem reps_nil {m:M α} {fin:Int} {s:PS} {a:α} {s':PS} (e:m.run fin s = .ok a s') (h:s'.reps = []):s.reps = []:=by
 have:=run_reps fin m s
 rw [e] at this
 have h2:s.reps <+: s'.reps:=this
 rw [h] at h2
 exact List.prefix_nil.1 h2
theorem tail_bind {m:M α} {k:α→M β} (hIn:In 0 0 m) (h1:(∀ a,Less (k a))∨TailQ m) (h2:∀ a,TailQ (k a)):TailQ (m.bind k):=fun fin A X b e q Y hq=>by
 rw [run_bind] at e
 have hsuf:=run_suf fin m ⟨A ++ X,0,[]⟩
 cases hm:m.run fin ⟨A ++ X,0,[]⟩ with
 | ok a s1 =>
  rw [hm] at e hsuf
  have e':(k a).run fin s1 = .ok b ⟨X,0,[]⟩:=e
  have h0:=reps_nil e' rfl
  have hi:s1.inner = 0:=In.run fin m ⟨A ++ X,0,[]⟩ a s1 hIn hm h0
  have hs2:=run_suf fin (k a) s1
  rw [e'] at hs2
  obtain ⟨A1,hA1⟩:∃ A1,A1 ++ X = s1.rest:=hs2
  obtain ⟨A0,hA0⟩:∃ A0,A0 ++ s1.rest = A ++ X:=hsuf
  have hA:A = A0 ++ A1:=by
   rw [← hA1,← List.append_assoc] at hA0
   exact (List.append_cancel_right hA0).symm
  subst hA
  obtain ⟨r1,i1,p1⟩:=s1
  simp only at h0 hi hA1
  subst h0 hi hA1
  rw [run_bind,List.append_assoc]
  have e1:m.run fin ⟨A0 ++ (A1 ++ q :: Y),0,[]⟩ = .ok a ⟨A1 ++ q :: Y,0,[]⟩:=by
   rw [List.append_assoc] at hm
   cases A1 with
   | nil =>
    rcases h1 with h1 | h1
    ·exfalso
     have:=h1 a fin ⟨[] ++ X,0,[]⟩ b ⟨X,0,[]⟩ e'
     simp at this
    ·exact h1 fin A0 X a hm q Y hq
   | cons y A1=>exact run_tail fin hm
  rw [e1]
  exact h2 a fin A1 X b e' q Y hq
 | bad b s=>rw [hm] at e; cases e
 | out=>rw [hm] at e; cases e
def Rc (L:Nat) (s:Bool) (m:M α) (Q:α→Int→Prop):Prop:=∀ fin r a s',r.length < L→TksOk r→m.run fin ⟨r,0,[]⟩ = .ok a s'→s'.reps = []→∀ p,Q a p →
 ∃ A t B,r = A ++ t :: B∧t.pos = p∧(s = true→A≠[])∧∀ q c,isQ q→isC c→m.run fin ⟨A ++ q :: c :: t :: B,0,[]⟩ = .ok a ⟨s'.rest,s'.inner,[(20,q.pos)]⟩
theorem rc_all {L:Nat} {s:Bool} {m:M α} {Q:α→Int→Prop} (h:AllM (fun a=>∀ p,¬ Q a p) m):Rc L s m Q:=fun fin r a s' _ ht e _ p hq=>absurd hq (AllM.run fin m ⟨r,0,[]⟩ a s' h ht e p)
theorem rc_imp {L L':Nat} {s:Bool} {m:M α} {Q Q':α→Int→Prop} (h:Rc L s m Q) (hl:L'≤L) (hq:∀ a p,Q' a p→Q a p):Rc L' s m Q':=fun fin r a s' hr ht e h0 p hp=>h fin r a s' (by omega) ht e h0 p (hq a p hp)
theorem rc_weak {L:Nat} {m:M α} {Q:α→Int→Prop} (h:Rc L true m Q) (s:Bool):Rc L s m Q:=fun fin r a s' hr ht e h0 p hp=>by
 obtain ⟨A,t,B,h1,h2,h3,h4⟩:=h fin r a s' hr ht e h0 p hp
 exact ⟨A,t,B,h1,h2,fun _=>h3 rfl,h4⟩
theorem rc_bind {L L':Nat} {s s2:Bool} {m:M α} {k:α→M β} {Q:β→Int→Prop} (P:α→Prop) (Qm:α→Int→Prop) (hIn:In 0 0 m) (hP:AllM P m) (hk:s2 = true∨EA m) (hL:L≤L'∨(EA m∧L≤L' + 1))
  (h1:Rc L s m Qm) (h2:∀ a,P a→Rc L' s2 (k a) fun b p=>Q b p∧¬ Qm a p):Rc L s (m.bind k) Q:=fun fin r b s' hr ht e hreps p hq=>by
 rw [run_bind] at e
 have hsuf:=run_suf fin m ⟨r,0,[]⟩
 cases hm:m.run fin ⟨r,0,[]⟩ with
 | bad b s=>rw [hm] at e; cases e
 | out=>rw [hm] at e; cases e
 | ok a s1 =>
  rw [hm] at e hsuf
  have e':(k a).run fin s1 = .ok b s':=e
  have h0:=reps_nil e' hreps
  have hi:s1.inner = 0:=In.run fin m ⟨r,0,[]⟩ a s1 hIn hm h0
  have hPa:=AllM.run fin m ⟨r,0,[]⟩ a s1 hP ht hm
  obtain ⟨A0,hA0⟩:∃ A0,A0 ++ s1.rest = r:=hsuf
  have hlen:s1.rest.length < L':=by
   have hle:=congrArg List.length hA0
   rw [List.length_append] at hle
   rcases hL with h | ⟨h,h'⟩
   ·omega
   ·have:=EA.less fin m ⟨r,0,[]⟩ a s1 h hm
    simp only at this
    omega
  have ht1:TksOk s1.rest:=fun x hx=>ht x (by rw [← hA0]; exact List.mem_append_right _ hx)
  have hless:EA m→A0≠[]:=fun hE h=>by
   have:=EA.less fin m ⟨r,0,[]⟩ a s1 hE hm
   rw [h] at hA0
   simp only [List.nil_append] at hA0
   rw [hA0] at this
   exact Nat.lt_irrefl _ this
  obtain ⟨r1,i1,p1⟩:=s1
  simp only at h0 hi hA0
  subst h0 hi hA0
  by_cases hqm:Qm a p
  ·obtain ⟨A,t,B,g1,g2,g3,g4⟩:=h1 fin _ a _ hr ht hm rfl p hqm
   refine ⟨A,t,B,g1,g2,g3,fun q c hq hc=>?_⟩
   rw [run_bind,g4 q c hq hc]
   show (k a).run fin ⟨r1,0,[(20,q.pos)]⟩ = _
   rw [run_pre0,e']
   simp [Out.pre,hreps]
  ·obtain ⟨A,t,B,g1,g2,g3,g4⟩:=h2 a hPa fin r1 b s' hlen ht1 e' hreps p ⟨hq,hqm⟩
   refine ⟨A0 ++ A,t,B,by rw [g1]; simp,g2,fun hs h=>?_,fun q c hq hc=>?_⟩
   ·have h3:=List.append_eq_nil_iff.1 h
    rcases hk with hk | hk
    ·exact g3 hk h3.2
    ·exact hless hk h3.1
   ·have e1:m.run fin ⟨A0 ++ (A ++ q :: c :: t :: B),0,[]⟩ = .ok a ⟨A ++ q :: c :: t :: B,0,[]⟩:=by
     cases A with
     | nil =>
      rcases hk with hk | hk
      ·exact absurd rfl (g3 hk)
      ·exact tail_EA (.inr hk) fin A0 r1 a hm q (c :: t :: B) hq
     | cons y A =>
      rw [g1] at hm
      exact run_tail fin hm
    rw [List.append_assoc,run_bind,e1]
    exact g4 q c hq hc
theorem rc_pos {L:Nat} {s:Bool} {k:Int→M α} {Q:α→Int→Prop} (h:∀ x,Rc L true (k x) Q):Rc L s (.pos k) Q:=fun fin r a s' hr ht e h0 p hp=>by
 obtain ⟨A,t,B,g1,g2,g3,g4⟩:=h _ fin r a s' hr ht e h0 p hp
 refine ⟨A,t,B,g1,g2,fun _=>g3 rfl,fun q c hq hc=>?_⟩
 have e1:posOf fin (A ++ q :: c :: t :: B) = posOf fin r:=by
  rw [g1]
  cases A with
  | nil=>exact absurd rfl (g3 rfl)
  | cons y A=>rfl
 show (k (posOf fin (A ++ q :: c :: t :: B))).run fin _ = _
 rw [e1]
 exact g4 q c hq hc
theorem ne_q {q:Token} (hq:isQ q) {a:ByteArray} (ha:a≠bs [63]):strEq q.text a = false:=by
 cases hc:strEq q.text a
 ·rfl
 ·have h3:tl q.text = tl a:=by simpa [strEq,tl] using hc
  exact absurd (show a = bs [63] by rw [← hq.2]; exact (congrArg bs h3).symm) ha
theorem rc_kw {L L1:Nat} {s:Bool} {a:ByteArray} (ha:a≠bs [63]) {m m':M α} {Q:α→Int→Prop} (h1:Rc L1 false m Q) (h2:Rc L s m' Q) (hL:L≤L1 + 1):Rc L s (kw a m m') Q:=fun fin r b s' hr ht e h0 p hp=>by
 rw [run_kw] at e
 cases r with
 | nil =>
  obtain ⟨A,t,B,g1,_⟩:=h2 fin [] b s' hr ht e h0 p hp
  cases A <;> cases g1
 | cons y r =>
  simp only at e
  cases hx:strEq y.text a
  ·rw [hx] at e
   obtain ⟨A,t,B,g1,g2,g3,g4⟩:=h2 fin (y :: r) b s' hr ht e h0 p hp
   refine ⟨A,t,B,g1,g2,g3,fun q c hq hc=>?_⟩
   rw [run_kw]
   cases A with
   | nil =>
    simp only [List.nil_append,ne_q hq ha,cond_false]
    exact g4 q c hq hc
   | cons z A =>
    simp only [List.cons_append,List.cons.injEq] at g1
    obtain ⟨rfl,_⟩:=g1
    simp only [List.cons_append,hx,cond_false]
    exact g4 q c hq hc
  ·rw [hx] at e
   obtain ⟨A,t,B,g1,g2,g3,g4⟩:=h1 fin r b s' (by simp only [List.length_cons] at hr; omega) (fun x hx=>ht x (List.mem_cons_of_mem _ hx)) e h0 p hp
   refine ⟨y :: A,t,B,by rw [g1]; rfl,g2,fun _ h=>(by cases h),fun q c hq hc=>?_⟩
   rw [run_kw]
   simp only [List.cons_append,hx,cond_true]
   exact g4 q c hq hc
structure ItemQ (L:Nat) (item:M Node):Prop where
 inn:In 0 0 item
 less:Less item
 tail:TailQ item
 rc:Rc L true item fun x p=>p ∈ its x
 pos:∀ fin t r a s',TksOk (t :: r)→item.run fin ⟨t :: r,0,[]⟩ = .ok a s'→a.pos = t.pos
 bad:∀ fin q r i p,isQ q→item.run fin ⟨q :: r,i,p⟩ = .bad false ⟨q :: r,i,p⟩
def itemTry (n:Nat) (closed:Bool) (item:M Node) (acc:List Node):M (List Node ⊕ List Node):=item.tryM (fun x=>.ret (.inl (acc ++ [x]))) (fun b=>.rep b ((skip n closed).bind fun _=>.ret (.inl acc)))
theorem run_listS {n:Nat} {closed:Bool} {item:M Node} (fin:Int) (acc:List Node) (t:Token) (r:List Token) (i:Int) (p:List (Int × Int)) :
  (listS n closed item acc).run fin ⟨t :: r,i,p⟩ = bif closed && strEq t.text (bs [125]) then .ok (.inr acc) ⟨r,i,p⟩ else (itemTry n closed item acc).run fin ⟨t :: r,i,p⟩:=by
 cases closed
 ·rfl
 ·have:(listS n true item acc).run fin ⟨t :: r,i,p⟩ = ((accept (bs [125])).bind fun b=>bif b then .ret (.inr acc) else itemTry n true item acc:M (List Node ⊕ List Node)).run fin ⟨t :: r,i,p⟩:=rfl
  rw [this,run_bind,run_accept]
  simp only [Bool.true_and]
  cases strEq t.text (bs [125]) <;> rfl
theorem loop_slack {n:Nat} {closed:Bool} {item:M Node} (hless:Less item) (fin:Int):∀ (K k:Nat) (acc:List Node) (s:PS) (l:List Node) (s':PS),s.rest.length < n→(iterM (listS n closed item) K acc).run fin s = .ok l s'→s.rest.length < k→(iterM (listS n closed item) k acc).run fin s = .ok l s'
 | 0,_,_,_,_,_,_,h,_=>by cases h
 | K + 1,0,_,_,_,_,_,_,h=>absurd h (Nat.not_lt_zero _)
 | K + 1,k + 1,acc,s,l,s',hn,h,hk=>by
  rw [iterM,run_bind] at h ⊢
  cases hr:(listS n closed item acc).run fin s with
  | ok r s1 =>
   rw [hr] at h
   cases r with
   | inl x' =>
    have:=listS_less hless hn hr
    exact loop_slack hless fin K k x' s1 l s' (by omega) h (by omega)
   | inr r=>exact h
  | bad b s1=>rw [hr] at h; cases h
  | out=>rw [hr] at h; cases h
theorem skip_qc {n:Nat} {closed:Bool} (fin:Int) {q c:Token} (hq:isQ q) (hc:isC c) (r:List Token) (p:List (Int × Int)):(skip (n + 2) closed).run fin ⟨q :: c :: r,0,p⟩ = .ok () ⟨r,0,p⟩:=by
 have q1:strEq q.text (bs [59]) = false:=ne_q hq (by decide)
 have q2:strEq q.text (bs [123]) = false:=ne_q hq (by decide)
 have q3:strEq q.text (bs [125]) = false:=ne_q hq (by decide)
 have c1:strEq c.text (bs [59]) = true:=by rw [hc.2]; exact strEq_self _
 have h1:(skipS closed 0).run fin ⟨q :: c :: r,0,p⟩ = .ok (.inl 0) ⟨c :: r,0,p⟩:=by
  simp only [skipS,run,hdOf,q1,q2,q3,cond_false]
 have h2:(skipS closed 0).run fin ⟨c :: r,0,p⟩ = .ok (.inr (.inl ())) ⟨r,0,p⟩:=by
  simp only [skipS,run,hdOf,c1,cond_true]
  rfl
 simp only [skip,run,run_bind,iterM,h1,h2,andThen]
theorem rc_loop {n L:Nat} {closed:Bool} {item:M Node} (hI:ItemQ L item) (hn:L + 1≤n) (fin:Int):∀ (K:Nat) (acc:List Node) (r:List Token) (l:List Node) (s':PS),r.length < L→r.length + 2≤K→TksOk r →
  (iterM (listS n closed item) K acc).run fin ⟨r,0,[]⟩ = .ok l s'→s'.reps = []→∀ p,p ∈ itsL true l→p ∉ itsL true acc →
   ∃ A t B,r = A ++ t :: B∧t.pos = p∧∀ q c,isQ q→isC c→(iterM (listS n closed item) K acc).run fin ⟨A ++ q :: c :: t :: B,0,[]⟩ = .ok l ⟨s'.rest,s'.inner,[(20,q.pos)]⟩
 | 0,_,_,_,_,_,h,_,_,_,_,_,_=>absurd h (by omega)
 | K + 1,acc,r,l,s',hr,hK,ht,e,hreps,p,hp,hp'=>by
  have e0:=e
  rw [iterM,run_bind] at e
  cases r with
  | nil =>
   exfalso
   cases closed
   ·cases e; exact hp' hp
   ·cases e
  | cons t r =>
   rw [run_listS] at e
   cases hc:closed && strEq t.text (bs [125])
   ·rw [hc,cond_false,itemTry,run_try] at e
    cases hi:item.run fin ⟨t :: r,0,[]⟩ with
    | out=>rw [hi] at e; cases e
    | bad b s1 =>
     exfalso
     rw [hi] at e
     simp only [andThen,run,run_bind] at e
     cases hs:(skip n closed).run fin ⟨s1.rest,s1.inner,s1.reps ++ [(codeOf b s1.rest,posOf fin s1.rest)]⟩ with
     | ok v s3 =>
      rw [hs] at e
      simp only at e
      have h0:=reps_nil e hreps
      have:=reps_nil hs h0
      simp at this
     | bad b s3=>rw [hs] at e; cases e
     | out=>rw [hs] at e; cases e
    | ok x s1 =>
     rw [hi] at e
     have e':(iterM (listS n closed item) K (acc ++ [x])).run fin s1 = .ok l s':=e
     have h0:=reps_nil e' hreps
     have h1:s1.inner = 0:=In.run fin item ⟨t :: r,0,[]⟩ x s1 hI.inn hi h0
     have hless:=hI.less fin ⟨t :: r,0,[]⟩ x s1 hi
     have hsuf:=run_suf fin item ⟨t :: r,0,[]⟩
     rw [hi] at hsuf
     obtain ⟨A0,hA0⟩:∃ A0,A0 ++ s1.rest = t :: r:=hsuf
     obtain ⟨r1,i1,p1⟩:=s1
     simp only at h0 h1 hA0 hless
     subst h0 h1
     by_cases hpx:p ∈ its x
     ·-- in the item
      obtain ⟨A,t',B,g1,g2,g3,g4⟩:=hI.rc fin (t :: r) x _ hr ht hi rfl p hpx
      refine ⟨A,t',B,g1,g2,fun q c hq hcc=>?_⟩
      cases A with
      | nil=>exact absurd rfl (g3 rfl)
      | cons z A =>
       simp only [List.cons_append,List.cons.injEq] at g1
       obtain ⟨rfl,_⟩:=g1
       have g5:=g4 q c hq hcc
       rw [List.cons_append] at g5
       rw [iterM,run_bind,List.cons_append,run_listS,hc,cond_false,itemTry,run_try,g5]
       show (iterM (listS n closed item) K (acc ++ [x])).run fin ⟨r1,0,[(20,q.pos)]⟩ = _
       rw [run_pre0,e']
       simp [Out.pre,hreps]
     ·by_cases hpp:p = t.pos
      ·-- the item itself
       refine ⟨[],t,r,rfl,hpp.symm,fun q c hq hcc=>?_⟩
       have hq3:(closed && strEq q.text (bs [125])) = false:=by rw [ne_q hq (by decide),Bool.and_false]
       obtain ⟨n',rfl⟩:∃ n',n = n' + 2:=⟨n - 2,by omega⟩
       rw [iterM,run_bind,List.nil_append,run_listS,hq3,cond_false,itemTry,run_try,hI.bad fin q _ _ _ hq]
       have hcode:codeOf false (q :: c :: t :: r) = 20:=rfl
       have hpos:posOf fin (q :: c :: t :: r) = q.pos:=rfl
       simp only [andThen,run,run_bind,hcode,hpos,List.nil_append,skip_qc fin hq hcc]
       have h3:=loop_slack hI.less fin (K + 1) K acc ⟨t :: r,0,[]⟩ l s' (by simp only; omega) e0 (by simp only; omega)
       rw [run_pre0,h3]
       simp [Out.pre,hreps]
      ·-- behind it
       have hx:=hI.pos fin t r x _ ht hi
       have hp2:p ∉ itsL true (acc ++ [x]):=by
        rw [itsL_app]
        simp only [itsL,cond_true,List.append_nil,List.mem_append,List.mem_singleton,not_or]
        exact ⟨hp',by rw [hx]; exact hpp,hpx⟩
       have ht1:TksOk r1:=fun z hz=>ht z (by rw [← hA0]; exact List.mem_append_right _ hz)
       simp only [List.length_cons] at hr hK hless
       obtain ⟨A,t',B,g1,g2,g4⟩:=rc_loop hI hn fin K (acc ++ [x]) r1 l s' (by omega) (by omega) ht1 e' hreps p hp hp2
       have hA0n:∃ A1,A0 = t :: A1:=by
        cases A0 with
        | nil =>
         simp only [List.nil_append] at hA0
         rw [hA0] at hless
         simp only [List.length_cons] at hless
         omega
        | cons z A1 =>
         simp only [List.cons_append,List.cons.injEq] at hA0
         exact ⟨A1,by rw [hA0.1]⟩
       obtain ⟨A1,rfl⟩:=hA0n
       refine ⟨t :: A1 ++ A,t',B,by rw [← hA0,g1]; simp,g2,fun q c hq hcc=>?_⟩
       have e1:item.run fin ⟨t :: A1 ++ (A ++ q :: c :: t' :: B),0,[]⟩ = .ok x ⟨A ++ q :: c :: t' :: B,0,[]⟩:=by
        rw [← hA0] at hi
        cases A with
        | nil=>exact hI.tail fin (t :: A1) r1 x hi q (c :: t' :: B) hq
        | cons y A =>
         rw [g1] at hi
         exact run_tail fin hi
       rw [iterM,run_bind,List.append_assoc,List.cons_append,run_listS,hc,cond_false,itemTry,run_try]
       rw [List.cons_append] at e1
       rw [e1]
       exact g4 q c hq hcc
   ·exfalso
    rw [hc] at e
    cases e
    exact hp' hp
theorem rc_list {n L:Nat} {closed:Bool} {item:M Node} (hI:ItemQ L item) (hn:L + 1≤n):Rc L false (list n closed item) fun l p=>p ∈ itsL true l:=fun fin r l s' hr ht e h0 p hp=>by
 obtain ⟨A,t,B,g1,g2,g3⟩:=rc_loop hI hn fin n [] r l s' hr (by omega) ht e h0 p hp (by simp [itsL])
 exact ⟨A,t,B,g1,g2,by simp,g3⟩
end M
end Go.Proofs.YtbecjgckobhmpaaGreatDoor
end
section
namespace Go.Proofs.YtbecjgckobhmpaaGreatDoor
open Go Go.AM Go.Proofs
namespace M
variable {α β σ ρ:Type}
theorem ab {P:α→Prop} {Q:β→Prop} {f:α→M β} {m:M α} (hf:∀ a,P a→AllM Q (f a)) (h:AllM P m):AllM Q (m.bind f):=AllM.bind hf m h
theorem ai {step:σ→M (σ ⊕ ρ)} {Q:ρ→Prop} {n:Nat} {x:σ} (Inv:σ→Prop) (hx:Inv x) (h:∀ x,Inv x→AllM (Sum.elim Inv Q) (step x)):AllM Q (iterM step n x):=AllM.iter (fun _=>Inv) (N:=n) (fun _ x _ hs=>h x hs) n 0 x (by omega) hx
def NoI (x:Node):Prop:=its x = []
def NoL (l:List Node):Prop:=∀ y ∈ l,its y = []
theorem noI_of {x:Node} (hk:inK x.kind = false) (h:NoL x.kids):NoI x:=by
 unfold NoI
 rw [its_eq,hk]
 exact itsL_nil h
theorem noI_leaf {x:Node} (h:x.kids = []):NoI x:=by
 unfold NoI
 rw [its_eq,h]
 simp [itsL]
theorem noL_nil:NoL []:=fun y hy=>by cases hy
theorem noL_one {x:Node} (h:NoI x):NoL [x]:=fun y hy=>by rw [List.mem_singleton.1 hy]; exact h
theorem noL_app {l m:List Node} (h1:NoL l) (h2:NoL m):NoL (l ++ m):=fun y hy=>by
 rcases List.mem_append.1 hy with h | h
 ·exact h1 y h
 ·exact h2 y h
theorem all_numNode:AllM NoI numNode:=fun _=>AllM.bind' fun _=>noI_leaf rfl
theorem all_pathNode (n:Nat):AllM NoI (pathNode n):=fun _=>AllM.bind' fun _=>noI_leaf rfl
theorem all_sized (k:Int) (g:Bool) (p:Int):AllM NoI (sized k g p):=AllM.bind' fun _=>AllM.bind' fun _=>AllM.bind' fun _=>noI_leaf rfl
theorem all_semi {P:α→Prop} {x:α} (h:P x):AllM P (semi x):=AllM.bind' fun _=>h
theorem all_exprs:∀ n,AllM NoI (ref n)∧AllM NoI (unary n)∧(∀ a,AllM NoI (bin n a))∧AllM NoI (cond n)∧AllM NoI (expr n)
 | 0=>by
  refine ⟨?_,?_,fun a=>?_,?_,?_⟩
  ·rw [ref]; trivial
  ·rw [unary]; trivial
  ·rw [bin]; trivial
  ·rw [cond]; trivial
  ·rw [expr]; trivial
 | n + 1=>by
  obtain ⟨h1,h2,h3,h4,h5⟩:=all_exprs n
  refine ⟨?_,?_,fun a=>?_,?_,?_⟩
  ·rw [ref]
   exact fun _=>AllM.bind' fun _=>AllM.kw (ab (fun e he=>AllM.bind' fun _=>noI_of rfl (noL_one he)) h5) (noI_leaf rfl)
  ·rw [unary]
   refine fun p=>AllM.kw (ab (fun e he=>noI_of rfl (noL_one he)) h2) (fun t _=>AllM.cond all_numNode ?_)
   refine AllM.kw (AllM.bind' fun _=>ab (fun e he=>AllM.bind' fun _=>noI_of rfl (noL_one he)) h1) ?_
   exact AllM.kw (ab (fun e he=>AllM.bind' fun _=>he) h5) h1
  ·rw [bin]
   refine ab (fun x hx=>ai (fun s=>NoI s.2) hx (fun s hs t _ p=>AllM.cond hs ?_)) h2
   show AllM _ (M.bind _ _)
   refine ab (P:=fun j:Int × Node=>NoI j.2) (fun j hj=>noI_of rfl (noL_app (noL_one hs) (noL_one hj))) ?_
   exact AllM.cond (ab (fun r hr=>hr) (h3 _)) (AllM.cond (ab (fun r hr=>hr) (h3 _)) (ab (fun r hr=>hr) (h3 _)))
  ·rw [cond]
   refine ab (fun x hx p=>AllM.bind' fun b=>AllM.cond hx ?_) (h3 2)
   exact ab (fun y hy=>AllM.bind' fun _=>ab (fun z hz=>noI_of rfl (noL_app (noL_one hx) (noL_app (noL_one hy) (noL_one hz)))) h4) h4
  ·rw [expr]
   have hq:∀ k,inK k = false→AllM NoI (quant (expr n) k):=fun k hk p=>by
    show AllM _ (M.bind _ _)
    exact AllM.bind' fun x=>AllM.bind' fun _=>AllM.bind' fun v=>AllM.bind' fun _=>ab (fun e he=>noI_of hk (noL_one he)) h5
   exact fun t _=>AllM.cond (hq 7 rfl) (AllM.cond (hq 8 rfl) h4)
theorem all_expr (n:Nat):AllM NoI (expr n):=(all_exprs n).2.2.2.2
theorem all_ref (n:Nat):AllM NoI (ref n):=(all_exprs n).1
theorem all_partsL {part:M (List Node)} (h:AllM NoL part) (n:Nat) {x:List Node} (hx:NoL x):AllM NoL (iterM (partsL part) n x) :=
 ai NoL hx fun _ hs=>AllM.kw (ab (fun _ hy=>noL_app hs hy) h) hs
theorem all_some {part:M (List Node)} (h:AllM NoL part) (n:Nat):AllM NoL (some' n part):=ab (fun _ hx=>all_partsL h n hx) h
theorem all_parts {part:M (List Node)} (h:AllM NoL part) (n:Nat) (a:ByteArray):AllM NoL (parts n a part) :=
 AllM.kw noL_nil (ab (fun _ hx=>ab (fun _ hl=>AllM.bind' fun _=>hl) (all_partsL h n hx)) h)
theorem all_one {m:M Node} (h:AllM NoI m):AllM NoL (one m):=ab (fun _ hx=>noL_one hx) h
theorem all_assign (n:Nat):AllM NoL (assign n):=ab (fun _ ha=>AllM.bind' fun _=>ab (fun _ he=>noL_app (noL_one ha) (noL_one he)) (all_expr n)) (all_ref n)
theorem all_with (n:Nat):AllM NoL (with' n):=AllM.bind' fun _=>AllM.cond noL_nil (all_some (all_assign n) n)
theorem noI_none (k p:Int):NoI (none' k p):=noI_leaf rfl
theorem all_atomic (n:Nat) (p:Int):AllM NoL (atomic n p):=by
 refine AllM.bind' fun _=>?_
 show AllM _ (M.bind _ _)
 refine ab (fun l hl=>?_) (all_parts (all_assign n) n _)
 show AllM _ (kw _ _ _)
 exact AllM.kw (ab (fun e he=>noL_app (noL_one he) hl) (all_expr n)) (noL_app (noL_one (noI_none _ _)) hl)
theorem all_cas (n:Nat):AllM NoL (cas n) :=
 ab (fun _ ha=>AllM.bind' fun _=>ab (fun _ hb=>AllM.bind' fun _=>ab (fun _ hc=>AllM.bind' fun _=>ab (fun _ hd=>ab (fun _ hl =>
  noL_app (noL_app (noL_app (noL_app (noL_one ha) (noL_one hb)) (noL_one hc)) (noL_one hd)) hl) (all_with n)) (all_ref n)) (all_expr n)) (all_expr n)) (all_ref n)
theorem all_field:AllM NoI field:=fun p=>ab (fun _ hx=>all_semi hx) (all_sized 52 false p)
theorem all_param:AllM NoI param:=fun p=>all_sized 58 false p
theorem all_shared (g:Bool) (p:Int):AllM (fun x=>x.kids = []∧x.pos = p) (shared g p):=by
 refine AllM.bind' fun x=>ab (P:=fun j:Node=>j.kids = []∧j.pos = p) (fun j hj=>AllM.bind' fun _=>ab (P:=fun j:Node=>j.kids = []∧j.pos = p) (fun j hj=>ab (P:=fun j:Node=>j.kids = []∧j.pos = p) (fun j hj=>all_semi hj) ?_) ?_) ?_
 ·exact AllM.kw (AllM.bind' fun v=>hj) hj
 ·exact fun t _=>AllM.cond (AllM.bind' fun o=>hj) (AllM.bind' fun v=>hj)
 ·exact AllM.kw (AllM.bind' fun l=>AllM.bind' fun _=>⟨rfl,rfl⟩) ⟨rfl,rfl⟩
theorem all_thread (v p:Int) (n:Nat):AllM (fun x=>NoI x∧x.pos = p) (thread v p n) :=
 AllM.bind' fun _=>AllM.bind' fun _=>AllM.bind' fun _=>AllM.bind' fun _=>ab (fun _ hl=>all_semi ⟨noI_of rfl hl,rfl⟩) (all_parts (all_one all_numNode) n _)
theorem pos_sized (k:Int) (g:Bool) (p:Int):AllM (fun x=>x.pos = p) (sized k g p):=AllM.bind' fun _=>AllM.bind' fun _=>AllM.bind' fun _=>rfl
theorem pos_loop (n:Nat) (p:Int):AllM (fun x=>x.pos = p) (loop n p):=by
 cases n with
 | zero=>rw [loop]; trivial
 | succ n=>rw [loop]; exact AllM.bind' fun _=>AllM.bind' fun _=>AllM.bind' fun _=>rfl
theorem pos_branch (n:Nat) (p:Int):AllM (fun x=>x.pos = p) (branch n p):=by
 cases n with
 | zero=>rw [branch]; trivial
 | succ n=>rw [branch]; exact AllM.bind' fun _=>AllM.bind' fun _=>AllM.bind' fun _=>rfl
def PosAt (m:M Node):Prop:=∀ fin t r a s',TksOk (t :: r)→m.run fin ⟨t :: r,0,[]⟩ = .ok a s'→a.pos = t.pos
theorem posAt_of {k:Int→M Node} (h:∀ p,AllM (fun x=>x.pos = p) (k p)):PosAt (.pos k):=fun fin t r a s' ht e=>AllM.run fin (k t.pos) ⟨t :: r,0,[]⟩ a s' (h t.pos) ht e
theorem posAt_stmt (n:Nat):PosAt (stmt n):=by
 cases n with
 | zero=>rw [stmt]; intro fin t r a s' _ e; cases e
 | succ n =>
  rw [stmt]
  refine posAt_of fun p=>?_
  refine AllM.kw (pos_branch n p) ?_
  refine AllM.kw (pos_loop n p) ?_
  refine AllM.kw (AllM.bind' fun _=>all_semi rfl) ?_
  refine AllM.kw (AllM.bind' fun _=>all_semi rfl) ?_
  refine AllM.kw (all_semi rfl) ?_
  refine AllM.kw (all_semi rfl) ?_
  refine AllM.kw (AllM.bind' fun _=>all_semi rfl) ?_
  refine AllM.kw (AllM.bind' fun _=>all_semi rfl) ?_
  refine AllM.kw (AllM.bind' fun _=>all_semi rfl) ?_
  refine AllM.kw (AllM.bind' fun _=>all_semi rfl) ?_
  refine AllM.kw (AllM.bind' fun _=>all_semi rfl) ?_
  refine AllM.kw (AllM.bind' fun _=>all_semi rfl) ?_
  refine AllM.kw (AllM.bind' fun _=>AllM.bind' fun _=>AllM.bind' fun _=>all_semi rfl) ?_
  refine AllM.kw (AllM.bind' fun _=>ab (fun x hx=>all_semi hx) (pos_sized 35 true p)) ?_
  refine AllM.kw (ab (fun x hx=>all_semi hx) (pos_sized 35 false p)) ?_
  exact ab (P:=fun j:Node=>j.pos = p) (fun j hj=>AllM.bind' fun _=>AllM.bind' fun _=>all_semi hj) (AllM.kw rfl rfl)
theorem posAt_field:PosAt field:=posAt_of fun p=>ab (fun _ hx=>all_semi hx) (pos_sized 52 false p)
theorem posAt_decl (n:Nat):PosAt (decl n):=by
 refine posAt_of fun p=>ab (P:=fun j:Node ⊕ Node=>(Sum.elim id id j:Node).pos = p) (fun j hj=>by
  cases j with
  | inl x=>exact hj
  | inr x=>exact all_semi hj) ?_
 refine AllM.kw (AllM.bind' fun _=>AllM.bind' fun _=>AllM.bind' fun _=>rfl) ?_
 refine AllM.kw (AllM.bind' fun _=>ab (fun x hx=>hx.2) (all_shared true p)) ?_
 refine AllM.kw (ab (fun x hx=>hx.2) (all_shared false p)) ?_
 refine AllM.kw (AllM.bind' fun _=>AllM.bind' fun _=>AllM.bind' fun _=>rfl) ?_
 refine AllM.kw (AllM.bind' fun _=>rfl) ?_
 refine AllM.kw (AllM.bind' fun _=>rfl) ?_
 refine AllM.kw (AllM.bind' fun _=>rfl) ?_
 refine AllM.kw ?_ trivial
 exact AllM.bind' fun _=>AllM.bind' fun _=>AllM.bind' fun _=>ab (P:=fun j:Node=>j.pos = p) (fun j hj=>AllM.bind' fun _=>hj) (AllM.kw (AllM.bind' fun _=>rfl) rfl)
theorem posAt_item (n:Nat):PosAt (item n):=by
 refine posAt_of fun p=>?_
 refine AllM.kw (AllM.bind' fun _=>AllM.bind' fun _=>AllM.bind' fun _=>AllM.bind' fun _=>AllM.bind' fun _=>rfl) ?_
 exact AllM.kw (AllM.bind' fun _=>(all_thread 1 p n).mono (fun _ h=>h.2) _) (AllM.kw ((all_thread 0 p n).mono (fun _ h=>h.2) _) trivial)
def BadQ (m:M α):Prop:=∀ fin q r i p,isQ q→m.run fin ⟨q :: r,i,p⟩ = .bad false ⟨q :: r,i,p⟩
theorem bad_kw {a:ByteArray} (ha:a≠bs [63]) {m m':M α} (h:BadQ m'):BadQ (kw a m m'):=fun fin q r i p hq=>by
 rw [run_kw]
 simp only [ne_q hq ha,cond_false]
 exact h fin q r i p hq
theorem bad_bind {m:M α} {k:α→M β} (h:BadQ m):BadQ (m.bind k):=fun fin q r i p hq=>by rw [run_bind,h fin q r i p hq]; rfl
theorem bad_pos {k:Int→M α} (h:∀ x,BadQ (k x)):BadQ (.pos k):=fun fin q r i p hq=>h _ fin q r i p hq
theorem bad_name:BadQ name:=fun fin q r i p hq=>by
 have:isNm (q.kind,q.text) = false:=by simp [isNm,hq.1]
 simp only [name,run,hdOf,this,cond_false]
theorem bad_fail:BadQ (.fail false:M α):=fun _ _ _ _ _ _=>rfl
theorem bad_path (n:Nat):BadQ (path n):=bad_bind bad_name
theorem bad_ref (n:Nat):BadQ (ref (n + 1)):=by rw [ref]; exact bad_pos fun _=>bad_bind (bad_path n)
theorem bad_kwret {a:ByteArray} (ha:a≠bs [63]) {x y:α} {k:α→M β} (h:∀ x,BadQ (k x)):BadQ ((kw a (.ret x) (.ret y)).bind k):=fun fin q r i p hq=>by
 rw [run_bind,run_kw]
 simp only [ne_q hq ha,cond_false,run,andThen]
 exact h y fin q r i p hq
theorem bad_stmt (n:Nat):BadQ (stmt (n + 2)):=by
 rw [stmt]
 refine bad_pos fun p=>?_
 iterate 15 refine bad_kw (by decide) ?_
 exact bad_kwret (by decide) fun _=>bad_bind (bad_bind (bad_ref n))
theorem bad_field:BadQ field:=bad_pos fun _=>bad_bind (bad_bind bad_name)
theorem bad_decl (n:Nat):BadQ (decl n):=by
 refine bad_pos fun p=>bad_bind ?_
 iterate 8 refine bad_kw (by decide) ?_
 exact bad_fail
theorem bad_item (n:Nat):BadQ (item n):=by
 refine bad_pos fun p=>?_
 iterate 3 refine bad_kw (by decide) ?_
 exact bad_fail
theorem EA_block (n:Nat):EA (block n):=by
 cases n with
 | zero=>rw [block]; trivial
 | succ n =>
  rw [block]
  refine fun p=>EA_bind2 _ (fun _=>EA_bind1 _ (fun _=>EAr_ret _) _ ?_) _
  cases n with
  | zero=>rw [stmts]; trivial
  | succ n=>rw [stmts]; exact EA_list n _
theorem tail_branch (n:Nat) (p:Int):TailQ (branch n p):=by
 cases n with
 | zero=>rw [branch]; intro fin A X a e; cases e
 | succ n =>
  rw [branch]
  have hless:∀ c,Less ((block n).bind fun a=>(kw (bs [101,108,115,101]) (block n) (.ret (none' 34 p))).bind fun b=>(.ret (Node.mk 31 (bs []) (bs []) 0 0 0 false [c,a,b] p):M Node)):=fun c =>
   less_bind1 fun fin s a s' e=>EA.less fin _ s a s' (EA_block n) e
  refine tail_bind (in_expr n) (.inl hless) fun c=>tail_bind (in_stmts n).2.2.2.2 (.inr (tail_EA (.inr (EA_block n)))) fun a=>tail_bind (in_kw (in_stmts n).2.2.2.2 rfl) (.inr ?_) fun b=>tail_ret _
  exact tail_kw (by decide) (tail_EA (.inr (EA_block n))) (tail_ret _)
theorem EA_loop (n:Nat) (p:Int):EA (loop n p):=by
 cases n with
 | zero=>rw [loop]; trivial
 | succ n=>rw [loop]; exact EA_bind2 _ (fun _=>EA_bind2 _ (fun _=>EA_bind1 _ (fun _=>EAr_ret _) _ (EA_block n)) _) _
theorem tail_stmt (n:Nat):TailQ (stmt n):=by
 cases n with
 | zero=>rw [stmt]; intro fin A X a e; cases e
 | succ n =>
  rw [stmt]
  refine tail_pos (fun p=>tail_kw (by decide) (tail_branch n p) (tail_EA (.inr ?_))) fun p=>?_
  ·refine EA_kw (EA_loop n p) ?_
   refine EA_kw (EA_bind2 _ (fun _=>EA_semi _) _) ?_
   refine EA_kw (EA_bind2 _ (fun _=>EA_semi _) _) ?_
   refine EA_kw (EA_semi _) ?_
   refine EA_kw (EA_semi _) ?_
   refine EA_kw (EA_bind2 _ (fun _=>EA_semi _) _) ?_
   refine EA_kw (EA_bind2 _ (fun _=>EA_semi _) _) ?_
   refine EA_kw (EA_bind2 _ (fun _=>EA_semi _) _) ?_
   refine EA_kw (EA_bind2 _ (fun _=>EA_semi _) _) ?_
   refine EA_kw (EA_bind2 _ (fun _=>EA_semi _) _) ?_
   refine EA_kw (EA_bind2 _ (fun _=>EA_semi _) _) ?_
   refine EA_kw (EA_bind2 _ (fun _=>EA_bind2 _ (fun _=>EA_bind2 _ (fun _=>EA_semi _) _) _) _) ?_
   refine EA_kw (EA_bind2 _ (fun _=>EA_bind2 _ (fun _=>EA_semi _) _) _) ?_
   refine EA_kw (EA_bind2 _ (fun _=>EA_semi _) _) ?_
   exact EA_bind2 _ (fun _=>EA_bind2 _ (fun _=>EA_bind2 _ (fun _=>EA_semi _) _) _) _
  ·intro fin s a s' e
   refine less_kw ?_ fin s a s' e
   refine fun fin s a s' e=>EA.less fin _ s a s' ?_ e
   refine EA_kw (EA_loop n p) ?_
   refine EA_kw (EA_bind2 _ (fun _=>EA_semi _) _) ?_
   refine EA_kw (EA_bind2 _ (fun _=>EA_semi _) _) ?_
   refine EA_kw (EA_semi _) ?_
   refine EA_kw (EA_semi _) ?_
   refine EA_kw (EA_bind2 _ (fun _=>EA_semi _) _) ?_
   refine EA_kw (EA_bind2 _ (fun _=>EA_semi _) _) ?_
   refine EA_kw (EA_bind2 _ (fun _=>EA_semi _) _) ?_
   refine EA_kw (EA_bind2 _ (fun _=>EA_semi _) _) ?_
   refine EA_kw (EA_bind2 _ (fun _=>EA_semi _) _) ?_
   refine EA_kw (EA_bind2 _ (fun _=>EA_semi _) _) ?_
   refine EA_kw (EA_bind2 _ (fun _=>EA_bind2 _ (fun _=>EA_bind2 _ (fun _=>EA_semi _) _) _) _) ?_
   refine EA_kw (EA_bind2 _ (fun _=>EA_bind2 _ (fun _=>EA_semi _) _) _) ?_
   refine EA_kw (EA_bind2 _ (fun _=>EA_semi _) _) ?_
   exact EA_bind2 _ (fun _=>EA_bind2 _ (fun _=>EA_bind2 _ (fun _=>EA_semi _) _) _) _
theorem EA_field:EA field:=fun _=>EA_bind2 _ (fun _=>EA_semi _) _
theorem EA_shared (g:Bool) (p:Int):EA (shared g p):=EA_bind2 _ (fun _=>EA_bind2 _ (fun _=>EA_bind2 _ (fun _=>EA_bind2 _ (fun _=>EA_bind2 _ (fun _=>EA_semi _) _) _) _) _) _
theorem EA_decl (n:Nat):EA (decl n):=by
 intro p
 simp only [kw_bind,bind_assoc]
 refine EA_kw (EA_bind2 _ (fun _=>EA_bind2 _ (fun _=>EA_bind1 _ (fun _=>EAr_ret _) _ (EA_list n _)) _) _) ?_
 refine EA_kw (EA_bind2 _ (fun _=>EA_bind1 _ (fun _=>EAr_ret _) _ (EA_shared true p)) _) ?_
 refine EA_kw (EA_bind1 _ (fun _=>EAr_ret _) _ (EA_shared false p)) ?_
 refine EA_kw (EA_bind2 _ (fun _=>EA_bind2 _ (fun _=>EA_bind2 _ (fun _=>EA_semi _) _) _) _) ?_
 refine EA_kw (EA_bind2 _ (fun _=>EA_semi _) _) ?_
 refine EA_kw (EA_bind2 _ (fun _=>EA_semi _) _) ?_
 refine EA_kw (EA_bind2 _ (fun _=>EA_semi _) _) ?_
 have hX:∀ (j:Node),EA ((block n).bind fun b=>(.ret (Node.mk j.kind j.name j.other j.n j.len j.init j.ghost (j.kids ++ [b]) j.pos):M Node)):=fun j=>EA_bind1 _ (fun _=>EAr_ret _) _ (EA_block n)
 refine EA_kw (EA_bind2 _ (fun x=>EA_bind2 _ (fun _=>EA_bind2 _ (fun l=>EA_kw (EA_bind2 _ (fun o=>hX _) _) (hX _)) _) _) _) ?_
 trivial
theorem rc_zero {s:Bool} {m:M α} {Q:α→Int→Prop}:Rc 0 s m Q:=fun _ _ _ _ hr=>absurd hr (Nat.not_lt_zero _)
theorem rc_none {L:Nat} {s:Bool} {m:M Node} (h:AllM NoI m):Rc L s m fun b p=>p ∈ its b:=rc_all (h.mono (fun a ha p hp=>by rw [show its a = [] from ha] at hp; cases hp) _)
theorem rc_skip {L L':Nat} {s s2:Bool} {m:M α} {k:α→M β} {Q:β→Int→Prop} (P:α→Prop) (hIn:In 0 0 m) (hP:AllM P m) (hk:s2 = true∨EA m) (hL:L≤L'∨(EA m∧L≤L' + 1)) (h2:∀ a,P a→Rc L' s2 (k a) Q):Rc L s (m.bind k) Q :=
 rc_bind P (fun _ _=>False) hIn hP hk hL (rc_all ((AllM.top m).mono (fun _ _ _ h=>h) _)) fun a ha=>rc_imp (h2 a ha) (Nat.le_refl _) fun _ _ h=>h.1
theorem rc_lists {L n:Nat} {s:Bool} {item:M Node} (hI:ItemQ (L - 1) item) (hn:L≤n) (hp:0 < n) (k:Int) (hk:inK k = true) (f:List Node→Node) (hf:∀ l,(f l).kind = k∧(f l).kids = l) :
  Rc L s ((expect (bs [123])).bind fun _=>(list n true item).bind fun l=>.ret (f l)) fun b p=>p ∈ its b:=by
 refine rc_skip (s2:=false) (L':=L - 1) (fun _=>True) in_expect (AllM.top _) (.inr (EA_expect _)) (.inr ⟨EA_expect _,by omega⟩) fun _ _=>?_
 refine rc_bind (s2:=true) (L':=L - 1) (fun _=>True) (fun l p=>p ∈ itsL true l) (in_list hI.inn n true) (AllM.top _) (.inl rfl) (.inl (Nat.le_refl _)) (rc_list hI (by omega)) fun l _=>rc_all ?_
 rintro p ⟨h1,h2⟩
 rw [its_eq,(hf l).1,(hf l).2,hk] at h1
 exact h2 h1
theorem rc_block {L n:Nat} (hI:ItemQ (L - 1) (stmt n)) (hn:L≤n) (hp:0 < n):Rc L true (block (n + 2)) fun b p=>p ∈ its b:=by
 rw [block,stmts]
 exact rc_pos fun p=>rc_lists hI hn hp 34 rfl (fun l=>Node.mk 34 (bs []) (bs []) 0 0 0 false l p) fun _=>⟨rfl,rfl⟩
theorem rc_branch {L n:Nat} (hI:ItemQ (L - 1) (stmt n)) (hn:L≤n) (hp:0 < n) (p:Int):Rc L true (branch (n + 3) p) fun b p=>p ∈ its b:=by
 rw [branch]
 have hB:=rc_block hI hn hp
 have hin:=(in_stmts (n + 2)).2.2.2.2
 refine rc_skip (s2:=true) (L':=L) NoI (in_expr _) (all_expr _) (.inl rfl) (.inl (Nat.le_refl _)) fun c hc=>?_
 refine rc_bind (s2:=true) (L':=L) (fun _=>True) (fun a p=>p ∈ its a) hin (AllM.top _) (.inl rfl) (.inl (Nat.le_refl _)) hB fun a _=>?_
 refine rc_bind (s2:=true) (L':=L) (fun _=>True) (fun a p=>p ∈ its a) (in_kw hin rfl) (AllM.top _) (.inl rfl) (.inl (Nat.le_refl _)) (rc_kw (by decide) (rc_weak hB false) (rc_none (m:=.ret _) (noI_none _ _)) (by omega)) fun b _=>rc_all ?_
 rintro q ⟨⟨h1,h2⟩,h3⟩
 have e:its (Node.mk 31 (bs []) (bs []) 0 0 0 false [c,a,b] p) = its c ++ its a ++ its b:=by simp [its,itsL,inK]
 rw [e,show its c = [] from hc] at h1
 simp only [List.nil_append,List.mem_append] at h1
 rcases h1 with h | h
 ·exact h2 h
 ·exact h3 h
theorem rc_loopM {L n:Nat} (hI:ItemQ (L - 1) (stmt n)) (hn:L≤n) (hp:0 < n) (p:Int):Rc L true (loop (n + 3) p) fun b p=>p ∈ its b:=by
 rw [loop]
 have hB:=rc_block hI hn hp
 have hin:=(in_stmts (n + 2)).2.2.2.2
 refine rc_skip (s2:=true) (L':=L) NoI (in_expr _) (all_expr _) (.inl rfl) (.inl (Nat.le_refl _)) fun c hc=>?_
 refine rc_skip (s2:=true) (L':=L) NoI (in_kw (in_expr _) rfl) (AllM.kw (all_expr _) (noI_none _ _)) (.inl rfl) (.inl (Nat.le_refl _)) fun v hv=>?_
 refine rc_bind (s2:=true) (L':=L) (fun _=>True) (fun a p=>p ∈ its a) hin (AllM.top _) (.inl rfl) (.inl (Nat.le_refl _)) hB fun b _=>rc_all ?_
 rintro q ⟨h1,h2⟩
 have e:its (Node.mk 32 (bs []) (bs []) 0 0 0 false [c,v,b] p) = its c ++ its v ++ its b:=by simp [its,itsL,inK]
 rw [e,show its c = [] from hc,show its v = [] from hv] at h1
 exact h2 (by simpa using h1)
theorem itemQ_stmt:∀ N n,n≤N→∀ L,4 * L + 8≤n→ItemQ L (stmt n)
 | 0,n,h,L,hL=>absurd h (by omega)
 | N + 1,n,h,L,hL=>by
  obtain ⟨m,rfl⟩:∃ m,n = m + 4:=⟨n - 4,by omega⟩
  refine ⟨(in_stmts _).2.2.1,less_stmt _,tail_stmt _,?_,posAt_stmt _,bad_stmt (m + 2)⟩
  by_cases hL0:L = 0
  ·subst hL0; exact rc_zero
  have hI:=itemQ_stmt N m (by omega) (L - 1) (by omega)
  have hE:=all_expr (m + 3)
  rw [stmt]
  refine rc_pos fun p=>?_
  refine rc_kw (L1:=L) (by decide) (rc_weak (rc_branch hI (by omega) (by omega) p) false) ?_ (by omega)
  refine rc_kw (L1:=L) (by decide) (rc_weak (rc_loopM hI (by omega) (by omega) p) false) ?_ (by omega)
  refine rc_none ?_
  refine AllM.kw (ab (fun e he=>all_semi (noI_of rfl (noL_one he))) hE) ?_
  refine AllM.kw (ab (fun e he=>all_semi (noI_of rfl (noL_one he))) hE) ?_
  refine AllM.kw (all_semi (noI_leaf rfl)) ?_
  refine AllM.kw (all_semi (noI_leaf rfl)) ?_
  refine AllM.kw (ab (fun l hl=>all_semi (noI_of rfl hl)) (all_atomic _ p)) ?_
  refine AllM.kw (ab (fun l hl=>all_semi (noI_of rfl hl)) (all_cas _)) ?_
  refine AllM.kw (AllM.bind' fun _=>all_semi (noI_leaf rfl)) ?_
  refine AllM.kw (AllM.bind' fun _=>all_semi (noI_leaf rfl)) ?_
  refine AllM.kw (AllM.bind' fun _=>all_semi (noI_leaf rfl)) ?_
  refine AllM.kw (AllM.bind' fun _=>all_semi (noI_leaf rfl)) ?_
  refine AllM.kw (AllM.bind' fun _=>AllM.bind' fun _=>ab (fun l hl=>all_semi (noI_of rfl hl)) (all_parts (all_one hE) _ _)) ?_
  refine AllM.kw (AllM.bind' fun _=>ab (fun x hx=>all_semi hx) (all_sized 35 true p)) ?_
  refine AllM.kw (ab (fun x hx=>all_semi hx) (all_sized 35 false p)) ?_
  exact ab (P:=fun j:Node=>j.kind = 21) (fun j hj=>ab (fun a ha=>ab (fun w hw=>all_semi (noI_of (by simp [hj,inK]) (noL_app ha hw))) (all_with _)) (all_assign _)) (AllM.kw rfl rfl)
theorem itemQ_field (L:Nat):ItemQ L field:=⟨in_field,less_field,tail_EA (.inr EA_field),rc_none all_field,posAt_field,bad_field⟩
theorem itemQ_decl {n L:Nat} (hn:4 * L + 10≤n):ItemQ L (decl n):=by
 refine ⟨in_decl n,less_decl n,tail_EA (.inr (EA_decl n)),?_,posAt_decl n,bad_decl n⟩
 by_cases hL0:L = 0
 ·subst hL0; exact rc_zero
 refine rc_pos fun p=>?_
 simp only [kw_bind,bind_assoc]
 have hE:=all_expr n
 refine rc_kw (L1:=L) (by decide) ?_ ?_ (by omega)
 ·refine rc_skip (s2:=true) (L':=L) (fun _=>True) in_name (AllM.top _) (.inl rfl) (.inl (Nat.le_refl _)) fun x _=>?_
  exact rc_lists (itemQ_field _) (by omega) (by omega) 51 rfl (fun l=>nd 51 x l p) fun _=>⟨rfl,rfl⟩
 refine rc_kw (L1:=L) (by decide) (rc_none ?_) ?_ (by omega)
 ·exact AllM.bind' fun _=>ab (fun x hx=>noI_leaf hx.1) (all_shared true p)
 refine rc_kw (L1:=L) (by decide) (rc_none ?_) ?_ (by omega)
 ·exact ab (fun x hx=>noI_leaf hx.1) (all_shared false p)
 refine rc_kw (L1:=L) (by decide) (rc_none ?_) ?_ (by omega)
 ·exact AllM.bind' fun _=>AllM.bind' fun _=>ab (fun e he=>all_semi (noI_of rfl (noL_one he))) hE
 refine rc_kw (L1:=L) (by decide) (rc_none ?_) ?_ (by omega)
 ·exact ab (fun e he=>all_semi (noI_of rfl (noL_one he))) hE
 refine rc_kw (L1:=L) (by decide) (rc_none ?_) ?_ (by omega)
 ·exact ab (fun e he=>all_semi (noI_of rfl (noL_one he))) hE
 refine rc_kw (L1:=L) (by decide) (rc_none ?_) ?_ (by omega)
 ·exact ab (fun l hl=>all_semi (noI_of rfl hl)) (all_some (all_one (all_pathNode n)) n)
 refine rc_kw (L1:=L) (by decide) ?_ (rc_none (m:=.fail false) trivial) (by omega)
 obtain ⟨m,rfl⟩:∃ m,n = m + 2:=⟨n - 2,by omega⟩
 refine rc_skip (s2:=true) (L':=L) (fun _=>True) in_name (AllM.top _) (.inl rfl) (.inl (Nat.le_refl _)) fun x _=>?_
 refine rc_skip (s2:=true) (L':=L) (fun _=>True) in_expect (AllM.top _) (.inl rfl) (.inl (Nat.le_refl _)) fun _ _=>?_
 refine rc_skip (s2:=true) (L':=L) NoL (in_parts (in_one in_param) _ _) (all_parts (all_one all_param) _ _) (.inl rfl) (.inl (Nat.le_refl _)) fun l hl=>?_
 have hX:∀ (s:Bool) (j:Node),j.kind = 57→j.kids = l→Rc L s ((block (m + 2)).bind fun b=>(.ret (Node.mk j.kind j.name j.other j.n j.len j.init j.ghost (j.kids ++ [b]) j.pos):M Node)) fun b p=>p ∈ its b:=fun s j hj1 hj2=>by
  refine rc_bind (s2:=true) (L':=L) (fun _=>True) (fun a p=>p ∈ its a) (in_stmts _).2.2.2.2 (AllM.top _) (.inl rfl) (.inl (Nat.le_refl _)) (rc_weak (rc_block (itemQ_stmt m m (Nat.le_refl _) (L - 1) (by omega)) (by omega) (by omega)) s) fun b _=>rc_all (m:=.ret _) ?_
  rintro q ⟨h1,h2⟩
  rw [its_eq] at h1
  simp only [hj1,hj2] at h1
  have e:inK 57 = false:=rfl
  rw [e,itsL_app,itsL_nil hl] at h1
  simp only [itsL,cond_false,List.nil_append,List.append_nil] at h1
  exact h2 h1
 refine rc_kw (L1:=L) (by decide) ?_ (hX true _ rfl rfl) (by omega)
 exact rc_skip (s2:=true) (L':=L) (fun _=>True) in_name (AllM.top _) (.inl rfl) (.inl (Nat.le_refl _)) fun o _=>hX true _ rfl rfl
theorem itemQ_item {n L:Nat} (hn:4 * L + 14≤n):ItemQ L (item n):=by
 refine ⟨in_item n,less_item n,tail_EA (.inr (EA_item n)),?_,posAt_item n,bad_item n⟩
 by_cases hL0:L = 0
 ·subst hL0; exact rc_zero
 refine rc_pos fun p=>?_
 refine rc_kw (L1:=L) (by decide) ?_ (rc_none ?_) (by omega)
 ·refine rc_skip (s2:=true) (L':=L) (fun _=>True) in_name (AllM.top _) (.inl rfl) (.inl (Nat.le_refl _)) fun x _=>?_
  refine rc_skip (s2:=true) (L':=L) (fun _=>True) in_expect (AllM.top _) (.inl rfl) (.inl (Nat.le_refl _)) fun _ _=>?_
  refine rc_skip (s2:=true) (L':=L) (fun _=>True) in_name (AllM.top _) (.inl rfl) (.inl (Nat.le_refl _)) fun o _=>?_
  exact rc_lists (itemQ_decl (by omega)) (by omega) (by omega) 60 rfl (fun l=>Node.mk 60 x o 0 0 0 false l p) fun _=>⟨rfl,rfl⟩
 ·exact AllM.kw (AllM.bind' fun _=>(all_thread 1 p n).mono (fun _ h=>h.1) _) (AllM.kw ((all_thread 0 p n).mono (fun _ h=>h.1) _) trivial)
theorem rc_source {n L:Nat} (hn:4 * L + 14≤n):Rc L false (source n) fun l p=>p ∈ itsL true l:=rc_list (itemQ_item hn) (by omega)
end M
end Go.Proofs.YtbecjgckobhmpaaGreatDoor
end
section
namespace Go.Proofs.YtbecjgckobhmpaaGreatDoor
open Go Go.AM Go.Proofs
abbrev Bytes:=List UInt8
def wordsL (l:List Bytes):Bytes:=joinL [32] (l.filter (fun s=>!s.isEmpty))
def onlyL (c:Bool) (l:List Bytes):Bytes:=bif c then wordsL l else []
def numL (n:Int):Bytes:=digs 20 n.toNat
def ruleI (s:ByteArray):ByteArray × Int × Int × Int:=(ruleTab.find? (fun r=>strEq r.1 s)).getD (bs [],0,0,0)
def levI (x:Node):Int :=
 bif x.kind == 7 || x.kind == 8 then 0 else bif x.kind == 6 then 1 else bif x.kind == 5 then (ruleI x.name).2.1 else bif x.kind == 4 then 11 else 12
def opd (a:Int × Bytes) (req:Int):Bytes:=bif decide (a.1 < req) then [40] ++ (a.2 ++ [41]) else a.2
def nth (ks:List (Int × Bytes)) (i:Nat):Int × Bytes:=ks.getD i (0,[])
def txtOf (k:Int) (nm:ByteArray) (n:Int) (ks:List (Int × Bytes)):Bytes :=
 bif k == 1 then numL n
 else bif k == 2 then (bif ks.isEmpty then tl nm else tl nm ++ ([91] ++ (opd (nth ks 0) 0 ++ [93])))
 else bif k == 3 then [111,108,100,40] ++ (opd (nth ks 0) 0 ++ [41])
 else bif k == 4 then [33] ++ opd (nth ks 0) 11
 else bif k == 5 then wordsL [opd (nth ks 0) (ruleI nm).2.2.1,tl nm,opd (nth ks 1) (ruleI nm).2.2.2]
 else bif k == 6 then wordsL [opd (nth ks 0) 2,[63],opd (nth ks 1) 1,[58],opd (nth ks 2) 1]
 else bif k == 7 then wordsL [[97,108,108],tl nm,[60],numL n,[58],opd (nth ks 0) 0]
 else bif k == 8 then wordsL [[115,111,109,101],tl nm,[60],numL n,[58],opd (nth ks 0) 0]
 else []
mutual
def txt:Node→Bytes
 | ⟨k,nm,_,n,_,_,_,ks,_⟩=>txtOf k nm n (txts ks)
def txts:List Node→List (Int × Bytes)
 | []=>[]
 | x :: r=>(levI x,txt x) :: txts r
end
mutual
def sz:Node→Nat
 | ⟨_,_,_,_,_,_,_,ks,_⟩=>1 + szs ks
def szs:List Node→Nat
 | []=>0
 | x :: r=>sz x + szs r
end
theorem sz_eq (x:Node):sz x = 1 + szs x.kids:=by cases x; rfl
theorem sz_pos (x:Node):1≤sz x:=by rw [sz_eq]; omega
theorem szs_mem:(l:List Node)→∀ x ∈ l,sz x≤szs l
 | [],x,h=>by cases h
 | y :: r,x,h=>by
  simp only [szs]
  rcases List.mem_cons.1 h with rfl | h
  ·omega
  ·have:=szs_mem r x h; omega
theorem szs_len:(l:List Node)→l.length≤szs l
 | []=>by simp [szs]
 | y :: r=>by simp only [szs,List.length_cons]; have:=szs_len r; have:=sz_pos y; omega
theorem szs_append:(a b:List Node)→szs (a ++ b) = szs a + szs b
 | [],b=>by simp [szs]
 | x :: r,b=>by simp [szs,szs_append r b]; omega
def sizedL (x:Node):Bytes:=wordsL [tl x.name,[58],numL x.n]
def commasL (l:List Bytes):Bytes:=joinL [44,32] l
def pairL:List Bytes→List Bytes
 | a :: b :: r=>wordsL [a,[58,61],b] :: pairL r
 | _=>[]
def assignsL (l:List Bytes):Bytes:=commasL (pairL l)
def sharedL (x:Node):Bytes :=
 wordsL [onlyL x.ghost [[103,104,111,115,116]],[115,104,97,114,101,100],bif x.len != 0 then tl x.name ++ ([91] ++ (numL x.len ++ [93])) else tl x.name,[58],
  bif strEq x.other (bs []) then numL x.n else tl x.other,onlyL (x.init != 0) [[61],numL x.init]]
def tx (ks:List Node):List Bytes:=ks.map txt
def tnth (ks:List Node) (i:Nat):Bytes:=(tx ks).getD i []
def stmtL (x:Node):Bytes :=
 bif x.kind == 20 then wordsL [[97,115,115,101,114,116],tnth x.kids 0]
 else bif x.kind == 29 then wordsL [[97,119,97,105,116],tnth x.kids 0]
 else bif x.kind == 26 then [102,101,110,99,101]
 else bif x.kind == 30 then [115,107,105,112]
 else bif x.kind == 21 then wordsL [onlyL (x.n == 1) [[114,101,108,101,97,115,101]],assignsL (tx (x.kids.take 2)),onlyL (decide (2 < (x.kids.length:Int))) [[119,105,116,104],assignsL (tx (x.kids.drop 2))]]
 else bif x.kind == 22 then wordsL [[97,116,111,109,105,99],[123],assignsL (tx (x.kids.drop 1)),[125],onlyL ((x.kids.head?.map Node.kind).getD 0 != 63) [[119,104,101,110],tnth x.kids 0]]
 else bif x.kind == 23 then wordsL [[99,97,115],commasL (tx (x.kids.take 3)),[105,110,116,111],tnth x.kids 3,onlyL (decide (4 < (x.kids.length:Int))) [[119,105,116,104],assignsL (tx (x.kids.drop 4))]]
 else bif x.kind == 24 then wordsL [[97,99,113,117,105,114,101],tl x.name]
 else bif x.kind == 25 then wordsL [[102,114,101,101],tl x.name]
 else bif x.kind == 27 then wordsL [[115,112,97,119,110],tl x.name]
 else bif x.kind == 28 then wordsL [[106,111,105,110],tl x.name]
 else bif x.kind == 33 then wordsL [[99,97,108,108],tl x.name ++ ([40] ++ (commasL (tx x.kids) ++ [41]))]
 else []
def simpL (x:Node):Bytes :=
 bif x.kind == 61 then wordsL [onlyL (x.n == 1) [[97,115,108,101,101,112]],[116,104,114,101,97,100],tl x.name,[61],tl x.other ++ ([40] ++ (commasL (tx x.kids) ++ [41]))]
 else bif x.kind == 52 then sizedL x
 else bif x.kind == 50 then sharedL x
 else bif x.kind == 53 then wordsL [[108,111,99,107],tl x.name,[105,110,118,97,114,105,97,110,116],tnth x.kids 0]
 else bif x.kind == 54 then wordsL [[114,101,108,121],tnth x.kids 0]
 else bif x.kind == 55 then wordsL [[103,117,97,114,97,110,116,101,101],tnth x.kids 0]
 else bif x.kind == 56 then wordsL [[102,114,97,109,101],commasL (tx x.kids)]
 else bif x.kind == 35 then wordsL [onlyL x.ghost [[103,104,111,115,116]],[108,111,99,97,108],sizedL x]
 else stmtL x
def headL (x:Node):Bytes :=
 bif x.kind == 60 then wordsL [[109,111,100,117,108,101],tl x.name,[111,119,110,101,114],tl x.other]
 else bif x.kind == 51 then wordsL [[114,101,99,111,114,100],tl x.name]
 else bif x.kind == 57 then wordsL [[112,114,111,99],tl x.name ++ ([40] ++ (commasL (x.kids.dropLast.map sizedL) ++ [41])),onlyL (!(strEq x.other (bs []))) [[108,111,99,107,101,100],tl x.other]]
 else bif x.kind == 31 then wordsL [[105,102],tnth x.kids 0]
 else wordsL [[119,104,105,108,101],tnth x.kids 0,onlyL ((x.kids[1]?.map Node.kind).getD 0 != 63) [[118,97,114,105,97,110,116],tnth x.kids 1]]
abbrev Lines:=List (Nat × Bytes)
def openL (d:Nat) (h:Bytes):Nat × Bytes:=(d,wordsL [h,[123]])
def elseE (ks:List Node):Bool:=(ks[2]?.map (fun y:Node=>y.kids.isEmpty)).getD true
def nthI (l:List Lines) (i:Nat):Lines:=l.getD i []
mutual
def itm (d:Nat):Node→Lines
 | ⟨k,nm,o,n,l,i,g,ks,p⟩ =>
  bif k == 60 || k == 51 then openL d (headL ⟨k,nm,o,n,l,i,g,ks,p⟩) :: (itms (d + 1) ks ++ [(d,[125])])
  else bif k == 57 then openL d (headL ⟨k,nm,o,n,l,i,g,ks,p⟩) :: (nthI (inns (d + 1) ks) (ks.length - 1) ++ [(d,[125])])
  else bif k == 31 then openL d (headL ⟨k,nm,o,n,l,i,g,ks,p⟩) :: (nthI (inns (d + 1) ks) 1 ++ ((bif elseE ks then [] else (d,[125,32,101,108,115,101,32,123]) :: nthI (inns (d + 1) ks) 2) ++ [(d,[125])]))
  else bif k == 32 then openL d (headL ⟨k,nm,o,n,l,i,g,ks,p⟩) :: (nthI (inns (d + 1) ks) 2 ++ [(d,[125])])
  else [(d,simpL ⟨k,nm,o,n,l,i,g,ks,p⟩ ++ [59])]
def itms (d:Nat):List Node→Lines
 | []=>[]
 | x :: r=>itm d x ++ itms d r
def inn (d:Nat):Node→Lines
 | ⟨_,_,_,_,_,_,_,ks,_⟩=>itms d ks
def inns (d:Nat):List Node→List Lines
 | []=>[]
 | x :: r=>inn d x :: inns d r
end
def lineT (p:Nat × Bytes):Bytes:=repL [32,32] p.1 ++ (p.2 ++ [10])
def linesT (l:Lines):Bytes:=l.flatMap lineT
def srcT (x:Node):Bytes:=linesT (itms 0 x.kids)
end Go.Proofs.YtbecjgckobhmpaaGreatDoor
end
section
namespace Go.Proofs.YtbecjgckobhmpaaGreatDoor
open Go Go.AM Go.Proofs
mutual
def okT:Node→Bool
 | ⟨k,nm,o,n,l,i,g,ks,p⟩=>fieldsB ⟨k,nm,o,n,l,i,g,ks,p⟩ && (kidsB ⟨k,nm,o,n,l,i,g,ks,p⟩ && okTs ks)
def okTs:List Node→Bool
 | []=>true
 | x :: r=>okT x && okTs r
end
theorem okTs_all:(l:List Node)→okTs l = l.all okT
 | []=>by simp [okTs]
 | x :: r=>by simp [okTs,okTs_all r]
theorem okT_eq (x:Node):okT x = (fieldsB x && (kidsB x && x.kids.all okT)):=by
 cases x; simp [okT,okTs_all]
inductive Lim (b:Nat):Node→Prop where
 | mk (x:Node) (h1:(tl x.name).length≤b) (h2:(tl x.other).length≤b) (h3:x.kids.length≤b) (h4:∀ y ∈ x.kids,Lim b y):Lim b x
theorem Lim.mono {b c:Nat} (h:b≤c) {x:Node} (hx:Lim b x):Lim c x:=by
 induction hx with
 | mk x h1 h2 h3 h4 ih=>exact .mk x (by omega) (by omega) (by omega) ih
def okE (x:Node):Prop:=okT x = true∧isE x.kind = true
end Go.Proofs.YtbecjgckobhmpaaGreatDoor
end
section
namespace Go.Proofs.YtbecjgckobhmpaaGreatDoor
open Go Go.AM Go.Proofs
namespace M
variable {α β σ ρ:Type}
def Post (m:M α) (P:α→Nat→Prop):Prop:=∀ fin s a s',TksOk s.rest→m.run fin s = .ok a s'→∃ d,s.rest.length = s'.rest.length + d∧P a d
theorem Post.mono {m:M α} {P Q:α→Nat→Prop} (h:Post m P) (k:∀ a d,P a d→Q a d):Post m Q:=fun fin s a s' ht e=>by
 obtain ⟨d,h1,h2⟩:=h fin s a s' ht e
 exact ⟨d,h1,k a d h2⟩
theorem post_ret {a:α} {P:α→Nat→Prop} (h:P a 0):Post (.ret a) P:=fun fin s b s' _ e=>by
 simp only [run,Out.ok.injEq] at e
 obtain ⟨rfl,rfl⟩:=e
 exact ⟨0,rfl,h⟩
theorem post_fail {b:Bool} {P:α→Nat→Prop}:Post (.fail b) P:=fun fin s a s' _ e=>by cases e
theorem post_out {P:α→Nat→Prop}:Post .out P:=fun fin s a s' _ e=>by cases e
theorem post_look {k:Option (Int × ByteArray)→M α} {P:α→Nat→Prop} (h:∀ t,Post (k t) P):Post (.look k) P:=fun fin s a s' ht e=>h _ fin s a s' ht e
theorem post_pos {k:Int→M α} {P:α→Nat→Prop} (h:∀ t,Post (k t) P):Post (.pos k) P:=fun fin s a s' ht e=>h _ fin s a s' ht e
theorem post_setI {i:Int} {k:M α} {P:α→Nat→Prop} (h:Post k P):Post (.setI i k) P:=fun fin s a s' ht e=>h fin ⟨s.rest,i,s.reps⟩ a s' ht e
theorem post_rep {b:Bool} {k:M α} {P:α→Nat→Prop} (h:Post k P):Post (.rep b k) P:=fun fin s a s' ht e=>h fin ⟨s.rest,s.inner,s.reps ++ [(codeOf b s.rest,posOf fin s.rest)]⟩ a s' ht e
theorem post_adv {k:M α} {P:α→Nat→Prop} (h:Post k fun a d=>P a (d + 1)):Post (.adv k) P:=fun fin s a s' ht e=>by
 obtain ⟨r,i,p⟩:=s
 cases r with
 | nil=>cases e
 | cons t r =>
  obtain ⟨d,h1,h2⟩:=h fin ⟨r,i,p⟩ a s' (fun x hx=>ht x (List.mem_cons_of_mem _ hx)) e
  exact ⟨d + 1,by simp only [List.length_cons] at h1 ⊢; omega,h2⟩
theorem post_cond {c:Bool} {a b:M α} {P:α→Nat→Prop} (h1:Post a P) (h2:Post b P):Post (bif c then a else b) P:=by cases c <;> assumption
theorem post_top (m:M α):Post m fun _ _=>True:=fun fin s a s' _ e=>by
 have h:=run_suf fin m s
 rw [e] at h
 have:=List.IsSuffix.length_le h
 exact ⟨s.rest.length - s'.rest.length,by omega,trivial⟩
theorem post_bind {m:M α} {k:α→M β} {Q:β→Nat→Prop} (P:α→Nat→Prop) (h1:Post m P) (h2:∀ a d,P a d→Post (k a) fun b e=>Q b (d + e)):Post (m.bind k) Q:=fun fin s b s' ht e=>by
 rw [run_bind] at e
 have hsuf:=run_suf fin m s
 cases hr:m.run fin s with
 | ok a s1 =>
  rw [hr] at e hsuf
  obtain ⟨d,h3,h4⟩:=h1 fin s a s1 ht hr
  obtain ⟨d2,h5,h6⟩:=h2 a d h4 fin s1 b s' (ht.suf hsuf) e
  exact ⟨d + d2,by omega,h6⟩
 | bad b s'=>rw [hr] at e; cases e
 | out=>rw [hr] at e; cases e
theorem post_try {m:M α} {k:α→M β} {c:Bool→M β} {Q:β→Nat→Prop} (P:α→Nat→Prop) (h1:Post m P) (h2:∀ a d,P a d→Post (k a) fun b e=>Q b (d + e)) (h3:∀ b d,Post (c b) fun a e=>Q a (d + e)):Post (m.tryM k c) Q:=fun fin s b s' ht e=>by
 rw [run_try] at e
 have hsuf:=run_suf fin m s
 cases hr:m.run fin s with
 | ok a s1 =>
  rw [hr] at e hsuf
  obtain ⟨d,h3,h4⟩:=h1 fin s a s1 ht hr
  obtain ⟨d2,h5,h6⟩:=h2 a d h4 fin s1 b s' (ht.suf hsuf) e
  exact ⟨d + d2,by omega,h6⟩
 | bad c s1 =>
  rw [hr] at e hsuf
  have:=List.IsSuffix.length_le hsuf
  obtain ⟨d2,h5,h6⟩:=h3 c (s.rest.length - s1.rest.length) fin s1 b s' (ht.suf hsuf) e
  exact ⟨_,by omega,h6⟩
 | out=>rw [hr] at e; cases e
theorem post_iter {step:σ→M (σ ⊕ ρ)} {Q:ρ→Nat→Prop} (I:σ→Nat→Prop) (h:∀ x d,I x d→Post (step x) fun r e=>Sum.elim (fun x'=>I x' (d + e)) (fun r=>Q r (d + e)) r):∀ (n:Nat) (x:σ) (d:Nat),I x d→Post (iterM step n x) fun r e=>Q r (d + e)
 | 0,_,_,_=>post_out
 | n + 1,x,d,hi=>post_bind _ (h x d hi) fun r e hr=>by
   cases r with
   | inl x'=>exact (post_iter I h n x' (d + e) hr).mono fun a e2 hq=>by rw [← Nat.add_assoc]; exact hq
   | inr r=>exact post_ret hr
theorem post_accept (a:ByteArray):Post (accept a) fun b d=>d = bif b then 1 else 0:=fun fin s b s' _ e=>by
 rw [run_accept] at e
 obtain ⟨r,i,p⟩:=s
 cases r with
 | nil=>simp only [Out.ok.injEq] at e; obtain ⟨rfl,rfl⟩:=e; exact ⟨0,rfl,rfl⟩
 | cons t r =>
  simp only at e
  cases hc:strEq t.text a <;> rw [hc] at e <;> simp only [cond_true,cond_false,Out.ok.injEq] at e <;> obtain ⟨rfl,rfl⟩:=e
  ·exact ⟨0,rfl,rfl⟩
  ·exact ⟨1,rfl,rfl⟩
theorem post_kw {a:ByteArray} {m m':M α} {Q:α→Nat→Prop} (h1:Post m fun x d=>Q x (1 + d)) (h2:Post m' Q):Post (kw a m m') Q :=
 post_bind _ (post_accept a) fun b d hd=>by
  cases b
  ·subst hd; exact h2.mono fun x e h=>by rw [cond_false,Nat.zero_add]; exact h
  ·subst hd; exact h1
theorem post_expect (a:ByteArray):Post (expect a) fun _ d=>d = 1 :=
 post_bind _ (post_accept a) fun b d hd=>by
  cases b
  ·exact post_fail
  ·exact post_ret hd
theorem post_semi {x:α} {Q:α→Nat→Prop} (h:Q x 1):Post (semi x) Q:=post_bind _ (post_expect _) fun _ d hd=>post_ret (by rw [hd]; exact h)
theorem nameB_of {x:ByteArray} (h1:(tl x).length≤16) (h2:nameCs (tl x) = true) (h3:1≤(tl x).length) (h4:isKey x = false):nameB (tl x) = true:=by
 unfold nameB
 unfold isKey at h4
 rw [decide_eq_true h3,decide_eq_true h1,h2]
 have:keyNames.any (tl x == ·) = false:=h4
 rw [this]
 rfl
theorem post_name:Post name fun x d=>nameB (tl x) = true∧d = 1:=fun fin s a s' ht e=>by
 have h:=AllM.run fin name s a s' name_all ht e
 obtain ⟨r,i,p⟩:=s
 cases r with
 | nil=>cases e
 | cons t r =>
  simp only [name,run,hdOf] at e
  cases hn:isNm (t.kind,t.text) <;> rw [hn] at e
  ·cases e
  ·simp only [cond_true,run,Out.ok.injEq] at e
   obtain ⟨_,rfl⟩:=e
   exact ⟨1,rfl,nameB_of h.1 h.2.1 h.2.2.1 h.2.2.2,rfl⟩
theorem decL_lt:∀ (l:List UInt8) (n v:Nat),decL l n = some v→v < (n + 1) * 10 ^ l.length
 | [],n,v,h=>by simp only [decL,Option.some.injEq] at h; simp; omega
 | b :: r,n,v,h=>by
  unfold decL at h
  split at h
  ·rename_i hb
   have:=decL_lt r _ v h
   rw [List.length_cons,Nat.pow_succ,Nat.mul_comm (10 ^ r.length) 10,← Nat.mul_assoc]
   refine Nat.lt_of_lt_of_le this (Nat.mul_le_mul_right _ ?_)
   omega
  ·cases h
theorem numV_inR {t:Int × ByteArray} (h:TkOk t) (h2:t.1 = 2):inR (numV t.2) = true:=by
 rcases h with h | h | h
 ·omega
 ·obtain ⟨_,h3,h4,h5,_⟩:=h
  obtain ⟨v,hv⟩:=decL_some (tl t.2) 0 h5
  have hlt:=decL_lt _ _ _ hv
  have hpow:10 ^ (tl t.2).length≤10 ^ 9:=Nat.pow_le_pow_right (by omega) h4
  have e:numV t.2 = (v:Int):=by
   unfold numV atoiF
   rw [size_tl,tl_def,hv]
   rw [if_neg (by omega)]
   rfl
  rw [e]
  simp only [inR,Bool.and_eq_true,decide_eq_true_eq]
  omega
 ·omega
theorem post_num:Post num fun v d=>inR v = true∧d = 1:=fun fin s a s' ht e=>by
 obtain ⟨r,i,p⟩:=s
 cases r with
 | nil=>cases e
 | cons t r =>
  simp only [num,run,hdOf] at e
  cases hn:t.kind == 2 <;> rw [hn] at e
  ·cases e
  ·simp only [cond_true,run,Out.ok.injEq] at e
   obtain ⟨rfl,rfl⟩:=e
   exact ⟨1,rfl,numV_inR (ht t (List.mem_cons_self ..)) (by simpa using hn),rfl⟩
theorem post_len:Post len fun v d=>inR v = true∧d = 1:=fun fin s a s' ht e=>by
 obtain ⟨r,i,p⟩:=s
 cases r with
 | nil=>cases e
 | cons t r =>
  simp only [len,run,hdOf] at e
  cases hn:t.kind == 2 <;> rw [hn] at e
  ·cases e
  ·simp only [cond_true] at e
   cases hz:numV t.text == 0 <;> rw [hz] at e
   ·simp only [cond_false,run,Out.ok.injEq] at e
    obtain ⟨rfl,rfl⟩:=e
    exact ⟨1,rfl,numV_inR (ht t (List.mem_cons_self ..)) (by simpa using hn),rfl⟩
   ·cases e
theorem no46 {a:List UInt8} (h:nameB a = true):46 ∉ a:=by
 intro hm
 simp only [nameB,Bool.and_eq_true] at h
 have hc:=h.2
 have hw:∀ l:List UInt8,nameCs l = true→∀ b ∈ l,isWordI b.toNat = true:=by
  intro l hl b hb
  cases l with
  | nil=>cases hb
  | cons x r =>
   simp only [nameCs,Bool.and_eq_true,List.all_eq_true] at hl
   rcases List.mem_cons.1 hb with rfl | hb
   ·simp [isWordI,hl.1]
   ·exact hl.2 b hb
 have:=hw a hc 46 hm
 revert this
 decide
theorem cut_none:∀ (a:List UInt8),46 ∉ a→cutB a = (a,none)
 | [],_=>rfl
 | b :: r,h=>by
  simp only [List.mem_cons,not_or] at h
  have hb:(b == 46) = false:=by
   cases hbb:b == 46
   ·rfl
   ·exact absurd (by simpa using hbb:b = 46).symm h.1
  simp [cutB,hb,cut_none r h.2]
theorem cut_dot:∀ (a r:List UInt8),46 ∉ a→cutB (a ++ 46 :: r) = (a,some r)
 | [],r,_=>by simp [cutB]
 | b :: a,r,h=>by
  simp only [List.mem_cons,not_or] at h
  have hb:(b == 46) = false:=by
   cases hbb:b == 46
   ·rfl
   ·exact absurd (by simpa using hbb:b = 46).symm h.1
  simp [cutB,hb,cut_dot a r h.2]
theorem path_add:∀ (k:Nat) (s y:List UInt8),pathN k s = true→nameB y = true→pathN (k + 1) (s ++ 46 :: y) = true
 | 0,s,y,h,_=>by simp [pathN] at h
 | k + 1,s,y,h,hy=>by
  rw [pathN,Bool.and_eq_true] at h
  have hno:=no46 h.1
  have hspec:=cutB_spec s
  cases hc:(cutB s).2 with
  | none =>
   have e:=(hspec.1 hc).1
   rw [e] at h hno
   rw [pathN,cut_dot s y hno,h.1]
   simp only [Bool.true_and]
   rw [pathN,cut_none y (no46 hy),hy]
   rfl
  | some r =>
   have e:=(hspec.2 r hc).1
   have h2:=h.2
   rw [hc] at h2
   have e2:s ++ 46 :: y = (cutB s).1 ++ 46 :: (r ++ 46 :: y):=by
    conv=>lhs; rw [e]
    simp
   rw [pathN,e2,cut_dot _ _ hno,h.1]
   exact path_add k r y h2 hy
theorem path_up:∀ (k:Nat) (s:List UInt8),pathN k s = true→pathN (k + 1) s = true
 | 0,s,h=>by simp [pathN] at h
 | k + 1,s,h=>by
  rw [pathN,Bool.and_eq_true] at h ⊢
  refine ⟨h.1,?_⟩
  have h2:=h.2
  cases hc:(cutB s).2 with
  | none=>rfl
  | some r =>
   rw [hc] at h2
   exact path_up k r h2
theorem post_path (n:Nat):Post (path n) fun x d=>pathB (tl x) = true∧1≤d:=by
 refine post_bind _ post_name fun x d hx=>?_
 have hI:∀ (s:ByteArray × Int) (d:Nat),(∃ k:Nat,s.2 = (k:Int)∧k≤2∧pathN (k + 1) (tl s.1) = true)→Post (pathS s) fun r e=>Sum.elim (fun s':ByteArray × Int=>∃ k:Nat,s'.2 = (k:Int)∧k≤2∧pathN (k + 1) (tl s'.1) = true) (fun r=>pathB (tl r) = true) r:=by
  rintro ⟨x,i⟩ d ⟨k,hk,h2,h3⟩
  simp only at hk h3
  subst hk
  have hB:pathB (tl x) = true:=by
   unfold pathB
   have:k = 0∨k = 1∨k = 2:=by omega
   rcases this with rfl | rfl | rfl
   ·exact path_up _ _ (path_up _ _ h3)
   ·exact path_up _ _ h3
   ·exact h3
  unfold pathS
  simp only
  cases hc:decide ((k:Int) < 2)
  ·exact post_ret hB
  ·have hc':k < 2:=by have:=of_decide_eq_true hc; omega
   refine post_bind _ (post_accept _) fun b d1 _=>?_
   cases b
   ·exact post_ret hB
   ·refine post_bind _ post_name fun y d2 hy=>post_ret ⟨k + 1,by simp,by omega,?_⟩
    exact path_add _ _ _ h3 hy.1
 refine (post_iter (fun s _=>∃ k:Nat,s.2 = (k:Int)∧k≤2∧pathN (k + 1) (tl s.1) = true) (Q:=fun r _=>pathB (tl r) = true) (fun s d hs=>hI s d hs) n (x,0) 0 ⟨0,rfl,by omega,?_⟩).mono fun r e hr=>⟨hr,by omega⟩
 simp only
 rw [pathN,cut_none _ (no46 hx.1),hx.1]
 rfl
theorem okT_of {x:Node} (hf:fieldsB x = true) (hk:kidsB x = true) (h:∀ y ∈ x.kids,okT y = true):okT x = true:=by
 rw [okT_eq,hf,hk]
 simpa using h
def QE (e:Node) (d:Nat):Prop:=okE e∧sz e≤d
def QR (e:Node) (d:Nat):Prop:=okT e = true∧e.kind = 2∧sz e≤d
def QL (P:Node→Prop) (l:List Node) (d:Nat):Prop:=(∀ y ∈ l,okT y = true∧P y)∧szs l≤d
theorem QR.e {e:Node} {d:Nat} (h:QR e d):QE e d:=⟨⟨h.1,by rw [h.2.1]; rfl⟩,h.2.2⟩
theorem QE.mono {e:Node} {d d':Nat} (h:QE e d) (hd:d≤d'):QE e d':=⟨h.1,by have:=h.2; omega⟩
theorem sz0 {k:Int} {a b:ByteArray} {n l i:Int} {g:Bool} {p:Int}:sz (Node.mk k a b n l i g [] p) = 1:=rfl
theorem sz1 {k:Int} {a b:ByteArray} {n l i:Int} {g:Bool} {x:Node} {p:Int}:sz (Node.mk k a b n l i g [x] p) = 1 + sz x:=rfl
theorem sz2 {k:Int} {a b:ByteArray} {n l i:Int} {g:Bool} {x y:Node} {p:Int}:sz (Node.mk k a b n l i g [x,y] p) = 1 + sz x + sz y:=by simp [sz,szs]; omega
theorem sz3 {k:Int} {a b:ByteArray} {n l i:Int} {g:Bool} {x y z:Node} {p:Int}:sz (Node.mk k a b n l i g [x,y,z] p) = 1 + sz x + sz y + sz z:=by simp [sz,szs]; omega
theorem szL {k:Int} {a b:ByteArray} {n l i:Int} {g:Bool} {ks:List Node} {p:Int}:sz (Node.mk k a b n l i g ks p) = 1 + szs ks:=rfl
theorem ok_leaf {k:Int} {a b:ByteArray} {n l i:Int} {g:Bool} {p:Int} (hk:leafK k = true) (hf:fieldsB (Node.mk k a b n l i g [] p) = true):okT (Node.mk k a b n l i g [] p) = true :=
 okT_of hf (by simp [kidsB,hk]) (by simp)
theorem ok_num {v p:Int} (h:inR v = true):okE (Node.mk 1 (bs []) (bs []) v 0 0 false [] p) :=
 ⟨ok_leaf rfl (by simp [fieldsB,fldGood,hasName,hasOther,hasN,h,strEq_self]),rfl⟩
theorem post_numNode:Post numNode fun e d=>QE e d∧e.kind = 1:=post_pos fun p=>post_bind _ post_num fun v d hv=>post_ret ⟨⟨ok_num hv.1,by rw [sz0]; omega⟩,rfl⟩
theorem ok_ref0 {x:ByteArray} {p:Int} (h:pathB (tl x) = true):okT (Node.mk 2 x (bs []) 0 0 0 false [] p) = true :=
 okT_of (by simp [fieldsB,fldGood,hasName,hasOther,hasN,h,strEq_self]) (by simp [kidsB,leafK]) (by simp)
theorem ok_ref1 {x:ByteArray} {p:Int} {e:Node} (h:pathB (tl x) = true) (he:okE e):okT (Node.mk 2 x (bs []) 0 0 0 false [e] p) = true :=
 okT_of (by simp [fieldsB,fldGood,hasName,hasOther,hasN,h,strEq_self]) (by simp [kidsB,leafK,ex1,eX,he.2]) (by simp [he.1])
theorem ok_old {p:Int} {e:Node} (he:okT e = true) (h2:e.kind = 2):okE (Node.mk 3 (bs []) (bs []) 0 0 0 false [e] p) :=
 ⟨okT_of (by simp [fieldsB,fldGood,hasName,hasOther,hasN,strEq_self]) (by simp [kidsB,leafK,ex1,kX,h2]) (by simp [he]),rfl⟩
theorem ok_not {p:Int} {e:Node} (he:okE e):okE (Node.mk 4 (bs []) (bs []) 0 0 0 false [e] p) :=
 ⟨okT_of (by simp [fieldsB,fldGood,hasName,hasOther,hasN,strEq_self]) (by simp [kidsB,leafK,oneK,ex1,eX,he.2]) (by simp [he.1]),rfl⟩
theorem ok_bin {p:Int} {a b:Node} {x:ByteArray} (hx:levelI x≠0) (ha:okE a) (hb:okE b):okE (Node.mk 5 x (bs []) 0 0 0 false [a,b] p) :=
 ⟨okT_of (by simp [fieldsB,fldGood,hasName,hasOther,hasN,strEq_self,hx]) (by simp [kidsB,leafK,oneK,ex2,eX,ha.2,hb.2]) (by simp [ha.1,hb.1]),rfl⟩
theorem ok_cond {p:Int} {a b c:Node} (ha:okE a) (hb:okE b) (hc:okE c):okE (Node.mk 6 (bs []) (bs []) 0 0 0 false [a,b,c] p) :=
 ⟨okT_of (by simp [fieldsB,fldGood,hasName,hasOther,hasN,strEq_self]) (by simp [kidsB,leafK,oneK,ex3,eX,ha.2,hb.2,hc.2]) (by simp [ha.1,hb.1,hc.1]),rfl⟩
theorem ok_quant {k p v:Int} {e:Node} {x:ByteArray} (hk:k = 7∨k = 8) (hx:nameB (tl x) = true) (hv:inR v = true) (he:okE e):okE (Node.mk k x (bs []) v 0 0 false [e] p):=by
 rcases hk with rfl | rfl
 ·exact ⟨okT_of (by simp [fieldsB,fldGood,hasName,hasOther,hasN,strEq_self,hx,hv]) (by simp [kidsB,leafK,oneK,ex1,eX,he.2]) (by simp [he.1]),rfl⟩
 ·exact ⟨okT_of (by simp [fieldsB,fldGood,hasName,hasOther,hasN,strEq_self,hx,hv]) (by simp [kidsB,leafK,oneK,ex1,eX,he.2]) (by simp [he.1]),rfl⟩
theorem post_refS {mE:M Node} (hE:Post mE QE) (n:Nat):Post (refS mE n) QR:=by
 refine post_pos fun p=>post_bind _ (post_path n) fun x d hx=>post_kw ?_ (post_ret ⟨ok_ref0 hx.1,rfl,by rw [sz0]; omega⟩)
 refine post_bind _ hE fun e d2 he=>post_bind _ (post_expect _) fun _ d3 h3=>post_ret ⟨ok_ref1 hx.1 he.1,rfl,?_⟩
 have:=he.2
 rw [sz1]
 omega
theorem post_binL {mB:Int→M Node} (hB:∀ a,Post (mB a) QE) (a:Int) (n:Nat) (x:Node) (d:Nat) (hx:QE x d):Post (iterM (binStep mB a) n (10,x)) fun r e=>QE r (d + e):=by
 refine post_iter (fun s d=>QE s.2 d) (Q:=QE) (fun s d hs=>?_) n (10,x) d hx
 refine post_look fun t=>post_pos fun p=>?_
 cases hc:((levelI (textO t) == 0) || decide (levelI (textO t) < a)) || decide (s.1 < levelI (textO t))
 ·simp only [Bool.or_eq_false_iff,beq_eq_false_iff_ne] at hc
  refine post_adv ?_
  have hr:Post (rightS mB (levelI (textO t))) fun j e=>QE j.2 e:=by
   refine post_cond ?_ (post_cond ?_ ?_) <;> exact post_bind _ (hB _) fun r e hr=>post_ret (by rw [Nat.add_zero]; exact hr)
  refine post_bind _ hr fun j e hj=>post_ret ?_
  refine ⟨ok_bin hc.1.1 hs.1 hj.1,?_⟩
  have h1:=hs.2
  have h2:=hj.2
  rw [sz2]
  omega
 ·exact post_ret hs
theorem post_exprs:∀ n,Post (ref n) QR∧Post (unary n) QE∧(∀ a,Post (bin n a) QE)∧Post (cond n) QE∧Post (expr n) QE
 | 0=>by
  refine ⟨?_,?_,fun a=>?_,?_,?_⟩
  ·rw [ref]; exact post_out
  ·rw [unary]; exact post_out
  ·rw [bin]; exact post_out
  ·rw [cond]; exact post_out
  ·rw [expr]; exact post_out
 | n + 1=>by
  obtain ⟨h1,h2,h3,h4,h5⟩:=post_exprs n
  refine ⟨?_,?_,fun a=>?_,?_,?_⟩
  ·rw [ref]; exact post_refS h5 n
  ·rw [unary]
   refine post_pos fun p=>post_kw (post_bind _ h2 fun e d he=>post_ret ⟨ok_not he.1,by have:=he.2; rw [sz1]; omega⟩) (post_look fun t=>post_cond (post_numNode.mono fun _ _ h=>h.1) ?_)
   refine post_kw ?_ (post_kw ?_ (h1.mono fun _ _ h=>h.e))
   ·refine post_bind _ (post_expect _) fun _ d1 hd1=>post_bind _ h1 fun e d he=>post_bind _ (post_expect _) fun _ d2 hd2=>post_ret ⟨ok_old he.1 he.2.1,?_⟩
    have:=he.2.2
    rw [sz1]; omega
   ·exact post_bind _ h5 fun e d he=>post_bind _ (post_expect _) fun _ d2 hd2=>post_ret (he.mono (by omega))
  ·rw [bin]
   exact post_bind _ h2 fun x d hx=>post_binL h3 a n x d hx
  ·rw [cond]
   refine post_bind _ (h3 2) fun x d hx=>post_pos fun p=>post_bind _ (post_accept _) fun b d1 hd1=>?_
   cases b
   ·exact post_ret (hx.mono (by omega))
   ·refine post_bind _ h4 fun y d2 hy=>post_bind _ (post_expect _) fun _ d3 h3=>post_bind _ h4 fun z d4 hz=>post_ret ⟨ok_cond hx.1 hy.1 hz.1,?_⟩
    have e1:=hx.2
    have e2:=hy.2
    have e3:=hz.2
    simp only [cond_true] at hd1
    rw [sz3]; omega
  ·rw [expr]
   have hq:∀ k,k = 7∨k = 8→Post (quant (expr n) k) QE:=fun k hk=>by
    refine post_pos fun p=>post_adv (post_bind _ post_name fun x d1 hx=>post_bind _ (post_expect _) fun _ d2 h2=>post_bind _ post_num fun v d3 hv=>post_bind _ (post_expect _) fun _ d4 h4=>post_bind _ h5 fun e d5 he=>post_ret ⟨ok_quant hk hx.1 hv.1 he.1,?_⟩)
    have:=he.2
    rw [sz1]; omega
   exact post_look fun t=>post_cond (hq 7 (.inl rfl)) (post_cond (hq 8 (.inr rfl)) h4)
theorem post_expr (n:Nat):Post (expr n) QE:=(post_exprs n).2.2.2.2
theorem post_ref (n:Nat):Post (ref n) QR:=(post_exprs n).1
theorem QL.app {P:Node→Prop} {a b:List Node} {d e:Nat} (h1:QL P a d) (h2:QL P b e):QL P (a ++ b) (d + e):=by
 refine ⟨fun y hy=>?_,by have:=h1.2; have:=h2.2; rw [szs_append]; omega⟩
 rcases List.mem_append.1 hy with h | h
 ·exact h1.1 y h
 ·exact h2.1 y h
theorem QL.mono {P:Node→Prop} {l:List Node} {d d':Nat} (h:QL P l d) (hd:d≤d'):QL P l d':=⟨h.1,by have:=h.2; omega⟩
theorem QL.nil {P:Node→Prop} {d:Nat}:QL P [] d:=⟨by simp,by simp [szs]⟩
theorem QL.one {P:Node→Prop} {x:Node} {d:Nat} (h1:okT x = true) (h2:P x) (h3:sz x≤d):QL P [x] d:=⟨by simp [h1,h2],by simpa [szs] using h3⟩
theorem post_partsL {part:M (List Node)} {P:Node→Prop} {Pt:List Node→Prop} (hp:Post part fun l d=>QL P l d∧Pt l) (happ:∀ a b,Pt a→Pt b→Pt (a ++ b)) (n:Nat) (x:List Node) (d:Nat) (hx:QL P x d∧Pt x) :
  Post (iterM (partsL part) n x) fun r e=>QL P r (d + e)∧Pt r:=by
 refine post_iter (fun l d=>QL P l d∧Pt l) (Q:=fun l d=>QL P l d∧Pt l) (fun l d hl=>?_) n x d hx
 refine post_kw (post_bind _ hp fun y e hy=>post_ret ?_) (post_ret hl)
 exact ⟨(hl.1.app hy.1).mono (by omega),happ _ _ hl.2 hy.2⟩
theorem post_some {part:M (List Node)} {P:Node→Prop} {Pt:List Node→Prop} (hp:Post part fun l d=>QL P l d∧Pt l) (happ:∀ a b,Pt a→Pt b→Pt (a ++ b)) (n:Nat):Post (some' n part) fun l d=>QL P l d∧Pt l :=
 post_bind _ hp fun x d hx=>post_partsL hp happ n x d hx
theorem post_parts {part:M (List Node)} {P:Node→Prop} {Pt:List Node→Prop} (hp:Post part fun l d=>QL P l d∧Pt l) (happ:∀ a b,Pt a→Pt b→Pt (a ++ b)) (h0:Pt []) (n:Nat) (a:ByteArray):Post (parts n a part) fun l d=>QL P l d∧Pt l :=
 post_kw (post_ret ⟨QL.nil,h0⟩) (post_bind _ hp fun x d hx=>post_bind _ (post_partsL hp happ n x d hx) fun l e hl=>post_bind _ (post_expect _) fun _ e2 h2=>post_ret ⟨hl.1.mono (by omega),hl.2⟩)
theorem post_one {m:M Node} {P:Node→Prop} (h:Post m fun x d=>okT x = true∧P x∧sz x≤d):Post (one m) fun l d=>QL P l d∧True :=
 post_bind _ h fun x d hx=>post_ret ⟨QL.one hx.1 hx.2.1 (by have:=hx.2.2; omega),trivial⟩
theorem post_list {item:M Node} {P:Node→Prop} (h:Post item fun x d=>okT x = true∧P x∧sz x≤d) (n:Nat) (closed:Bool):Post (list n closed item) (QL P):=by
 have:=post_iter (step:=listS n closed item) (fun l d=>QL P l d) (Q:=QL P) (fun l d hl=>?_) n [] 0 QL.nil
 ·exact this.mono fun l d hl=>by rw [Nat.zero_add] at hl; exact hl
 ·refine post_look fun t=>post_cond (post_cond post_fail (post_ret hl)) (post_bind _ (post_top _) fun b d1 _=>post_cond (post_ret (hl.mono (by omega))) ?_)
  refine post_try _ h (fun x d2 hx=>post_ret ?_) (fun b d2=>post_rep (post_bind _ (post_top _) fun _ d3 _=>post_ret (hl.mono (by omega))))
  exact (hl.app (QL.one hx.1 hx.2.1 hx.2.2)).mono (by omega)
theorem post_sized (k:Int) (g:Bool) (p:Int) (hk:(k = 58∨k = 52)∧g = false∨k = 35):Post (sized k g p) fun x d=>okT x = true∧x.kind = k∧sz x≤d:=by
 refine post_bind _ post_name fun x d1 hx=>post_bind _ (post_expect _) fun _ d2 h2=>post_bind _ post_num fun v d3 hv=>post_ret ⟨?_,rfl,by rw [sz0]; omega⟩
 rcases hk with ⟨rfl | rfl,rfl⟩ | rfl
 ·exact ok_leaf rfl (by simp [fieldsB,fldGood,hasName,hasOther,hasN,strEq_self,hx.1,hv.1])
 ·exact ok_leaf rfl (by simp [fieldsB,fldGood,hasName,hasOther,hasN,strEq_self,hx.1,hv.1])
 ·exact ok_leaf rfl (by simp [fieldsB,fldGood,hasName,hasOther,hasN,strEq_self,hx.1,hv.1])
theorem post_field:Post field fun x d=>okT x = true∧x.kind = 52∧sz x≤d:=post_pos fun p=>post_bind _ (post_sized 52 false p (.inl ⟨.inr rfl,rfl⟩)) fun x d hx=>post_semi ⟨hx.1,hx.2.1,by have:=hx.2.2; omega⟩
theorem post_param:Post param fun x d=>okT x = true∧x.kind = 58∧sz x≤d:=post_pos fun p=>post_sized 58 false p (.inl ⟨.inl rfl,rfl⟩)
theorem post_pathNode (n:Nat):Post (pathNode n) fun x d=>okT x = true∧plainX x = true∧sz x≤d:=post_pos fun p=>post_bind _ (post_path n) fun x d hx=>post_ret ⟨ok_ref0 hx.1,rfl,by rw [sz0]; omega⟩
theorem pairs_app:∀ a b:List Node,pairsB a = true→pairsB b = true→pairsB (a ++ b) = true
 | [],b,_,h=>h
 | [_],_,h,_=>by simp [pairsB] at h
 | x :: y :: r,b,h,hb=>by
  simp only [pairsB,List.cons_append,Bool.and_eq_true] at h ⊢
  exact ⟨h.1,h.2.1,pairs_app r b h.2.2 hb⟩
theorem post_assign (n:Nat):Post (assign n) fun l d=>QL (fun _=>True) l d∧(pairsB l = true∧l≠[]):=by
 refine post_bind _ (post_ref n) fun a d1 ha=>post_bind _ (post_expect _) fun _ d2 h2=>post_bind _ (post_expr n) fun e d3 he=>post_ret ⟨⟨?_,?_⟩,?_,by simp⟩
 ·simp [ha.1,he.1.1]
 ·have:=ha.2.2
  have:=he.2
  simp only [szs]
  omega
 ·simp [pairsB,ha.2.1,he.1.2]
theorem post_with (n:Nat):Post (with' n) fun l d=>QL (fun _=>True) l d∧pairsB l = true:=by
 refine post_bind _ (post_accept _) fun b d hd=>?_
 cases b
 ·exact post_ret ⟨QL.nil,rfl⟩
 ·exact (post_some ((post_assign n).mono fun l d h=>⟨h.1,h.2.1⟩) pairs_app n).mono fun l e h=>⟨h.1.mono (by omega),h.2⟩
theorem ok_none {p:Int}:okT (none' 63 p) = true:=ok_leaf rfl (by simp [fieldsB,fldGood,hasName,hasOther,hasN,strEq_self])
theorem post_atomic (n:Nat) (p:Int):Post (atomic n p) fun l d=>(∀ y ∈ l,okT y = true)∧atomK l = true∧szs l≤d:=by
 refine post_bind _ (post_expect _) fun _ d1 h1=>post_setI (post_bind _ (post_parts ((post_assign n).mono fun l d h=>⟨h.1,h.2.1⟩) pairs_app rfl n _) fun l d2 hl=>post_setI (post_kw (post_bind _ (post_expr n) fun e d3 he=>post_ret ?_) (post_ret ?_)))
 ·refine ⟨fun y hy=>?_,?_,?_⟩
  ·rcases List.mem_cons.1 hy with rfl | hy
   ·exact he.1.1
   ·exact (hl.1.1 y hy).1
  ·simp [atomK,enX,he.1.2,hl.2]
  ·have h3:=he.2
   have h4:=hl.1.2
   simp only [List.cons_append,List.nil_append,szs]
   omega
 ·refine ⟨fun y hy=>?_,?_,?_⟩
  ·rcases List.mem_cons.1 hy with rfl | hy
   ·exact ok_none
   ·exact (hl.1.1 y hy).1
  ·simp [atomK,enX,none',hl.2]
  ·have h4:=hl.1.2
   simp only [List.cons_append,List.nil_append,szs,none',sz0]
   omega
theorem post_cas (n:Nat):Post (cas n) fun l d=>(∀ y ∈ l,okT y = true)∧casK l = true∧szs l≤d:=by
 refine post_bind _ (post_ref n) fun a d1 ha=>post_bind _ (post_expect _) fun _ d2 _=>post_bind _ (post_expr n) fun b d3 hb=>post_bind _ (post_expect _) fun _ d4 _ =>
  post_bind _ (post_expr n) fun c d5 hc=>post_bind _ (post_expect _) fun _ d6 _=>post_bind _ (post_ref n) fun e d7 he=>post_bind _ (post_with n) fun l d8 hl=>post_ret ?_
 refine ⟨fun y hy=>?_,?_,?_⟩
 ·simp only [List.mem_append,List.mem_singleton] at hy
  rcases hy with (((rfl | rfl) | rfl) | rfl) | hy
  ·exact ha.1
  ·exact hb.1.1
  ·exact hc.1.1
  ·exact he.1
  ·exact (hl.1.1 y hy).1
 ·simp [casK,kX,eX,ha.2.1,hb.1.2,hc.1.2,he.2.1,hl.2]
 ·have h1:=ha.2.2
  have h2:=hb.2
  have h3:=hc.2
  have h4:=he.2.2
  have h5:=hl.1.2
  simp only [szs_append,szs]
  omega
theorem post_listC {item:M Node} {P:Node→Prop} (h:Post item fun x d=>okT x = true∧P x∧sz x≤d) (n:Nat):Post (list n true item) fun l d=>QL P l (d - 1)∧1≤d:=by
 have:=post_iter (step:=listS n true item) (fun l d=>QL P l d) (Q:=fun l d=>QL P l (d - 1)∧1≤d) (fun l d hl=>?_) n [] 0 QL.nil
 ·exact this.mono fun l d hl=>by rw [Nat.zero_add] at hl; exact hl
 ·refine post_look fun t=>post_cond (by exact post_fail) (post_bind _ (post_accept _) fun b d1 hd=>?_)
  cases b
  ·refine post_try _ h (fun x d2 hx=>post_ret ?_) (fun b d2=>post_rep (post_bind _ (post_top _) fun _ d3 _=>post_ret (hl.mono (by omega))))
   exact (hl.app (QL.one hx.1 hx.2.1 hx.2.2)).mono (by omega)
  ·simp only [cond_true] at hd
   exact post_ret ⟨hl.mono (by omega),by omega⟩
def QS (x:Node) (d:Nat):Prop:=okT x = true∧isStmt x.kind = true∧sz x≤d
def QB (x:Node) (d:Nat):Prop:=okT x = true∧x.kind = 34∧sz x + 1≤d
theorem ok_nd {k:Int} {x:ByteArray} {l:List Node} {p:Int} (hf:fieldsB (nd k x l p) = true) (hk:kidsB (nd k x l p) = true) (h:∀ y ∈ l,okT y = true):okT (nd k x l p) = true:=okT_of hf hk h
theorem post_stmtS {mIf mWh:Int→M Node} (h1:∀ p,Post (mIf p) fun x d=>okT x = true∧isStmt x.kind = true∧sz x≤1 + d) (h2:∀ p,Post (mWh p) fun x d=>okT x = true∧isStmt x.kind = true∧sz x≤1 + d) (n:Nat):Post (stmtS mIf mWh n) QS:=by
 refine post_pos fun p=>?_
 have hE:=post_expr n
 refine post_kw (h1 p) ?_
 refine post_kw (h2 p) ?_
 refine post_kw (post_bind _ hE fun e d he=>post_semi ⟨ok_nd (by simp [nd,fieldsB,fldGood,hasName,hasOther,hasN,strEq_self]) (by simp [nd,kidsB,leafK,oneK,ex1,eX,he.1.2]) (by simp [he.1.1]),rfl,by have:=he.2; simp only [nd,sz1]; omega⟩) ?_
 refine post_kw (post_bind _ hE fun e d he=>post_semi ⟨ok_nd (by simp [nd,fieldsB,fldGood,hasName,hasOther,hasN,strEq_self]) (by simp [nd,kidsB,leafK,oneK,ex1,eX,he.1.2]) (by simp [he.1.1]),rfl,by have:=he.2; simp only [nd,sz1]; omega⟩) ?_
 refine post_kw (post_semi ⟨ok_nd (by simp [nd,fieldsB,fldGood,hasName,hasOther,hasN,strEq_self]) (by simp [nd,kidsB,leafK]) (by simp),rfl,by simp only [nd,sz0]; omega⟩) ?_
 refine post_kw (post_semi ⟨ok_nd (by simp [nd,fieldsB,fldGood,hasName,hasOther,hasN,strEq_self]) (by simp [nd,kidsB,leafK]) (by simp),rfl,by simp only [nd,sz0]; omega⟩) ?_
 refine post_kw (post_bind _ (post_atomic n p) fun l d hl=>post_semi ⟨ok_nd (by simp [nd,fieldsB,fldGood,hasName,hasOther,hasN,strEq_self]) (by simp [nd,kidsB,leafK,oneK,hl.2.1]) hl.1,rfl,by have:=hl.2.2; simp only [nd,szL]; omega⟩) ?_
 refine post_kw (post_bind _ (post_cas n) fun l d hl=>post_semi ⟨ok_nd (by simp [nd,fieldsB,fldGood,hasName,hasOther,hasN,strEq_self]) (by simp [nd,kidsB,leafK,oneK,hl.2.1]) hl.1,rfl,by have:=hl.2.2; simp only [nd,szL]; omega⟩) ?_
 refine post_kw (post_bind _ (post_path n) fun x d hx=>post_semi ⟨ok_nd (by simp [nd,fieldsB,fldGood,hasName,hasOther,hasN,strEq_self,hx.1]) (by simp [nd,kidsB,leafK]) (by simp),rfl,by simp only [nd,sz0]; omega⟩) ?_
 refine post_kw (post_bind _ (post_path n) fun x d hx=>post_semi ⟨ok_nd (by simp [nd,fieldsB,fldGood,hasName,hasOther,hasN,strEq_self,hx.1]) (by simp [nd,kidsB,leafK]) (by simp),rfl,by simp only [nd,sz0]; omega⟩) ?_
 refine post_kw (post_bind _ post_name fun x d hx=>post_semi ⟨ok_nd (by simp [nd,fieldsB,fldGood,hasName,hasOther,hasN,strEq_self,hx.1]) (by simp [nd,kidsB,leafK]) (by simp),rfl,by simp only [nd,sz0]; omega⟩) ?_
 refine post_kw (post_bind _ post_name fun x d hx=>post_semi ⟨ok_nd (by simp [nd,fieldsB,fldGood,hasName,hasOther,hasN,strEq_self,hx.1]) (by simp [nd,kidsB,leafK]) (by simp),rfl,by simp only [nd,sz0]; omega⟩) ?_
 refine post_kw (post_bind _ (post_path n) fun x d hx=>post_bind _ (post_expect _) fun _ d2 _=>post_bind _ (post_parts (Pt:=fun _=>True) (post_one (P:=fun y=>eX y = true) (hE.mono fun e d h=>⟨h.1.1,h.1.2,h.2⟩)) (fun _ _ _ _=>trivial) trivial n _) fun l d3 hl=>post_semi ⟨ok_nd (by simp [nd,fieldsB,fldGood,hasName,hasOther,hasN,strEq_self,hx.1]) ?_ (fun y hy=>(hl.1.1 y hy).1),rfl,by have:=hl.1.2; simp only [nd,szL]; omega⟩) ?_
 ·simp only [nd,kidsB,leafK,oneK]
  have:l.all eX = true:=List.all_eq_true.2 fun y hy=>(hl.1.1 y hy).2
  simp [this]
 refine post_kw (post_bind _ (post_expect _) fun _ d1 _=>post_bind _ (post_sized 35 true p (.inr rfl)) fun x d hx=>post_semi ⟨hx.1,by rw [hx.2.1]; rfl,by have:=hx.2.2; omega⟩) ?_
 refine post_kw (post_bind _ (post_sized 35 false p (.inr rfl)) fun x d hx=>post_semi ⟨hx.1,by rw [hx.2.1]; rfl,by have:=hx.2.2; omega⟩) ?_
 refine post_bind (fun j _=>∃ v:Int,(v = 0∨v = 1)∧j = Node.mk 21 (bs []) (bs []) v 0 0 false [] p) (post_kw (post_ret ⟨1,.inr rfl,rfl⟩) (post_ret ⟨0,.inl rfl,rfl⟩)) fun j d0 hj=>?_
 refine post_bind _ (post_assign n) fun a d1 ha=>post_bind _ (post_with n) fun w d2 hw=>post_semi ?_
 obtain ⟨v,hv,rfl⟩:=hj
 refine ⟨okT_of ?_ ?_ ?_,rfl,?_⟩
 ·rcases hv with rfl | rfl <;> simp [fieldsB,fldGood,hasName,hasOther,hasN,strEq_self]
 ·have h1:=pairs_app a w ha.2.1 hw.2
  have h2:(a ++ w).isEmpty = false:=by
   cases a with
   | nil=>exact absurd rfl ha.2.2
   | cons x r=>rfl
  simp [kidsB,leafK,oneK,h1,ha.2.2]
 ·intro y hy
  rcases List.mem_append.1 hy with h | h
  ·exact (ha.1.1 y h).1
  ·exact (hw.1.1 y h).1
 ·have h1:=ha.1.2
  have h2:=hw.1.2
  simp only [szL,szs_append]
  omega
theorem post_stmts:∀ n,(∀ p,Post (loop n p) fun x d=>okT x = true∧isStmt x.kind = true∧sz x≤1 + d)∧(∀ p,Post (branch n p) fun x d=>okT x = true∧isStmt x.kind = true∧sz x≤1 + d)∧Post (stmt n) QS∧Post (stmts n) (fun l d=>QL (fun y=>isStmt y.kind = true) l (d - 1)∧1≤d)∧Post (block n) QB
 | 0=>by
  refine ⟨fun p=>?_,fun p=>?_,?_,?_,?_⟩
  ·rw [loop]; exact post_out
  ·rw [branch]; exact post_out
  ·rw [stmt]; exact post_out
  ·rw [stmts]; exact post_out
  ·rw [block]; exact post_out
 | n + 1=>by
  obtain ⟨h1,h2,h3,h4,h5⟩:=post_stmts n
  have hE:=post_expr n
  refine ⟨fun p=>?_,fun p=>?_,?_,?_,?_⟩
  ·rw [loop]
   refine post_bind _ hE fun c d1 hc=>post_bind (fun v d=>okT v = true∧enX v = true∧sz v≤d + 1) (post_kw (hE.mono fun e d h=>⟨h.1.1,by simp [enX,h.1.2],by have:=h.2; omega⟩) (post_ret ⟨ok_none,rfl,by simp [none',sz0]⟩)) fun v d2 hv=>post_bind _ h5 fun b d3 hb=>post_ret ⟨?_,rfl,?_⟩
   ·exact okT_of (by simp [fieldsB,fldGood,hasName,hasOther,hasN,strEq_self]) (by simp [kidsB,leafK,oneK,ex3,eX,kX,hc.1.2,hv.2.1,hb.2.1]) (by simp [hc.1.1,hv.1,hb.1])
   ·have e1:=hc.2
    have e2:=hv.2.2
    have e3:=hb.2.2
    rw [sz3]; omega
  ·rw [branch]
   refine post_bind _ hE fun c d1 hc=>post_bind _ h5 fun a d2 ha=>post_bind (fun v d=>okT v = true∧v.kind = 34∧sz v≤d + 1) (post_kw (h5.mono fun e d h=>⟨h.1,h.2.1,by have:=h.2.2; omega⟩) (post_ret ⟨okT_of (by simp [none',fieldsB,fldGood,hasName,hasOther,hasN,strEq_self]) (by simp [none',kidsB,leafK,oneK]) (by simp [none']),rfl,by simp [none',sz0]⟩)) fun b d3 hb=>post_ret ⟨?_,rfl,?_⟩
   ·exact okT_of (by simp [fieldsB,fldGood,hasName,hasOther,hasN,strEq_self]) (by simp [kidsB,leafK,oneK,ex3,eX,kX,hc.1.2,ha.2.1,hb.2.1]) (by simp [hc.1.1,ha.1,hb.1])
   ·have e1:=hc.2
    have e2:=ha.2.2
    have e3:=hb.2.2
    rw [sz3]; omega
  ·rw [stmt]; exact post_stmtS h2 h1 n
  ·rw [stmts]; exact post_listC h3 n
  ·rw [block]
   refine post_pos fun p=>post_bind _ (post_expect _) fun _ d1 _=>post_bind _ h4 fun l d2 hl=>post_ret ⟨?_,rfl,?_⟩
   ·have:l.all (fun y=>isStmt y.kind) = true:=List.all_eq_true.2 fun y hy=>(hl.1.1 y hy).2
    exact okT_of (by simp [fieldsB,fldGood,hasName,hasOther,hasN,strEq_self]) (by simp only [kidsB,leafK,oneK]; simp [this]) (fun y hy=>(hl.1.1 y hy).1)
   ·have e1:=hl.1.2
    have e2:=hl.2
    rw [szL]; omega
def QD (x:Node) (d:Nat):Prop:=okT x = true∧isDecl x.kind = true∧sz x≤d
theorem post_shared (g:Bool) (p:Int):Post (shared g p) fun x d=>okT x = true∧x.kind = 50∧sz x≤d:=by
 refine post_bind _ post_name fun x d1 hx=>post_bind (fun j _=>∃ l,inR l = true∧j = Node.mk 50 x (bs []) 0 l 0 g [] p) (post_kw (post_bind _ post_len fun l d hl=>post_bind _ (post_expect _) fun _ d2 _=>post_ret ⟨l,hl.1,rfl⟩) (post_ret ⟨0,rfl,rfl⟩)) fun j d2 hj=>?_
 obtain ⟨l,hl,rfl⟩:=hj
 refine post_bind _ (post_expect _) fun _ d3 _=>post_bind (fun j _=>∃ o v,inR v = true∧(strEq o (bs []) || ((v == 0) && nameB (tl o))) = true∧j = Node.mk 50 x o v l 0 g [] p) (post_look fun t=>post_cond (post_bind _ post_name fun o d ho=>post_ret ⟨o,0,rfl,by simp [ho.1],rfl⟩) (post_bind _ post_num fun v d hv=>post_ret ⟨bs [],v,hv.1,by simp [strEq_self],rfl⟩)) fun j d4 hj=>?_
 obtain ⟨o,v,hv,ho,rfl⟩:=hj
 refine post_bind (fun j _=>∃ i,inR i = true∧j = Node.mk 50 x o v l i g [] p) (post_kw (post_bind _ post_num fun v d hv=>post_ret ⟨v,hv.1,rfl⟩) (post_ret ⟨0,rfl,rfl⟩)) fun j d5 hj=>?_
 obtain ⟨i,hi,rfl⟩:=hj
 refine post_semi ⟨ok_leaf rfl ?_,rfl,by rw [sz0]; omega⟩
 simp only [fieldsB,fldGood,hasName,hasOther,hasN]
 have ho':strEq o (bs []) = true∨v = 0∧nameB (tl o) = true:=by simpa using ho
 simp [hx.1,hv,hl,hi,ho']
theorem post_decl (n:Nat):Post (decl n) QD:=by
 have hE:=post_expr n
 refine post_pos fun p=>post_bind (fun j d=>match j with | .inl x=>QD x d | .inr x=>QD x d) ?_ fun j d hj=>?_
 ·refine post_kw (post_bind _ post_name fun x d1 hx=>post_bind _ (post_expect _) fun _ d2 _=>post_bind _ (post_listC (P:=fun y=>y.kind = 52) post_field n) fun l d3 hl=>post_ret ⟨ok_nd (by simp [nd,fieldsB,fldGood,hasName,hasOther,hasN,strEq_self,hx.1]) ?_ (fun y hy=>(hl.1.1 y hy).1),rfl,by have:=hl.1.2; simp only [nd,szL]; omega⟩) ?_
  ·have:l.all (kX 52) = true:=List.all_eq_true.2 fun y hy=>by simp [kX,(hl.1.1 y hy).2]
   simp only [nd,kidsB,leafK,oneK]
   simp [this]
  refine post_kw (post_bind _ (post_expect _) fun _ d1 _=>post_bind _ (post_shared _ _) fun x d hx=>post_ret ⟨hx.1,by rw [hx.2.1]; rfl,by have:=hx.2.2; omega⟩) ?_
  refine post_kw (post_bind _ (post_shared _ _) fun x d hx=>post_ret ⟨hx.1,by rw [hx.2.1]; rfl,by have:=hx.2.2; omega⟩) ?_
  refine post_kw (post_bind _ post_name fun x d1 hx=>post_bind _ (post_expect _) fun _ d2 _=>post_bind _ hE fun e d he=>post_ret ⟨ok_nd (by simp [nd,fieldsB,fldGood,hasName,hasOther,hasN,strEq_self,hx.1]) (by simp [nd,kidsB,leafK,oneK,ex1,eX,he.1.2]) (by simp [he.1.1]),rfl,by have:=he.2; simp only [nd,sz1]; omega⟩) ?_
  refine post_kw (post_bind _ hE fun e d he=>post_ret ⟨ok_nd (by simp [nd,fieldsB,fldGood,hasName,hasOther,hasN,strEq_self]) (by simp [nd,kidsB,leafK,oneK,ex1,eX,he.1.2]) (by simp [he.1.1]),rfl,by have:=he.2; simp only [nd,sz1]; omega⟩) ?_
  refine post_kw (post_bind _ hE fun e d he=>post_ret ⟨ok_nd (by simp [nd,fieldsB,fldGood,hasName,hasOther,hasN,strEq_self]) (by simp [nd,kidsB,leafK,oneK,ex1,eX,he.1.2]) (by simp [he.1.1]),rfl,by have:=he.2; simp only [nd,sz1]; omega⟩) ?_
  refine post_kw (post_bind _ (post_some (Pt:=fun l=>l≠[]) (P:=fun y=>plainX y = true) ?_ (fun a b ha _=>by simp [ha]) n) fun l d hl=>post_ret ⟨ok_nd (by simp [nd,fieldsB,fldGood,hasName,hasOther,hasN,strEq_self]) ?_ (fun y hy=>(hl.1.1 y hy).1),rfl,by have:=hl.1.2; simp only [nd,szL]; omega⟩) ?_
  ·exact post_bind _ (post_pathNode n) fun x d hx=>post_ret ⟨QL.one hx.1 hx.2.1 (by have:=hx.2.2; omega),by simp⟩
  ·have:l.all plainX = true:=List.all_eq_true.2 fun y hy=>(hl.1.1 y hy).2
   simp only [nd,kidsB,leafK,oneK]
   simp [this,hl.2]
  refine post_kw ?_ post_fail
  refine post_bind _ post_name fun x d1 hx=>post_bind _ (post_expect _) fun _ d2 _=>post_bind _ (post_parts (Pt:=fun _=>True) (post_one (P:=fun y=>y.kind = 58) post_param) (fun _ _ _ _=>trivial) trivial n _) fun l d3 hl=>?_
  refine post_bind (fun j _=>∃ o,(strEq o (bs []) || nameB (tl o)) = true∧j = Node.mk 57 x o 0 0 0 false l p) (post_kw (post_bind _ post_name fun o d ho=>post_ret ⟨o,by simp [ho.1],rfl⟩) (post_ret ⟨bs [],by simp [strEq_self],rfl⟩)) fun j d4 hj=>?_
  obtain ⟨o,ho,rfl⟩:=hj
  refine post_bind _ (post_stmts n).2.2.2.2 fun b d5 hb=>post_ret ⟨okT_of ?_ ?_ ?_,rfl,?_⟩
  ·simp only [Bool.or_eq_true] at ho
   simp [fieldsB,fldGood,hasName,hasOther,hasN,hx.1,ho]
  ·have:l.all (kX 58) = true:=List.all_eq_true.2 fun y hy=>by simp [kX,(hl.1.1 y hy).2]
   simp [kidsB,leafK,oneK,procK,hb.2.1,this]
  ·intro y hy
   rcases List.mem_append.1 hy with h | h
   ·exact (hl.1.1 y h).1
   ·rw [List.mem_singleton.1 h]; exact hb.1
  ·have e1:=hl.1.2
   have e2:=hb.2.2
   simp only [szL,szs_append,szs]
   omega
 ·cases j with
  | inl x=>exact post_ret (by rw [Nat.add_zero]; exact hj)
  | inr x=>exact post_semi ⟨hj.1,hj.2.1,by have:=hj.2.2; omega⟩
def QI (x:Node) (d:Nat):Prop:=okT x = true∧isItm x.kind = true∧sz x≤d
theorem post_thread (v p:Int) (hv:v = 0∨v = 1) (n:Nat):Post (thread v p n) fun x d=>okT x = true∧x.kind = 61∧sz x≤d:=by
 refine post_bind _ post_name fun x d1 hx=>post_bind _ (post_expect _) fun _ d2 _=>post_bind _ (post_path n) fun o d3 ho=>post_bind _ (post_expect _) fun _ d4 _=>post_bind _ (post_parts (Pt:=fun _=>True) (post_one (P:=fun y=>y.kind = 1) (post_numNode.mono fun e d h=>⟨h.1.1.1,h.2,h.1.2⟩)) (fun _ _ _ _=>trivial) trivial n _) fun l d5 hl=>post_semi ⟨okT_of ?_ ?_ (fun y hy=>(hl.1.1 y hy).1),rfl,?_⟩
 ·rcases hv with rfl | rfl <;> simp [fieldsB,fldGood,hasName,hasOther,hasN,hx.1,ho.1]
 ·have:l.all (kX 1) = true:=List.all_eq_true.2 fun y hy=>by simp [kX,(hl.1.1 y hy).2]
  simp [kidsB,leafK,oneK,this]
 ·have e1:=hl.1.2
  rw [szL]; omega
theorem post_item (n:Nat):Post (item n) QI:=by
 refine post_pos fun p=>post_kw ?_ (post_kw ?_ (post_kw ?_ post_fail))
 ·refine post_bind _ post_name fun x d1 hx=>post_bind _ (post_expect _) fun _ d2 _=>post_bind _ post_name fun o d3 ho=>post_bind _ (post_expect _) fun _ d4 _=>post_bind _ (post_listC (P:=fun y=>isDecl y.kind = true) (post_decl n) n) fun l d5 hl=>post_ret ⟨okT_of ?_ ?_ (fun y hy=>(hl.1.1 y hy).1),rfl,?_⟩
  ·simp [fieldsB,fldGood,hasName,hasOther,hasN,hx.1,ho.1]
  ·have:l.all (fun y=>isDecl y.kind) = true:=List.all_eq_true.2 fun y hy=>(hl.1.1 y hy).2
   simp only [kidsB,leafK,oneK]
   simp [this]
  ·have e1:=hl.1.2
   rw [szL]; omega
 ·exact post_bind _ (post_expect _) fun _ d1 _=>(post_thread 1 p (.inr rfl) n).mono fun x d h=>⟨h.1,by rw [h.2.1]; rfl,by have:=h.2.2; omega⟩
 ·exact (post_thread 0 p (.inl rfl) n).mono fun x d h=>⟨h.1,by rw [h.2.1]; rfl,by have:=h.2.2; omega⟩
theorem post_source (n:Nat):Post (source n) (QL fun y=>isItm y.kind = true):=post_list (post_item n) n false
end M
end Go.Proofs.YtbecjgckobhmpaaGreatDoor
end
section
namespace Go.Proofs.YtbecjgckobhmpaaGreatDoor
open Go Go.AM Go.Proofs
theorem pathS_all (k:Nat) (x:ByteArray × Int) (h:x.2 = (k:Int)∧(tl x.1).length≤17 * (k + 1)) :
  AllM (Sum.elim (fun x'=>x'.2 = ((k + 1:Nat):Int)∧(tl x'.1).length≤17 * (k + 1 + 1)) fun _=>True) (M.pathS x):=by
 unfold M.pathS
 refine AllM.cond (AllM.bind' fun b=>?_) trivial
 cases b
 ·exact trivial
 ·refine AllM.bind ?_ _ name_all
  intro y hy
  refine ⟨by rw [h.1]; omega,?_⟩
  rw [tl_bs,List.length_append,List.length_cons]
  omega
theorem sim_path (n:Nat):Sim (F152 n) (M.path n):=by
 unfold F152 M.path
 refine sim_bind _ name_all sim_name fun x hx=>?_
 refine sim_eta (f:=iterP (σ:=ByteArray × Int) (ρ:=ByteArray) (ε:=Bad) (S:=RS) _ n (x,(0:Int))) ?_
 refine sim_iter (fun k s=>s.2 = (k:Int)∧(tl s.1).length≤17 * (k + 1)) (N:=n) (fun k x _ hi=>⟨?_,pathS_all k x hi⟩) n 0 (x,0) (by omega) ⟨rfl,by simp only; omega⟩
 unfold M.pathS
 cases hc:decide (x.2 < 2)
 ·exact sim_ret _
 ·have hk:x.2 < 2:=by simpa using hc
  refine sim_bind' (sim_accept _) fun b=>?_
  cases b
  ·exact sim_ret _
  ·refine sim_bind _ name_all sim_name fun y hy=>?_
   refine sim_opt (v:=bs ([46] ++ tl y)) ?_ (sim_opt (v:=bs (tl x.1 ++ 46 :: tl y)) ?_ ?_)
   ·unfold catS
    rw [if_pos (by rw [size_tl,size_tl,tl_bs]; simp only [List.length_cons,List.length_nil]; omega)]
    rfl
   ·unfold catS
    rw [if_pos (by rw [size_tl,size_tl,tl_bs]; simp only [List.length_append,List.length_cons,List.length_nil]; omega)]
    rfl
   ·rw [w64_id (by omega) (by omega)]
    exact sim_ret _
theorem level_le (s:ByteArray):0≤levelI s∧levelI s≤10:=by
 unfold levelI
 simp only [cond_eq_ite]
 repeat' split
 all_goals omega
theorem sim_right {fB:Int→RS→Option ((Node ⊕ Bad) × RS)} {mB:Int→M Node} (hB:∀ a,Sim (fB a) (mB a)) (l:Int) (h0:0≤l) (h1:l≤10) :
  Sim (fun s=>(bif l == 2 then
     (pbind (fB l s) fun x13 s15 =>
     some (.inl (w64 (l - 1),x13),s15))
    else
     (bif l == 5 then
      (pbind (fB (w64 (l + 1)) s) fun x17 s19 =>
      some (.inl (w64 (l - 1),x17),s19))
     else
      (pbind (fB (w64 (l + 1)) s) fun x20 s22 =>
      some (.inl (l,x20),s22))):Option ((((Int × Node)) ⊕ Bad) × RS))) (M.rightS mB l):=by
 rw [w64_id (x:=l - 1) (by omega) (by omega),w64_id (x:=l + 1) (by omega) (by omega)]
 unfold M.rightS
 exact sim_cond (sim_bind' (hB _) fun _=>sim_ret _) (sim_cond (sim_bind' (hB _) fun _=>sim_ret _) (sim_bind' (hB _) fun _=>sim_ret _))
theorem sim_ref {fE:RS→Option ((Node ⊕ Bad) × RS)} {mE:M Node} (hE:Sim fE mE) (n:Nat) (a b d:RS→Option ((Node ⊕ Bad) × RS)) (c:Int→RS→Option ((Node ⊕ Bad) × RS)):Sim (F223_step a b c d fE n) (M.refS mE n):=by
 unfold F223_step M.refS
 exact sim_pos fun p=>sim_bind' (sim_path n) fun x=>sim_kw (sim_bind' hE fun e=>sim_bind' (sim_expect _) fun _=>sim_ret _) (sim_ret _)
theorem sim_unary {fR fU fE:RS→Option ((Node ⊕ Bad) × RS)} {mR mU mE:M Node} (hR:Sim fR mR) (hU:Sim fU mU) (hE:Sim fE mE) (n:Nat) (d:RS→Option ((Node ⊕ Bad) × RS)) (c:Int→RS→Option ((Node ⊕ Bad) × RS)):Sim (F199_step fR fU c d fE n) (M.unaryS mR mU mE):=by
 unfold F199_step M.unaryS
 refine sim_pos fun p=>sim_kw (sim_bind' hU fun e=>sim_ret _) ?_
 refine sim_kind fun t=>sim_cond (sim_eta sim_numNode) ?_
 exact sim_kw (sim_bind' (sim_expect _) fun _=>sim_bind' hR fun e=>sim_bind' (sim_expect _) fun _=>sim_ret _)
  (sim_kw (sim_bind' hE fun e=>sim_bind' (sim_expect _) fun _=>sim_ret _) (sim_eta hR))
theorem sim_bin {fU:RS→Option ((Node ⊕ Bad) × RS)} {fB:Int→RS→Option ((Node ⊕ Bad) × RS)} {mU:M Node} {mB:Int→M Node} (hU:Sim fU mU) (hB:∀ a,Sim (fB a) (mB a)) (n:Nat) (l:Int) (a d e:RS→Option ((Node ⊕ Bad) × RS)):Sim (F167_step a fU fB d e n l) (M.binS mU mB n l):=by
 unfold F167_step M.binS
 refine sim_bind' hU fun x=>sim_eta (f:=iterP (σ:=Int × Node) (ρ:=Node) (ε:=Bad) (S:=RS) _ n ((10:Int),x)) ?_
 refine sim_iter' (fun s=>?_) n (10,x)
 intro T fin st hT hok hs
 simp only [F101_mk hs,F91_mk hs,F156_eq,Option.bind_some,M.binStep,M.run]
 cases hc:((levelI (textO (hdOf st.rest)) == 0) || decide (levelI (textO (hdOf st.rest)) < l)) || decide (s.1 < levelI (textO (hdOf st.rest)))
 ·obtain ⟨r,i,p⟩:=st
  cases r with
  | nil =>
   have:levelI (textO (hdOf [])) = 0:=by rfl
   simp only [this] at hc
   cases hc
  | cons t r =>
   have hl:=level_le (textO (hdOf (t :: r)))
   have H:=sim_bind' (sim_right hB (levelI (textO (hdOf (t :: r)))) hl.1 hl.2) (g:=fun j js=>some (.inl (.inl (j.1,Node.mk 5 (textO (hdOf (t :: r))) (bs []) 0 0 0 false [s.2,j.2] (posOf fin (t :: r))):(Int × Node) ⊕ Node),js)) (k:=fun j=>.ret (.inl (j.1,Node.mk 5 (textO (hdOf (t :: r))) (bs []) 0 0 0 false [s.2,j.2] (posOf fin (t :: r))):(Int × Node) ⊕ Node)) fun j=>sim_ret _
   have:=sim_adv (fin:=fin) (i:=i) (p:=p) H hT hok hs
   exact this
 ·rfl
theorem sim_cnd {fC:RS→Option ((Node ⊕ Bad) × RS)} {fB:Int→RS→Option ((Node ⊕ Bad) × RS)} {mC:M Node} {mB:Int→M Node} (hC:Sim fC mC) (hB:∀ a,Sim (fB a) (mB a)) (n:Nat) (a d e:RS→Option ((Node ⊕ Bad) × RS)):Sim (F102_step a d fB fC e n) (M.condS mB mC):=by
 unfold F102_step M.condS
 refine sim_bind' (hB _) fun x=>sim_pos fun p=>sim_bind' (sim_accept _) fun b=>sim_cond (sim_ret _) ?_
 exact sim_bind' hC fun y=>sim_bind' (sim_expect _) fun _=>sim_bind' hC fun z=>sim_ret _
theorem text_ne {l:List Token} {a:List UInt8} (ha:a≠[]) (h:strEq (textO (hdOf l)) (bs a) = true):l≠[]:=by
 rintro rfl
 simp only [hdOf,textO,strEq,bs] at h
 cases a with
 | nil=>exact ha rfl
 | cons b a=>simp at h
theorem sim_exp {fC fE:RS→Option ((Node ⊕ Bad) × RS)} {mC mE:M Node} (hC:Sim fC mC) (hE:Sim fE mE) (n:Nat) (a b:RS→Option ((Node ⊕ Bad) × RS)) (c:Int→RS→Option ((Node ⊕ Bad) × RS)):Sim (F67_step a b c fC fE n) (M.exprS mC mE):=by
 intro T fin s hT hok hs
 have hq:∀ (k p:Int),Sim (fun s=>pbind (F92 s) fun x11 s13 =>
  pbind (F93 (bs [60]) s13) fun _ s16 =>
  pbind (F103 s16) fun x17 s19 =>
  pbind (F93 (bs [58]) s19) fun _ s22 =>
  pbind (fE s22) fun x23 s25 =>
  some (.inl (Node.mk k x11 (bs []) x17 0 0 false ([x23]:List Node) p),s25)) (M.name.bind fun x=>(M.expect (bs [60])).bind fun _ =>
 M.num.bind fun v=>(M.expect (bs [58])).bind fun _=>mE.bind fun e=>.ret (Node.mk k x (bs []) v 0 0 false [e] p)):=fun k p =>
  sim_bind' sim_name fun x=>sim_bind' (sim_expect _) fun _=>sim_bind' sim_num fun v=>sim_bind' (sim_expect _) fun _=>sim_bind' hE fun e=>sim_ret _
 have hqq:∀ (k:Int),s.rest≠[]→(F91 (mkS T fin s)).bind (fun x9 =>
  pbind (F92 ((mkS T fin s).setNext (w64 ((mkS T fin s).next + 1)))) fun x11 s13 =>
  pbind (F93 (bs [60]) s13) fun _ s16 =>
  pbind (F103 s16) fun x17 s19 =>
  pbind (F93 (bs [58]) s19) fun _ s22 =>
  pbind (fE s22) fun x23 s25 =>
  some (.inl (Node.mk k x11 (bs []) x17 0 0 false ([x23]:List Node) x9),s25)) = toO T fin ((M.quant mE k).run fin s):=by
  intro k hne
  rw [F91_mk hs]
  obtain ⟨r,i,p⟩:=s
  cases r with
  | nil=>exact absurd rfl hne
  | cons t r=>exact sim_adv (fin:=fin) (i:=i) (p:=p) (hq k t.pos) hT hok hs
 unfold F67_step M.exprS
 simp only [F101_mk hs,Option.bind_some,M.run]
 cases h1:strEq (textO (hdOf s.rest)) (bs [97,108,108])
 ·cases h2:strEq (textO (hdOf s.rest)) (bs [115,111,109,101])
  ·simp only [cond_false]
   have:=sim_eta hC T fin s hT hok hs
   simp only at this
   rw [← this]
   cases fC (mkS T fin s) with
   | none=>rfl
   | some y=>obtain ⟨y,st⟩:=y; cases y <;> rfl
  ·exact hqq 8 (text_ne (by simp) h2)
 ·exact hqq 7 (text_ne (by simp) h1)
theorem sim_exprs:∀ n,Sim (F223 n) (M.ref n)∧Sim (F199 n) (M.unary n)∧(∀ a,Sim (F167 n a) (M.bin n a))∧Sim (F102 n) (M.cond n)∧Sim (F67 n) (M.expr n)
 | 0=>⟨fun _ _ _ _ _ _=>by rw [F223]; rfl,fun _ _ _ _ _ _=>by rw [F199]; rfl,fun _ _ _ _ _ _ _=>by rw [F167]; rfl,fun _ _ _ _ _ _=>by rw [F102]; rfl,fun _ _ _ _ _ _=>by rw [F67]; rfl⟩
 | n + 1=>by
  obtain ⟨h1,h2,h3,h4,h5⟩:=sim_exprs n
  refine ⟨?_,?_,fun a=>?_,?_,?_⟩
  ·have:F223 (n + 1) = F223_step (F223 n) (F199 n) (F167 n) (F102 n) (F67 n) n:=by funext s; rw [F223]
   rw [this]; exact sim_ref h5 n _ _ _ _
  ·have:F199 (n + 1) = F199_step (F223 n) (F199 n) (F167 n) (F102 n) (F67 n) n:=by funext s; rw [F199]
   rw [this]; exact sim_unary h1 h2 h5 n _ _
  ·have:F167 (n + 1) a = F167_step (F223 n) (F199 n) (F167 n) (F102 n) (F67 n) n a:=by funext s; rw [F167]
   rw [this]; exact sim_bin h2 h3 n a _ _ _
  ·have:F102 (n + 1) = F102_step (F223 n) (F199 n) (F167 n) (F102 n) (F67 n) n:=by funext s; rw [F102]
   rw [this]; exact sim_cnd h4 h3 n _ _ _
  ·have:F67 (n + 1) = F67_step (F223 n) (F199 n) (F167 n) (F102 n) (F67 n) n:=by funext s; rw [F67]
   rw [this]; exact sim_exp h4 h5 n _ _ _
section
variable {f:RS→Option ((List Node ⊕ Bad) × RS)} {part:M (List Node)}
theorem app104 {l m:List Node} (h:l.length + m.length≤1000000000):appL 104 l m = some (l ++ m):=appL_some (by omega)
theorem partsL_all (hp:AllM (fun l=>l.length≤2) part) (k:Nat) (x:List Node) (h:x.length≤2 + 2 * k) :
  AllM (Sum.elim (fun x'=>x'.length≤2 + 2 * (k + 1)) (fun l=>l.length≤2 + 2 * k)) (M.partsL part x):=by
 refine AllM.kw (AllM.bind (fun y hy=>?_) _ hp) h
 show (x ++ y).length≤_
 rw [List.length_append]
 omega
theorem sim_partsL (hf:Sim f part) (hp:AllM (fun l=>l.length≤2) part) {n:Nat} (hn:n≤100000000) (x:List Node) (hx:x.length≤2) :
  Sim (iterP (σ:=(List Node)) (ρ:=((List Node))) (ε:=Bad) (S:=RS) (fun s9 s9s=>pbind (F88 (bs [44]) s9s) fun x10 s12 =>
   bif x10 then
    (pbind (f s12) fun x14 s16 =>
    (appL 104 s9 x14).bind fun x18 =>
    some (.inl (.inl x18),s16))
   else
    (some (.inl (.inr s9),s12))) n x) (M.iterM (M.partsL part) n x):=by
 refine sim_iter (fun k l=>l.length≤2 + 2 * k) (N:=n) (fun k l hk hl=>⟨?_,(partsL_all hp k l hl).mono fun r hr=>?_⟩) n 0 x (by omega) hx
 ·exact sim_kw (sim_bind _ hp hf fun y hy=>sim_opt (app104 (by omega)) (sim_ret _)) (sim_ret _)
 ·cases r
  ·exact hr
  ·trivial
theorem iterL_all (hp:AllM (fun l=>l.length≤2) part) (n:Nat) (x:List Node) (hx:x.length≤2):AllM (fun l=>l.length≤2 + 2 * n) (M.iterM (M.partsL part) n x) :=
 AllM.iter (fun k l=>l.length≤2 + 2 * k) (N:=n) (fun k l hk hl=>(partsL_all hp k l hl).mono fun r hr=>by
  cases r
  ·exact hr
  ·show _≤_; simp only [Sum.elim_inr] at hr; omega) n 0 x (by omega) hx
theorem some_all (hp:AllM (fun l=>l.length≤2) part) (n:Nat):AllM (fun l=>l.length≤2 + 2 * n) (M.some' n part):=AllM.bind (fun x hx=>iterL_all hp n x hx) _ hp
theorem parts_all (hp:AllM (fun l=>l.length≤2) part) (n:Nat) (a:ByteArray):AllM (fun l=>l.length≤2 + 2 * n) (M.parts n a part) :=
 AllM.kw (by show 0≤_; omega) (AllM.bind (fun x hx=>AllM.bind (P:=fun l:List Node=>l.length≤2 + 2 * n) (fun l hl=>AllM.bind' (f:=fun _=>M.ret l) fun _=>hl) _ (iterL_all hp n x hx)) _ hp)
theorem sim_some (hf:Sim f part) (hp:AllM (fun l=>l.length≤2) part) {n:Nat} (hn:n≤100000000) :
  Sim (fun s=>pbind (f s) fun x1 s3 =>
 pbind (iterP (σ:=(List Node)) (ρ:=((List Node))) (ε:=Bad) (S:=RS) (fun s5 s5s=>pbind (F88 (bs [44]) s5s) fun x6 s8 =>
  bif x6 then
   (pbind (f s8) fun x10 s12 =>
   (appL 104 s5 x10).bind fun x14 =>
   some (.inl (.inl x14),s12))
  else
   (some (.inl (.inr s5),s8))) n x1 s3) fun r16 r16s =>
 some (.inl r16,r16s)) (M.some' n part) :=
 sim_bind _ hp hf fun x hx=>sim_eta (sim_partsL hf hp hn x hx)
theorem sim_parts (hf:Sim f part) (hp:AllM (fun l=>l.length≤2) part) {n:Nat} (hn:n≤100000000) (a:ByteArray) :
  Sim (fun s=>pbind (F88 a s) fun x1 s3 =>
 bif x1 then
  (some (.inl ([]:List Node),s3))
 else
  (pbind (f s3) fun x5 s7 =>
  pbind (iterP (σ:=(List Node)) (ρ:=((List Node))) (ε:=Bad) (S:=RS) (fun s9 s9s=>pbind (F88 (bs [44]) s9s) fun x10 s12 =>
   bif x10 then
    (pbind (f s12) fun x14 s16 =>
    (appL 104 s9 x14).bind fun x18 =>
    some (.inl (.inl x18),s16))
   else
    (some (.inl (.inr s9),s12))) n x5 s7) fun r20 r20s =>
  pbind (F93 a r20s) fun _ s23 =>
  some (.inl r20,s23))) (M.parts n a part) :=
 sim_kw (sim_ret _) (sim_bind _ hp hf fun x hx=>sim_bind' (sim_partsL hf hp hn x hx) fun _=>sim_bind' (sim_expect _) fun _=>sim_ret _)
theorem one_all (m:M Node):AllM (fun l=>l.length≤2) (M.one m):=AllM.bind' fun x=>by show 1≤2; omega
theorem sim_one {f:RS→Option ((Node ⊕ Bad) × RS)} {m:M Node} (h:Sim f m):Sim (fun s=>pbind (f s) fun x1 s3=>some (.inl ([x1]:List Node),s3)) (M.one m):=sim_bind' h fun _=>sim_ret _
end
theorem sim_report {T:List Token} {fin:Int} {s:PS} (e p:Int):F89 e p (mkS T fin s) = some (.inl (),mkS T fin ⟨s.rest,s.inner,s.reps ++ [(e,p)]⟩):=by
 have hd:addDs [] (s.reps ++ [(e,p)]) = addD (addDs [] s.reps) (e,p):=by simp [addDs,List.foldl_append]
 have hm:mkS T fin ⟨s.rest,s.inner,s.reps ++ [(e,p)]⟩ = (mkS T fin s).setDiags (addD (addDs [] s.reps) (e,p)):=by
  simp only [mkS,hd,RS.setDiags]
 rw [hm]
 unfold F89
 have hD:(mkS T fin s).diags = addDs [] s.reps:=rfl
 rw [hD]
 have hself:(mkS T fin s).setDiags (addDs [] s.reps) = mkS T fin s:=rfl
 unfold addD
 generalize addDs [] s.reps = d at *
 cases h20:decide (20≤(d.length:Int))
 ·simp only [cond_false]
  have h20':¬ 20≤(d.length:Int):=by simpa using h20
  rcases List.eq_nil_or_concat d with rfl | ⟨d',x,rfl⟩
  ·have h0:decide (0 < ((([]:List Diag).length:Nat):Int)) = false:=by decide
   rw [h0]
   simp only [cond_false,pbind,List.getLast?_nil]
   rw [hD,appL_some (by simp)]
   rfl
  ·rw [List.concat_eq_append] at *
   have hc:decide (0 < (((d' ++ [x]).length:Nat):Int)) = true:=by simp
   rw [hc]
   have hl:(d' ++ [x]).length = d'.length + 1:=by simp
   have hi:idxL (d' ++ [x]) (w64 ((((d' ++ [x]).length:Nat):Int) - 1)) = some x:=by
    rw [hl] at h20' ⊢
    rw [w64_id (by omega) (by omega)]
    have e:(((d'.length + 1:Nat):Int) - 1) = ((d'.length:Nat):Int):=by omega
    rw [e]
    exact idxL_some (by simp)
   rw [hi]
   simp only [cond_true,Option.bind_some,List.getLast?_append,List.getLast?_singleton,Option.some_or]
   cases hp:x.pos == p
   ·simp only [cond_false,pbind]
    rw [hD,appL_some (by rw [hl] at h20' ⊢; simp only [List.length_cons,List.length_nil]; omega)]
    rfl
   ·simp only [cond_true,pbind]
    rw [hself]
 ·simp only [cond_true,pbind]
  rw [hself]
theorem sim_skip (n:Nat) (closed:Bool):Sim (F90 n closed) (M.skip n closed):=by
 have hstep:∀ d:Int,Sim (fun s1s=>bif decide (s1s.next < (s1s.toks.length:Int)) then
   ((F101 s1s).bind fun x3 =>
   bif strEq x3 (bs [59]) then
    (bif d == 0 then
     (some (.inl (.inr (.inl ())),(s1s.setNext (w64 (s1s.next + 1)))))
    else
     (some (.inl (.inl d),(s1s.setNext (w64 (s1s.next + 1))))))
   else
    (bif strEq x3 (bs [123]) then
     (some (.inl (.inl (w64 (d + 1))),(s1s.setNext (w64 (s1s.next + 1)))))
    else
     (bif strEq x3 (bs [125]) then
      (bif (d == 0) && closed then
       (some (.inl (.inr (.inl ())),s1s))
      else
       (bif d == 0 then
        (some (.inl (.inr (.inl ())),(s1s.setNext (w64 (s1s.next + 1)))))
       else
        (bif (w64 (d - 1)) == 0 then
         (pbind (F88 (bs [59]) (s1s.setNext (w64 (s1s.next + 1)))) fun _ s13 =>
         some (.inl (.inr (.inl ())),s13))
        else
         (some (.inl (.inl (w64 (d - 1))),(s1s.setNext (w64 (s1s.next + 1))))))))
     else
      (some (.inl (.inl d),(s1s.setNext (w64 (s1s.next + 1))))))))
  else
   (some (.inl (.inr (.inr ())),s1s))) (M.skipS closed d):=by
  intro d T fin s hT hok hs
  obtain ⟨r,i,p⟩:=s
  simp only [mk_lt hs,F101_mk hs]
  cases r with
  | nil=>rfl
  | cons t r =>
   have hn:=mk_next (fin:=fin) (i:=i) (p:=p) hT hs
   have ha:=sim_adv (fin:=fin) (i:=i) (p:=p) (sim_bind' (sim_accept (bs [59])) (g:=fun _ s13=>some (.inl (.inr (.inl ())),s13)) (k:=fun _=>.ret (.inr (.inl ()):Int ⊕ (Unit ⊕ Unit))) fun _=>sim_ret _) hT hok hs
   simp only [List.isEmpty_cons,Bool.not_false,cond_true,Option.bind_some,M.skipS,M.run,hdOf,textO]
   rw [ha,hn]
   cases strEq t.text (bs [59])
   ·cases strEq t.text (bs [123])
    ·cases strEq t.text (bs [125])
     ·rfl
     ·cases (d == 0) && closed
      ·cases d == 0
       ·cases w64 (d - 1) == 0 <;> rfl
       ·rfl
      ·rfl
    ·rfl
   ·cases d == 0 <;> rfl
 intro T fin s hT hok hs
 unfold F90
 have h:=sim_iter' hstep n s.inner T fin ⟨s.rest,0,s.reps⟩ hT hok hs
 have e:(mkS T fin s).setInner 0 = mkS T fin ⟨s.rest,0,s.reps⟩:=rfl
 have e2:(mkS T fin s).inner = s.inner:=rfl
 rw [e,e2,h]
 unfold M.skip
 simp only [M.run,M.run_bind]
 cases (M.iterM (M.skipS closed) n s.inner).run fin ⟨s.rest,0,s.reps⟩ with
 | ok a s'=>cases a <;> rfl
 | bad b s'=>rfl
 | out=>rfl
theorem code_ne (b:Bool) (l:List Token):(codeOf b l == 0) = false:=by cases l <;> cases b <;> rfl
theorem sim_list {f:RS→Option ((Node ⊕ Bad) × RS)} {item:M Node} (hf:Sim f item) {n:Nat} (hn:n≤100000000) (a0:Bool) :
  Sim (fun s=>pbind (iterP (σ:=(List Node)) (ρ:=((List Node))) (ε:=Bad) (S:=RS) (fun s1 s1s=>bif s1s.next == (s1s.toks.length:Int) then
   (bif a0 then
    (pbind (F68 s1s) fun _ s6 =>
    some (.inl (.inr s1),s6))
   else
    (some (.inl (.inr s1),s1s)))
  else
   (pbind (bif a0 then
     (pbind (F88 (bs [125]) s1s) fun x8 s10 =>
     bif x8 then
      (some (.inl (.inl ()),s10))
     else
      (some (.inl (.inr ()),s10)))
    else
     (some (.inl (.inr ()),s1s)):Option (((Unit ⊕ Unit) ⊕ Bad) × RS)) fun j12 j12s=>match j12 with
   | .inl _=>some (.inl (.inr s1),j12s)
   | .inr _=>(guardF (f j12s)).bind fun x13 =>
    bif x13.1.2.1 == 0 then
     ((appL 104 s1 ([x13.1.1]:List Node)).bind fun x18 =>
     some (.inl (.inl x18),x13.2))
    else
     (pbind (F89 x13.1.2.1 x13.1.2.2 x13.2) fun _ s22 =>
     pbind (F90 n a0 s22) fun _ s25 =>
     some (.inl (.inl s1),s25)))) n ([]:List Node) s) fun r26 r26s =>
 some (.inl r26,r26s)) (M.list n a0 item):=by
 refine sim_eta ?_
 refine sim_iter (fun k l=>l.length≤k) (N:=n) (fun k acc hk hl=>⟨?_,?_⟩) n 0 [] (by omega) (by simp)
 ·have hC:Sim (fun s=>(guardF (f s)).bind fun x13 =>
    bif x13.1.2.1 == 0 then
     ((appL 104 acc ([x13.1.1]:List Node)).bind fun x18 =>
     some (.inl (.inl x18),x13.2))
    else
     (pbind (F89 x13.1.2.1 x13.1.2.2 x13.2) fun _ s22 =>
     pbind (F90 n a0 s22) fun _ s25 =>
     some (.inl (.inl acc),s25))) (item.tryM (fun x=>.ret (.inl (acc ++ [x]))) (fun b=>.rep b ((M.skip n a0).bind fun _=>.ret (.inl acc))):M (List Node ⊕ List Node)):=by
   intro T fin s hT hok hs
   simp only [hf T fin s hT hok hs,M.run_try]
   have hsuf:=M.run_suf fin item s
   cases hr:item.run fin s with
   | ok a s' =>
    simp only [toO,guardF,Option.bind_some,M.andThen,M.run]
    rw [app104 (by simp only [List.length_cons,List.length_nil]; omega)]
    rfl
   | bad b s' =>
    rw [hr] at hsuf
    simp only [toO,guardF,Option.bind_some,M.andThen,code_ne,cond_false,sim_report,pbind,M.run]
    exact sim_bind' (sim_skip n a0) (g:=fun _ s25=>some (.inl (.inl acc),s25)) (k:=fun _=>.ret (.inl acc:List Node ⊕ List Node)) (fun _=>sim_ret _) T fin ⟨s'.rest,s'.inner,s'.reps ++ [(codeOf b s'.rest,posOf fin s'.rest)]⟩ hT hok (List.IsSuffix.trans hsuf hs)
   | out=>rfl
  intro T fin s hT hok hs
  have hb:((mkS T fin s).next == ((mkS T fin s).toks.length:Int)) = s.rest.isEmpty:=by
   have:=hs.length_le
   cases h:s.rest with
   | nil=>simp [mkS,h]
   | cons t r=>simp [mkS,h]; omega
  simp only [hb,M.listS,M.run]
  cases h:s.rest with
  | nil =>
   simp only [List.isEmpty_nil,cond_true,hdOf,Option.isNone_none]
   cases a0
   ·rfl
   ·simp only [cond_true,F68_mk hs]
    rfl
  | cons t r =>
   simp only [List.isEmpty_cons,cond_false,hdOf,Option.isNone_some]
   cases a0
   ·exact hC T fin s hT hok hs
   ·simp only [cond_true,M.run_bind,sim_accept (bs [125]) T fin s hT hok hs]
    have hsuf:=M.run_suf fin (M.accept (bs [125])) s
    cases hr:(M.accept (bs [125])).run fin s with
    | ok a s' =>
     rw [hr] at hsuf
     cases a
     ·exact hC T fin s' hT hok (List.IsSuffix.trans hsuf hs)
     ·rfl
    | bad b s'=>rfl
    | out=>rfl
 ·intro t ht
  refine AllM.cond (AllM.cond trivial trivial) (AllM.bind' fun b=>AllM.cond trivial (AllM.try (α:=Node) (β:=List Node ⊕ List Node) (P:=fun _=>True) (f:=fun x=>.ret (.inl (acc ++ [x]))) (g:=fun b=>.rep b ((M.skip n a0).bind fun _=>.ret (.inl acc))) (fun x _=>?_) (fun b=>AllM.bind' (f:=fun _=>M.ret (.inl acc:List Node ⊕ List Node)) fun _=>?_) item (AllM.top item)))
  ·show (acc ++ [x]).length≤_
   simp only [List.length_append,List.length_cons,List.length_nil]
   omega
  ·show acc.length≤_
   omega
end Go.Proofs.YtbecjgckobhmpaaGreatDoor
end
section
namespace Go.Proofs.YtbecjgckobhmpaaGreatDoor
open Go Go.AM Go.Proofs
theorem sim_sized (k:Int) (g:Bool) (p:Int):Sim (F193 (Node.mk k (bs []) (bs []) 0 0 0 g [] p)) (M.sized k g p):=by
 unfold F193 M.sized
 exact sim_bind' sim_name fun x=>sim_bind' (sim_expect _) fun _=>sim_bind' sim_num fun v=>sim_ret _
theorem sim_field:Sim F144 M.field:=by
 unfold F144 M.field
 exact sim_pos fun p=>sim_bind' (sim_sized _ _ _) fun x=>sim_semi
theorem sim_param:Sim F150 M.param:=by
 unfold F150 M.param
 exact sim_pos fun p=>sim_eta (sim_sized _ _ _)
theorem sim_pathNode (n:Nat):Sim (F148 n) (M.pathNode n):=by
 unfold F148 M.pathNode
 exact sim_pos fun p=>sim_bind' (sim_path n) fun x=>sim_ret _
theorem assign_all (n:Nat):AllM (fun l=>l.length≤2) (M.assign n):=AllM.bind' fun _=>AllM.bind' fun _=>AllM.bind' fun _=>by show 2≤2; omega
theorem sim_assign (n:Nat):Sim (F220 n) (M.assign n):=by
 unfold F220 M.assign
 exact sim_bind' (sim_exprs n).1 fun a=>sim_bind' (sim_expect _) fun _=>sim_bind' (sim_exprs n).2.2.2.2 fun e=>sim_ret _
theorem sim_o1 (n:Nat):Sim (F194_1 n) (M.one (M.expr n)):=sim_one (sim_exprs n).2.2.2.2
theorem sim_o2:Sim F194_2 (M.one M.param):=sim_one sim_param
theorem sim_o3 (n:Nat):Sim (F194_3 n) (M.one (M.pathNode n)):=sim_one (sim_pathNode n)
theorem sim_o0:Sim F194 (M.one M.numNode):=sim_one sim_numNode
section
variable {n:Nat} (hn:n≤100000000)
include hn
theorem sim_p0 (a:ByteArray):Sim (F149 n a) (M.parts n a (M.one M.numNode)):=sim_parts sim_o0 (one_all _) hn a
theorem sim_p1 (a:ByteArray):Sim (F149_1 n a) (M.parts n a (M.one M.param)):=sim_parts sim_o2 (one_all _) hn a
theorem sim_p2 (a:ByteArray):Sim (F149_2 n a) (M.parts n a (M.one (M.expr n))):=sim_parts (sim_o1 n) (one_all _) hn a
theorem sim_p3 (a:ByteArray):Sim (F149_3 n a) (M.parts n a (M.assign n)):=sim_parts (sim_assign n) (assign_all n) hn a
theorem sim_s0:Sim (F146 n) (M.some' n (M.one (M.pathNode n))):=sim_some (sim_o3 n) (one_all _) hn
theorem sim_s1:Sim (F146_1 n) (M.some' n (M.assign n)):=sim_some (sim_assign n) (assign_all n) hn
omit hn in
theorem with_all:AllM (fun l=>l.length≤2 + 2 * n) (M.with' n):=AllM.bind' fun b=>AllM.cond (by show 0≤_; omega) (some_all (assign_all n) n)
theorem sim_with:Sim (F221 n) (M.with' n):=by
 unfold F221 M.with'
 exact sim_bind' (sim_accept _) fun b=>sim_cond (sim_ret _) (sim_eta (sim_s1 hn))
theorem sim_atomic (p:Int):Sim (F218 n p) (M.atomic n p):=by
 unfold F218 M.atomic
 refine sim_bind' (sim_expect _) fun _=>?_
 refine sim_setI (i:=1) (f:=fun s=>pbind (F149_3 n (bs [125]) s) _) ?_
 refine sim_bind _ (parts_all (assign_all n) n _) (sim_p3 hn _) fun l hl=>?_
 refine sim_setI (i:=0) (f:=fun s=>pbind (F88 (bs [119,104,101,110]) s) _) ?_
 refine sim_kw (sim_bind' (sim_exprs n).2.2.2.2 fun e=>sim_opt (app104 ?_) (sim_ret _)) (sim_opt (app104 ?_) (sim_ret _))
 ·simp only [List.length_cons,List.length_nil]; omega
 ·simp only [List.length_cons,List.length_nil]; omega
theorem sim_cas:Sim (F219 n) (M.cas n):=by
 unfold F219 M.cas
 refine sim_bind' (sim_exprs n).1 fun a=>sim_bind' (sim_expect _) fun _=>sim_bind' (sim_exprs n).2.2.2.2 fun b=>?_
 refine sim_opt (app104 (by simp)) (sim_bind' (sim_expect _) fun _=>sim_bind' (sim_exprs n).2.2.2.2 fun c=>?_)
 refine sim_opt (app104 (by simp)) (sim_bind' (sim_expect _) fun _=>sim_bind' (sim_exprs n).1 fun d=>?_)
 refine sim_opt (app104 (by simp)) (sim_bind _ with_all (sim_with hn) fun l hl=>?_)
 refine sim_opt (app104 ?_) (sim_ret _)
 simp only [List.length_append,List.length_cons,List.length_nil]
 omega
theorem sim_stmtS {fIf fWh:Node→RS→Option ((Node ⊕ Bad) × RS)} {mIf mWh:Int→M Node} (h1:∀ p,Sim (fIf (M.none' 0 p)) (mIf p)) (h2:∀ p,Sim (fWh (M.none' 0 p)) (mWh p)) (a d:RS→Option ((Node ⊕ Bad) × RS)) (b:Bool→RS→Option ((List Node ⊕ Bad) × RS)) :
  Sim (F195_step fWh fIf a b d n) (M.stmtS mIf mWh n):=by
 have hE:=(sim_exprs n).2.2.2.2
 unfold F195_step M.stmtS
 refine sim_pos fun p=>?_
 refine sim_kw (sim_eta (h1 p)) ?_
 refine sim_kw (sim_eta (h2 p)) ?_
 refine sim_kw (sim_bind' hE fun _=>sim_semi) ?_
 refine sim_kw (sim_bind' hE fun _=>sim_semi) ?_
 refine sim_kw sim_semi ?_
 refine sim_kw sim_semi ?_
 refine sim_kw (sim_bind' (sim_atomic hn p) fun _=>sim_semi) ?_
 refine sim_kw (sim_bind' (sim_cas hn) fun _=>sim_semi) ?_
 refine sim_kw (sim_bind' (sim_path n) fun _=>sim_semi) ?_
 refine sim_kw (sim_bind' (sim_path n) fun _=>sim_semi) ?_
 refine sim_kw (sim_bind' sim_name fun _=>sim_semi) ?_
 refine sim_kw (sim_bind' sim_name fun _=>sim_semi) ?_
 refine sim_kw (sim_bind' (sim_path n) fun _=>sim_bind' (sim_expect _) fun _=>sim_bind' (sim_p2 hn _) fun _=>sim_semi) ?_
 refine sim_kw (sim_bind' (sim_expect _) fun _=>sim_bind' (sim_sized _ _ _) fun _=>sim_semi) ?_
 refine sim_kw (sim_bind' (sim_sized _ _ _) fun _=>sim_semi) ?_
 refine sim_bind' (sim_kw (sim_ret _) (sim_ret _)) fun j=>?_
 refine sim_bind _ (assign_all n) (sim_assign n) fun x hx=>?_
 refine sim_bind _ with_all (sim_with hn) fun w hw=>?_
 exact sim_opt (app104 (by omega)) sim_semi
theorem sim_stmts:∀ m,m≤n→(∀ p,Sim (F217 m (M.none' 0 p)) (M.loop m p))∧(∀ p,Sim (F216 m (M.none' 0 p)) (M.branch m p))∧Sim (F195 m) (M.stmt m)∧Sim (F57_3 m true) (M.stmts m)∧Sim (F151 m) (M.block m)
 | 0,_=>⟨fun _ _ _ _ _ _ _=>by rw [F217]; rfl,fun _ _ _ _ _ _ _=>by rw [F216]; rfl,fun _ _ _ _ _ _=>by rw [F195]; rfl,fun _ _ _ _ _ _=>by rw [F57_3]; rfl,fun _ _ _ _ _ _=>by rw [F151]; rfl⟩
 | m + 1,hm=>by
  obtain ⟨h1,h2,h3,h4,h5⟩:=sim_stmts m (by omega)
  have hE:=(sim_exprs m).2.2.2.2
  refine ⟨fun p=>?_,fun p=>?_,?_,?_,?_⟩
  ·have:F217 (m + 1) (M.none' 0 p) = F217_step (F217 m) (F216 m) (F195 m) (F57_3 m) (F151 m) m (M.none' 0 p):=by funext s; rw [F217]
   rw [this]
   unfold F217_step M.loop M.loopS
   exact sim_bind' hE fun c=>sim_bind' (sim_kw (sim_eta hE) (sim_ret _)) fun v=>sim_bind' h5 fun b=>sim_ret _
  ·have:F216 (m + 1) (M.none' 0 p) = F216_step (F217 m) (F216 m) (F195 m) (F57_3 m) (F151 m) m (M.none' 0 p):=by funext s; rw [F216]
   rw [this]
   unfold F216_step M.branch M.branchS
   exact sim_bind' hE fun c=>sim_bind' h5 fun a=>sim_bind' (sim_kw (sim_eta h5) (sim_ret _)) fun b=>sim_ret _
  ·have:F195 (m + 1) = F195_step (F217 m) (F216 m) (F195 m) (F57_3 m) (F151 m) m:=by funext s; rw [F195]
   rw [this]
   exact sim_stmtS (n:=m) (by omega) h2 h1 _ _ _
  ·have:F57_3 (m + 1) true = F57_3_step (F217 m) (F216 m) (F195 m) (F57_3 m) (F151 m) m true:=by funext s; rw [F57_3]
   rw [this]
   exact sim_list h3 (by omega) true
  ·have:F151 (m + 1) = F151_step (F217 m) (F216 m) (F195 m) (F57_3 m) (F151 m) m:=by funext s; rw [F151]
   rw [this]
   unfold F151_step M.block M.blockS
   exact sim_pos fun p=>sim_bind' (sim_expect _) fun _=>sim_bind' h4 fun l=>sim_ret _
omit hn in
theorem sim_shared (g:Bool) (p:Int):Sim (F145 (Node.mk 0 (bs []) (bs []) 0 0 0 g [] p)) (M.shared g p):=by
 unfold F145 M.shared
 refine sim_bind' sim_name fun x=>?_
 refine sim_bind' (sim_kw (sim_len fun v=>sim_bind' (sim_expect _) fun _=>sim_ret _) (sim_ret _)) fun j=>?_
 refine sim_bind' (sim_expect _) fun _=>?_
 refine sim_bind' (sim_isNm fun t=>sim_cond (sim_bind' sim_name fun o=>sim_ret _) (sim_bind' sim_num fun v=>sim_ret _)) fun j=>?_
 refine sim_bind' (sim_kw (sim_bind' sim_num fun v=>sim_ret _) (sim_ret _)) fun j=>?_
 exact sim_semi
theorem sim_decl:Sim (F94 n) (M.decl n):=by
 have hE:=(sim_exprs n).2.2.2.2
 unfold F94 M.decl
 refine sim_pos fun p=>sim_bind' ?_ fun j=>?_
 ·refine sim_kw (sim_bind' sim_name fun x=>sim_bind' (sim_expect _) fun _=>sim_bind' (sim_list sim_field hn true) fun l=>sim_ret _) ?_
  refine sim_kw (sim_bind' (sim_expect _) fun _=>sim_bind' (sim_shared _ _) fun x=>sim_ret _) ?_
  refine sim_kw (sim_bind' (sim_shared _ _) fun x=>sim_ret _) ?_
  refine sim_kw (sim_bind' sim_name fun x=>sim_bind' (sim_expect _) fun _=>sim_bind' hE fun e=>sim_ret _) ?_
  refine sim_kw (sim_bind' hE fun e=>sim_ret _) ?_
  refine sim_kw (sim_bind' hE fun e=>sim_ret _) ?_
  refine sim_kw (sim_bind' (sim_s0 hn) fun e=>sim_ret _) ?_
  refine sim_kw ?_ (sim_fail _)
  refine sim_bind' sim_name fun x=>sim_bind' (sim_expect _) fun _=>sim_bind _ (parts_all (one_all _) n _) (sim_p1 hn _) fun l hl=>?_
  refine sim_bind (fun j=>j.kids.length≤2 + 2 * n) (AllM.kw (AllM.bind' fun o=>hl) hl) (sim_kw (sim_bind' sim_name fun o=>sim_ret _) (sim_ret _)) fun j hj=>?_
  refine sim_bind' (sim_stmts hn n (by omega)).2.2.2.2 fun b=>?_
  exact sim_opt (app104 (by simp only [List.length_cons,List.length_nil]; omega)) (sim_ret _)
 ·cases j with
  | inl x=>exact sim_ret _
  | inr x=>exact sim_semi
theorem sim_thread (v p:Int):Sim (F95 n (Node.mk 61 (bs []) (bs []) v 0 0 false [] p)) (M.thread v p n):=by
 unfold F95 M.thread
 exact sim_bind' sim_name fun x=>sim_bind' (sim_expect _) fun _=>sim_bind' (sim_path n) fun o=>sim_bind' (sim_expect _) fun _=>sim_bind' (sim_p0 hn _) fun l=>sim_semi
theorem sim_item:Sim (F58 n) (M.item n):=by
 unfold F58 M.item
 refine sim_pos fun p=>?_
 refine sim_kw (sim_bind' sim_name fun x=>sim_bind' (sim_expect _) fun _=>sim_bind' sim_name fun o=>sim_bind' (sim_expect _) fun _=>sim_bind' (sim_list (sim_decl hn) hn true) fun l=>sim_ret _) ?_
 refine sim_kw (sim_bind' (sim_expect _) fun _=>sim_eta (sim_thread hn _ _)) ?_
 exact sim_kw (sim_eta (sim_thread hn _ _)) (sim_fail _)
theorem sim_source:Sim (F57 n false) (M.source n):=sim_list (sim_item hn) hn false
end
end Go.Proofs.YtbecjgckobhmpaaGreatDoor
end
section
namespace Go.Proofs.YtbecjgckobhmpaaGreatDoor
open Go Go.AM Go.Proofs
mutual
def mapN (f:Int→Int):Node→Node
 | ⟨k,nm,o,n,l,i,g,ks,p⟩=>⟨k,nm,o,n,l,i,g,mapNs f ks,f p⟩
def mapNs (f:Int→Int):List Node→List Node
 | []=>[]
 | x :: r=>mapN f x :: mapNs f r
end
theorem mapNs_eq (f:Int→Int):(l:List Node)→mapNs f l = l.map (mapN f)
 | []=>by simp [mapNs]
 | x :: r=>by simp [mapNs,mapNs_eq f r]
theorem mapN_eq (f:Int→Int) (x:Node):mapN f x = ⟨x.kind,x.name,x.other,x.n,x.len,x.init,x.ghost,x.kids.map (mapN f),f x.pos⟩:=by
 cases x; simp [mapN,mapNs_eq]
def mapT (f:Int→Int) (t:Token):Token:=⟨t.kind,t.text,f t.pos⟩
def mapP (f:Int→Int) (s:PS):PS:=⟨s.rest.map (mapT f),s.inner,s.reps.map fun r=>(r.1,f r.2)⟩
namespace M
variable {α β γ δ σ ρ σ' ρ':Type} {f:Int→Int}
def Nat' (f:Int→Int) (g:α→β):M α→M β→Prop
 | .ret a,m=>m = .ret (g a)
 | .fail b,m=>m = .fail b
 | .out,m=>m = .out
 | .look k,m=>∃ k',m = .look k'∧∀ t,Nat' f g (k t) (k' t)
 | .adv k,m=>∃ k',m = .adv k'∧Nat' f g k k'
 | .pos k,m=>∃ k',m = .pos k'∧∀ x,Nat' f g (k x) (k' (f x))
 | .setI i k,m=>∃ k',m = .setI i k'∧Nat' f g k k'
 | .getI k,m=>∃ k',m = .getI k'∧∀ x,Nat' f g (k x) (k' x)
 | .rep b k,m=>∃ k',m = .rep b k'∧Nat' f g k k'
def mapO (f:Int→Int) (g:α→β):Out α→Out β
 | .ok a s=>.ok (g a) (mapP f s)
 | .bad b s=>.bad b (mapP f s)
 | .out=>.out
theorem hd_map (l:List Token):hdOf (l.map (mapT f)) = hdOf l:=by cases l <;> rfl
theorem pos_map (fin:Int) (l:List Token):posOf (f fin) (l.map (mapT f)) = f (posOf fin l):=by cases l <;> rfl
theorem code_map (b:Bool) (l:List Token):codeOf b (l.map (mapT f)) = codeOf b l:=by cases l <;> rfl
theorem Nat'.run {g:α→β} (fin:Int):∀ (m:M α) (m':M β) (s:PS),Nat' f g m m'→m'.run (f fin) (mapP f s) = mapO f g (m.run fin s)
 | .ret a,_,s,rfl=>rfl
 | .fail b,_,s,rfl=>rfl
 | .out,_,s,rfl=>rfl
 | .look k,_,s,⟨k',rfl,h⟩=>by
  have:=Nat'.run fin (k (hdOf s.rest)) (k' (hdOf s.rest)) s (h _)
  simp only [M.run]
  rw [← this]
  simp only [mapP,hd_map]
 | .adv k,_,s,⟨k',rfl,h⟩=>by
  obtain ⟨r,i,p⟩:=s
  cases r with
  | nil=>rfl
  | cons t r=>exact Nat'.run fin k k' ⟨r,i,p⟩ h
 | .pos k,_,s,⟨k',rfl,h⟩=>by
  have:=Nat'.run fin (k (posOf fin s.rest)) (k' (f (posOf fin s.rest))) s (h _)
  simp only [M.run]
  rw [← this]
  simp only [mapP,pos_map]
 | .setI i k,_,s,⟨k',rfl,h⟩=>Nat'.run fin k k' ⟨s.rest,i,s.reps⟩ h
 | .getI k,_,s,⟨k',rfl,h⟩=>Nat'.run fin (k s.inner) (k' s.inner) s (h _)
 | .rep b k,_,s,⟨k',rfl,h⟩=>by
  have:=Nat'.run fin k k' ⟨s.rest,s.inner,s.reps ++ [(codeOf b s.rest,posOf fin s.rest)]⟩ h
  simp only [M.run]
  rw [← this]
  simp only [mapP,pos_map,code_map,List.map_append,List.map_cons,List.map_nil]
theorem nat_bind0 {g:α→β} {h:γ→δ} {k:α→M γ} {k':β→M δ} (hk:∀ a,Nat' f h (k a) (k' (g a))):∀ {m:M α} {m':M β},Nat' f g m m'→Nat' f h (m.bind k) (m'.bind k')
 | .ret a,_,rfl=>hk a
 | .fail b,_,rfl=>rfl
 | .out,_,rfl=>rfl
 | .look k,_,⟨k',e,h⟩=>by subst e; exact ⟨_,rfl,fun t=>nat_bind0 hk (h t)⟩
 | .adv k,_,⟨k',e,h⟩=>by subst e; exact ⟨_,rfl,nat_bind0 hk h⟩
 | .pos k,_,⟨k',e,h⟩=>by subst e; exact ⟨_,rfl,fun t=>nat_bind0 hk (h t)⟩
 | .setI i k,_,⟨k',e,h⟩=>by subst e; exact ⟨_,rfl,nat_bind0 hk h⟩
 | .getI k,_,⟨k',e,h⟩=>by subst e; exact ⟨_,rfl,fun t=>nat_bind0 hk (h t)⟩
 | .rep b k,_,⟨k',e,h⟩=>by subst e; exact ⟨_,rfl,nat_bind0 hk h⟩
theorem nat_bind {g:α→β} {h:γ→δ} {k:α→M γ} {k':β→M δ} {m:M α} {m':M β} (hk:∀ a,Nat' f h (k a) (k' (g a))) (hm:Nat' f g m m'):Nat' f h (m.bind k) (m'.bind k'):=nat_bind0 hk hm
theorem nat_try0 {g:α→β} {h:γ→δ} {k:α→M γ} {k':β→M δ} {c:Bool→M γ} {c':Bool→M δ} (hk:∀ a,Nat' f h (k a) (k' (g a))) (hc:∀ b,Nat' f h (c b) (c' b)):∀ {m:M α} {m':M β},Nat' f g m m'→Nat' f h (m.tryM k c) (m'.tryM k' c')
 | .ret a,_,rfl=>hk a
 | .fail b,_,rfl=>hc b
 | .out,_,rfl=>rfl
 | .look k,_,⟨k',e,h⟩=>by subst e; exact ⟨_,rfl,fun t=>nat_try0 hk hc (h t)⟩
 | .adv k,_,⟨k',e,h⟩=>by subst e; exact ⟨_,rfl,nat_try0 hk hc h⟩
 | .pos k,_,⟨k',e,h⟩=>by subst e; exact ⟨_,rfl,fun t=>nat_try0 hk hc (h t)⟩
 | .setI i k,_,⟨k',e,h⟩=>by subst e; exact ⟨_,rfl,nat_try0 hk hc h⟩
 | .getI k,_,⟨k',e,h⟩=>by subst e; exact ⟨_,rfl,fun t=>nat_try0 hk hc (h t)⟩
 | .rep b k,_,⟨k',e,h⟩=>by subst e; exact ⟨_,rfl,nat_try0 hk hc h⟩
theorem nat_try {g:α→β} {h:γ→δ} {k:α→M γ} {k':β→M δ} {c:Bool→M γ} {c':Bool→M δ} {m:M α} {m':M β} (hk:∀ a,Nat' f h (k a) (k' (g a))) (hc:∀ b,Nat' f h (c b) (c' b)) (hm:Nat' f g m m'):Nat' f h (m.tryM k c) (m'.tryM k' c'):=nat_try0 hk hc hm
theorem nat_ret {g:α→β} {a:α} {b:β} (h:b = g a):Nat' f g (.ret a) (.ret b):=by rw [h]; rfl
theorem nat_look {g:α→β} {k:Option (Int × ByteArray)→M α} {k':Option (Int × ByteArray)→M β} (h:∀ t,Nat' f g (k t) (k' t)):Nat' f g (.look k) (.look k'):=⟨k',rfl,h⟩
theorem nat_pos {g:α→β} {k:Int→M α} {k':Int→M β} (h:∀ x,Nat' f g (k x) (k' (f x))):Nat' f g (.pos k) (.pos k'):=⟨k',rfl,h⟩
theorem nat_adv {g:α→β} {k:M α} {k':M β} (h:Nat' f g k k'):Nat' f g (.adv k) (.adv k'):=⟨k',rfl,h⟩
theorem nat_setI {g:α→β} {i:Int} {k:M α} {k':M β} (h:Nat' f g k k'):Nat' f g (.setI i k) (.setI i k'):=⟨k',rfl,h⟩
theorem nat_rep {g:α→β} {b:Bool} {k:M α} {k':M β} (h:Nat' f g k k'):Nat' f g (.rep b k) (.rep b k'):=⟨k',rfl,h⟩
theorem nat_fail {g:α→β} {b:Bool}:Nat' f g (.fail b) (.fail b):=rfl
theorem nat_cond {g:α→β} {c:Bool} {a b:M α} {a' b':M β} (h1:Nat' f g a a') (h2:Nat' f g b b'):Nat' f g (bif c then a else b) (bif c then a' else b'):=by cases c <;> assumption
theorem nat_iter0 {gs:σ→σ'} {gr:ρ→ρ'} {step:σ→M (σ ⊕ ρ)} {step':σ'→M (σ' ⊕ ρ')} (h:∀ x,Nat' f (Sum.map gs gr) (step x) (step' (gs x))):∀ (n:Nat) (x:σ),Nat' f gr (iterM step n x) (iterM step' n (gs x))
 | 0,_=>rfl
 | n + 1,x=>nat_bind (fun r=>by
   cases r with
   | inl x'=>exact nat_iter0 h n x'
   | inr r=>exact rfl) (h x)
theorem nat_iter {gs:σ→σ'} {gr:ρ→ρ'} {step:σ→M (σ ⊕ ρ)} {step':σ'→M (σ' ⊕ ρ')} {n:Nat} {x:σ} (h:∀ x,Nat' f (Sum.map gs gr) (step x) (step' (gs x))):Nat' f gr (iterM step n x) (iterM step' n (gs x)):=nat_iter0 h n x
def Blank:M α→Prop
 | .ret _=>True
 | .fail _=>True
 | .out=>True
 | .look k=>∀ t,Blank (k t)
 | .adv k=>Blank k
 | .pos _=>False
 | .setI _ k=>Blank k
 | .getI k=>∀ x,Blank (k x)
 | .rep _ k=>Blank k
theorem Blank.nat:∀ {m:M α},Blank m→Nat' f id m m
 | .ret _,_=>rfl
 | .fail _,_=>rfl
 | .out,_=>rfl
 | .look _,h=>⟨_,rfl,fun t=>Blank.nat (h t)⟩
 | .adv _,h=>⟨_,rfl,Blank.nat h⟩
 | .pos _,h=>h.elim
 | .setI _ _,h=>⟨_,rfl,Blank.nat h⟩
 | .getI _,h=>⟨_,rfl,fun t=>Blank.nat (h t)⟩
 | .rep _ _,h=>⟨_,rfl,Blank.nat h⟩
theorem blank_bind0 {k:α→M β} (hk:∀ a,Blank (k a)):∀ {m:M α},Blank m→Blank (m.bind k)
 | .ret a,_=>hk a
 | .fail _,_=>trivial
 | .out,_=>trivial
 | .look _,h=>fun t=>blank_bind0 hk (h t)
 | .adv k,h=>blank_bind0 hk (m:=k) h
 | .pos _,h=>h.elim
 | .setI _ k,h=>blank_bind0 hk (m:=k) h
 | .getI _,h=>fun t=>blank_bind0 hk (h t)
 | .rep _ k,h=>blank_bind0 hk (m:=k) h
theorem blank_bind {k:α→M β} {m:M α} (hk:∀ a,Blank (k a)) (h:Blank m):Blank (m.bind k):=blank_bind0 hk h
theorem blank_cond {c:Bool} {a b:M α} (h1:Blank a) (h2:Blank b):Blank (bif c then a else b):=by cases c <;> assumption
theorem blank_iter0 {step:σ→M (σ ⊕ ρ)} (h:∀ x,Blank (step x)):∀ (n:Nat) (x:σ),Blank (iterM step n x)
 | 0,_=>trivial
 | n + 1,x=>blank_bind (fun r=>by
   cases r with
   | inl x'=>exact blank_iter0 h n x'
   | inr r=>trivial) (h x)
theorem blank_iter {step:σ→M (σ ⊕ ρ)} {n:Nat} {x:σ} (h:∀ x,Blank (step x)):Blank (iterM step n x):=blank_iter0 h n x
theorem blank_accept (a:ByteArray):Blank (accept a):=fun t=>by
 cases t with
 | none=>trivial
 | some t=>exact blank_cond (a:=.adv (.ret true)) trivial trivial
theorem blank_expect (a:ByteArray):Blank (expect a):=blank_bind (fun _=>blank_cond trivial trivial) (blank_accept a)
theorem blank_name:Blank name:=fun t=>by
 cases t with
 | none=>trivial
 | some t=>exact blank_cond (a:=.adv (.ret t.2)) trivial trivial
theorem blank_num:Blank num:=fun t=>by
 cases t with
 | none=>trivial
 | some t=>exact blank_cond (a:=.adv (.ret (numV t.2))) trivial trivial
theorem blank_len:Blank len:=fun t=>by
 cases t with
 | none=>trivial
 | some t=>exact blank_cond (blank_cond (b:=.adv (.ret (numV t.2))) trivial trivial) trivial
theorem blank_path (n:Nat):Blank (path n):=blank_bind (fun _=>blank_iter (fun _=>blank_cond (blank_bind (fun _=>blank_cond trivial (blank_bind (fun _=>trivial) blank_name)) (blank_accept _)) trivial)) blank_name
theorem blank_skip (n:Nat) (closed:Bool):Blank (skip n closed):=fun d=>by
 refine blank_bind (m:=iterM (skipS closed) n d) (fun _=>trivial) (blank_iter fun s t=>?_)
 cases t with
 | none=>trivial
 | some t =>
  refine blank_cond (blank_cond (a:=.adv (.ret _)) (b:=.adv (.ret _)) trivial trivial) (blank_cond (a:=.adv (.ret _)) trivial (blank_cond (blank_cond trivial (blank_cond (a:=.adv (.ret _)) trivial (blank_cond (a:=.adv _) ?_ (b:=.adv (.ret _)) trivial))) (b:=.adv (.ret _)) trivial))
  exact blank_bind (m:=accept _) (fun _=>trivial) (blank_accept _)
theorem nat_accept {a:ByteArray}:Nat' f id (accept a) (accept a):=(blank_accept a).nat
theorem nat_expect {a:ByteArray}:Nat' f id (expect a) (expect a):=(blank_expect a).nat
theorem nat_name:Nat' f id name name:=blank_name.nat
theorem nat_num:Nat' f id num num:=blank_num.nat
theorem nat_path {n:Nat}:Nat' f id (path n) (path n):=(blank_path n).nat
theorem nat_kw {g:α→β} {a:ByteArray} {m m1:M α} {m' m1':M β} (h1:Nat' f g m m') (h2:Nat' f g m1 m1'):Nat' f g (kw a m m1) (kw a m' m1'):=nat_bind (fun _=>nat_cond h1 h2) nat_accept
theorem nat_semi {g:α→β} {x:α} {y:β} (h:y = g x):Nat' f g (semi x) (semi y):=nat_bind (fun _=>nat_ret h) nat_expect
theorem nat_numNode:Nat' f (mapN f) numNode numNode:=nat_pos fun _=>nat_bind (fun _=>nat_ret rfl) nat_num
theorem nat_refS {mE mE':M Node} (hE:Nat' f (mapN f) mE mE') (n:Nat):Nat' f (mapN f) (refS mE n) (refS mE' n) :=
 nat_pos fun _=>nat_bind (fun _=>nat_kw (nat_bind (fun _=>nat_bind (fun _=>nat_ret rfl) nat_expect) hE) (nat_ret rfl)) nat_path
theorem nat_exprs:∀ n,Nat' f (mapN f) (ref n) (ref n)∧Nat' f (mapN f) (unary n) (unary n)∧(∀ a,Nat' f (mapN f) (bin n a) (bin n a))∧Nat' f (mapN f) (cond n) (cond n)∧Nat' f (mapN f) (expr n) (expr n)
 | 0=>by
  refine ⟨?_,?_,fun a=>?_,?_,?_⟩
  ·rw [ref]; rfl
  ·rw [unary]; rfl
  ·rw [bin]; rfl
  ·rw [cond]; rfl
  ·rw [expr]; rfl
 | n + 1=>by
  obtain ⟨h1,h2,h3,h4,h5⟩:=nat_exprs n
  refine ⟨?_,?_,fun a=>?_,?_,?_⟩
  ·rw [ref]; exact nat_refS h5 n
  ·rw [unary]
   refine nat_pos fun p=>nat_kw (nat_bind (fun e=>nat_ret rfl) h2) (nat_look fun t=>nat_cond nat_numNode ?_)
   refine nat_kw (nat_bind (fun _=>nat_bind (fun e=>nat_bind (fun _=>nat_ret rfl) nat_expect) h1) nat_expect) ?_
   exact nat_kw (nat_bind (fun e=>nat_bind (fun _=>nat_ret rfl) nat_expect) h5) h1
  ·rw [bin]
   refine nat_bind (fun x=>nat_iter (gs:=fun s:Int × Node=>(s.1,mapN f s.2)) (gr:=mapN f) (fun s=>?_)) h2
   refine nat_look fun t=>nat_pos fun p=>nat_cond (nat_ret rfl) (nat_adv (nat_bind (g:=fun s:Int × Node=>(s.1,mapN f s.2)) (fun j=>nat_ret rfl) ?_))
   exact nat_cond (nat_bind (fun r=>nat_ret rfl) (h3 _)) (nat_cond (nat_bind (fun r=>nat_ret rfl) (h3 _)) (nat_bind (fun r=>nat_ret rfl) (h3 _)))
  ·rw [cond]
   refine nat_bind (fun x=>nat_pos fun p=>nat_bind (fun b=>nat_cond (nat_ret rfl) ?_) nat_accept) (h3 2)
   exact nat_bind (fun y=>nat_bind (fun _=>nat_bind (fun z=>nat_ret rfl) h4) nat_expect) h4
  ·rw [expr]
   have hq:∀ k,Nat' f (mapN f) (quant (expr n) k) (quant (expr n) k):=fun k =>
    nat_pos fun p=>nat_adv (nat_bind (fun x=>nat_bind (fun _=>nat_bind (fun v=>nat_bind (fun _=>nat_bind (fun e=>nat_ret rfl) h5) nat_expect) nat_num) nat_expect) nat_name)
   exact nat_look fun t=>nat_cond (hq 7) (nat_cond (hq 8) h4)
theorem nat_expr (n:Nat):Nat' f (mapN f) (expr n) (expr n):=(nat_exprs n).2.2.2.2
theorem nat_ref (n:Nat):Nat' f (mapN f) (ref n) (ref n):=(nat_exprs n).1
theorem nat_partsL {part:M (List Node)} (h:Nat' f (List.map (mapN f)) part part) (n:Nat) (x:List Node):Nat' f (List.map (mapN f)) (iterM (partsL part) n x) (iterM (partsL part) n (x.map (mapN f))) :=
 nat_iter (gs:=List.map (mapN f)) (fun acc=>nat_kw (nat_bind (fun y=>nat_ret (by simp)) h) (nat_ret rfl))
theorem nat_some {part:M (List Node)} (h:Nat' f (List.map (mapN f)) part part) (n:Nat):Nat' f (List.map (mapN f)) (some' n part) (some' n part):=nat_bind (fun x=>nat_partsL h n x) h
theorem nat_parts {part:M (List Node)} (h:Nat' f (List.map (mapN f)) part part) (n:Nat) (a:ByteArray):Nat' f (List.map (mapN f)) (parts n a part) (parts n a part) :=
 nat_kw (nat_ret rfl) (nat_bind (fun x=>nat_bind (fun _=>nat_bind (fun _=>nat_ret rfl) nat_expect) (nat_partsL h n x)) h)
theorem nat_one {m:M Node} (h:Nat' f (mapN f) m m):Nat' f (List.map (mapN f)) (one m) (one m):=nat_bind (fun _=>nat_ret rfl) h
theorem nat_list {item:M Node} (h:Nat' f (mapN f) item item) (n:Nat) (closed:Bool):Nat' f (List.map (mapN f)) (list n closed item) (list n closed item):=by
 refine nat_iter (gs:=List.map (mapN f)) (fun acc=>nat_look fun t=>nat_cond (nat_cond nat_fail (nat_ret rfl)) (nat_bind (g:=id) (fun b=>nat_cond (nat_ret rfl) ?_) (nat_cond nat_accept (nat_ret rfl))))
 exact nat_try (fun x=>nat_ret (by simp)) (fun b=>nat_rep (nat_bind (fun _=>nat_ret rfl) (blank_skip n closed).nat)) h
theorem nat_sized (k:Int) (g:Bool) (p:Int):Nat' f (mapN f) (sized k g p) (sized k g (f p)):=nat_bind (fun _=>nat_bind (fun _=>nat_bind (fun _=>nat_ret rfl) nat_num) nat_expect) nat_name
theorem nat_field:Nat' f (mapN f) field field:=nat_pos fun _=>nat_bind (fun _=>nat_semi rfl) (nat_sized ..)
theorem nat_param:Nat' f (mapN f) param param:=nat_pos fun _=>nat_sized ..
theorem nat_pathNode (n:Nat):Nat' f (mapN f) (pathNode n) (pathNode n):=nat_pos fun _=>nat_bind (fun _=>nat_ret rfl) nat_path
theorem nat_assign (n:Nat):Nat' f (List.map (mapN f)) (assign n) (assign n):=nat_bind (fun _=>nat_bind (fun _=>nat_bind (fun _=>nat_ret rfl) (nat_expr n)) nat_expect) (nat_ref n)
theorem nat_with (n:Nat):Nat' f (List.map (mapN f)) (with' n) (with' n):=nat_bind (fun _=>nat_cond (nat_ret rfl) (nat_some (nat_assign n) n)) nat_accept
theorem nat_atomic (n:Nat) (p:Int):Nat' f (List.map (mapN f)) (atomic n p) (atomic n (f p)) :=
 nat_bind (fun _=>nat_setI (nat_bind (fun l=>nat_setI (nat_kw (nat_bind (fun e=>nat_ret (by simp)) (nat_expr n)) (nat_ret (by simp [none',mapN,mapNs])))) (nat_parts (nat_assign n) n _))) nat_expect
theorem nat_cas (n:Nat):Nat' f (List.map (mapN f)) (cas n) (cas n) :=
 nat_bind (fun a=>nat_bind (fun _=>nat_bind (fun b=>nat_bind (fun _=>nat_bind (fun c=>nat_bind (fun _=>nat_bind (fun d=>nat_bind (fun l=>nat_ret (by simp)) (nat_with n)) (nat_ref n)) nat_expect) (nat_expr n)) nat_expect) (nat_expr n)) nat_expect) (nat_ref n)
theorem nat_stmtS {mIf mWh:Int→M Node} (h1:∀ p,Nat' f (mapN f) (mIf p) (mIf (f p))) (h2:∀ p,Nat' f (mapN f) (mWh p) (mWh (f p))) (n:Nat):Nat' f (mapN f) (stmtS mIf mWh n) (stmtS mIf mWh n):=by
 refine nat_pos fun p=>?_
 have hE:=nat_expr (f:=f) n
 refine nat_kw (h1 p) ?_
 refine nat_kw (h2 p) ?_
 refine nat_kw (nat_bind (fun _=>nat_semi rfl) hE) ?_
 refine nat_kw (nat_bind (fun _=>nat_semi rfl) hE) ?_
 refine nat_kw (nat_semi rfl) ?_
 refine nat_kw (nat_semi rfl) ?_
 refine nat_kw (nat_bind (fun l=>nat_semi (by simp [mapN_eq,nd])) (nat_atomic n p)) ?_
 refine nat_kw (nat_bind (fun l=>nat_semi (by simp [mapN_eq,nd])) (nat_cas n)) ?_
 refine nat_kw (nat_bind (fun _=>nat_semi rfl) nat_path) ?_
 refine nat_kw (nat_bind (fun _=>nat_semi rfl) nat_path) ?_
 refine nat_kw (nat_bind (fun _=>nat_semi rfl) nat_name) ?_
 refine nat_kw (nat_bind (fun _=>nat_semi rfl) nat_name) ?_
 refine nat_kw (nat_bind (fun x=>nat_bind (fun _=>nat_bind (fun l=>nat_semi (by simp [mapN_eq,nd])) (nat_parts (nat_one hE) n _)) nat_expect) nat_path) ?_
 refine nat_kw (nat_bind (fun _=>nat_bind (fun _=>nat_semi rfl) (nat_sized ..)) nat_expect) ?_
 refine nat_kw (nat_bind (fun _=>nat_semi rfl) (nat_sized ..)) ?_
 refine nat_bind (g:=mapN f) (fun j=>nat_bind (fun a=>nat_bind (fun w=>nat_semi ?_) (nat_with n)) (nat_assign n)) (nat_kw (nat_ret rfl) (nat_ret rfl))
 rw [mapN_eq,mapN_eq]
 simp
theorem nat_stmts:∀ n,(∀ p,Nat' f (mapN f) (loop n p) (loop n (f p)))∧(∀ p,Nat' f (mapN f) (branch n p) (branch n (f p)))∧Nat' f (mapN f) (stmt n) (stmt n)∧Nat' f (List.map (mapN f)) (stmts n) (stmts n)∧Nat' f (mapN f) (block n) (block n)
 | 0=>by
  refine ⟨fun p=>?_,fun p=>?_,?_,?_,?_⟩
  ·rw [loop,loop]; rfl
  ·rw [branch,branch]; rfl
  ·rw [stmt]; rfl
  ·rw [stmts]; rfl
  ·rw [block]; rfl
 | n + 1=>by
  obtain ⟨h1,h2,h3,h4,h5⟩:=nat_stmts n
  have hE:=nat_expr (f:=f) n
  refine ⟨fun p=>?_,fun p=>?_,?_,?_,?_⟩
  ·rw [loop,loop]
   exact nat_bind (fun c=>nat_bind (g:=mapN f) (fun v=>nat_bind (fun b=>nat_ret rfl) h5) (nat_kw hE (nat_ret rfl))) hE
  ·rw [branch,branch]
   exact nat_bind (fun c=>nat_bind (fun a=>nat_bind (g:=mapN f) (fun b=>nat_ret rfl) (nat_kw h5 (nat_ret rfl))) h5) hE
  ·rw [stmt]; exact nat_stmtS h2 h1 n
  ·rw [stmts]; exact nat_list h3 n true
  ·rw [block]; exact nat_pos fun p=>nat_bind (fun _=>nat_bind (fun l=>nat_ret (by simp [mapN_eq])) h4) nat_expect
theorem nat_shared (g:Bool) (p:Int):Nat' f (mapN f) (shared g p) (shared g (f p)):=by
 refine nat_bind (fun x=>nat_bind (g:=mapN f) (fun j=>nat_bind (fun _=>nat_bind (g:=mapN f) (fun j=>nat_bind (g:=mapN f) (fun j=>nat_semi rfl) ?_) ?_) nat_expect) ?_) nat_name
 ·exact nat_kw (nat_bind (fun v=>nat_ret (by simp [mapN_eq])) nat_num) (nat_ret rfl)
 ·exact nat_look fun t=>nat_cond (nat_bind (fun o=>nat_ret (by simp [mapN_eq])) nat_name) (nat_bind (fun v=>nat_ret (by simp [mapN_eq])) nat_num)
 ·exact nat_kw (nat_bind (fun l=>nat_bind (fun _=>nat_ret rfl) nat_expect) blank_len.nat) (nat_ret rfl)
theorem nat_decl (n:Nat):Nat' f (mapN f) (decl n) (decl n):=by
 have hE:=nat_expr (f:=f) n
 refine nat_pos fun p=>nat_bind (g:=Sum.map (mapN f) (mapN f)) (fun j=>by cases j with | inl x=>exact nat_ret rfl | inr x=>exact nat_semi rfl) ?_
 refine nat_kw (nat_bind (fun x=>nat_bind (fun _=>nat_bind (fun l=>nat_ret (by simp [Sum.map,mapN_eq,nd])) (nat_list nat_field n true)) nat_expect) nat_name) ?_
 refine nat_kw (nat_bind (fun _=>nat_bind (fun x=>nat_ret rfl) (nat_shared ..)) nat_expect) ?_
 refine nat_kw (nat_bind (fun x=>nat_ret rfl) (nat_shared ..)) ?_
 refine nat_kw (nat_bind (fun x=>nat_bind (fun _=>nat_bind (fun e=>nat_ret rfl) hE) nat_expect) nat_name) ?_
 refine nat_kw (nat_bind (fun e=>nat_ret rfl) hE) ?_
 refine nat_kw (nat_bind (fun e=>nat_ret rfl) hE) ?_
 refine nat_kw (nat_bind (fun l=>nat_ret (by simp [Sum.map,mapN_eq,nd])) (nat_some (nat_one (nat_pathNode n)) n)) ?_
 refine nat_kw ?_ nat_fail
 refine nat_bind (fun x=>nat_bind (fun _=>nat_bind (fun l=>nat_bind (g:=mapN f) (fun j=>nat_bind (fun b=>nat_ret ?_) (nat_stmts n).2.2.2.2) ?_) (nat_parts (nat_one nat_param) n _)) nat_expect) nat_name
 ·simp [Sum.map,mapN_eq]
 ·exact nat_kw (nat_bind (fun o=>nat_ret (by simp [mapN_eq])) nat_name) (nat_ret (by simp [mapN_eq]))
theorem nat_thread (v p:Int) (n:Nat):Nat' f (mapN f) (thread v p n) (thread v (f p) n) :=
 nat_bind (fun x=>nat_bind (fun _=>nat_bind (fun o=>nat_bind (fun _=>nat_bind (fun l=>nat_semi (by simp [mapN_eq])) (nat_parts (nat_one nat_numNode) n _)) nat_expect) nat_path) nat_expect) nat_name
theorem nat_item (n:Nat):Nat' f (mapN f) (item n) (item n):=by
 refine nat_pos fun p=>nat_kw (nat_bind (fun x=>nat_bind (fun _=>nat_bind (fun o=>nat_bind (fun _=>nat_bind (fun l=>nat_ret (by simp [mapN_eq])) (nat_list (nat_decl n) n true)) nat_expect) nat_name) nat_expect) nat_name) ?_
 exact nat_kw (nat_bind (fun _=>nat_thread ..) nat_expect) (nat_kw (nat_thread ..) nat_fail)
theorem nat_source (n:Nat):Nat' f (List.map (mapN f)) (source n) (source n):=nat_list (nat_item n) n false
end M
end Go.Proofs.YtbecjgckobhmpaaGreatDoor
end
section
namespace Go.Proofs.YtbecjgckobhmpaaGreatDoor
open Go Go.AM Go.Proofs
set_option maxRecDepth 100000
set_option maxHeartbeats 4000000
def F41_step (F41:Node→Int→Bool→Option Node) (n:Nat) (a0:Node) (a1:Int) (a2:Bool):Option Node :=
 (bif !a2 then
   (some (Node.mk a0.kind a0.name a0.other a0.n a0.len a0.init a0.ghost a0.kids (w64 (a0.pos + a1))))
  else
   (some a0):Option (Node)).bind fun j4 =>
 (iter (σ:=Int × Node) (ρ:=Node) (fun s5=>bif decide (s5.1 < (a0.kids.length:Int)) then
   ((idxL a0.kids s5.1).bind fun x7 =>
   (F41 x7 a1 false).bind fun x8 =>
   (appL 104 s5.2.kids ([x8]:List Node)).bind fun x9 =>
   some (.inl (w64 (s5.1 + 1),(Node.mk s5.2.kind s5.2.name s5.2.other s5.2.n s5.2.len s5.2.init s5.2.ghost x9 s5.2.pos))))
  else
   (some (.inr s5.2))) n ((0:Int),(Node.mk j4.kind j4.name j4.other j4.n j4.len j4.init j4.ghost ([]:List Node) j4.pos))).bind fun r11 =>
 some r11
def F41:Nat→Node→Int→Bool→Option Node
 | 0,_,_,_=>none
 | n + 1,a0,a1,a2=>F41_step (F41 n) n a0 a1 a2
end Go.Proofs.YtbecjgckobhmpaaGreatDoor
end
section
namespace Go.Proofs.YtbecjgckobhmpaaGreatDoor
open Go Go.AM Go.Proofs
theorem ktake {l:List Node}:∀ {k:Nat} {x:Node},l[k]? = some x→szs (l.take k) + sz x≤szs l∧szs (l.take (k + 1)) = szs (l.take k) + sz x:=by
 induction l with
 | nil=>intro k x h; simp at h
 | cons y r ih =>
  intro k x h
  cases k with
  | zero =>
   simp only [List.getElem?_cons_zero,Option.some.injEq] at h
   subst h
   simp [szs]
  | succ k =>
   have:=ih (k:=k) (x:=x) (by simpa using h)
   simp only [List.take_succ_cons,szs] at this ⊢
   omega
theorem take_mem {l:List Node} {k:Nat} {y z:Node} (hy:l[k]? = some y) (hz:z ∈ l.take (k + 1)):z ∈ l.take k∨z = y:=by
 rw [List.take_add_one,hy] at hz
 simpa using hz
mutual
def dep:Node→Nat
 | ⟨_,_,_,_,_,_,_,ks,_⟩=>1 + deps ks
def deps:List Node→Nat
 | []=>0
 | x :: r=>max (dep x) (deps r)
end
theorem dep_eq (x:Node):dep x = 1 + deps x.kids:=by cases x; rfl
theorem deps_le:∀ (l:List Node) (B:Nat),deps l≤B ↔ ∀ y ∈ l,dep y≤B
 | [],B=>by simp [deps]
 | x :: r,B=>by
  simp only [deps,List.mem_cons,forall_eq_or_imp,← deps_le r B]
  omega
theorem dep_pos (x:Node):1≤dep x:=by rw [dep_eq]; omega
theorem dep_mem {x y:Node} (h:y ∈ x.kids):dep y + 1≤dep x:=by
 have:=(deps_le x.kids (deps x.kids)).1 (Nat.le_refl _) y h
 rw [dep_eq x]
 omega
def smallP (x:Node):Prop:=sz x≤1500∧dep x≤40
instance (x:Node):Decidable (smallP x):=inferInstanceAs (Decidable (_∧_))
theorem G96:∀ (m:Nat) (x:Node),sz x≤m→sz x≤100000→∀ (d c:Nat),c≤1500→d≤100→∀ n,2000 + sz x≤n →
  T (F96 n x (d:Int) (c:Int)) (fun r=>r.1 = decide (c + sz x≤1500∧d + dep x≤41)∧(r.1 = true→r.2 = ((c + sz x:Nat):Int))):=by
 intro m
 induction m with
 | zero=>intro x hx; have:=sz_pos x; omega
 | succ m ih =>
  intro x hx hx2 d c hc hd n hn
  obtain ⟨n,rfl⟩:∃ k,n = k + 1:=⟨n - 1,by omega⟩
  have hsz:=sz_eq x
  have hdp:=dep_eq x
  have hlen:=szs_len x.kids
  have hpos:=sz_pos x
  show T (F96_step (F96 n) n x (d:Int) (c:Int)) _
  unfold F96_step
  have e1:w64 ((c:Int) + 1) = ((c + 1:Nat):Int):=w64_nat (by omega)
  rw [e1]
  by_cases hb:1500 < c + 1∨40 < d
  ·have c1:(decide ((1500:Int) < ((c + 1:Nat):Int)) || decide ((40:Int) < (d:Int))) = true:=by simp; omega
   rw [c1]
   refine T.some ⟨?_,fun h=>by simp at h⟩
   have:=dep_pos x
   have hno:¬ (c + sz x≤1500∧d + dep x≤41):=by omega
   simp [hno]
  ·have c1:(decide ((1500:Int) < ((c + 1:Nat):Int)) || decide ((40:Int) < (d:Int))) = false:=by simp; omega
   rw [c1]
   simp only [cond_false]
   refine T.bind (P:=fun r=>match r with | .inl _=>¬ (c + sz x≤1500∧d + dep x≤41) | .inr v=>(c + sz x≤1500∧d + dep x≤41)∧v = ((c + sz x:Nat):Int)) ?_ (fun r h=>by
    cases r with
    | inl v=>exact T.some ⟨(decide_eq_false h).symm,fun h=>by simp at h⟩
    | inr v=>exact T.some ⟨(decide_eq_true h.1).symm,fun _=>h.2⟩)
   refine iter_inv x.kids (fun (k:Nat) (a:Nat)=>((k:Int),(a:Int))) (fun k a=>a = c + 1 + szs (x.kids.take k)∧a≤1500∧∀ y ∈ x.kids.take k,d + 1 + dep y≤41) _ (fun k a y hy ha=>?_) (fun a ha=>?_) n (c + 1) (by omega) ⟨by simp [szs],by omega,by simp⟩
   ·have hlt:=lt_of_get hy
    have hm:=List.mem_of_getElem? hy
    have hys:=szs_mem x.kids y hm
    have htk:=ktake hy
    have hdm:=dep_mem hm
    have c2:decide ((k:Int) < (x.kids.length:Int)) = true:=by simpa using hlt
    obtain ⟨r,hr,hr1,hr2⟩:=ih y (by omega) (by omega) (d + 1) a ha.2.1 (by omega) n (by omega)
    simp only [c2,cond_true,idxL_some hy,Option.bind_some,w64_nat (k:=d) (by omega),hr,w64_nat (k:=k) (by omega)]
    cases hb:r.1
    ·right
     refine ⟨_,rfl,?_⟩
     rw [hb] at hr1
     have hr1':¬ (a + sz y≤1500∧d + 1 + dep y≤41):=by
      intro h
      rw [decide_eq_true h] at hr1
      cases hr1
     show ¬ (c + sz x≤1500∧d + dep x≤41)
     omega
    ·rw [hb] at hr1
     have hr1':a + sz y≤1500∧d + 1 + dep y≤41:=of_decide_eq_true hr1.symm
     left
     refine ⟨a + sz y,?_,?_,hr1'.1,?_⟩
     ·simp only [Bool.not_true,cond_false]
      rw [hr2 hb]
     ·rw [htk.2]; omega
     ·intro z hz
      rcases take_mem hy hz with hz | rfl
      ·exact ha.2.2 z hz
      ·exact hr1'.2
   ·have c2:decide ((x.kids.length:Int) < (x.kids.length:Int)) = false:=by simp
    simp only [c2,cond_false]
    have h1:=ha.1
    rw [List.take_length] at h1
    refine ⟨_,rfl,⟨by omega,?_⟩,?_⟩
    ·have:deps x.kids≤40 - d:=(deps_le _ _).2 (fun y hy=>by have:=ha.2.2 y (by simpa using hy); omega)
     omega
    ·rw [h1]
     congr 1
     omega
theorem G59 (x:Node) (hs:sz x≤100000) {n:Nat} (hn:2000 + sz x≤n):F59 n x = some (decide (smallP x)):=by
 obtain ⟨r,hr,h1,_⟩:=G96 (sz x) x (Nat.le_refl _) hs 1 0 (by omega) (by omega) n hn
 unfold F59
 erw [hr]
 simp only [Option.bind_some,h1]
 congr 1
 rw [decide_eq_decide]
 unfold smallP
 omega
theorem G60:∀ (m:Nat) (x:Node),sz x≤m→sz x≤100000→∀ (lim:Nat),lim≤10000→∀ n,2000 + sz x≤n →
  T (F60 n x (lim:Int)) (fun r=>∃ v:Nat,r = (v:Int)∧1≤v∧v≤sz x∧(v≤lim→v = sz x)):=by
 intro m
 induction m with
 | zero=>intro x hx; have:=sz_pos x; omega
 | succ m ih =>
  intro x hx hx2 lim hl n hn
  obtain ⟨n,rfl⟩:∃ k,n = k + 1:=⟨n - 1,by omega⟩
  have hsz:=sz_eq x
  have hlen:=szs_len x.kids
  have hpos:=sz_pos x
  show T (F60_step (F60 n) n x (lim:Int)) _
  unfold F60_step
  refine T.bind (P:=fun r=>∃ v:Nat,r = (v:Int)∧1≤v∧v≤sz x∧(v≤lim→v = sz x)) ?_ (fun r h=>T.some h)
  refine iter_inv x.kids (fun (k:Nat) (a:Nat)=>((a:Int),(k:Int))) (fun k a=>1≤a∧a≤1 + szs (x.kids.take k)∧(a≤lim→a = 1 + szs (x.kids.take k))) _ (fun k a y hy ha=>?_) (fun a ha=>?_) n 1 (by omega) ⟨by omega,by omega,fun _=>by simp [szs]⟩
  ·have hlt:=lt_of_get hy
   have hm:=List.mem_of_getElem? hy
   have hys:=szs_mem x.kids y hm
   have htk:=ktake hy
   by_cases hal:a≤lim
   ·have c2:(decide ((k:Int) < (x.kids.length:Int)) && decide ((a:Int)≤(lim:Int))) = true:=by simp; omega
    have e1:w64 ((lim:Int) - (a:Int)) = ((lim - a:Nat):Int):=by rw [w64_id (by omega) (by omega)]; omega
    obtain ⟨r,hr,v,hv,hv1,hv2,hr2⟩:=ih y (by omega) (by omega) (lim - a) (by omega) n (by omega)
    simp only [c2,cond_true,idxL_some hy,Option.bind_some,e1,hr,w64_nat (k:=k) (by omega)]
    left
    have e3:w64 ((a:Int) + r) = ((a + v:Nat):Int):=by rw [hv,w64_id (by omega) (by omega)]; omega
    refine ⟨a + v,by rw [e3],by omega,by omega,fun hle=>?_⟩
    have h5:=hr2 (by omega)
    have h7:=ha.2.2 hal
    omega
   ·right
    have c2:(decide ((k:Int) < (x.kids.length:Int)) && decide ((a:Int)≤(lim:Int))) = false:=by simp; omega
    simp only [c2,cond_false]
    exact ⟨_,rfl,a,rfl,ha.1,by omega,fun h=>absurd h hal⟩
  ·have c2:(decide ((x.kids.length:Int) < (x.kids.length:Int)) && decide ((a:Int)≤(lim:Int))) = false:=by simp
   simp only [c2,cond_false]
   have h1:=ha.2
   rw [List.take_length] at h1
   exact ⟨_,rfl,a,rfl,ha.1,by omega,fun hle=>by have h2:=h1.2 hle; omega⟩
theorem G26 (x:Node) (hs:sz x≤100000) {lim:Nat} (hl:lim≤10000) {n:Nat} (hn:2000 + sz x≤n):F26 n x (lim:Int) = some (decide (sz x≤lim)):=by
 obtain ⟨r,hr,v,rfl,h1,h2,h3⟩:=G60 (sz x) x (Nat.le_refl _) hs lim hl n hn
 unfold F26
 erw [hr]
 simp only [Option.bind_some]
 congr 1
 rw [decide_eq_decide]
 constructor
 ·intro h
  have:=h3 (by omega)
  omega
 ·intro h
  omega
theorem strEq_iff {a b:ByteArray}:strEq a b = true ↔ a = b:=by
 constructor
 ·intro h
  have h':tl a = tl b:=by simpa [strEq,tl] using h
  have:=congrArg bs h'
  rwa [bs_tl,bs_tl] at this
 ·rintro rfl
  exact strEq_self a
theorem G30:∀ (m:Nat) (x y:Node),sz x≤m→sz x≤100000→∀ n,2000 + sz x≤n→T (F30 n x y) (fun r=>r = true ↔ x = y):=by
 intro m
 induction m with
 | zero=>intro x y hx; have:=sz_pos x; omega
 | succ m ih =>
  intro x y hx hx2 n hn
  obtain ⟨n,rfl⟩:∃ k,n = k + 1:=⟨n - 1,by omega⟩
  have hsz:=sz_eq x
  have hlen:=szs_len x.kids
  show T (F30_step (F30 n) n x y) _
  unfold F30_step
  refine T.cond (fun hc=>T.some ?_) (fun hc=>?_)
  ·constructor
   ·intro h; cases h
   ·rintro rfl
    simp [strEq_self] at hc
  simp only [Bool.or_eq_false_iff,bne_eq_false_iff_eq,Bool.not_eq_false',beq_iff_eq,strEq_iff] at hc
  obtain ⟨⟨⟨⟨⟨⟨⟨h1,h2⟩,h3⟩,h4⟩,h5⟩,h6⟩,h7⟩,h8⟩:=hc
  have hxy:x = y ↔ x.kids = y.kids:=by
   cases x; cases y
   simp only at h1 h2 h3 h4 h5 h6 h7 h8
   subst h1 h2 h3 h4 h5 h6 h7 h8
   simp
  rw [hxy]
  refine T.cond (fun hc=>T.some ?_) (fun hc=>?_)
  ·constructor
   ·intro h; cases h
   ·intro h
    rw [h] at hc
    simp at hc
  have hl:x.kids.length = y.kids.length:=by simp at hc; omega
  refine T.bind (P:=fun r=>match r with | .inl _=>x.kids≠y.kids | .inr _=>x.kids = y.kids) ?_ (fun r h=>by
   cases r with
   | inl v=>exact T.some ⟨fun h=>(by cases h),fun h'=>absurd h' h⟩
   | inr v=>exact T.some ⟨fun _=>h,fun _=>rfl⟩)
  refine iter_inv x.kids (fun (k:Nat) (_:Unit)=>(k:Int)) (fun k _=>x.kids.take k = y.kids.take k) _ (fun k a z hz ha=>?_) (fun a ha=>?_) n () (by omega) (by simp)
  ·have hlt:=lt_of_get hz
   have hm:=List.mem_of_getElem? hz
   have hys:=szs_mem x.kids z hm
   have c2:decide ((k:Int) < (x.kids.length:Int)) = true:=by simpa using hlt
   obtain ⟨z2,hz2⟩:∃ z2,y.kids[k]? = some z2:=⟨y.kids[k]'(by omega),List.getElem?_eq_getElem (by omega)⟩
   obtain ⟨r,hr,hr1⟩:=ih z z2 (by omega) (by omega) n (by omega)
   simp only [c2,cond_true,idxL_some hz,idxL_some hz2,Option.bind_some,hr,w64_nat (k:=k) (by omega)]
   cases hb:r
   ·right
    refine ⟨_,rfl,fun h=>?_⟩
    rw [h,hz2] at hz
    have:z = z2:=by simpa using hz.symm
    rw [hr1.2 this] at hb
    cases hb
   ·left
    have:=hr1.1 hb
    subst this
    refine ⟨(),rfl,?_⟩
    rw [List.take_add_one,List.take_add_one,ha,hz,hz2]
  ·have c2:decide ((x.kids.length:Int) < (x.kids.length:Int)) = false:=by simp
   simp only [c2,cond_false]
   refine ⟨_,rfl,?_⟩
   show x.kids = y.kids
   rw [List.take_length,hl,List.take_length] at ha
   exact ha
theorem G30t {x y:Node} (h:x = y) (hs:sz x≤100000) {n:Nat} (hn:2000 + sz x≤n):F30 n x y = some true:=by
 obtain ⟨r,hr,h1⟩:=G30 (sz x) x y (Nat.le_refl _) hs n hn
 rw [hr,h1.2 h]
theorem diagEq_iff (x y:Diag):diagEq x y = true ↔ x = y:=by
 cases x; cases y
 simp [diagEq]
theorem G42 (a b:List Diag) (ha:a.length≤1000000) {n:Nat} (hn:a.length < n):T (F42 n a b) (fun r=>r = true ↔ a = b):=by
 unfold F42
 refine T.cond (fun hc=>T.some ?_) (fun hc=>?_)
 ·constructor
  ·intro h; cases h
  ·intro h
   rw [h] at hc
   simp at hc
 have hl:a.length = b.length:=by simp at hc; omega
 refine T.bind (P:=fun r=>match r with | .inl _=>a≠b | .inr _=>a = b) ?_ (fun r h=>by
  cases r with
  | inl v=>exact T.some ⟨fun h=>(by cases h),fun h'=>absurd h' h⟩
  | inr v=>exact T.some ⟨fun _=>h,fun _=>rfl⟩)
 refine iter_inv a (fun (k:Nat) (_:Unit)=>(k:Int)) (fun k _=>a.take k = b.take k) _ (fun k u z hz hi=>?_) (fun u hi=>?_) n () hn (by simp)
 ·have hlt:=lt_of_get hz
  have c2:decide ((k:Int) < (a.length:Int)) = true:=by simpa using hlt
  obtain ⟨z2,hz2⟩:∃ z2,b[k]? = some z2:=⟨b[k]'(by omega),List.getElem?_eq_getElem (by omega)⟩
  simp only [c2,cond_true,idxL_some hz,idxL_some hz2,Option.bind_some,w64_nat (k:=k) (by omega)]
  cases hb:diagEq z z2
  ·right
   refine ⟨_,rfl,fun h=>?_⟩
   rw [h,hz2] at hz
   have:z = z2:=by simpa using hz.symm
   rw [(diagEq_iff z z2).2 this] at hb
   cases hb
  ·left
   have:=(diagEq_iff z z2).1 hb
   subst this
   refine ⟨(),rfl,?_⟩
   rw [List.take_add_one,List.take_add_one,hi,hz,hz2]
 ·have c2:decide ((a.length:Int) < (a.length:Int)) = false:=by simp
  simp only [c2,cond_false]
  refine ⟨_,rfl,?_⟩
  show a = b
  rw [List.take_length,hl,List.take_length] at hi
  exact hi
theorem G42t {a b:List Diag} (h:a = b) (ha:a.length≤1000000) {n:Nat} (hn:a.length < n):F42 n a b = some true:=by
 obtain ⟨r,hr,h1⟩:=G42 a b ha hn
 rw [hr,h1.2 h]
theorem G37 {l:List Diag} {e p:Int} (h:l = [⟨e,p⟩]) {n:Nat} (hn:2≤n):F37 n l e p = some true:=by
 unfold F37
 rw [G42t h (by rw [h]; simp) (by rw [h]; simp; omega)]
 rfl
theorem sz_mapN (f:Int→Int):∀ (m:Nat) (x:Node),sz x≤m→sz (mapN f x) = sz x∧dep (mapN f x) = dep x:=by
 intro m
 induction m with
 | zero=>intro x hx; have:=sz_pos x; omega
 | succ m ih =>
  intro x hx
  have hl:∀ l:List Node,szs l≤m→szs (l.map (mapN f)) = szs l∧deps (l.map (mapN f)) = deps l:=by
   intro l
   induction l with
   | nil=>intro _; exact ⟨rfl,rfl⟩
   | cons y r ihl =>
    intro h
    simp only [szs] at h
    have:=sz_pos y
    have h1:=ih y (by omega)
    have h2:=ihl (by omega)
    simp only [List.map_cons,szs,deps]
    omega
  have hsz:=sz_eq x
  have:=hl x.kids (by omega)
  rw [mapN_eq,sz_eq,dep_eq,sz_eq x,dep_eq x]
  simp only
  omega
theorem Teq {α:Type} {o:Option α} {v:α} (h:T o (fun e=>e = v)):o = Option.some v:=by
 obtain ⟨r,hr,rfl⟩:=h
 exact hr
theorem G34:∀ (m:Nat) (x:Node),sz x≤m→sz x≤100000→∀ n,2000 + sz x≤n→F34 n x = some (mapN (fun _=>0) x):=by
 intro m
 induction m with
 | zero=>intro x hx; have:=sz_pos x; omega
 | succ m ih =>
  intro x hx hx2 n hn
  obtain ⟨n,rfl⟩:∃ k,n = k + 1:=⟨n - 1,by omega⟩
  have hsz:=sz_eq x
  have hlen:=szs_len x.kids
  show F34_step (F34 n) n x = _
  unfold F34_step
  refine Teq (T.bind (P:=fun r=>r = mapN (fun _=>0) x) ?_ fun r h=>T.some h)
  refine iter_inv x.kids (fun (k:Nat) (a:Node)=>((k:Int),a)) (fun k a=>a = Node.mk x.kind x.name x.other x.n x.len x.init x.ghost ((x.kids.take k).map (mapN fun _=>0)) 0) _ (fun k a y hy ha=>?_) (fun a ha=>?_) n (Node.mk x.kind x.name x.other x.n x.len x.init x.ghost ([]:List Node) 0) (by omega) (by simp)
  ·have hlt:=lt_of_get hy
   have hm:=List.mem_of_getElem? hy
   have hys:=szs_mem x.kids y hm
   have c2:decide ((k:Int) < (x.kids.length:Int)) = true:=by simpa using hlt
   subst ha
   left
   simp only [c2,cond_true,idxL_some hy,Option.bind_some,ih y (by omega) (by omega) n (by omega),w64_nat (k:=k) (by omega)]
   rw [app104 (by simp only [List.length_map,List.length_take,List.length_cons,List.length_nil]; omega)]
   refine ⟨_,rfl,?_⟩
   rw [List.take_add_one,hy]
   simp
  ·have c2:decide ((x.kids.length:Int) < (x.kids.length:Int)) = false:=by simp
   simp only [c2,cond_false]
   refine ⟨_,rfl,?_⟩
   rw [ha,mapN_eq,List.take_length]
end Go.Proofs.YtbecjgckobhmpaaGreatDoor
end
section
namespace Go.Proofs.YtbecjgckobhmpaaGreatDoor
open Go Go.AM Go.Proofs
def ltr (b:UInt8):Bool:=(decide (65≤b.toNat) && decide (b.toNat≤90)) || (decide (97≤b.toNat) && decide (b.toNat≤122))
def dgt (b:UInt8):Bool:=decide (48≤b.toNat) && decide (b.toNat≤57)
def wrd (b:UInt8):Bool:=ltr b || (dgt b || b.toNat == 95)
def wht (b:UInt8):Bool:=b.toNat == 32 || (b.toNat == 9 || (b.toNat == 10 || b.toNat == 13))
def nol (b:UInt8):Bool:=b.toNat != 10
def two (l:List UInt8):Bool:=([47,47]:List UInt8).isPrefixOf l
def skp:Bool→List UInt8→List UInt8
 | _,[]=>[]
 | true,b :: l=>if nol b then skp true l else skp false l
 | false,b :: l=>if wht b then skp false l else if two (b :: l) then skp true l else b :: l
theorem skp_nil (c:Bool):skp c [] = []:=by cases c <;> rfl
theorem skp_wht:∀ l,skp false l = skp false (l.dropWhile wht)
 | []=>rfl
 | b :: l=>by
  rw [List.dropWhile_cons]
  split
  ·rename_i h
   simp only [skp,h,if_true]
   exact skp_wht l
  ·rfl
theorem wht_nol {b:UInt8} (h:¬ nol b = true):wht b = true:=by
 simp [nol] at h
 simp [wht,h]
theorem skp_cmt:∀ l,skp true l = skp false (l.dropWhile nol)
 | []=>rfl
 | b :: l=>by
  rw [List.dropWhile_cons]
  split
  ·rename_i h
   simp only [skp,h,if_true]
   exact skp_cmt l
  ·rename_i h
   simp only [skp,wht_nol h,if_true]
   rw [if_neg h]
theorem two_cons {b:UInt8} {l:List UInt8} (h:two (b :: l) = true):b = 47:=by
 simp [two,List.isPrefixOf] at h
 exact h.1.symm
theorem skp_two:∀ l,two l = true→skp false l = skp false (l.dropWhile nol)
 | [],h=>by simp [two] at h
 | b :: l,h=>by
  have hb:=two_cons h
  subst hb
  have h1:wht 47 = false:=by decide
  have h2:nol 47 = true:=by decide
  rw [List.dropWhile_cons,if_pos h2,← skp_cmt]
  simp [skp,h1,h]
theorem skp_fix:∀ l,l.takeWhile wht = []→two l = false→skp false l = l
 | [],_,_=>rfl
 | b :: l,h1,h2=>by
  rw [List.takeWhile_cons] at h1
  split at h1
  ·cases h1
  ·rename_i h
   simp only [skp,h2]
   rw [if_neg h]
   rfl
theorem skp_suf:∀ (l:List UInt8) (c:Bool),∃ p,l = p ++ skp c l
 | [],c=>⟨[],by rw [skp_nil]; rfl⟩
 | b :: l,true=>by
  simp only [skp]
  split
  ·obtain ⟨p,hp⟩:=skp_suf l true
   exact ⟨b :: p,by rw [List.cons_append,← hp]⟩
  ·obtain ⟨p,hp⟩:=skp_suf l false
   exact ⟨b :: p,by rw [List.cons_append,← hp]⟩
 | b :: l,false=>by
  simp only [skp]
  split
  ·obtain ⟨p,hp⟩:=skp_suf l false
   exact ⟨b :: p,by rw [List.cons_append,← hp]⟩
  ·split
   ·obtain ⟨p,hp⟩:=skp_suf l true
    exact ⟨b :: p,by rw [List.cons_append,← hp]⟩
   ·exact ⟨[],rfl⟩
theorem skp_len (c:Bool) (l:List UInt8):(skp c l).length≤l.length:=by
 obtain ⟨p,hp⟩:=skp_suf l c
 have:=congrArg List.length hp
 rw [List.length_append] at this
 omega
theorem take_tw {α:Type} (p:α→Bool):∀ l:List α,l.take (l.takeWhile p).length = l.takeWhile p
 | []=>rfl
 | b :: l=>by
  rw [List.takeWhile_cons]
  split
  ·rw [List.length_cons,List.take_succ_cons,take_tw p l]
  ·rfl
theorem drop_tw {α:Type} (p:α→Bool):∀ l:List α,l.drop (l.takeWhile p).length = l.dropWhile p
 | []=>rfl
 | b :: l=>by
  rw [List.takeWhile_cons,List.dropWhile_cons]
  split
  ·rw [List.length_cons,List.drop_succ_cons,drop_tw p l]
  ·rfl
theorem mem_tw {α:Type} {p:α→Bool} {y:α}:∀ {l:List α},y ∈ l.takeWhile p→p y = true
 | [],h=>by cases h
 | b :: l,h=>by
  rw [List.takeWhile_cons] at h
  split at h
  ·rename_i hb
   rcases List.mem_cons.1 h with rfl | h
   ·exact hb
   ·exact mem_tw h
  ·cases h
theorem len_tw {α:Type} (p:α→Bool) (l:List α):(l.takeWhile p).length≤l.length:=by
 have:=congrArg List.length (List.takeWhile_append_dropWhile (p:=p) (l:=l))
 rw [List.length_append] at this
 omega
def symL:List (List UInt8):=[[61,61,62],[61,61],[58,61],[33,61],[60,61],[38,38],[124,124],[123],[125],[40],[41],[91],[93],[59],[58],[44],[46],[63],[61],[33],[60],[38],[124],[94],[43],[45],[42]]
theorem symL_ok:∀ t ∈ symL,1≤t.length∧t.length≤3∧∀ y ∈ t,y≠10:=by decide
def numOk (b:UInt8) (l:List UInt8):Bool :=
 decide ((l.takeWhile dgt).length≤9) && (((b.toNat != 48) || (l.takeWhile dgt).length == 1) && (l.dropWhile dgt).head?.all (fun c=>!wrd c))
def tokL:List UInt8→Option (Nat × Nat)
 | []=>none
 | b :: l =>
  bif ltr b then (bif decide (((b :: l).takeWhile wrd).length≤16) then some (1,((b :: l).takeWhile wrd).length) else none)
  else bif dgt b then (bif numOk b (b :: l) then some (2,((b :: l).takeWhile dgt).length) else none)
  else (symL.find? (fun t=>t.isPrefixOf (b :: l))).map fun t=>(3,t.length)
theorem tokL_cons (b:UInt8) (l:List UInt8):tokL (b :: l) =
  (bif ltr b then (bif decide (((b :: l).takeWhile wrd).length≤16) then some (1,((b :: l).takeWhile wrd).length) else none)
  else bif dgt b then (bif numOk b (b :: l) then some (2,((b :: l).takeWhile dgt).length) else none)
  else (symL.find? (fun t=>t.isPrefixOf (b :: l))).map fun t=>(3,t.length)):=rfl
theorem tokL_spec {l:List UInt8} {k m:Nat} (h:tokL l = some (k,m)):1≤m∧m≤l.length∧(∀ y ∈ l.take m,y≠10)∧1≤k∧k≤3:=by
 cases l with
 | nil=>cases h
 | cons b l =>
  rw [tokL_cons] at h
  cases h1:ltr b
  ·rw [h1,cond_false] at h
   cases h2:dgt b
   ·rw [h2,cond_false] at h
    cases h3:symL.find? (fun t=>t.isPrefixOf (b :: l)) with
    | none=>rw [h3] at h; cases h
    | some t =>
     rw [h3] at h
     simp only [Option.map_some,Option.some.injEq,Prod.mk.injEq] at h
     obtain ⟨rfl,rfl⟩:=h
     have hm:=List.mem_of_find?_eq_some h3
     have hp:=List.find?_some h3
     obtain ⟨r,hr⟩:=List.isPrefixOf_iff_prefix.1 hp
     have hs:=symL_ok t hm
     rw [← hr]
     refine ⟨hs.1,by rw [List.length_append]; omega,?_,by omega,by omega⟩
     rw [List.take_left]
     exact hs.2.2
   ·rw [h2,cond_true] at h
    cases h3:numOk b (b :: l)
    ·rw [h3] at h; cases h
    ·rw [h3,cond_true] at h
     simp only [Option.some.injEq,Prod.mk.injEq] at h
     obtain ⟨rfl,rfl⟩:=h
     refine ⟨?_,len_tw _ _,?_,by omega,by omega⟩
     ·rw [List.takeWhile_cons,if_pos h2]; simp
     ·rw [take_tw]
      intro y hy e
      subst e
      have:=mem_tw hy
      revert this
      decide
  ·rw [h1,cond_true] at h
   cases h3:decide (((b :: l).takeWhile wrd).length≤16)
   ·rw [h3] at h; cases h
   ·rw [h3,cond_true] at h
    simp only [Option.some.injEq,Prod.mk.injEq] at h
    obtain ⟨rfl,rfl⟩:=h
    refine ⟨?_,len_tw _ _,?_,by omega,by omega⟩
    ·rw [List.takeWhile_cons,if_pos (by simp [wrd,h1])]; simp
    ·rw [take_tw]
     intro y hy e
     subst e
     have:=mem_tw hy
     revert this
     decide
def consT (t:Token):List Token ⊕ (Int × Int)→List Token ⊕ (Int × Int)
 | .inl ts=>.inl (t :: ts)
 | .inr e=>.inr e
def lexS (N:Nat) (g:List UInt8→List Token ⊕ (Int × Int)) (c:Nat):List UInt8→List Token ⊕ (Int × Int)
 | []=>.inl []
 | b :: r=>if c = 1500 then .inr (2,((N - (b :: r).length:Nat):Int)) else
  match tokL (b :: r) with
  | none=>.inr (10,((N - (b :: r).length:Nat):Int))
  | some km=>consT ⟨(km.1:Int),bs ((b :: r).take km.2),((N - (b :: r).length:Nat):Int)⟩ (g ((b :: r).drop km.2))
def lexG (N:Nat):Nat→Nat→List UInt8→List Token ⊕ (Int × Int)
 | 0,_,_=>.inl []
 | f + 1,c,l=>lexS N (lexG N f (c + 1)) c (skp false l)
end Go.Proofs.YtbecjgckobhmpaaGreatDoor
end
