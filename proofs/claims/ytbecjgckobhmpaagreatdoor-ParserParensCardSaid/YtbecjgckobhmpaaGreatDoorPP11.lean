/-
  Proved here: a part of what the claim needs (texts PA ZE ZV PB PC1 PD ZW ZO PF PC2 PC3 PE YBF1 PG ZLA ZLB ZLP PP PX PZ PZ2 ZTA of the prover's own).
-/
import Derived.Test.YtbecjgckobhmpaaGreatDoorPP10
section
namespace Go.Proofs.YtbecjgckobhmpaaGreatDoor
open Go Go.AM Go.Proofs
inductive M (α:Type):Type where
 | ret (a:α)
 | fail (b:Bool)
 | out
 | look (k:Option (Int × ByteArray)→M α)
 | adv (k:M α)
 | pos (k:Int→M α)
 | setI (i:Int) (k:M α)
 | getI (k:Int→M α)
 | rep (b:Bool) (k:M α)
namespace M
variable {α β γ σ ρ:Type}
def bind:M α→(α→M β)→M β
 | .ret a,f=>f a
 | .fail b,_=>.fail b
 | .out,_=>.out
 | .look k,f=>.look fun t=>(k t).bind f
 | .adv k,f=>.adv (k.bind f)
 | .pos k,f=>.pos fun x=>(k x).bind f
 | .setI i k,f=>.setI i (k.bind f)
 | .getI k,f=>.getI fun x=>(k x).bind f
 | .rep b k,f=>.rep b (k.bind f)
def tryM:M α→(α→M β)→(Bool→M β)→M β
 | .ret a,f,_=>f a
 | .fail b,_,h=>h b
 | .out,_,_=>.out
 | .look k,f,h=>.look fun t=>(k t).tryM f h
 | .adv k,f,h=>.adv (k.tryM f h)
 | .pos k,f,h=>.pos fun x=>(k x).tryM f h
 | .setI i k,f,h=>.setI i (k.tryM f h)
 | .getI k,f,h=>.getI fun x=>(k x).tryM f h
 | .rep b k,f,h=>.rep b (k.tryM f h)
def iterM (step:σ→M (σ ⊕ ρ)):Nat→σ→M ρ
 | 0,_=>.out
 | n + 1,x=>(step x).bind fun r=>match r with
  | .inl x'=>iterM step n x'
  | .inr r=>.ret r
end M
structure PS where
 rest:List Token
 inner:Int
 reps:List (Int × Int)
def PS.ext (s:PS) (u:List Token):PS:=⟨s.rest ++ u,s.inner,s.reps⟩
inductive Out (α:Type):Type where
 | ok (a:α) (s:PS)
 | bad (b:Bool) (s:PS)
 | out
def posOf (fin:Int):List Token→Int
 | []=>fin
 | t :: _=>t.pos
def codeOf (b:Bool):List Token→Int
 | []=>21
 | _ :: _=>bif b then 2 else 20
def hdOf:List Token→Option (Int × ByteArray)
 | []=>none
 | t :: _=>some (t.kind,t.text)
namespace M
variable {α β γ σ ρ:Type}
def run (fin:Int):M α→PS→Out α
 | .ret a,s=>.ok a s
 | .fail b,s=>.bad b s
 | .out,_=>.out
 | .look k,s=>(k (hdOf s.rest)).run fin s
 | .adv k,s=>match s.rest with
  | []=>.out
  | _ :: r=>k.run fin ⟨r,s.inner,s.reps⟩
 | .pos k,s=>(k (posOf fin s.rest)).run fin s
 | .setI i k,s=>k.run fin ⟨s.rest,i,s.reps⟩
 | .getI k,s=>(k s.inner).run fin s
 | .rep b k,s=>k.run fin ⟨s.rest,s.inner,s.reps ++ [(codeOf b s.rest,posOf fin s.rest)]⟩
def andThen (o:Out α) (f:α→PS→Out β) (h:Bool→PS→Out β):Out β :=
 match o with
 | .ok a s=>f a s
 | .bad b s=>h b s
 | .out=>.out
theorem run_bind (fin:Int) (f:α→M β):∀ (m:M α) (s:PS),(m.bind f).run fin s = andThen (m.run fin s) (fun a s=>(f a).run fin s) (fun b s=>.bad b s)
 | .ret a,s=>rfl
 | .fail b,s=>rfl
 | .out,s=>rfl
 | .look k,s=>run_bind fin f (k (hdOf s.rest)) s
 | .adv k,s=>by
  obtain ⟨r,i,p⟩:=s
  cases r with
  | nil=>rfl
  | cons t r=>exact run_bind fin f k ⟨r,i,p⟩
 | .pos k,s=>run_bind fin f (k (posOf fin s.rest)) s
 | .setI i k,s=>run_bind fin f k ⟨s.rest,i,s.reps⟩
 | .getI k,s=>run_bind fin f (k s.inner) s
 | .rep b k,s=>run_bind fin f k ⟨s.rest,s.inner,s.reps ++ [(codeOf b s.rest,posOf fin s.rest)]⟩
def Ends (o:Out α) (P:PS→Prop):Prop:=match o with
 | .ok _ s=>P s
 | .bad _ s=>P s
 | .out=>True
theorem Ends.mono {o:Out α} {P Q:PS→Prop} (h:Ends o P) (k:∀ s,P s→Q s):Ends o Q:=by
 cases o <;> simp only [Ends] at h ⊢ <;> exact k _ h
theorem run_suf (fin:Int):∀ (m:M α) (s:PS),Ends (m.run fin s) fun s'=>s'.rest <:+ s.rest
 | .ret a,s=>List.suffix_refl _
 | .fail b,s=>List.suffix_refl _
 | .out,s=>trivial
 | .look k,s=>run_suf fin (k (hdOf s.rest)) s
 | .adv k,s=>by
  obtain ⟨r,i,p⟩:=s
  cases r with
  | nil=>trivial
  | cons t r=>exact (run_suf fin k ⟨r,i,p⟩).mono fun s' h=>h.trans (List.suffix_cons t r)
 | .pos k,s=>run_suf fin (k (posOf fin s.rest)) s
 | .setI i k,s=>run_suf fin k ⟨s.rest,i,s.reps⟩
 | .getI k,s=>run_suf fin (k s.inner) s
 | .rep b k,s=>run_suf fin k ⟨s.rest,s.inner,s.reps ++ [(codeOf b s.rest,posOf fin s.rest)]⟩
def Out.pre (p:List (Int × Int)):Out α→Out α
 | .ok a s=>.ok a ⟨s.rest,s.inner,p ++ s.reps⟩
 | .bad b s=>.bad b ⟨s.rest,s.inner,p ++ s.reps⟩
 | .out=>.out
def drive:M α→PS→M α × PS
 | .ret a,s=>(.ret a,s)
 | .fail b,s=>(.fail b,s)
 | .out,s=>(.out,s)
 | .look k,s=>match s.rest with
  | []=>(.look k,s)
  | t :: _=>(k (some (t.kind,t.text))).drive s
 | .adv k,s=>match s.rest with
  | []=>(.adv k,s)
  | _ :: r=>k.drive ⟨r,s.inner,s.reps⟩
 | .pos k,s=>match s.rest with
  | []=>(.pos k,s)
  | t :: _=>(k t.pos).drive s
 | .setI i k,s=>k.drive ⟨s.rest,i,s.reps⟩
 | .getI k,s=>(k s.inner).drive s
 | .rep b k,s=>match s.rest with
  | []=>(.rep b k,s)
  | t :: _=>k.drive ⟨s.rest,s.inner,s.reps ++ [(bif b then 2 else 20,t.pos)]⟩
theorem drive_ext (fin:Int) (u:List Token):∀ (m:M α) (s:PS),m.run fin (s.ext u) = (m.drive s).1.run fin ((m.drive s).2.ext u)
 | .ret a,s=>rfl
 | .fail b,s=>rfl
 | .out,s=>rfl
 | .look k,s=>by
  obtain ⟨r,i,p⟩:=s
  cases r with
  | nil=>rfl
  | cons t r=>exact drive_ext fin u (k (some (t.kind,t.text))) ⟨t :: r,i,p⟩
 | .adv k,s=>by
  obtain ⟨r,i,p⟩:=s
  cases r with
  | nil=>rfl
  | cons t r=>exact drive_ext fin u k ⟨r,i,p⟩
 | .pos k,s=>by
  obtain ⟨r,i,p⟩:=s
  cases r with
  | nil=>rfl
  | cons t r=>exact drive_ext fin u (k t.pos) ⟨t :: r,i,p⟩
 | .setI i k,s=>drive_ext fin u k ⟨s.rest,i,s.reps⟩
 | .getI k,s=>drive_ext fin u (k s.inner) s
 | .rep b k,s=>by
  obtain ⟨r,i,p⟩:=s
  cases r with
  | nil=>rfl
  | cons t r=>exact drive_ext fin u k ⟨t :: r,i,p ++ [(bif b then 2 else 20,t.pos)]⟩
theorem ext_nil (s:PS):s.ext [] = s:=by simp [PS.ext]
theorem drive_run (fin:Int) (m:M α) (s:PS):m.run fin s = (m.drive s).1.run fin (m.drive s).2:=by
 have:=drive_ext fin [] m s
 rwa [ext_nil,ext_nil] at this
def Done:M α→Prop
 | .ret _=>True
 | .fail _=>True
 | .out=>True
 | _=>False
theorem drive_end:∀ (m:M α) (s:PS),(m.drive s).2.rest = []∨Done (m.drive s).1
 | .ret a,s=>.inr trivial
 | .fail b,s=>.inr trivial
 | .out,s=>.inr trivial
 | .look k,s=>by
  obtain ⟨r,i,p⟩:=s
  cases r with
  | nil=>exact .inl rfl
  | cons t r=>exact drive_end (k (some (t.kind,t.text))) ⟨t :: r,i,p⟩
 | .adv k,s=>by
  obtain ⟨r,i,p⟩:=s
  cases r with
  | nil=>exact .inl rfl
  | cons t r=>exact drive_end k ⟨r,i,p⟩
 | .pos k,s=>by
  obtain ⟨r,i,p⟩:=s
  cases r with
  | nil=>exact .inl rfl
  | cons t r=>exact drive_end (k t.pos) ⟨t :: r,i,p⟩
 | .setI i k,s=>drive_end k ⟨s.rest,i,s.reps⟩
 | .getI k,s=>drive_end (k s.inner) s
 | .rep b k,s=>by
  obtain ⟨r,i,p⟩:=s
  cases r with
  | nil=>exact .inl rfl
  | cons t r=>exact drive_end k ⟨t :: r,i,p ++ [(bif b then 2 else 20,t.pos)]⟩
def EA:M α→Prop
 | .ret _=>False
 | .fail _=>True
 | .out=>True
 | .look k=>∀ t,EA (k t)
 | .adv k=>(∃ a,k = .ret a)∨EA k
 | .pos k=>∀ x,EA (k x)
 | .setI _ k=>EA k
 | .getI k=>∀ x,EA (k x)
 | .rep _ k=>EA k
def EAr (m:M α):Prop:=(∃ a,m = .ret a)∨EA m
theorem EA.r {m:M α} (h:EA m):EAr m:=.inr h
theorem EA.less (fin:Int):∀ (m:M α) (s:PS) (a:α) (s':PS),EA m→m.run fin s = .ok a s'→s'.rest.length < s.rest.length
 | .ret a,s,_,_,h,_=>h.elim
 | .fail b,s,_,_,_,h=>by simp [run] at h
 | .out,s,_,_,_,h=>by simp [run] at h
 | .look k,s,a,s',h,e=>EA.less fin (k (hdOf s.rest)) s a s' (h _) e
 | .adv k,s,a,s',h,e=>by
  obtain ⟨r,i,p⟩:=s
  cases r with
  | nil=>simp [run] at e
  | cons t r =>
   rcases h with ⟨b,rfl⟩ | h
   ·simp only [run,Out.ok.injEq] at e
    obtain ⟨_,rfl⟩:=e
    simp
   ·have:=EA.less fin k ⟨r,i,p⟩ a s' h e
    simp only [List.length_cons] at this ⊢
    omega
 | .pos k,s,a,s',h,e=>EA.less fin (k (posOf fin s.rest)) s a s' (h _) e
 | .setI i k,s,a,s',h,e=>EA.less fin k ⟨s.rest,i,s.reps⟩ a s' h e
 | .getI k,s,a,s',h,e=>EA.less fin (k s.inner) s a s' (h _) e
 | .rep b k,s,a,s',h,e=>EA.less fin k ⟨s.rest,s.inner,s.reps ++ [(codeOf b s.rest,posOf fin s.rest)]⟩ a s' h e
theorem EA.drive:∀ (m:M α) (s:PS),EAr m→EAr (m.drive s).1
 | .ret a,s,h=>h
 | .fail b,s,h=>h
 | .out,s,h=>h
 | .look k,s,h=>by
  obtain ⟨r,i,p⟩:=s
  cases r with
  | nil=>exact h
  | cons t r =>
   rcases h with ⟨a,h⟩ | h
   ·cases h
   ·exact EA.drive (k (some (t.kind,t.text))) ⟨t :: r,i,p⟩ (.inr (h _))
 | .adv k,s,h=>by
  obtain ⟨r,i,p⟩:=s
  cases r with
  | nil=>exact h
  | cons t r =>
   rcases h with ⟨a,h⟩ | h
   ·cases h
   ·exact EA.drive k ⟨r,i,p⟩ h
 | .pos k,s,h=>by
  obtain ⟨r,i,p⟩:=s
  cases r with
  | nil=>exact h
  | cons t r =>
   rcases h with ⟨a,h⟩ | h
   ·cases h
   ·exact EA.drive (k t.pos) ⟨t :: r,i,p⟩ (.inr (h _))
 | .setI i k,s,h=>by
  rcases h with ⟨a,h⟩ | h
  ·cases h
  ·exact EA.drive k ⟨s.rest,i,s.reps⟩ (.inr h)
 | .getI k,s,h=>by
  rcases h with ⟨a,h⟩ | h
  ·cases h
  ·exact EA.drive (k s.inner) s (.inr (h _))
 | .rep b k,s,h=>by
  obtain ⟨r,i,p⟩:=s
  cases r with
  | nil=>exact h
  | cons t r =>
   rcases h with ⟨a,h⟩ | h
   ·cases h
   ·exact EA.drive k ⟨t :: r,i,p ++ [(bif b then 2 else 20,t.pos)]⟩ (.inr h)
theorem EAr.end {fin:Int} {m:M α} {s:PS} {a:α} {s':PS} (h:EAr m) (hs:s.rest = []) (e:m.run fin s = .ok a s'):m = .ret a∧s' = s:=by
 rcases h with ⟨b,rfl⟩ | h
 ·simp only [run,Out.ok.injEq] at e
  obtain ⟨rfl,rfl⟩:=e
  exact ⟨rfl,rfl⟩
 ·have:=EA.less fin m s a s' h e
  rw [hs] at this
  simp at this
theorem Done.ok {fin:Int} {m:M α} {s:PS} {a:α} {s':PS} (h:Done m) (e:m.run fin s = .ok a s'):m = .ret a∧s' = s:=by
 cases m <;> simp only [Done] at h <;> simp only [run] at e
 ·simp only [Out.ok.injEq] at e
  obtain ⟨rfl,rfl⟩:=e
  exact ⟨rfl,rfl⟩
 all_goals cases e
theorem EAr.ext {fin:Int} {m:M α} {s:PS} {a:α} {s':PS} (h:EAr m) (e:m.run fin s = .ok a s') (fin':Int) (u:List Token):m.run fin' (s.ext u) = .ok a (s'.ext u):=by
 rw [drive_run] at e
 rw [drive_ext]
 have:(m.drive s).1 = .ret a∧s' = (m.drive s).2:=by
  rcases drive_end m s with h1 | h1
  ·exact (EA.drive m s h).end h1 e
  ·exact h1.ok e
 rw [this.1,this.2]
 rfl
theorem EAr.cut {fin fin':Int} {m:M α} {s:PS} {u:List Token} {a:α} {s':PS} (h:EAr m) (e:m.run fin (s.ext u) = .ok a s') (hl:s'.rest.length < u.length):∀ a'' s'',m.run fin' s≠.ok a'' s'':=by
 intro a'' s'' e2
 rw [h.ext e2 fin u] at e
 simp only [Out.ok.injEq] at e
 obtain ⟨_,rfl⟩:=e
 simp only [PS.ext,List.length_append] at hl
 omega
def accept (a:ByteArray):M Bool:=.look fun t=>match t with
 | some t=>bif strEq t.2 a then .adv (.ret true) else .ret false
 | none=>.ret false
def expect (a:ByteArray):M Unit:=(accept a).bind fun b=>bif b then .ret () else .fail false
end M
end Go.Proofs.YtbecjgckobhmpaaGreatDoor
end
section
namespace Go.AM
open Go
def runF {α A ρ:Type} (f:Nat→A→α→A ⊕ ρ) (fin:A→ρ):Nat→List α→A→ρ
 | _,[],a=>fin a
 | k,x :: r,a=>match f k a x with
  | .inl a'=>runF f fin (k + 1) r a'
  | .inr v=>v
theorem iter_runF {α A ρ σ:Type} {step:σ→Option (σ ⊕ ρ)} (l:List α) (mk:Nat→A→σ) (f:Nat→A→α→A ⊕ ρ) (fin:A→ρ)
  (hin:∀ k a x,l[k]? = some x→step (mk k a) = some (match f k a x with | .inl a'=>.inl (mk (k + 1) a') | .inr v=>.inr v))
  (hend:∀ a,step (mk l.length a) = some (.inr (fin a))) :
  ∀ (n:Nat) (a:A),l.length < n→iter step n (mk 0 a) = some (runF f fin 0 l a):=by
 have key:∀ (r:List α) (k:Nat) (a:A) (n:Nat),l.drop k = r→k≤l.length→r.length < n→iter step n (mk k a) = some (runF f fin k r a):=by
  intro r
  induction r with
  | nil =>
   intro k a n hk hkl hn
   have hkl':k = l.length:=by
    have:=congrArg List.length hk
    simp at this
    omega
   cases n with
   | zero=>simp at hn
   | succ n=>subst hkl'; simp only [iter,hend,runF]
  | cons x r ih =>
   intro k a n hk hkl hn
   have hlt:k < l.length:=by
    have:=congrArg List.length hk
    simp at this
    omega
   have hx:l[k]? = some x:=by
    have:=congrArg (fun z=>z[0]?) hk
    simpa using this
   have hr:l.drop (k + 1) = r:=by
    have:=congrArg (List.drop 1) hk
    simpa [List.drop_drop,Nat.add_comm] using this
   cases n with
   | zero=>simp at hn
   | succ n =>
    simp only [iter,hin k a x hx,runF]
    cases hf:f k a x with
    | inl a'=>simpa using ih (k + 1) a' n hr (by omega) (by simpa using hn)
    | inr v=>rfl
 intro n a hn
 exact key l 0 a n rfl (by omega) hn
theorem runF_all {α:Type} (p:α→Bool):∀ (l:List α) (k:Nat),runF (A:=Unit) (ρ:=Unit ⊕ Unit) (fun _ _ x=>if p x then .inl () else .inr (.inl ())) (fun _=>.inr ()) k l () = if l.all p then .inr () else .inl ()
 | [],_=>rfl
 | x :: r,k=>by
  simp only [runF]
  cases hp:p x
  ·simp [hp]
  ·simp [hp,runF_all p r (k + 1)]
theorem w64_id {x:Int} (h1:-9223372036854775808≤x) (h2:x≤9223372036854775807):w64 x = x:=by
 show (if (true && decide (x % 18446744073709551616 ≥ 9223372036854775808)) = true then x % 18446744073709551616 - 18446744073709551616 else x % 18446744073709551616) = x
 split
 ·rename_i h
  simp at h
  omega
 ·rename_i h
  simp at h
  omega
theorem w64_nat {k:Nat} (h:k < 9223372036854775807):w64 ((k:Int) + 1) = ((k + 1:Nat):Int):=by
 rw [w64_id (by omega) (by omega)]; rfl
theorem idxL_some {α:Type} {l:List α} {k:Nat} {x:α} (h:l[k]? = some x):idxL l (k:Int) = some x:=by
 simp [idxL,h]
theorem idxS_some {s:ByteArray} {k:Nat} {b:UInt8} (h:s.data.toList[k]? = some b):idxS s (k:Int) = some (b.toNat:Int):=by
 have:s[k]? = some b:=by
  have h2:s.data[k]? = some b:=by simpa using h
  exact h2
 simp [idxS,this]
theorem lt_of_get {α:Type} {l:List α} {k:Nat} {x:α} (h:l[k]? = some x):k < l.length:=(List.getElem?_eq_some_iff.1 h).1
theorem some_cond {α:Type} (c:Bool) (a b:α):(bif c then some a else some b) = some (bif c then a else b):=by cases c <;> rfl
theorem bor (c d:Bool):(bif c then c else d) = (c || d):=by cases c <;> rfl
theorem iter_all {α:Type} {step:Int→Option (Int ⊕ (Unit ⊕ Unit))} (l:List α) (p:α→Bool) (hl:l.length≤9223372036854775807)
  (hin:∀ (k:Nat) x,l[k]? = some x→step (k:Int) = some (if p x then .inl (w64 ((k:Int) + 1)) else .inr (.inl ())))
  (hend:step (l.length:Int) = some (.inr (.inr ()))) {n:Nat} (hn:l.length < n) :
  iter step n 0 = some (if l.all p then .inr () else .inl ()):=by
 have:=iter_runF l (fun (k:Nat) (_:Unit)=>(k:Int)) (fun _ _ x=>if p x then .inl () else .inr (.inl ())) (fun _=>.inr ()) (step:=step)
  (fun k a x hx=>by
   rw [hin k x hx,w64_nat (by have:=lt_of_get hx; omega)]
   cases p x <;> rfl)
  (fun _=>hend) n () hn
 rw [runF_all] at this
 exact this
def allI {α:Type} (p:Nat→α→Bool):Nat→List α→Bool
 | _,[]=>true
 | k,x :: r=>p k x && allI p (k + 1) r
theorem runF_allI {α:Type} (p:Nat→α→Bool):∀ (l:List α) (k:Nat),runF (A:=Unit) (ρ:=Unit ⊕ Unit) (fun k _ x=>if p k x then .inl () else .inr (.inl ())) (fun _=>.inr ()) k l () = if allI p k l then .inr () else .inl ()
 | [],_=>rfl
 | x :: r,k=>by
  simp only [runF,allI]
  by_cases hp:p k x = true
  ·simp only [hp,if_true,runF_allI p r (k + 1),Bool.true_and]
  ·simp [hp]
theorem iter_allI {α:Type} {step:Int→Option (Int ⊕ (Unit ⊕ Unit))} (l:List α) (p:Nat→α→Bool) (hl:l.length≤9223372036854775807)
  (hin:∀ (k:Nat) x,l[k]? = some x→step (k:Int) = some (if p k x then .inl (w64 ((k:Int) + 1)) else .inr (.inl ())))
  (hend:step (l.length:Int) = some (.inr (.inr ()))) {n:Nat} (hn:l.length < n) :
  iter step n 0 = some (if allI p 0 l then .inr () else .inl ()):=by
 have:=iter_runF l (fun (k:Nat) (_:Unit)=>(k:Int)) (fun k _ x=>if p k x then .inl () else .inr (.inl ())) (fun _=>.inr ()) (step:=step)
  (fun k a x hx=>by
   rw [hin k x hx,w64_nat (by have:=lt_of_get hx; omega)]
   cases p k x <;> rfl)
  (fun _=>hend) n () hn
 rw [runF_allI] at this
 exact this
theorem iter_inv {α A ρ σ:Type} {step:σ→Option (σ ⊕ ρ)} (l:List α) (mk:Nat→A→σ) (I:Nat→A→Prop) (Q:ρ→Prop)
  (hin:∀ k a x,l[k]? = some x→I k a→(∃ a',step (mk k a) = some (.inl (mk (k + 1) a'))∧I (k + 1) a')∨(∃ r,step (mk k a) = some (.inr r)∧Q r))
  (hend:∀ a,I l.length a→∃ r,step (mk l.length a) = some (.inr r)∧Q r) :
  ∀ (n:Nat) (a:A),l.length < n→I 0 a→∃ r,iter step n (mk 0 a) = some r∧Q r:=by
 have key:∀ (j k:Nat) (a:A) (n:Nat),k + j = l.length→j < n→I k a→∃ r,iter step n (mk k a) = some r∧Q r:=by
  intro j
  induction j with
  | zero =>
   intro k a n hk hn hi
   have hk':k = l.length:=by omega
   subst hk'
   obtain ⟨r,hr,hq⟩:=hend a hi
   cases n with
   | zero=>omega
   | succ n=>exact ⟨r,by simp only [iter,hr],hq⟩
  | succ j ih =>
   intro k a n hk hn hi
   have hlt:k < l.length:=by omega
   cases n with
   | zero=>omega
   | succ n =>
    rcases hin k a l[k] (List.getElem?_eq_getElem hlt) hi with ⟨a',hs,hi'⟩ | ⟨r,hs,hq⟩
    ·obtain ⟨r,hr,hq⟩:=ih (k + 1) a' n (by omega) (by omega) hi'
     exact ⟨r,by simp only [iter,hs]; exact hr,hq⟩
    ·exact ⟨r,by simp only [iter,hs],hq⟩
 intro n a hn hi
 exact key l.length 0 a n (by omega) hn hi
theorem iter_meas {ρ σ:Type} {step:σ→Option (σ ⊕ ρ)} (I:σ→Prop) (m:σ→Nat) (Q:ρ→Prop)
  (h:∀ s,I s→(∃ s',step s = some (.inl s')∧I s'∧m s' < m s)∨(∃ r,step s = some (.inr r)∧Q r)) :
  ∀ (n:Nat) (s:σ),m s < n→I s→∃ r,iter step n s = some r∧Q r:=by
 intro n
 induction n with
 | zero=>intro s hn; omega
 | succ n ih =>
  intro s hn hi
  rcases h s hi with ⟨s',hs,hi',hm⟩ | ⟨r,hs,hq⟩
  ·obtain ⟨r,hr,hq⟩:=ih s' (by omega) hi'
   exact ⟨r,by simp only [iter,hs]; exact hr,hq⟩
  ·exact ⟨r,by simp only [iter,hs],hq⟩
def tl (s:ByteArray):List UInt8:=s.data.toList
theorem tl_def (s:ByteArray):s.data.toList = tl s:=rfl
theorem cond_not_if {α:Type} (c:Bool) (a b:α):(bif c then some a else some b) = some (if (!c) = true then b else a):=by cases c <;> rfl
theorem cond_not_if2 {α:Type} (c:Bool) (a b:α):(bif !c then some a else some b) = some (if c = true then b else a):=by cases c <;> rfl
theorem bs_tl (s:ByteArray):bs (tl s) = s:=rfl
theorem tl_bs (l:List UInt8):tl (bs l) = l:=rfl
theorem size_tl (s:ByteArray):s.size = (tl s).length:=rfl
theorem size_bs (l:List UInt8):(bs l).size = l.length:=rfl
theorem subS_eq {s:ByteArray} {a b:Nat} (h1:a≤b) (h2:b≤(tl s).length):subS s (a:Int) (b:Int) = some (bs (((tl s).drop a).take (b - a))):=by
 rw [subS,if_pos ⟨by omega,by omega,by rw [size_tl]; omega⟩]
 congr 1
 have:(s.extract a b).data.toList = ((tl s).drop a).take (b - a):=by
  rw [ByteArray.data_extract,Array.toList_extract]
  rfl
 rw [← this]
 rfl
theorem subL_eq {α:Type} {l:List α} {a b:Nat} (h1:a≤b) (h2:b≤l.length):subL l (a:Int) (b:Int) = some ((l.drop a).take (b - a)):=by
 rw [subL,if_pos ⟨by omega,by omega,by omega⟩]
 simp
def T {α:Type} (o:Option α) (Q:α→Prop):Prop:=∃ r,o = some r∧Q r
theorem T.some {α:Type} {v:α} {Q:α→Prop} (h:Q v):T (some v) Q:=⟨v,rfl,h⟩
theorem T.bind {α β:Type} {o:Option α} {f:α→Option β} {P:α→Prop} {Q:β→Prop} (h:T o P) (k:∀ a,P a→T (f a) Q):T (o.bind f) Q:=by
 obtain ⟨a,rfl,ha⟩:=h
 exact k a ha
theorem T.cond {α:Type} {c:Bool} {a b:Option α} {Q:α→Prop} (h1:c = true→T a Q) (h2:c = false→T b Q):T (bif c then a else b) Q:=by
 cases c
 ·exact h2 rfl
 ·exact h1 rfl
theorem T.mono {α:Type} {o:Option α} {P Q:α→Prop} (h:T o P) (k:∀ a,P a→Q a):T o Q:=by
 obtain ⟨a,rfl,ha⟩:=h
 exact ⟨a,rfl,k a ha⟩
theorem T.of_eq {α:Type} {o:Option α} {v:α} (h:o = Option.some v):T o (· = v):=⟨v,h,rfl⟩
end Go.AM
end
section
namespace Go.Proofs.YtbecjgckobhmpaaGreatDoor
open Go Go.AM Go.Proofs
def isLetI (x:Int):Bool:=((decide (65≤x)) && (decide (x≤90))) || ((decide (97≤x)) && (decide (x≤122)))
def isDigI (x:Int):Bool:=(decide (48≤x)) && (decide (x≤57))
def isWordI (x:Int):Bool:=isLetI x || x == 95 || isDigI x
def nameCs:List UInt8→Bool
 | []=>true
 | b :: r=>isLetI b.toNat && r.all (fun c=>isWordI c.toNat)
def nameB (s:List UInt8):Bool:=decide (1≤s.length) && decide (s.length≤16) && !(keyNames.any (s == ·)) && nameCs s
def nameP (k:Nat) (b:UInt8):Bool:=!((!isLetI b.toNat) && (((k:Int) == 0) || (((b.toNat:Int) != 95) && ((decide ((b.toNat:Int) < 48)) || (decide (57 < (b.toNat:Int)))))))
theorem nameP_succ (k:Nat) (b:UInt8):nameP (k + 1) b = isWordI b.toNat:=by
 have:(((k + 1:Nat):Int) == 0) = false:=by simp; omega
 simp only [nameP,this,isWordI,isDigI]
 generalize (b.toNat:Int) = z
 cases isLetI z
 ·by_cases h:z = 95
  ·simp [h]
  ·have h95:(z == 95) = false:=by simpa using h
   have h95':(z != 95) = true:=by simpa using h
   rw [h95,h95']
   by_cases h1:z < 48
   ·have:¬ 48≤z:=by omega
    simp [h1,this]
   ·have h48:48≤z:=by omega
    by_cases h2:57 < z
    ·have:¬ z≤57:=by omega
     simp [h2,this]
    ·have h57:z≤57:=by omega
     simp [h1,h2,h48,h57]
 ·simp
theorem allI_nameP:∀ (l:List UInt8) (k:Nat),allI nameP (k + 1) l = l.all (fun c=>isWordI c.toNat)
 | [],_=>rfl
 | b :: r,k=>by simp only [allI,List.all_cons,nameP_succ,allI_nameP r (k + 1)]
theorem allI_name (l:List UInt8):allI nameP 0 l = nameCs l:=by
 cases l with
 | nil=>rfl
 | cons b r =>
  simp only [allI,nameCs,allI_nameP]
  congr 1
  simp [nameP]
theorem F157_eq (s:ByteArray) {n:Nat} (hn:20≤n):F157 n s = some (nameB (tl s)):=by
 unfold F157
 rw [size_tl]
 by_cases h1:(tl s).length < 1
 ·have:(tl s).length = 0:=by omega
  simp [nameB,this]
 by_cases h2:16 < (tl s).length
 ·have:¬ (tl s).length≤16:=by omega
  have h3:(16:Int) < ((tl s).length:Int):=by omega
  simp [nameB,this,h3]
 have e1:(decide (((tl s).length:Int) < 1) || decide (16 < ((tl s).length:Int))) = false:=by simp; omega
 rw [e1]
 have hk:isKey s = keyNames.any (tl s == ·):=rfl
 rw [hk]
 cases hkey:keyNames.any (tl s == ·)
 ·simp only [cond_false]
  rw [iter_allI (tl s) nameP (by omega) (fun k b hb=>by
    have hlt:=lt_of_get hb
    have:decide ((k:Int) < ((tl s).length:Int)) = true:=by simpa using hlt
    rw [this,idxS_some hb]
    simp only [cond_true,Option.bind_some]
    show (bif (!isLetI b.toNat) && _ then _ else _) = _
    simp only [nameP]
    exact cond_not_if _ _ _) (by simp) (by omega)]
  rw [allI_name]
  have h1':1≤(tl s).length:=by omega
  have h2':(tl s).length≤16:=by omega
  cases hc:nameCs (tl s) <;> simp [nameB,hkey,hc,h1',h2']
 ·simp [nameB,hkey]
def cutB:List UInt8→List UInt8 × Option (List UInt8)
 | []=>([],none)
 | b :: r=>if b == 46 then ([],some r) else (b :: (cutB r).1,(cutB r).2)
theorem cutB_spec:∀ (l:List UInt8),((cutB l).2 = none→(cutB l).1 = l∧idxByte l 46 = -1)∧(∀ r,(cutB l).2 = some r→l = (cutB l).1 ++ 46 :: r∧idxByte l 46 = ((cutB l).1.length:Int))
 | []=>by simp [cutB,idxByte]
 | b :: r=>by
  have ih:=cutB_spec r
  by_cases hb:(b == 46) = true
  ·have:b = 46:=by simpa using hb
   subst this
   simp [cutB,idxByte]
  ·simp only [cutB,idxByte,hb]
   refine ⟨fun h=>?_,fun r' h=>?_⟩
   ·obtain ⟨h1,h2⟩:=ih.1 h
    simp [h1,h2]
   ·obtain ⟨h1,h2⟩:=ih.2 r' h
    refine ⟨by simp [← h1],?_⟩
    rw [h2]
    have:(((cutB r).1.length:Int) == -1) = false:=by simp
    simp [this]
theorem F196_eq (s:ByteArray) (hs:(tl s).length≤9223372036854775807):F196 s (bs [46]) = some (bs (cutB (tl s)).1,bs ((cutB (tl s)).2.getD []),(cutB (tl s)).2.isSome):=by
 have hi:index1F s (bs [46]) = some (idxByte (tl s) 46):=rfl
 unfold F196 F222
 rw [hi]
 simp only [Option.bind_some]
 have sp:=cutB_spec (tl s)
 cases hc:(cutB (tl s)).2 with
 | none =>
  obtain ⟨h1,h2⟩:=sp.1 hc
  rw [h2,h1]
  simp [bs_tl]
 | some r =>
  obtain ⟨h1,h2⟩:=sp.2 r hc
  rw [h2]
  have hl:=congrArg List.length h1
  simp only [List.length_append,List.length_cons] at hl
  have e1:decide (0≤((cutB (tl s)).1.length:Int)) = true:=by simp
  rw [e1,size_bs]
  simp only [cond_true,List.length_cons,List.length_nil,Nat.zero_add]
  rw [show ((1:Nat):Int) = 1 from rfl,w64_nat (by omega)]
  have a1:subS s 0 ((cutB (tl s)).1.length:Int) = some (bs (cutB (tl s)).1):=by
   have:=subS_eq (s:=s) (a:=0) (b:=(cutB (tl s)).1.length) (by omega) (by omega)
   rw [show ((0:Nat):Int) = 0 from rfl] at this
   rw [this]
   congr 2
   generalize (cutB (tl s)).1 = z at h1 ⊢
   rw [h1]
   simp
  have a2:subS s (((cutB (tl s)).1.length + 1:Nat):Int) (s.size:Int) = some (bs r):=by
   rw [size_tl,subS_eq (by omega) (by omega)]
   congr 2
   generalize (cutB (tl s)).1 = z at h1 ⊢
   rw [h1]
   rw [List.take_of_length_le (by simp; omega)]
   simp [List.drop_append]
  rw [a1,a2]
  simp
def pathN:Nat→List UInt8→Bool
 | 0,_=>false
 | k + 1,s=>nameB (cutB s).1 && (match (cutB s).2 with | none=>true | some r=>pathN k r)
def pathB (s:List UInt8):Bool:=pathN 3 s
theorem cutB_len (l:List UInt8) (r:List UInt8) (h:(cutB l).2 = some r):r.length < l.length:=by
 have:=congrArg List.length ((cutB_spec l).2 r h).1
 simp at this
 omega
def F155s (n:Nat) (s1:ByteArray × Int):Option ((ByteArray × Int) ⊕ (Bool ⊕ Unit)):=bif decide (s1.2 < 3) then
   ((F196 s1.1 (bs [46])).bind fun x3 =>
   (F157 n x3.1).bind fun x4 =>
   bif !x4 then
    (some (.inr (.inl false)))
   else
    (bif !x3.2.2 then
     (some (.inr (.inl true)))
    else
     (some (.inl (x3.2.1,w64 (s1.2 + 1))))))
  else
   (some (.inr (.inr ())))
def finB:Bool ⊕ Unit→Option Bool
 | .inl a=>some a
 | .inr _=>some false
theorem F155_key {n:Nat} (hn:20≤n):∀ (k m:Nat) (t:List UInt8),k≤3→k < m→t.length≤9223372036854775807→(iter (F155s n) m (bs t,(3:Int) - (k:Int))).bind finB = some (pathN k t):=by
 intro k
 induction k with
 | zero =>
  intro m t _ hm ht
  cases m with
  | zero=>omega
  | succ m=>simp [iter,F155s,finB,pathN]
 | succ k ih =>
  intro m t hk hm ht
  cases m with
  | zero=>omega
  | succ m =>
   have e1:decide ((3:Int) - ((k + 1:Nat):Int) < 3) = true:=by simp; omega
   simp only [iter,F155s,e1,cond_true]
   rw [F196_eq (bs t) ht]
   simp only [Option.bind_some,F157_eq _ hn,tl_bs]
   cases hnm:nameB (cutB t).1
   ·simp [finB,pathN,hnm]
   ·cases hc:(cutB t).2 with
    | none=>simp [finB,pathN,hnm,hc]
    | some r =>
     have hl:=cutB_len t r hc
     have e2:w64 ((3:Int) - ((k + 1:Nat):Int) + 1) = (3:Int) - (k:Int):=by
      rw [w64_id (by omega) (by omega)]; omega
     simp only [Bool.not_true,cond_false,Option.isSome_some,Option.getD_some,e2]
     have:=ih m r (by omega) (by omega) (by omega)
     rw [this]
     simp [pathN,hnm,hc]
theorem F155_eq (s:ByteArray) (hs:(tl s).length≤9223372036854775807) {n:Nat} (hn:20≤n):F155 n s = some (pathB (tl s)):=by
 have h:=F155_key hn 3 n (tl s) (by omega) (by omega) hs
 have e:F155 n s = (iter (F155s n) n (s,0)).bind finB:=by
  unfold F155
  congr 1
 rw [e]
 exact h
def levelI (s:ByteArray):Int :=
 bif strEq s (bs [61,61,62]) then 2 else bif strEq s (bs [124,124]) then 3 else bif strEq s (bs [38,38]) then 4
 else bif (strEq s (bs [61,61]) || (strEq s (bs [33,61]) || (strEq s (bs [60]) || strEq s (bs [60,61])))) then 5
 else bif strEq s (bs [124]) then 6 else bif strEq s (bs [94]) then 7 else bif strEq s (bs [38]) then 8
 else bif (strEq s (bs [43]) || strEq s (bs [45])) then 9 else bif strEq s (bs [42]) then 10 else 0
theorem F156_eq (s:ByteArray):F156 s = some (levelI s):=by
 unfold F156 levelI
 simp only [Option.bind_some,some_cond,bor]
def inR (n:Int):Bool:=(decide (0≤n)) && (decide (n≤999999999))
theorem F154_eq (i:Int):F154 i = some (inR i):=rfl
def isE (k:Int):Bool:=(decide (1≤k)) && (decide (k≤8))
theorem F62_eq (x:Node):F62 x = some (isE x.kind):=rfl
def fldGood (x:Node):Bool :=
 bif x.kind == 1 then inR x.n
 else bif (x.kind == 2 || (x.kind == 24 || (x.kind == 25 || x.kind == 33))) then pathB (tl x.name)
 else bif x.kind == 5 then levelI x.name != 0
 else bif (x.kind == 7 || (x.kind == 8 || (x.kind == 58 || x.kind == 52))) then nameB (tl x.name) && inR x.n
 else bif x.kind == 35 then nameB (tl x.name) && inR x.n
 else bif x.kind == 21 then (x.n == 0) || (x.n == 1)
 else bif (x.kind == 27 || (x.kind == 28 || (x.kind == 51 || x.kind == 53))) then nameB (tl x.name)
 else bif x.kind == 50 then nameB (tl x.name) && (inR x.n && (inR x.len && (inR x.init && (strEq x.other (bs []) || ((x.n == 0) && nameB (tl x.other))))))
 else bif x.kind == 57 then nameB (tl x.name) && (strEq x.other (bs []) || nameB (tl x.other))
 else bif x.kind == 60 then nameB (tl x.name) && nameB (tl x.other)
 else bif x.kind == 61 then nameB (tl x.name) && (pathB (tl x.other) && ((x.n == 0) || (x.n == 1)))
 else true
def hasName (k:Int):Bool:=k == 2 || k == 24 || k == 25 || k == 33 || k == 5 || k == 7 || k == 8 || k == 58 || k == 52 || k == 35 || k == 27 || k == 28 || k == 51 || k == 53 || k == 50 || k == 57 || k == 60 || k == 61
def hasOther (k:Int):Bool:=k == 50 || k == 57 || k == 60 || k == 61
def hasN (k:Int):Bool:=k == 1 || k == 7 || k == 8 || k == 58 || k == 52 || k == 35 || k == 21 || k == 50 || k == 61
def fieldsB (x:Node):Bool :=
 fldGood x && ((hasName x.kind || strEq x.name (bs [])) && ((hasOther x.kind || strEq x.other (bs [])) && ((hasN x.kind || x.n == 0)
  && ((x.kind == 50 || x.len == 0) && ((x.kind == 50 || x.init == 0) && (x.kind == 50 || x.kind == 35 || x.ghost == false))))))
theorem strEq_self (s:ByteArray):strEq s s = true:=by simp [strEq]
theorem nbeq {a b:Int} (h:¬ a = b):(a == b) = false:=by simpa using h
theorem F97_eq (x:Node) (h1:(tl x.name).length≤9223372036854775807) (h2:(tl x.other).length≤9223372036854775807) {n:Nat} (hn:20≤n):F97 n x = some (fieldsB x):=by
 unfold F97
 simp only [F157_eq _ hn,F155_eq _ h1 hn,F155_eq _ h2 hn,F156_eq,F154_eq,Option.bind_some,some_cond,bor]
 congr 1
 by_cases k1:x.kind = 1
 ·simp [k1,fieldsB,fldGood,hasName,hasOther,hasN]
 by_cases k2:x.kind = 2
 ·simp [k2,fieldsB,fldGood,hasName,hasOther,hasN,strEq_self]
 by_cases k24:x.kind = 24
 ·simp [k24,fieldsB,fldGood,hasName,hasOther,hasN,strEq_self]
 by_cases k25:x.kind = 25
 ·simp [k25,fieldsB,fldGood,hasName,hasOther,hasN,strEq_self]
 by_cases k33:x.kind = 33
 ·simp [k33,fieldsB,fldGood,hasName,hasOther,hasN,strEq_self]
 by_cases k5:x.kind = 5
 ·simp [k5,fieldsB,fldGood,hasName,hasOther,hasN,strEq_self]
 by_cases k7:x.kind = 7
 ·simp [k7,fieldsB,fldGood,hasName,hasOther,hasN]
  cases nameB (tl x.name) <;> simp [strEq_self]
 by_cases k8:x.kind = 8
 ·simp [k8,fieldsB,fldGood,hasName,hasOther,hasN]
  cases nameB (tl x.name) <;> simp [strEq_self]
 by_cases k58:x.kind = 58
 ·simp [k58,fieldsB,fldGood,hasName,hasOther,hasN]
  cases nameB (tl x.name) <;> simp [strEq_self]
 by_cases k52:x.kind = 52
 ·simp [k52,fieldsB,fldGood,hasName,hasOther,hasN]
  cases nameB (tl x.name) <;> simp [strEq_self]
 by_cases k35:x.kind = 35
 ·simp [k35,fieldsB,fldGood,hasName,hasOther,hasN]
  cases nameB (tl x.name) <;> simp [strEq_self]
 by_cases k21:x.kind = 21
 ·simp [k21,fieldsB,fldGood,hasName,hasOther,hasN]
 by_cases k27:x.kind = 27
 ·simp [k27,fieldsB,fldGood,hasName,hasOther,hasN,strEq_self]
 by_cases k28:x.kind = 28
 ·simp [k28,fieldsB,fldGood,hasName,hasOther,hasN,strEq_self]
 by_cases k51:x.kind = 51
 ·simp [k51,fieldsB,fldGood,hasName,hasOther,hasN,strEq_self]
 by_cases k53:x.kind = 53
 ·simp [k53,fieldsB,fldGood,hasName,hasOther,hasN,strEq_self]
 by_cases k50:x.kind = 50
 ·simp [k50,fieldsB,fldGood,hasName,hasOther,hasN]
  cases nameB (tl x.name) <;> cases inR x.n <;> cases inR x.len <;> cases inR x.init <;> cases strEq x.other (bs []) <;> cases x.n == 0 <;> simp [strEq_self]
 by_cases k57:x.kind = 57
 ·simp [k57,fieldsB,fldGood,hasName,hasOther,hasN]
  cases nameB (tl x.name) <;> cases strEq x.other (bs []) <;> simp [strEq_self]
 by_cases k60:x.kind = 60
 ·simp [k60,fieldsB,fldGood,hasName,hasOther,hasN]
  cases nameB (tl x.name) <;> simp [strEq_self]
 by_cases k61:x.kind = 61
 ·simp [k61,fieldsB,fldGood,hasName,hasOther,hasN]
  cases nameB (tl x.name) <;> simp [strEq_self]
 simp [nbeq k1,nbeq k2,nbeq k24,nbeq k25,nbeq k33,nbeq k5,nbeq k7,nbeq k8,nbeq k58,nbeq k52,nbeq k35,nbeq k21,nbeq k27,nbeq k28,nbeq k51,nbeq k53,nbeq k50,nbeq k57,nbeq k60,nbeq k61,fieldsB,fldGood,hasName,hasOther,hasN]
def isStmt (k:Int):Bool:=((decide (20≤k)) && (decide (k≤35))) && (k != 34)
def isDecl (k:Int):Bool:=k == 51 || (k == 50 || (k == 53 || (k == 54 || (k == 55 || (k == 56 || k == 57)))))
def isItm (k:Int):Bool:=(k == 60) || (k == 61)
def leafK (k:Int):Bool:=k == 1 || (k == 26 || (k == 30 || (k == 24 || (k == 25 || (k == 27 || (k == 28 || (k == 35 || (k == 58 || (k == 52 || (k == 50 || k == 63))))))))))
def oneK (k:Int):Bool:=k == 4 || (k == 7 || (k == 8 || (k == 20 || (k == 29 || (k == 54 || (k == 55 || k == 53))))))
def eX (x:Node):Bool:=isE x.kind
def kX (k:Int) (x:Node):Bool:=x.kind == k
def enX (x:Node):Bool:=isE x.kind || x.kind == 63
def pairsB:List Node→Bool
 | []=>true
 | [_]=>false
 | a :: b :: r=>(a.kind == 2) && (isE b.kind && pairsB r)
def ex1 (p:Node→Bool):List Node→Bool
 | [a]=>p a
 | _=>false
def ex2 (p q:Node→Bool):List Node→Bool
 | [a,b]=>p a && q b
 | _=>false
def ex3 (p q r:Node→Bool):List Node→Bool
 | [a,b,c]=>p a && (q b && r c)
 | _=>false
def plainX (x:Node):Bool:=(x.kind == 2) && x.kids.isEmpty
def atomK:List Node→Bool
 | a :: r=>enX a && pairsB r
 | []=>false
def casK:List Node→Bool
 | a :: b :: c :: d :: r=>(kX 2 a && (eX b && (eX c && kX 2 d))) && pairsB r
 | _=>false
def procK (l:List Node):Bool:=match l.getLast? with
 | some b=>(b.kind == 34) && l.dropLast.all (kX 58)
 | none=>false
def kidsB (x:Node):Bool :=
 bif leafK x.kind then x.kids.isEmpty
 else bif x.kind == 2 then x.kids.isEmpty || ex1 eX x.kids
 else bif x.kind == 3 then ex1 (kX 2) x.kids
 else bif oneK x.kind then ex1 eX x.kids
 else bif x.kind == 5 then ex2 eX eX x.kids
 else bif x.kind == 6 then ex3 eX eX eX x.kids
 else bif x.kind == 21 then !x.kids.isEmpty && pairsB x.kids
 else bif x.kind == 22 then atomK x.kids
 else bif x.kind == 23 then casK x.kids
 else bif x.kind == 31 then ex3 eX (kX 34) (kX 34) x.kids
 else bif x.kind == 32 then ex3 eX enX (kX 34) x.kids
 else bif x.kind == 33 then x.kids.all eX
 else bif x.kind == 34 then x.kids.all (fun y=>isStmt y.kind)
 else bif x.kind == 51 then x.kids.all (kX 52)
 else bif x.kind == 56 then !x.kids.isEmpty && x.kids.all plainX
 else bif x.kind == 57 then procK x.kids
 else bif x.kind == 60 then x.kids.all (fun y=>isDecl y.kind)
 else bif x.kind == 61 then x.kids.all (kX 1)
 else bif x.kind == 62 then x.kids.all (fun y=>isItm y.kind)
 else false
theorem len0 (l:List Node):((l.length:Int) == 0) = l.isEmpty:=by cases l <;> simp; omega
theorem len0lt (l:List Node):decide (0 < (l.length:Int)) = !l.isEmpty:=by cases l <;> simp
theorem all_loop {p:Node→Bool} {g:Node→Option Bool} (hg:∀ y,g y = some (p y)) (l:List Node) (hl:l.length≤9223372036854775807) {n:Nat} (hn:l.length < n) :
  ((iter (σ:=Int) (ρ:=Unit ⊕ Unit) (fun s1=>bif decide (s1 < (l.length:Int)) then
   ((idxL l s1).bind fun x3 =>
   (g x3).bind fun x5 =>
   bif !x5 then
    (some (.inr (.inl ())))
   else
    (some (.inl (w64 (s1 + 1)))))
  else
   (some (.inr (.inr ())))) n (0:Int)).bind fun r7=>match r7 with
 | .inl _=>some false
 | .inr _=>some true) = some (l.all p):=by
 rw [iter_all l p hl (fun k x hx=>by
  have hlt:=lt_of_get hx
  have c1:decide ((k:Int) < (l.length:Int)) = true:=by simpa using hlt
  rw [c1,idxL_some hx]
  simp only [cond_true,Option.bind_some,hg]
  cases p x <;> rfl) (by simp) hn]
 cases l.all p <;> rfl
theorem F99_1_eq (l:List Node) (hl:l.length≤9223372036854775807) {n:Nat} (hn:l.length < n):F99_1 n l = some (l.all eX):=all_loop (fun _=>rfl) l hl hn
theorem F99_2_eq (l:List Node) (hl:l.length≤9223372036854775807) {n:Nat} (hn:l.length < n):F99_2 n l = some (l.all (fun y=>isStmt y.kind)):=all_loop (fun _=>rfl) l hl hn
theorem F99_3_eq (l:List Node) (k:Int) (hl:l.length≤9223372036854775807) {n:Nat} (hn:l.length < n):F99_3 n l k = some (l.all (kX k)):=all_loop (fun _=>rfl) l hl hn
theorem F164_eq (x:Node):F164 x = some (plainX x):=by
 unfold F164 plainX
 rw [len0]
 cases x.kind == 2 <;> rfl
theorem F99_4_eq (l:List Node) (hl:l.length≤9223372036854775807) {n:Nat} (hn:l.length < n):F99_4 n l = some (l.all plainX):=all_loop F164_eq l hl hn
theorem F165_eq (x:Node):F165 x = some (isDecl x.kind):=by
 unfold F165 isDecl
 cases x.kind == 51 <;> cases x.kind == 50 <;> cases x.kind == 53 <;> cases x.kind == 54 <;> cases x.kind == 55 <;> cases x.kind == 56 <;> cases x.kind == 57 <;> rfl
theorem F99_5_eq (l:List Node) (hl:l.length≤9223372036854775807) {n:Nat} (hn:l.length < n):F99_5 n l = some (l.all (fun y=>isDecl y.kind)):=all_loop F165_eq l hl hn
theorem F99_6_eq (l:List Node) (hl:l.length≤9223372036854775807) {n:Nat} (hn:l.length < n):F99_6 n l = some (l.all (fun y=>isItm y.kind)):=all_loop (fun _=>rfl) l hl hn
def prP (k:Nat) (x:Node):Bool:=isE x.kind && (!(k % 2 == 0) || x.kind == 2)
theorem pairs_all:∀ (l:List Node) (k:Nat),k % 2 = 0→(allI prP k l && (l.length % 2 == 0)) = pairsB l
 | [],_,_=>rfl
 | [a],k,h=>by simp [allI,pairsB]
 | a :: b :: r,k,h=>by
  have ih:=pairs_all r (k + 2) (by omega)
  have h1:(k + 1) % 2 = 1:=by omega
  have h2:((r.length + 1 + 1) % 2 == 0) = (r.length % 2 == 0):=by
   have:(r.length + 1 + 1) % 2 = r.length % 2:=by omega
   rw [this]
  simp only [allI,pairsB,List.length_cons,h2,← ih,prP,h,h1]
  by_cases ha:a.kind = 2
  ·simp [ha,isE,Bool.and_assoc]
  ·simp [nbeq ha]
theorem pr_step {α:Type} (e p k2:Bool) (a b:α):(bif !e then some b else bif p then (bif !k2 then some b else some a) else some a) = some (if (e && (!p || k2)) = true then a else b):=by
 cases e <;> cases p <;> cases k2 <;> rfl
theorem F160_eq (l:List Node) (hl:l.length≤9223372036854775807) {n:Nat} (hn:l.length < n):F160 n l = some (pairsB l):=by
 unfold F160
 rw [iter_allI l prP hl (fun k x hx=>by
  have hlt:=lt_of_get hx
  have c1:decide ((k:Int) < (l.length:Int)) = true:=by simpa using hlt
  have c2:(Int.tmod (k:Int) 2 == 0) = (k % 2 == 0):=by
   have:Int.tmod (k:Int) 2 = ((k % 2:Nat):Int):=(Int.ofNat_tmod k 2).symm
   rw [this]
   cases h:k % 2 <;> simp
   omega
  rw [c1,idxL_some hx,c2]
  simp only [cond_true,Option.bind_some,F62_eq,prP]
  exact pr_step _ _ _ _ _) (by simp) hn]
 have c3:(Int.tmod (l.length:Int) 2 == 0) = (l.length % 2 == 0):=by
  have:Int.tmod (l.length:Int) 2 = ((l.length % 2:Nat):Int):=(Int.ofNat_tmod l.length 2).symm
  rw [this]
  cases h:l.length % 2 <;> simp
  omega
 rw [← pairs_all l 0 rfl,c3]
 cases allI prP 0 l <;> simp
theorem F158_gen (l:List Node) (ps:List Pred) (fs:List (Node→Bool)) (hlen:l.length = ps.length) (hl:l.length < 100) (h:∀ (k:Nat) p,ps[k]? = some p→∀ y,p.p y = some ((fs.getD k (fun _=>false)) y)) {n:Nat} (hn:l.length < n) :
  F158 n l ps = some (allI (fun k y=>(fs.getD k (fun _=>false)) y) 0 l):=by
 unfold F158
 have e:((l.length:Int) != (ps.length:Int)) = false:=by simp [hlen]
 rw [e]
 simp only [cond_false]
 rw [iter_allI l (fun k y=>(fs.getD k (fun _=>false)) y) (by omega) (fun k x hx=>by
  have hlt:=lt_of_get hx
  have c1:decide ((k:Int) < (l.length:Int)) = true:=by simpa using hlt
  have hp:ps[k]? = some (ps[k]'(by omega)):=List.getElem?_eq_getElem (by omega)
  rw [c1,idxL_some hx,idxL_some hp]
  simp only [cond_true,Option.bind_some,h k _ hp x]
  exact cond_not_if2 _ _ _) (by simp) hn]
 cases allI (fun k y=>(fs.getD k (fun _=>false)) y) 0 l <;> rfl
theorem F158_ne (l:List Node) (ps:List Pred) (h:l.length≠ps.length) (n:Nat):F158 n l ps = some false:=by
 unfold F158
 have e:((l.length:Int) != (ps.length:Int)) = true:=by simp; omega
 rw [e]
 rfl
theorem F158_1 (l:List Node) (p:Pred) (f:Node→Bool) (hp:∀ y,p.p y = some (f y)) {n:Nat} (hn:10≤n):F158 n l [p] = some (ex1 f l):=by
 match l with
 | []=>exact F158_ne _ _ (by simp) n
 | [a] =>
  rw [F158_gen [a] [p] [f] rfl (by simp) (fun k q hq y=>by
   match k with
   | 0=>obtain rfl:=Option.some.inj hq; exact hp y
   | k + 1=>simp at hq) (by simp; omega)]
  simp [allI,ex1]
 | a :: b :: r=>exact F158_ne _ _ (by simp) n
theorem F158_2 (l:List Node) (p q:Pred) (f g:Node→Bool) (hp:∀ y,p.p y = some (f y)) (hq:∀ y,q.p y = some (g y)) {n:Nat} (hn:10≤n):F158 n l [p,q] = some (ex2 f g l):=by
 match l with
 | []=>exact F158_ne _ _ (by simp) n
 | [a]=>exact F158_ne _ _ (by simp) n
 | [a,b] =>
  rw [F158_gen [a,b] [p,q] [f,g] rfl (by simp) (fun k z hz y=>by
   match k with
   | 0=>obtain rfl:=Option.some.inj hz; exact hp y
   | 1=>obtain rfl:=Option.some.inj hz; exact hq y
   | k + 2=>simp at hz) (by simp; omega)]
  simp [allI,ex2]
 | a :: b :: c :: r=>exact F158_ne _ _ (by simp) n
theorem F158_3 (l:List Node) (p q u:Pred) (f g h:Node→Bool) (hp:∀ y,p.p y = some (f y)) (hq:∀ y,q.p y = some (g y)) (hu:∀ y,u.p y = some (h y)) {n:Nat} (hn:10≤n):F158 n l [p,q,u] = some (ex3 f g h l):=by
 match l with
 | []=>exact F158_ne _ _ (by simp) n
 | [a]=>exact F158_ne _ _ (by simp) n
 | [a,b]=>exact F158_ne _ _ (by simp) n
 | [a,b,c] =>
  rw [F158_gen [a,b,c] [p,q,u] [f,g,h] rfl (by simp) (fun k z hz y=>by
   match k with
   | 0=>obtain rfl:=Option.some.inj hz; exact hp y
   | 1=>obtain rfl:=Option.some.inj hz; exact hq y
   | 2=>obtain rfl:=Option.some.inj hz; exact hu y
   | k + 3=>simp at hz) (by simp; omega)]
  simp [allI,ex3]
 | a :: b :: c :: d :: r=>exact F158_ne _ _ (by simp) n
theorem F158_4 (a b c d:Node) (p q u v:Pred) (f g h i:Node→Bool) (hp:∀ y,p.p y = some (f y)) (hq:∀ y,q.p y = some (g y)) (hu:∀ y,u.p y = some (h y)) (hv:∀ y,v.p y = some (i y)) {n:Nat} (hn:10≤n) :
  F158 n [a,b,c,d] [p,q,u,v] = some (f a && (g b && (h c && i d))):=by
 rw [F158_gen [a,b,c,d] [p,q,u,v] [f,g,h,i] rfl (by simp) (fun k z hz y=>by
  match k with
  | 0=>obtain rfl:=Option.some.inj hz; exact hp y
  | 1=>obtain rfl:=Option.some.inj hz; exact hq y
  | 2=>obtain rfl:=Option.some.inj hz; exact hu y
  | 3=>obtain rfl:=Option.some.inj hz; exact hv y
  | k + 4=>simp at hz) (by simp; omega)]
 simp [allI]
theorem F198_eq (x:Node):F198 x = some (enX x):=by
 unfold F198 enX
 rw [F62_eq]
 simp only [Option.bind_some,F161]
 cases isE x.kind <;> rfl
theorem ctrue (a b:Bool):(bif a then true else b) = (a || b):=by cases a <;> rfl
theorem cfalse (a b:Bool):(bif a then b else false) = (a && b):=by cases a <;> rfl
theorem subL_tail {a:Node} {r:List Node}:subL (a :: r) 1 ((a :: r).length:Int) = some r:=by
 have:=subL_eq (l:=a :: r) (a:=1) (b:=(a :: r).length) (by simp) (by simp)
 rw [show ((1:Nat):Int) = 1 from rfl] at this
 rw [this]
 simp
theorem atom_eq (n:Nat) (l:List Node) (hl:l.length≤9223372036854775807) (hk:l.length < n):(bif !l.isEmpty then
           (idxL l 0).bind fun x38 =>
            (F62 x38).bind fun x39 =>
             bif x39 then
              (subL l 1 (l.length:Int)).bind fun x41=>(F160 n x41).bind fun x16=>some x16
             else
              (idxL l 0).bind fun x43 =>
               (F161 x43).bind fun x44 =>
                bif x44 then
                 (subL l 1 (l.length:Int)).bind fun x41=>(F160 n x41).bind fun x16=>some x16
                else some false
          else some false) = some (atomK l):=by
 cases l with
 | nil=>rfl
 | cons a r =>
  have h1:idxL (a :: r) 0 = some a:=rfl
  simp only [List.length_cons] at hl hk
  simp only [h1,F62_eq,Option.bind_some,subL_tail,F160_eq r (by omega) (show r.length < n by omega),atomK,enX,F161]
  cases isE a.kind <;> cases a.kind == 63 <;> simp
theorem cas_eq (n:Nat) (l:List Node) (hl:l.length≤9223372036854775807) (hk:l.length < n) (hn':10≤n):(bif decide (4≤(l.length:Int)) then
            (subL l 0 4).bind fun x50 =>
             (F158 n x50 [PF98_8,PF98_9,PF98_10,PF98_11]).bind fun x51 =>
              bif x51 then
               (subL l 4 (l.length:Int)).bind fun x41=>(F160 n x41).bind fun x16=>some x16
              else some false
           else some false) = some (casK l):=by
 match l with
 | []=>rfl
 | [_]=>rfl
 | [_,_]=>rfl
 | [_,_,_]=>rfl
 | a :: b :: c :: d :: r =>
  have c1:decide (4≤((a :: b :: c :: d :: r).length:Int)) = true:=by simp; omega
  have s1:subL (a :: b :: c :: d :: r) 0 4 = some [a,b,c,d]:=by
   have:=subL_eq (l:=a :: b :: c :: d :: r) (a:=0) (b:=4) (by simp) (by simp)
   rw [show ((0:Nat):Int) = 0 from rfl,show ((4:Nat):Int) = 4 from rfl] at this
   rw [this]
   simp
  have s2:subL (a :: b :: c :: d :: r) 4 ((a :: b :: c :: d :: r).length:Int) = some r:=by
   have:=subL_eq (l:=a :: b :: c :: d :: r) (a:=4) (b:=(a :: b :: c :: d :: r).length) (by simp) (by simp)
   rw [show ((4:Nat):Int) = 4 from rfl] at this
   rw [this]
   simp
  simp only [List.length_cons] at hl hk
  rw [c1,s1,s2]
  simp only [cond_true,Option.bind_some,F158_4 a b c d PF98_8 PF98_9 PF98_10 PF98_11 (kX 2) eX eX (kX 2) (fun _=>rfl) (fun _=>rfl) (fun _=>rfl) (fun _=>rfl) hn',F160_eq r (by omega) (show r.length < n by omega),casK]
  cases (kX 2 a && (eX b && (eX c && kX 2 d))) <;> rfl
theorem last_eq {l:List Node} (h:l≠[]) (hl:l.length≤9223372036854775807):w64 ((l.length:Int) - 1) = ((l.length - 1:Nat):Int):=by
 have:0 < l.length:=List.length_pos_iff.2 h
 rw [w64_id (by omega) (by omega)]
 omega
theorem idx_last {l:List Node} (h:l≠[]) (hl:l.length≤9223372036854775807):idxL l (w64 ((l.length:Int) - 1)) = some (l.getLast h):=by
 have:0 < l.length:=List.length_pos_iff.2 h
 rw [last_eq h hl,idxL_some (x:=l.getLast h)]
 rw [← List.getLast?_eq_getElem?,List.getLast?_eq_some_getLast h]
theorem sub_last {l:List Node} (h:l≠[]) (hl:l.length≤9223372036854775807):subL l 0 (w64 ((l.length:Int) - 1)) = some l.dropLast:=by
 rw [last_eq h hl]
 have:=subL_eq (l:=l) (a:=0) (b:=l.length - 1) (by omega) (by omega)
 rw [show ((0:Nat):Int) = 0 from rfl] at this
 rw [this]
 simp [List.dropLast_eq_take]
theorem proc_eq (n:Nat) (l:List Node) (hl:l.length≤9223372036854775807) (hk:l.length < n):(bif decide (0≤w64 ((l.length:Int) - 1)) then
                   (idxL l (w64 ((l.length:Int) - 1))).bind fun x70 =>
                    bif x70.kind == 34 then
                     (subL l 0 (w64 ((l.length:Int) - 1))).bind fun x72 =>
                      (F99_3 n x72 58).bind fun x16=>some x16
                    else some false
                  else some false) = some (procK l):=by
 by_cases h:l = []
 ·subst h; rfl
 ·have c1:decide (0≤w64 ((l.length:Int) - 1)) = true:=by
   rw [last_eq h hl]; simp
  have hd:l.dropLast.length≤l.length:=by simp
  rw [c1,idx_last h hl,sub_last h hl]
  simp only [cond_true,Option.bind_some,F99_3_eq l.dropLast 58 (by omega) (show l.dropLast.length < n by omega),procK,List.getLast?_eq_some_getLast h]
  cases (l.getLast h).kind == 34 <;> rfl
theorem F98_eq (x:Node) (hl:x.kids.length≤9223372036854775807) {n:Nat} (hn:20≤n) (hk:x.kids.length < n):F98 n x = some (kidsB x):=by
 have hn':10≤n:=by omega
 unfold F98
 simp only [Option.bind_some,len0,len0lt,
  F158_1 x.kids PF98_0 eX (fun _=>rfl) hn',F158_1 x.kids PF98_1 (kX 2) (fun _=>rfl) hn',F158_1 x.kids PF98_2 eX (fun _=>rfl) hn',
  F158_2 x.kids PF98_3 PF98_4 eX eX (fun _=>rfl) (fun _=>rfl) hn',F158_3 x.kids PF98_5 PF98_6 PF98_7 eX eX eX (fun _=>rfl) (fun _=>rfl) (fun _=>rfl) hn',
  F158_3 x.kids PF98_12 PF98_13 PF98_14 eX (kX 34) (kX 34) (fun _=>rfl) (fun _=>rfl) (fun _=>rfl) hn',
  F158_3 x.kids PF98_15 PF98_16 PF98_17 eX enX (kX 34) (fun _=>rfl) F198_eq (fun _=>rfl) hn',
  F160_eq x.kids hl hk,F99_1_eq x.kids hl hk,F99_2_eq x.kids hl hk,F99_3_eq x.kids _ hl hk,F99_4_eq x.kids hl hk,F99_5_eq x.kids hl hk,F99_6_eq x.kids hl hk,some_cond,bor]
 rw [atom_eq n x.kids hl hk,cas_eq n x.kids hl hk hn',proc_eq n x.kids hl hk]
 simp only [some_cond]
 unfold kidsB leafK oneK
 simp only [ctrue,cfalse]
end Go.Proofs.YtbecjgckobhmpaaGreatDoor
end
section
namespace Go.Proofs.YtbecjgckobhmpaaGreatDoor
open Go Go.AM Go.Proofs
def kindO (t:Option (Int × ByteArray)):Int:=match t with
 | some t=>t.1
 | none=>0
def textO (t:Option (Int × ByteArray)):ByteArray:=match t with
 | some t=>t.2
 | none=>bs []
def isNm (t:Int × ByteArray):Bool:=t.1 == 1 && !(isKey t.2)
def numV (s:ByteArray):Int:=(atoiF s).getD 0
namespace M
variable {α:Type}
def name:M ByteArray:=.look fun t=>match t with
 | some t=>bif isNm t then .adv (.ret t.2) else .fail false
 | none=>.fail false
def num:M Int:=.look fun t=>match t with
 | some t=>bif t.1 == 2 then .adv (.ret (numV t.2)) else .fail false
 | none=>.fail false
def len:M Int:=.look fun t=>match t with
 | some t=>bif t.1 == 2 then (bif numV t.2 == 0 then .fail true else .adv (.ret (numV t.2))) else .fail false
 | none=>.fail false
def numNode:M Node:=.pos fun p=>num.bind fun v=>.ret (Node.mk 1 (bs []) (bs []) v 0 0 false [] p)
def kw (a:ByteArray) (m m':M α):M α:=(accept a).bind fun b=>bif b then m else m'
def semi (x:α):M α:=(expect (bs [59])).bind fun _=>.ret x
def pathS (s:ByteArray × Int):M ((ByteArray × Int) ⊕ ByteArray) :=
 bif decide (s.2 < 2) then
  (accept (bs [46])).bind fun b=>bif !b then .ret (.inr s.1) else name.bind fun y=>.ret (.inl (bs (tl s.1 ++ 46 :: tl y),s.2 + 1))
 else .ret (.inr s.1)
def path (n:Nat):M ByteArray:=name.bind fun x=>iterM pathS n (x,0)
def refS (mE:M Node) (n:Nat):M Node:=.pos fun p=>(path n).bind fun x =>
 kw (bs [91]) (mE.bind fun e=>(expect (bs [93])).bind fun _=>.ret (Node.mk 2 x (bs []) 0 0 0 false [e] p))
  (.ret (Node.mk 2 x (bs []) 0 0 0 false [] p))
def unaryS (mR mU mE:M Node):M Node:=.pos fun p =>
 kw (bs [33]) (mU.bind fun e=>.ret (Node.mk 4 (bs []) (bs []) 0 0 0 false [e] p))
  (.look fun t=>bif kindO t == 2 then numNode else
   kw (bs [111,108,100]) ((expect (bs [40])).bind fun _=>mR.bind fun e=>(expect (bs [41])).bind fun _=>.ret (Node.mk 3 (bs []) (bs []) 0 0 0 false [e] p))
    (kw (bs [40]) (mE.bind fun e=>(expect (bs [41])).bind fun _=>.ret e) mR))
def rightS (mB:Int→M Node) (l:Int):M (Int × Node) :=
 bif l == 2 then (mB l).bind fun r=>.ret (l - 1,r)
 else bif l == 5 then (mB (l + 1)).bind fun r=>.ret (l - 1,r)
 else (mB (l + 1)).bind fun r=>.ret (l,r)
def binStep (mB:Int→M Node) (a0:Int) (s:Int × Node):M ((Int × Node) ⊕ Node):=.look fun t=>.pos fun p =>
 bif ((levelI (textO t) == 0) || decide (levelI (textO t) < a0)) || decide (s.1 < levelI (textO t)) then .ret (.inr s.2)
 else .adv ((rightS mB (levelI (textO t))).bind fun j=>.ret (.inl (j.1,Node.mk 5 (textO t) (bs []) 0 0 0 false [s.2,j.2] p)))
def binS (mU:M Node) (mB:Int→M Node) (n:Nat) (a0:Int):M Node:=mU.bind fun x=>iterM (binStep mB a0) n (10,x)
def condS (mB:Int→M Node) (mC:M Node):M Node:=(mB 2).bind fun x=>.pos fun p =>
 (accept (bs [63])).bind fun b=>bif !b then .ret x else
  mC.bind fun y=>(expect (bs [58])).bind fun _=>mC.bind fun z=>.ret (Node.mk 6 (bs []) (bs []) 0 0 0 false [x,y,z] p)
def quant (mE:M Node) (k:Int):M Node:=.pos fun p=>.adv (name.bind fun x=>(expect (bs [60])).bind fun _ =>
 num.bind fun v=>(expect (bs [58])).bind fun _=>mE.bind fun e=>.ret (Node.mk k x (bs []) v 0 0 false [e] p))
def exprS (mC mE:M Node):M Node:=.look fun t =>
 bif strEq (textO t) (bs [97,108,108]) then quant mE 7
 else bif strEq (textO t) (bs [115,111,109,101]) then quant mE 8
 else mC
mutual
def ref:Nat→M Node
 | 0=>.out
 | n + 1=>refS (expr n) n
def unary:Nat→M Node
 | 0=>.out
 | n + 1=>unaryS (ref n) (unary n) (expr n)
def bin:Nat→Int→M Node
 | 0,_=>.out
 | n + 1,a=>binS (unary n) (bin n) n a
def cond:Nat→M Node
 | 0=>.out
 | n + 1=>condS (bin n) (cond n)
def expr:Nat→M Node
 | 0=>.out
 | n + 1=>exprS (cond n) (expr n)
end
def whole (n:Nat):M Node:=(expr n).bind fun e=>.look fun t=>bif t.isSome then .fail false else .ret e
def partsL (part:M (List Node)) (acc:List Node):M (List Node ⊕ List Node) :=
 kw (bs [44]) (part.bind fun x=>.ret (.inl (acc ++ x))) (.ret (.inr acc))
def some' (n:Nat) (part:M (List Node)):M (List Node):=part.bind fun x=>iterM (partsL part) n x
def parts (n:Nat) (a:ByteArray) (part:M (List Node)):M (List Node) :=
 kw a (.ret []) (part.bind fun x=>(iterM (partsL part) n x).bind fun l=>(expect a).bind fun _=>.ret l)
def one (m:M Node):M (List Node):=m.bind fun x=>.ret [x]
def skipS (closed:Bool) (d:Int):M (Int ⊕ (Unit ⊕ Unit)):=.look fun t=>match t with
 | none=>.ret (.inr (.inr ()))
 | some t =>
  bif strEq t.2 (bs [59]) then (bif d == 0 then .adv (.ret (.inr (.inl ()))) else .adv (.ret (.inl d)))
  else bif strEq t.2 (bs [123]) then .adv (.ret (.inl (w64 (d + 1))))
  else bif strEq t.2 (bs [125]) then
   (bif (d == 0) && closed then .ret (.inr (.inl ()))
   else bif d == 0 then .adv (.ret (.inr (.inl ())))
   else bif w64 (d - 1) == 0 then .adv ((accept (bs [59])).bind fun _=>.ret (.inr (.inl ())))
   else .adv (.ret (.inl (w64 (d - 1)))))
  else .adv (.ret (.inl d))
def skip (n:Nat) (closed:Bool):M Unit:=.getI fun d=>.setI 0 ((iterM (skipS closed) n d).bind fun _=>.ret ())
def listS (n:Nat) (closed:Bool) (item:M Node) (acc:List Node):M (List Node ⊕ List Node):=.look fun t =>
 bif t.isNone then (bif closed then .fail false else .ret (.inr acc))
 else (bif closed then accept (bs [125]) else .ret false).bind fun b=>bif b then .ret (.inr acc)
  else item.tryM (fun x=>.ret (.inl (acc ++ [x]))) (fun b=>.rep b ((skip n closed).bind fun _=>.ret (.inl acc)))
def list (n:Nat) (closed:Bool) (item:M Node):M (List Node):=iterM (listS n closed item) n []
def sized (k:Int) (g:Bool) (p:Int):M Node:=name.bind fun x=>(expect (bs [58])).bind fun _=>num.bind fun v=>.ret (Node.mk k x (bs []) v 0 0 g [] p)
def field:M Node:=.pos fun p=>(sized 52 false p).bind fun x=>semi x
def param:M Node:=.pos fun p=>sized 58 false p
def pathNode (n:Nat):M Node:=.pos fun p=>(path n).bind fun x=>.ret (Node.mk 2 x (bs []) 0 0 0 false [] p)
def assign (n:Nat):M (List Node):=(ref n).bind fun a=>(expect (bs [58,61])).bind fun _=>(expr n).bind fun e=>.ret [a,e]
def with' (n:Nat):M (List Node):=(accept (bs [119,105,116,104])).bind fun b=>bif !b then .ret [] else some' n (assign n)
def none' (k p:Int):Node:=Node.mk k (bs []) (bs []) 0 0 0 false [] p
def atomic (n:Nat) (p:Int):M (List Node):=(expect (bs [123])).bind fun _=>.setI 1 ((parts n (bs [125]) (assign n)).bind fun l=>.setI 0
 (kw (bs [119,104,101,110]) ((expr n).bind fun e=>.ret ([e] ++ l)) (.ret ([none' 63 p] ++ l))))
def cas (n:Nat):M (List Node):=(ref n).bind fun a=>(expect (bs [44])).bind fun _=>(expr n).bind fun b=>(expect (bs [44])).bind fun _ =>
 (expr n).bind fun c=>(expect (bs [105,110,116,111])).bind fun _=>(ref n).bind fun d=>(with' n).bind fun l=>.ret ((([a] ++ [b]) ++ [c]) ++ [d] ++ l)
def loopS (mB:M Node) (n:Nat) (p:Int):M Node:=(expr n).bind fun c =>
 (kw (bs [118,97,114,105,97,110,116]) (expr n) (.ret (none' 63 p))).bind fun v=>mB.bind fun b=>.ret (Node.mk 32 (bs []) (bs []) 0 0 0 false [c,v,b] p)
def branchS (mB:M Node) (n:Nat) (p:Int):M Node:=(expr n).bind fun c=>mB.bind fun a =>
 (kw (bs [101,108,115,101]) mB (.ret (none' 34 p))).bind fun b=>.ret (Node.mk 31 (bs []) (bs []) 0 0 0 false [c,a,b] p)
def blockS (mL:M (List Node)):M Node:=.pos fun p=>(expect (bs [123])).bind fun _=>mL.bind fun l=>.ret (Node.mk 34 (bs []) (bs []) 0 0 0 false l p)
def nd (k:Int) (s:ByteArray) (l:List Node) (p:Int):Node:=Node.mk k s (bs []) 0 0 0 false l p
def stmtS (mIf mWh:Int→M Node) (n:Nat):M Node:=.pos fun p =>
 kw (bs [105,102]) (mIf p) <|
 kw (bs [119,104,105,108,101]) (mWh p) <|
 kw (bs [97,115,115,101,114,116]) ((expr n).bind fun e=>semi (nd 20 (bs []) [e] p)) <|
 kw (bs [97,119,97,105,116]) ((expr n).bind fun e=>semi (nd 29 (bs []) [e] p)) <|
 kw (bs [102,101,110,99,101]) (semi (nd 26 (bs []) [] p)) <|
 kw (bs [115,107,105,112]) (semi (nd 30 (bs []) [] p)) <|
 kw (bs [97,116,111,109,105,99]) ((atomic n p).bind fun l=>semi (nd 22 (bs []) l p)) <|
 kw (bs [99,97,115]) ((cas n).bind fun l=>semi (nd 23 (bs []) l p)) <|
 kw (bs [97,99,113,117,105,114,101]) ((path n).bind fun x=>semi (nd 24 x [] p)) <|
 kw (bs [102,114,101,101]) ((path n).bind fun x=>semi (nd 25 x [] p)) <|
 kw (bs [115,112,97,119,110]) (name.bind fun x=>semi (nd 27 x [] p)) <|
 kw (bs [106,111,105,110]) (name.bind fun x=>semi (nd 28 x [] p)) <|
 kw (bs [99,97,108,108]) ((path n).bind fun x=>(expect (bs [40])).bind fun _=>(parts n (bs [41]) (one (expr n))).bind fun l=>semi (nd 33 x l p)) <|
 kw (bs [103,104,111,115,116]) ((expect (bs [108,111,99,97,108])).bind fun _=>(sized 35 true p).bind fun x=>semi x) <|
 kw (bs [108,111,99,97,108]) ((sized 35 false p).bind fun x=>semi x) <|
 (kw (bs [114,101,108,101,97,115,101]) (.ret (Node.mk 21 (bs []) (bs []) 1 0 0 false [] p)) (.ret (Node.mk 21 (bs []) (bs []) 0 0 0 false [] p))).bind fun j =>
  (assign n).bind fun a=>(with' n).bind fun w=>semi (Node.mk j.kind j.name j.other j.n j.len j.init j.ghost (a ++ w) j.pos)
mutual
def loop:Nat→Int→M Node
 | 0,_=>.out
 | n + 1,p=>loopS (block n) n p
def branch:Nat→Int→M Node
 | 0,_=>.out
 | n + 1,p=>branchS (block n) n p
def stmt:Nat→M Node
 | 0=>.out
 | n + 1=>stmtS (branch n) (loop n) n
def stmts:Nat→M (List Node)
 | 0=>.out
 | n + 1=>list n true (stmt n)
def block:Nat→M Node
 | 0=>.out
 | n + 1=>blockS (stmts n)
end
def shared (g:Bool) (p:Int):M Node:=name.bind fun x =>
 (kw (bs [91]) (len.bind fun l=>(expect (bs [93])).bind fun _=>.ret (Node.mk 50 x (bs []) 0 l 0 g [] p)) (.ret (Node.mk 50 x (bs []) 0 0 0 g [] p))).bind fun j =>
 (expect (bs [58])).bind fun _ =>
 (Go.Proofs.YtbecjgckobhmpaaGreatDoor.M.look fun t=>bif (match t with | some t=>isNm t | none=>false) then name.bind fun o=>.ret (Node.mk j.kind j.name o j.n j.len j.init j.ghost j.kids j.pos)
  else num.bind fun v=>.ret (Node.mk j.kind j.name j.other v j.len j.init j.ghost j.kids j.pos)).bind fun j =>
 (kw (bs [61]) (num.bind fun v=>.ret (Node.mk j.kind j.name j.other j.n j.len v j.ghost j.kids j.pos)) (.ret j)).bind fun j=>semi j
def decl (n:Nat):M Node:=.pos fun p =>
 (kw (bs [114,101,99,111,114,100]) (name.bind fun x=>(expect (bs [123])).bind fun _=>(list n true field).bind fun l=>.ret (Sum.inl (nd 51 x l p))) <|
 kw (bs [103,104,111,115,116]) ((expect (bs [115,104,97,114,101,100])).bind fun _=>(shared true p).bind fun x=>.ret (.inl x)) <|
 kw (bs [115,104,97,114,101,100]) ((shared false p).bind fun x=>.ret (.inl x)) <|
 kw (bs [108,111,99,107]) (name.bind fun x=>(expect (bs [105,110,118,97,114,105,97,110,116])).bind fun _=>(expr n).bind fun e=>.ret (.inr (nd 53 x [e] p))) <|
 kw (bs [114,101,108,121]) ((expr n).bind fun e=>.ret (.inr (nd 54 (bs []) [e] p))) <|
 kw (bs [103,117,97,114,97,110,116,101,101]) ((expr n).bind fun e=>.ret (.inr (nd 55 (bs []) [e] p))) <|
 kw (bs [102,114,97,109,101]) ((some' n (one (pathNode n))).bind fun l=>.ret (.inr (nd 56 (bs []) l p))) <|
 kw (bs [112,114,111,99]) (name.bind fun x=>(expect (bs [40])).bind fun _=>(parts n (bs [41]) (one param)).bind fun l =>
  (kw (bs [108,111,99,107,101,100]) (name.bind fun o=>.ret (Node.mk 57 x o 0 0 0 false l p)) (.ret (Node.mk 57 x (bs []) 0 0 0 false l p))).bind fun j =>
  (block n).bind fun b=>.ret (.inl (Node.mk j.kind j.name j.other j.n j.len j.init j.ghost (j.kids ++ [b]) j.pos))) <|
 (.fail false:M (Node ⊕ Node))).bind fun j=>match j with
  | .inl x=>.ret x
  | .inr x=>semi x
def thread (v p:Int) (n:Nat):M Node:=name.bind fun x=>(expect (bs [61])).bind fun _=>(path n).bind fun o=>(expect (bs [40])).bind fun _ =>
 (parts n (bs [41]) (one numNode)).bind fun l=>semi (Node.mk 61 x o v 0 0 false l p)
def item (n:Nat):M Node:=.pos fun p =>
 kw (bs [109,111,100,117,108,101]) (name.bind fun x=>(expect (bs [111,119,110,101,114])).bind fun _=>name.bind fun o=>(expect (bs [123])).bind fun _ =>
  (list n true (decl n)).bind fun l=>.ret (Node.mk 60 x o 0 0 0 false l p)) <|
 kw (bs [97,115,108,101,101,112]) ((expect (bs [116,104,114,101,97,100])).bind fun _=>thread 1 p n) <|
 kw (bs [116,104,114,101,97,100]) (thread 0 p n) <|
 .fail false
def source (n:Nat):M (List Node):=list n false (item n)
end M
end Go.Proofs.YtbecjgckobhmpaaGreatDoor
end
section
namespace Go.Proofs.YtbecjgckobhmpaaGreatDoor
open Go Go.AM Go.Proofs
def TkOk (t:Int × ByteArray):Prop :=
 (t.1 = 1∧nameCs (tl t.2) = true∧1≤(tl t.2).length∧(tl t.2).length≤16) ∨
 (t.1 = 2∧1≤(tl t.2).length∧(tl t.2).length≤9∧(∀ b ∈ tl t.2,48≤b.toNat∧b.toNat≤57)∧((tl t.2).length = 1∨(tl t.2).head?≠some 48)) ∨
 (t.1 = 3∧1≤(tl t.2).length∧(tl t.2).length≤3∧isKey t.2 = false)
def TksOk (l:List Token):Prop:=∀ t ∈ l,TkOk (t.kind,t.text)
theorem decL_some:∀ (l:List UInt8) (n:Nat),(∀ b ∈ l,48≤b.toNat∧b.toNat≤57)→∃ v,decL l n = some v
 | [],n,_=>⟨n,rfl⟩
 | b :: r,n,h=>by
  unfold decL
  rw [if_pos (h b (List.mem_cons_self ..))]
  exact decL_some r _ fun c hc=>h c (List.mem_cons_of_mem _ hc)
theorem atoi_ok {t:Int × ByteArray} (h:TkOk t) (h2:t.1 = 2):atoiF t.2 = some (numV t.2):=by
 rcases h with h | h | h
 ·omega
 ·obtain ⟨_,h3,h4,h5,_⟩:=h
  obtain ⟨v,hv⟩:=decL_some (tl t.2) 0 h5
  unfold numV atoiF
  rw [size_tl,tl_def,hv]
  rw [if_neg (by omega)]
  rfl
 ·omega
def addD (d:List Diag) (r:Int × Int):List Diag :=
 bif decide (20≤(d.length:Int)) then d
 else bif (match d.getLast? with | some x=>x.pos == r.2 | none=>false) then d else d ++ [⟨r.1,r.2⟩]
def addDs (d:List Diag) (l:List (Int × Int)):List Diag:=l.foldl addD d
def mkS (T:List Token) (fin:Int) (s:PS):RS:=⟨T,(T.length:Int) - (s.rest.length:Int),fin,s.inner,addDs [] s.reps⟩
def toO {α:Type} (T:List Token) (fin:Int):Out α→Option ((α ⊕ Bad) × RS)
 | .ok a s=>some (.inl a,mkS T fin s)
 | .bad b s=>some (.inr (codeOf b s.rest,posOf fin s.rest),mkS T fin s)
 | .out=>none
def Sim {α:Type} (f:RS→Option ((α ⊕ Bad) × RS)) (m:M α):Prop :=
 ∀ (T:List Token) (fin:Int) (s:PS),T.length≤1500→TksOk T→s.rest <:+ T→f (mkS T fin s) = toO T fin (m.run fin s)
theorem TksOk.suf {T r:List Token} (h:TksOk T) (hs:r <:+ T):TksOk r:=fun t ht=>h t (hs.subset ht)
section
variable {T:List Token} {fin:Int} {s:PS}
theorem mk_lt (hs:s.rest <:+ T):decide ((mkS T fin s).next < ((mkS T fin s).toks.length:Int)) = !s.rest.isEmpty:=by
 have:=hs.length_le
 cases h:s.rest with
 | nil=>simp [mkS,h]
 | cons t r=>simp [mkS,h]; omega
theorem mk_idx {t:Token} {r:List Token} (hs:t :: r <:+ T):idxL T ((T.length:Int) - ((t :: r).length:Int)) = some t:=by
 obtain ⟨p,rfl⟩:=hs
 have e:(((p ++ t :: r).length:Nat):Int) - (((t :: r).length:Nat):Int) = (p.length:Int):=by
  rw [List.length_append]; omega
 rw [e]
 exact idxL_some (by simp)
theorem mk_idx' {t:Token} {r:List Token} (hs:s.rest <:+ T) (h:s.rest = t :: r):idxL (mkS T fin s).toks (mkS T fin s).next = some t:=by
 rw [h] at hs
 have:=mk_idx hs
 unfold mkS
 rw [h]
 exact this
theorem mk_next {t:Token} {r:List Token} {i:Int} {p:List (Int × Int)} (hT:T.length≤1500) (hs:t :: r <:+ T):(mkS T fin ⟨t :: r,i,p⟩).setNext (w64 ((mkS T fin ⟨t :: r,i,p⟩).next + 1)) = mkS T fin ⟨r,i,p⟩:=by
 have:=hs.length_le
 simp only [List.length_cons] at this
 simp only [mkS,RS.setNext,List.length_cons]
 rw [w64_id (by omega) (by omega)]
 congr 1
 omega
theorem F91_mk (hs:s.rest <:+ T):F91 (mkS T fin s) = some (posOf fin s.rest):=by
 unfold F91
 rw [mk_lt hs]
 cases h:s.rest with
 | nil=>rfl
 | cons t r =>
  simp only [List.isEmpty_cons,Bool.not_false,cond_true]
  rw [mk_idx' hs h]
  rfl
theorem F101_mk (hs:s.rest <:+ T):F101 (mkS T fin s) = some (textO (hdOf s.rest)):=by
 unfold F101
 rw [mk_lt hs]
 cases h:s.rest with
 | nil=>rfl
 | cons t r =>
  simp only [List.isEmpty_cons,Bool.not_false,cond_true]
  rw [mk_idx' hs h]
  rfl
theorem F168_mk (hs:s.rest <:+ T):F168 (mkS T fin s) = some (kindO (hdOf s.rest)):=by
 unfold F168
 rw [mk_lt hs]
 cases h:s.rest with
 | nil=>rfl
 | cons t r =>
  simp only [List.isEmpty_cons,Bool.not_false,cond_true]
  rw [mk_idx' hs h]
  rfl
def isNmO (t:Option (Int × ByteArray)):Bool:=match t with
 | some t=>isNm t
 | none=>false
theorem F143_mk (hs:s.rest <:+ T):F143 (mkS T fin s) = some (isNmO (hdOf s.rest)):=by
 unfold F143
 rw [F168_mk hs]
 simp only [Option.bind_some]
 cases h:s.rest with
 | nil=>rfl
 | cons t r =>
  have e:=F101_mk (fin:=fin) hs
  rw [h] at e
  simp only [hdOf,kindO,isNmO,isNm]
  cases hk:t.kind == 1
  ·rfl
  ·simp only [cond_true]
   rw [e]
   rfl
theorem F68_mk (hs:s.rest <:+ T):F68 (mkS T fin s) = toO T fin (.bad false s):=by
 unfold F68
 rw [mk_lt hs,F91_mk hs]
 cases h:s.rest with
 | nil=>simp [toO,h,codeOf,posOf,mkS]
 | cons t r=>simp [toO,h,codeOf,posOf]
end
section
variable {α β σ ρ:Type}
def AllM (P:α→Prop):M α→Prop
 | .ret a=>P a
 | .fail _=>True
 | .out=>True
 | .look k=>∀ t,(∀ x,t = some x→TkOk x)→AllM P (k t)
 | .adv k=>AllM P k
 | .pos k=>∀ x,AllM P (k x)
 | .setI _ k=>AllM P k
 | .getI k=>∀ x,AllM P (k x)
 | .rep _ k=>AllM P k
theorem AllM.run {P:α→Prop} (fin:Int):∀ (m:M α) (s:PS) (a:α) (s':PS),AllM P m→TksOk s.rest→m.run fin s = .ok a s'→P a
 | .ret a,s,_,_,h,_,e=>by
  simp only [M.run,Out.ok.injEq] at e
  rw [← e.1]
  exact h
 | .fail b,s,_,_,_,_,e=>by simp [M.run] at e
 | .out,s,_,_,_,_,e=>by simp [M.run] at e
 | .look k,s,a,s',h,ht,e=>AllM.run fin (k (hdOf s.rest)) s a s' (h _ fun x hx=>by
   cases hr:s.rest with
   | nil=>rw [hr] at hx; cases hx
   | cons t r =>
    rw [hr] at hx
    simp only [hdOf,Option.some.injEq] at hx
    subst hx
    exact ht t (by rw [hr]; exact List.mem_cons_self ..)) ht e
 | .adv k,s,a,s',h,ht,e=>by
  obtain ⟨r,i,p⟩:=s
  cases r with
  | nil=>simp [M.run] at e
  | cons t r=>exact AllM.run fin k ⟨r,i,p⟩ a s' h (fun x hx=>ht x (List.mem_cons_of_mem _ hx)) e
 | .pos k,s,a,s',h,ht,e=>AllM.run fin (k (posOf fin s.rest)) s a s' (h _) ht e
 | .setI i k,s,a,s',h,ht,e=>AllM.run fin k ⟨s.rest,i,s.reps⟩ a s' h ht e
 | .getI k,s,a,s',h,ht,e=>AllM.run fin (k s.inner) s a s' (h _) ht e
 | .rep b k,s,a,s',h,ht,e=>AllM.run fin k ⟨s.rest,s.inner,s.reps ++ [(codeOf b s.rest,posOf fin s.rest)]⟩ a s' h ht e
theorem AllM.mono {P Q:α→Prop} (hq:∀ a,P a→Q a):∀ (m:M α),AllM P m→AllM Q m
 | .ret a,h=>hq a h
 | .fail _,_=>trivial
 | .out,_=>trivial
 | .look k,h=>fun t ht=>AllM.mono hq (k t) (h t ht)
 | .adv k,h=>AllM.mono hq k h
 | .pos k,h=>fun x=>AllM.mono hq (k x) (h x)
 | .setI _ k,h=>AllM.mono hq k h
 | .getI k,h=>fun x=>AllM.mono hq (k x) (h x)
 | .rep _ k,h=>AllM.mono hq k h
theorem AllM.top:∀ (m:M α),AllM (fun _=>True) m
 | .ret _=>trivial
 | .fail _=>trivial
 | .out=>trivial
 | .look k=>fun t _=>AllM.top (k t)
 | .adv k=>AllM.top k
 | .pos k=>fun x=>AllM.top (k x)
 | .setI _ k=>AllM.top k
 | .getI k=>fun x=>AllM.top (k x)
 | .rep _ k=>AllM.top k
theorem AllM.bind {P:α→Prop} {Q:β→Prop} {f:α→M β} (hf:∀ a,P a→AllM Q (f a)):∀ (m:M α),AllM P m→AllM Q (m.bind f)
 | .ret a,h=>hf a h
 | .fail _,_=>trivial
 | .out,_=>trivial
 | .look k,h=>fun t ht=>AllM.bind hf (k t) (h t ht)
 | .adv k,h=>AllM.bind hf k h
 | .pos k,h=>fun x=>AllM.bind hf (k x) (h x)
 | .setI _ k,h=>AllM.bind hf k h
 | .getI k,h=>fun x=>AllM.bind hf (k x) (h x)
 | .rep _ k,h=>AllM.bind hf k h
theorem AllM.try {P:α→Prop} {Q:β→Prop} {f:α→M β} {g:Bool→M β} (hf:∀ a,P a→AllM Q (f a)) (hg:∀ b,AllM Q (g b)):∀ (m:M α),AllM P m→AllM Q (m.tryM f g)
 | .ret a,h=>hf a h
 | .fail b,_=>hg b
 | .out,_=>trivial
 | .look k,h=>fun t ht=>AllM.try hf hg (k t) (h t ht)
 | .adv k,h=>AllM.try hf hg k h
 | .pos k,h=>fun x=>AllM.try hf hg (k x) (h x)
 | .setI _ k,h=>AllM.try hf hg k h
 | .getI k,h=>fun x=>AllM.try hf hg (k x) (h x)
 | .rep _ k,h=>AllM.try hf hg k h
theorem AllM.bind' {Q:β→Prop} {f:α→M β} {m:M α} (hf:∀ a,AllM Q (f a)):AllM Q (m.bind f):=AllM.bind (P:=fun _=>True) (fun a _=>hf a) m (AllM.top m)
theorem AllM.cond {P:α→Prop} {c:Bool} {a b:M α} (h1:AllM P a) (h2:AllM P b):AllM P (bif c then a else b):=by cases c <;> assumption
theorem AllM.kw {P:α→Prop} {a:ByteArray} {m m':M α} (h1:AllM P m) (h2:AllM P m'):AllM P (M.kw a m m'):=AllM.bind' fun _=>AllM.cond h1 h2
theorem AllM.iter {step:σ→M (σ ⊕ ρ)} {Q:ρ→Prop} (Inv:Nat→σ→Prop) {N:Nat} (h:∀ k x,k < N→Inv k x→AllM (Sum.elim (Inv (k + 1)) Q) (step x)):∀ (n k:Nat) (x:σ),k + n≤N→Inv k x→AllM Q (M.iterM step n x)
 | 0,_,_,_,_=>trivial
 | n + 1,k,x,hn,hi=>by
  refine AllM.bind ?_ _ (h k x (by omega) hi)
  intro r hr
  cases r with
  | inl x'=>exact AllM.iter Inv h n (k + 1) x' (by omega) hr
  | inr r=>exact hr
theorem sim_ret (a:α):Sim (fun s=>some (.inl a,s)) (.ret a):=fun _ _ _ _ _ _=>rfl
theorem sim_bind {f:RS→Option ((α ⊕ Bad) × RS)} {m:M α} {g:α→RS→Option ((β ⊕ Bad) × RS)} {k:α→M β} (P:α→Prop) (hP:AllM P m) (hf:Sim f m) (hg:∀ a,P a→Sim (g a) (k a)):Sim (fun s=>pbind (f s) g) (m.bind k):=by
 intro T fin s hT hok hs
 simp only [M.run_bind,hf T fin s hT hok hs]
 have hsuf:=M.run_suf fin m s
 cases hr:m.run fin s with
 | ok a s' =>
  rw [hr] at hsuf
  exact hg a (AllM.run fin m s a s' hP (hok.suf hs) hr) T fin s' hT hok (List.IsSuffix.trans hsuf hs)
 | bad b s'=>rfl
 | out=>rfl
theorem sim_bind' {f:RS→Option ((α ⊕ Bad) × RS)} {m:M α} {g:α→RS→Option ((β ⊕ Bad) × RS)} {k:α→M β} (hf:Sim f m) (hg:∀ a,Sim (g a) (k a)):Sim (fun s=>pbind (f s) g) (m.bind k) :=
 sim_bind (fun _=>True) (AllM.top m) hf fun a _=>hg a
theorem bind_ret:∀ m:M α,m.bind .ret = m
 | .ret a=>rfl
 | .fail b=>rfl
 | .out=>rfl
 | .look k=>by simp only [M.bind]; congr 1; funext t; exact bind_ret (k t)
 | .adv k=>by simp only [M.bind]; congr 1; exact bind_ret k
 | .pos k=>by simp only [M.bind]; congr 1; funext t; exact bind_ret (k t)
 | .setI i k=>by simp only [M.bind]; congr 1; exact bind_ret k
 | .getI k=>by simp only [M.bind]; congr 1; funext t; exact bind_ret (k t)
 | .rep b k=>by simp only [M.bind]; congr 1; exact bind_ret k
theorem sim_eta {f:RS→Option ((α ⊕ Bad) × RS)} {m:M α} (hf:Sim f m):Sim (fun s=>pbind (f s) fun r s'=>some (.inl r,s')) m:=by
 have:=sim_bind' (g:=fun r s'=>some (.inl r,s')) (k:=M.ret) hf fun a=>sim_ret a
 rwa [bind_ret] at this
theorem sim_cond {c:Bool} {f g:RS→Option ((α ⊕ Bad) × RS)} {a b:M α} (h1:Sim f a) (h2:Sim g b):Sim (fun s=>bif c then f s else g s) (bif c then a else b):=by cases c <;> assumption
theorem sim_pos {g:Int→RS→Option ((α ⊕ Bad) × RS)} {k:Int→M α} (h:∀ x,Sim (g x) (k x)):Sim (fun s=>(F91 s).bind fun x=>g x s) (.pos k):=fun T fin s hT hok hs=>by
 simp only [F91_mk hs,Option.bind_some]
 exact h _ T fin s hT hok hs
theorem sim_kind {g:Int→RS→Option ((α ⊕ Bad) × RS)} {k:Option (Int × ByteArray)→M α} (h:∀ t,Sim (g (kindO t)) (k t)):Sim (fun s=>(F168 s).bind fun x=>g x s) (.look k):=fun T fin s hT hok hs=>by
 simp only [F168_mk hs,Option.bind_some]
 exact h _ T fin s hT hok hs
theorem sim_opt {γ:Type} {o:Option γ} {v:γ} {g:γ→RS→Option ((α ⊕ Bad) × RS)} {m:M α} (h:o = some v) (hg:Sim (g v) m):Sim (fun s=>o.bind fun x=>g x s) m:=by
 subst h
 exact hg
theorem appL_some {B:Nat} {l m:List α} (h:(l.length + m.length) * B≤140737488355328):appL B l m = some (l ++ m):=if_pos h
theorem sim_iter {step:σ→RS→Option (((σ ⊕ ρ) ⊕ Bad) × RS)} {mstep:σ→M (σ ⊕ ρ)} (Inv:Nat→σ→Prop) {N:Nat} (h:∀ k x,k < N→Inv k x→Sim (step x) (mstep x)∧AllM (Sum.elim (Inv (k + 1)) fun _=>True) (mstep x)) :
  ∀ (n k:Nat) (x:σ),k + n≤N→Inv k x→Sim (iterP step n x) (M.iterM mstep n x)
 | 0,_,_,_,_=>fun _ _ _ _ _ _=>rfl
 | n + 1,k,x,hn,hi=>by
  intro T fin s hT hok hs
  obtain ⟨h1,h2⟩:=h k x (by omega) hi
  simp only [iterP,M.iterM,M.run_bind,h1 T fin s hT hok hs]
  have hsuf:=M.run_suf fin (mstep x) s
  cases hr:(mstep x).run fin s with
  | ok a s' =>
   rw [hr] at hsuf
   have hp:=AllM.run fin _ s a s' h2 (hok.suf hs) hr
   cases a with
   | inl x'=>exact sim_iter Inv h n (k + 1) x' (by omega) hp T fin s' hT hok (List.IsSuffix.trans hsuf hs)
   | inr r=>rfl
  | bad b s'=>rfl
  | out=>rfl
theorem sim_iter' {step:σ→RS→Option (((σ ⊕ ρ) ⊕ Bad) × RS)} {mstep:σ→M (σ ⊕ ρ)} (h:∀ x,Sim (step x) (mstep x)) (n:Nat) (x:σ):Sim (iterP step n x) (M.iterM mstep n x) :=
 sim_iter (fun _ _=>True) (N:=n) (fun k x _ _=>⟨h x,(AllM.top _).mono fun r _=>by cases r <;> trivial⟩) n 0 x (by omega) trivial
end
theorem sim_fail {α:Type} (g:Unit→RS→Option ((α ⊕ Bad) × RS)):Sim (fun s=>pbind (F68 s) g) (.fail false):=fun T fin s hT hok hs=>by
 simp only [F68_mk hs]
 rfl
theorem sim_accept (a:ByteArray):Sim (F88 a) (M.accept a):=by
 intro T fin s hT hok hs
 obtain ⟨r,i,p⟩:=s
 unfold F88
 rw [mk_lt hs,F101_mk hs]
 cases r with
 | nil=>rfl
 | cons t r =>
  simp only [List.isEmpty_cons,Bool.not_false,cond_true,Option.bind_some,pbind,M.accept,M.run,hdOf,textO]
  cases strEq t.text a
  ·rfl
  ·simp only [cond_true]
   rw [mk_next hT hs]
   rfl
theorem sim_expect (a:ByteArray):Sim (F93 a) (M.expect a):=by
 unfold F93 M.expect
 refine sim_bind' (sim_accept a) fun b=>?_
 cases b
 ·exact sim_fail _
 ·exact sim_ret _
theorem sim_kw {α:Type} {a:ByteArray} {f g:RS→Option ((α ⊕ Bad) × RS)} {m m':M α} (h1:Sim f m) (h2:Sim g m'):Sim (fun s=>pbind (F88 a s) fun b s'=>bif b then f s' else g s') (M.kw a m m') :=
 sim_bind' (sim_accept a) fun _=>sim_cond h1 h2
theorem name_all:AllM (fun x=>(tl x).length≤16∧nameCs (tl x) = true∧1≤(tl x).length∧isKey x = false) M.name:=by
 intro t ht
 cases t with
 | none=>trivial
 | some t =>
  show AllM _ (bif isNm t then .adv (.ret t.2) else .fail false)
  cases hn:isNm t
  ·trivial
  ·have h:=ht t rfl
   simp only [isNm,Bool.and_eq_true,beq_iff_eq,Bool.not_eq_true'] at hn
   rcases h with h | h | h
   ·exact ⟨h.2.2.2,h.2.1,h.2.2.1,hn.2⟩
   ·omega
   ·omega
theorem sim_name:Sim F92 M.name:=by
 intro T fin s hT hok hs
 obtain ⟨r,i,p⟩:=s
 unfold F92
 rw [F143_mk hs]
 cases r with
 | nil =>
  simp only [hdOf,isNmO,Option.bind_some,Bool.not_false,cond_true,M.name,M.run]
  rw [F68_mk hs]
  rfl
 | cons t r =>
  simp only [hdOf,isNmO,Option.bind_some,M.name,M.run]
  cases hn:isNm (t.kind,t.text)
  ·simp only [Bool.not_false,cond_true,cond_false,M.run]
   rw [F68_mk hs]
   rfl
  ·simp only [Bool.not_true,cond_false,cond_true,pbind,M.run]
   rw [mk_next hT hs]
   have hl:=List.IsSuffix.length_le hs
   simp only [List.length_cons] at hl
   have e:w64 ((mkS T fin ⟨r,i,p⟩).next - 1) = (T.length:Int) - ((t :: r).length:Int):=by
    simp only [mkS,List.length_cons]
    rw [w64_id (by omega) (by omega)]
    omega
   rw [e]
   have e2:(mkS T fin ⟨r,i,p⟩).toks = T:=rfl
   rw [e2,mk_idx hs]
   rfl
theorem sim_num:Sim F103 M.num:=by
 intro T fin s hT hok hs
 obtain ⟨r,i,p⟩:=s
 unfold F103
 rw [F168_mk hs]
 cases r with
 | nil =>
  simp only [hdOf,kindO,Option.bind_some,M.num,M.run]
  rw [F68_mk hs]
  rfl
 | cons t r =>
  simp only [hdOf,kindO,Option.bind_some,M.num,M.run]
  cases hn:t.kind == 2
  ·have:(t.kind != 2) = true:=by simp [bne,hn]
   simp only [this,cond_true,cond_false,M.run]
   rw [F68_mk hs]
   rfl
  ·have:(t.kind != 2) = false:=by simp [bne,hn]
   simp only [this,cond_true,cond_false,M.run,pbind]
   rw [F101_mk hs]
   have ha:=atoi_ok (hok t (hs.subset (List.mem_cons_self ..))) (by simpa using hn)
   simp only [hdOf,textO,Option.bind_some] at ha ⊢
   rw [ha]
   simp only [Option.bind_some]
   rw [mk_next hT hs]
   rfl
theorem sim_numNode:Sim F153 M.numNode:=by
 unfold F153 M.numNode
 exact sim_pos fun x=>sim_bind' sim_num fun v=>sim_ret _
theorem sim_adv {α:Type} {f:RS→Option ((α ⊕ Bad) × RS)} {m:M α} (h:Sim f m) {T:List Token} {fin:Int} {t:Token} {r:List Token} {i:Int} {p:List (Int × Int)} (hT:T.length≤1500) (hok:TksOk T) (hs:t :: r <:+ T) :
  f ((mkS T fin ⟨t :: r,i,p⟩).setNext (w64 ((mkS T fin ⟨t :: r,i,p⟩).next + 1))) = toO T fin (m.run fin ⟨r,i,p⟩):=by
 rw [mk_next hT hs]
 exact h T fin ⟨r,i,p⟩ hT hok ((List.suffix_cons t r).trans hs)
end Go.Proofs.YtbecjgckobhmpaaGreatDoor
end
section
namespace Go.Proofs.YtbecjgckobhmpaaGreatDoor
open Go Go.AM Go.Proofs
namespace M
variable {α β σ ρ:Type}
def Tot (L:Nat) (m:M α):Prop:=∀ fin s,s.rest.length < L→m.run fin s≠.out
theorem Tot.mono {L L':Nat} {m:M α} (h:Tot L m) (hl:L'≤L):Tot L' m:=fun fin s hs=>h fin s (by omega)
theorem Tot.zero {m:M α}:Tot 0 m:=fun _ _ hs=>absurd hs (Nat.not_lt_zero _)
theorem tot_ret {L:Nat} (a:α):Tot L (.ret a):=fun _ _ _ h=>by cases h
theorem tot_fail {L:Nat} (b:Bool):Tot L (.fail b:M α):=fun _ _ _ h=>by cases h
theorem tot_pos {L:Nat} {k:Int→M α} (h:∀ x,Tot L (k x)):Tot L (.pos k):=fun fin s hs=>h _ fin s hs
theorem tot_look {L:Nat} {k:Option (Int × ByteArray)→M α} (h:∀ x,Tot L (k x)):Tot L (.look k):=fun fin s hs=>h _ fin s hs
theorem tot_cond {L:Nat} {c:Bool} {a b:M α} (h1:Tot L a) (h2:Tot L b):Tot L (bif c then a else b):=by cases c <;> assumption
theorem tot_bind {L:Nat} {m:M α} {k:α→M β} (h1:Tot L m) (h2:∀ a,Tot L (k a)):Tot L (m.bind k):=by
 intro fin s hs
 rw [run_bind]
 have hsuf:=run_suf fin m s
 have h:=h1 fin s hs
 cases hr:m.run fin s with
 | ok a s' =>
  rw [hr] at hsuf
  have:=List.IsSuffix.length_le hsuf
  exact h2 a fin s' (by omega)
 | bad b s'=>intro h; cases h
 | out=>exact absurd hr h
theorem run_accept (fin:Int) (a:ByteArray) (s:PS):(accept a).run fin s = match s.rest with
  | []=>.ok false s
  | t :: r=>bif strEq t.text a then .ok true ⟨r,s.inner,s.reps⟩ else .ok false s:=by
 obtain ⟨r,i,p⟩:=s
 cases r with
 | nil=>rfl
 | cons t r =>
  simp only [accept,run,hdOf]
  cases strEq t.text a <;> rfl
theorem run_expect (fin:Int) (a:ByteArray) (s:PS):(expect a).run fin s = match s.rest with
  | []=>.bad false s
  | t :: r=>bif strEq t.text a then .ok () ⟨r,s.inner,s.reps⟩ else .bad false s:=by
 rw [expect,run_bind,run_accept]
 obtain ⟨r,i,p⟩:=s
 cases r with
 | nil=>rfl
 | cons t r=>cases h:strEq t.text a <;> simp [h,andThen,run]
theorem run_kw (fin:Int) (a:ByteArray) (m m':M α) (s:PS):(kw a m m').run fin s = match s.rest with
  | []=>m'.run fin s
  | t :: r=>bif strEq t.text a then m.run fin ⟨r,s.inner,s.reps⟩ else m'.run fin s:=by
 rw [kw,run_bind,run_accept]
 obtain ⟨r,i,p⟩:=s
 cases r with
 | nil=>rfl
 | cons t r=>cases h:strEq t.text a <;> simp [h,andThen]
theorem tot_accept {L:Nat} (a:ByteArray):Tot L (accept a):=by
 intro fin s _
 rw [run_accept]
 cases s.rest with
 | nil=>intro h; cases h
 | cons t r=>cases h:strEq t.text a <;> simp [h]
theorem tot_expect {L:Nat} (a:ByteArray):Tot L (expect a):=tot_bind (tot_accept a) fun _=>tot_cond (tot_ret _) (tot_fail _)
theorem tot_kw {L:Nat} {a:ByteArray} {m m':M α} (h1:Tot (L - 1) m) (h2:Tot L m'):Tot L (kw a m m'):=by
 intro fin s hs
 rw [run_kw]
 obtain ⟨r,i,p⟩:=s
 cases r with
 | nil=>exact h2 fin _ hs
 | cons t r =>
  simp only [List.length_cons] at hs
  show (bif strEq t.text a then m.run fin ⟨r,i,p⟩ else m'.run fin ⟨t :: r,i,p⟩)≠.out
  cases h:strEq t.text a
  ·exact h2 fin ⟨t :: r,i,p⟩ (by simpa using hs)
  ·exact h1 fin ⟨r,i,p⟩ (by simp only; omega)
theorem tot_name {L:Nat}:Tot L name:=by
 rintro fin ⟨r,i,p⟩ _
 cases r with
 | nil=>intro h; cases h
 | cons t r =>
  simp only [name,run,hdOf]
  cases isNm (t.kind,t.text) <;> intro h <;> cases h
theorem tot_num {L:Nat}:Tot L num:=by
 rintro fin ⟨r,i,p⟩ _
 cases r with
 | nil=>intro h; cases h
 | cons t r =>
  simp only [num,run,hdOf]
  cases t.kind == 2 <;> intro h <;> cases h
theorem tot_numNode {L:Nat}:Tot L numNode:=tot_pos fun _=>tot_bind tot_num fun _=>tot_ret _
theorem tot_iter0 {L n:Nat} {step:σ→M (σ ⊕ ρ)} (h:∀ x,Tot L (step x)) (hless:∀ x fin s x' s',(step x).run fin s = .ok (.inl x') s'→s'.rest.length < s.rest.length) (hn:L≤n) (x:σ):Tot L (iterM step n x):=by
 intro fin s hs
 have key:∀ (n:Nat) (x:σ) (s:PS),s.rest.length < L→s.rest.length < n→(iterM step n x).run fin s≠.out:=by
  intro n
  induction n with
  | zero=>intro x s _ h; omega
  | succ n ih =>
   intro x s hL hn
   simp only [iterM,run_bind]
   have h1:=h x fin s hL
   cases hr:(step x).run fin s with
   | ok r s' =>
    cases r with
    | inl x' =>
     have:=hless x fin s x' s' hr
     exact ih x' s' (by omega) (by omega)
    | inr r=>intro e; cases e
   | bad b s'=>intro e; cases e
   | out=>exact absurd hr h1
 exact key n x s hs (by omega)
theorem tot_path {L n:Nat} (hn:3≤n):Tot L (path n):=by
 refine tot_bind tot_name fun x=>?_
 obtain ⟨n,rfl⟩:∃ m,n = m + 3:=⟨n - 3,by omega⟩
 have hs:∀ x,Tot L (pathS x):=fun x=>tot_cond (tot_bind (tot_accept _) fun b=>tot_cond (tot_ret _) (tot_bind tot_name fun _=>tot_ret _)) (tot_ret _)
 have h1:∀ (x:ByteArray × Int) (r:(ByteArray × Int) ⊕ ByteArray) (fin:Int) (s s':PS),(pathS x).run fin s = .ok r s'→match r with
   | .inl x'=>x'.2 = x.2 + 1∧x.2 < 2
   | .inr _=>True:=by
  intro x r fin s s' e
  unfold pathS at e
  cases hc:decide (x.2 < 2) <;> rw [hc] at e
  ·simp only [cond_false,run,Out.ok.injEq] at e
   rw [← e.1]; trivial
  ·simp only [cond_true,run_bind] at e
   cases hr:(accept (bs [46])).run fin s with
   | ok b s1 =>
    rw [hr] at e
    simp only [andThen] at e
    cases b
    ·simp only [Bool.not_false,cond_true,run,Out.ok.injEq] at e
     rw [← e.1]; trivial
    ·simp only [Bool.not_true,cond_false,run_bind] at e
     cases hr2:name.run fin s1 with
     | ok y s2 =>
      rw [hr2] at e
      simp only [andThen,run,Out.ok.injEq] at e
      rw [← e.1]
      exact ⟨rfl,by simpa using hc⟩
     | bad b s2=>rw [hr2] at e; cases e
     | out=>rw [hr2] at e; cases e
   | bad b s1=>rw [hr] at e; cases e
   | out=>rw [hr] at e; cases e
 intro fin s hL
 have key:∀ (k:Nat) (x:ByteArray × Int) (s:PS),s.rest.length < L→(2 - x.2:Int) < k→(iterM pathS k x).run fin s≠.out∨k = 0:=by
  intro k
  induction k with
  | zero=>intro x s _ _; exact .inr rfl
  | succ k ih =>
   intro x s hL hk
   refine .inl ?_
   simp only [iterM,run_bind]
   have h2:=hs x fin s hL
   have hsuf:=run_suf fin (pathS x) s
   cases hr:(pathS x).run fin s with
   | ok r s' =>
    rw [hr] at hsuf
    have hle:=List.IsSuffix.length_le hsuf
    have h3:=h1 x r fin s s' hr
    cases r with
    | inl x' =>
     simp only at h3
     rcases ih x' s' (by omega) (by omega) with h | h
     ·exact h
     ·omega
    | inr r=>intro e; cases e
   | bad b s'=>intro e; cases e
   | out=>exact absurd hr h2
 rcases key (n + 3) (x,0) s hL (by simp only; omega) with h | h
 ·exact h
 ·omega
theorem tot_binL {L n:Nat} {mB:Int→M Node} (a:Int) (h:∀ l,Tot (L - 1) (mB l)) (hn:L≤n) (x:Int × Node):Tot L (iterM (binStep mB a) n x):=by
 have hr:∀ l,Tot (L - 1) (rightS mB l):=fun l=>tot_cond (tot_bind (h _) fun _=>tot_ret _) (tot_cond (tot_bind (h _) fun _=>tot_ret _) (tot_bind (h _) fun _=>tot_ret _))
 refine tot_iter0 (fun y fin s hs=>?_) (fun y fin s x' s' e=>?_) hn x
 ·obtain ⟨r,i,p⟩:=s
  simp only [binStep,run]
  cases r with
  | nil=>exact fun h=>by cases h
  | cons t r =>
   cases hc:((levelI (textO (hdOf (t :: r))) == 0) || decide (levelI (textO (hdOf (t :: r))) < a)) || decide (y.1 < levelI (textO (hdOf (t :: r))))
   ·simp only [cond_false,run]
    simp only [List.length_cons] at hs
    exact tot_bind (hr _) (fun _=>tot_ret _) fin ⟨r,i,p⟩ (by simp only; omega)
   ·exact fun h=>by cases h
 ·obtain ⟨r,i,p⟩:=s
  simp only [binStep,run] at e
  cases hc:((levelI (textO (hdOf r)) == 0) || decide (levelI (textO (hdOf r)) < a)) || decide (y.1 < levelI (textO (hdOf r))) <;> rw [hc] at e
  ·cases r with
   | nil=>cases e
   | cons t r =>
    simp only [cond_false,run] at e
    have h2:=run_suf fin ((rightS mB (levelI (textO (hdOf (t :: r))))).bind fun j=>.ret (.inl (j.1,Node.mk 5 (textO (hdOf (t :: r))) (bs []) 0 0 0 false [y.2,j.2] (posOf fin (t :: r))):(Int × Node) ⊕ Node)) ⟨r,i,p⟩
    rw [e] at h2
    have:=List.IsSuffix.length_le h2
    simp only [List.length_cons] at this ⊢
    omega
  ·cases e
theorem tot_exprs:∀ L,(∀ n,5 * L + 4≤n→Tot L (ref n))∧(∀ n,5 * L + 5≤n→Tot L (unary n))∧(∀ n a,5 * L + 6≤n→Tot L (bin n a))∧(∀ n,5 * L + 7≤n→Tot L (cond n))∧(∀ n,5 * L + 8≤n→Tot L (expr n))
 | 0=>⟨fun _ _=>Tot.zero,fun _ _=>Tot.zero,fun _ _ _=>Tot.zero,fun _ _=>Tot.zero,fun _ _=>Tot.zero⟩
 | L + 1=>by
  obtain ⟨h1,h2,h3,h4,h5⟩:=tot_exprs L
  have i1:∀ n,5 * (L + 1) + 4≤n→Tot (L + 1) (ref n):=by
   intro n hn
   obtain ⟨m,rfl⟩:∃ m,n = m + 1:=⟨n - 1,by omega⟩
   rw [ref]
   exact tot_pos fun p=>tot_bind (tot_path (by omega)) fun x=>tot_kw (tot_bind (h5 m (by omega)) fun e=>tot_bind (tot_expect _) fun _=>tot_ret _) (tot_ret _)
  have i2:∀ n,5 * (L + 1) + 5≤n→Tot (L + 1) (unary n):=by
   intro n hn
   obtain ⟨m,rfl⟩:∃ m,n = m + 1:=⟨n - 1,by omega⟩
   rw [unary]
   refine tot_pos fun p=>tot_kw (tot_bind (h2 m (by omega)) fun e=>tot_ret _) (tot_look fun t=>tot_cond tot_numNode ?_)
   refine tot_kw (tot_bind (tot_expect _) fun _=>tot_bind (h1 m (by omega)) fun e=>tot_bind (tot_expect _) fun _=>tot_ret _) ?_
   exact tot_kw (tot_bind (h5 m (by omega)) fun e=>tot_bind (tot_expect _) fun _=>tot_ret _) (i1 m (by omega))
  have i3:∀ n a,5 * (L + 1) + 6≤n→Tot (L + 1) (bin n a):=by
   intro n a hn
   obtain ⟨m,rfl⟩:∃ m,n = m + 1:=⟨n - 1,by omega⟩
   rw [bin]
   exact tot_bind (i2 m (by omega)) fun x=>tot_binL (L:=L + 1) a (fun l=>h3 m l (by omega)) (by omega) _
  have i4:∀ n,5 * (L + 1) + 7≤n→Tot (L + 1) (cond n):=by
   intro n hn
   obtain ⟨m,rfl⟩:∃ m,n = m + 1:=⟨n - 1,by omega⟩
   rw [cond]
   refine tot_bind (i3 m 2 (by omega)) fun x=>tot_pos fun p=>?_
   have e:((accept (bs [63])).bind fun b=>bif !b then .ret x else (cond m).bind fun y=>(expect (bs [58])).bind fun _=>(cond m).bind fun z=>.ret (Node.mk 6 (bs []) (bs []) 0 0 0 false [x,y,z] p))
     = kw (bs [63]) ((cond m).bind fun y=>(expect (bs [58])).bind fun _=>(cond m).bind fun z=>.ret (Node.mk 6 (bs []) (bs []) 0 0 0 false [x,y,z] p)) (.ret x):=by
    unfold kw
    congr 1
    funext b
    cases b <;> rfl
   rw [e]
   exact tot_kw (tot_bind (h4 m (by omega)) fun y=>tot_bind (tot_expect _) fun _=>tot_bind (h4 m (by omega)) fun z=>tot_ret _) (tot_ret _)
  refine ⟨i1,i2,i3,i4,?_⟩
  intro n hn
  obtain ⟨m,rfl⟩:∃ m,n = m + 1:=⟨n - 1,by omega⟩
  rw [expr]
  intro fin s hs
  have hq:∀ k,s.rest≠[]→(quant (expr m) k).run fin s≠.out:=by
   intro k hne
   obtain ⟨r,i,p⟩:=s
   cases r with
   | nil=>exact absurd rfl hne
   | cons t r =>
    simp only [List.length_cons] at hs
    simp only [quant,run]
    exact tot_bind (L:=L) tot_name (fun x=>tot_bind (tot_expect _) fun _=>tot_bind tot_num fun v=>tot_bind (tot_expect _) fun _=>tot_bind (h5 m (by omega)) fun e=>tot_ret _) fin ⟨r,i,p⟩ (by simp only; omega)
  have hne:∀ a,a≠[]→strEq (textO (hdOf s.rest)) (bs a) = true→s.rest≠[]:=by
   intro a ha h e
   rw [e] at h
   simp only [hdOf,textO,strEq,bs] at h
   cases a with
   | nil=>exact ha rfl
   | cons b a=>simp at h
  simp only [exprS,run]
  cases c1:strEq (textO (hdOf s.rest)) (bs [97,108,108])
  ·cases c2:strEq (textO (hdOf s.rest)) (bs [115,111,109,101])
   ·exact i4 m (by omega) fin s hs
   ·exact hq 8 (hne _ (by simp) c2)
  ·exact hq 7 (hne _ (by simp) c1)
theorem tot_expr {L n:Nat} (hn:5 * L + 8≤n):Tot L (expr n):=(tot_exprs L).2.2.2.2 n hn
end M
end Go.Proofs.YtbecjgckobhmpaaGreatDoor
end
section
namespace Go.Proofs.YtbecjgckobhmpaaGreatDoor
open Go Go.AM Go.Proofs
abbrev Bytes:=List UInt8
def wordsL (l:List Bytes):Bytes:=joinL [32] (l.filter (fun s=>!s.isEmpty))
def onlyL (c:Bool) (l:List Bytes):Bytes:=bif c then wordsL l else []
def numL (n:Int):Bytes:=digs 20 n.toNat
def ruleI (s:ByteArray):ByteArray × Int × Int × Int:=(ruleTab.find? (fun r=>strEq r.1 s)).getD (bs [],0,0,0)
def levI (x:Node):Int :=
 bif x.kind == 7 || x.kind == 8 then 0 else bif x.kind == 6 then 1 else bif x.kind == 5 then (ruleI x.name).2.1 else bif x.kind == 4 then 11 else 12
def opd (a:Int × Bytes) (req:Int):Bytes:=bif decide (a.1 < req) then [40] ++ (a.2 ++ [41]) else a.2
def nth (ks:List (Int × Bytes)) (i:Nat):Int × Bytes:=ks.getD i (0,[])
def txtOf (k:Int) (nm:ByteArray) (n:Int) (ks:List (Int × Bytes)):Bytes :=
 bif k == 1 then numL n
 else bif k == 2 then (bif ks.isEmpty then tl nm else tl nm ++ ([91] ++ (opd (nth ks 0) 0 ++ [93])))
 else bif k == 3 then [111,108,100,40] ++ (opd (nth ks 0) 0 ++ [41])
 else bif k == 4 then [33] ++ opd (nth ks 0) 11
 else bif k == 5 then wordsL [opd (nth ks 0) (ruleI nm).2.2.1,tl nm,opd (nth ks 1) (ruleI nm).2.2.2]
 else bif k == 6 then wordsL [opd (nth ks 0) 2,[63],opd (nth ks 1) 1,[58],opd (nth ks 2) 1]
 else bif k == 7 then wordsL [[97,108,108],tl nm,[60],numL n,[58],opd (nth ks 0) 0]
 else bif k == 8 then wordsL [[115,111,109,101],tl nm,[60],numL n,[58],opd (nth ks 0) 0]
 else []
mutual
def txt:Node→Bytes
 | ⟨k,nm,_,n,_,_,_,ks,_⟩=>txtOf k nm n (txts ks)
def txts:List Node→List (Int × Bytes)
 | []=>[]
 | x :: r=>(levI x,txt x) :: txts r
end
mutual
def sz:Node→Nat
 | ⟨_,_,_,_,_,_,_,ks,_⟩=>1 + szs ks
def szs:List Node→Nat
 | []=>0
 | x :: r=>sz x + szs r
end
theorem sz_eq (x:Node):sz x = 1 + szs x.kids:=by cases x; rfl
theorem sz_pos (x:Node):1≤sz x:=by rw [sz_eq]; omega
theorem szs_mem:(l:List Node)→∀ x ∈ l,sz x≤szs l
 | [],x,h=>by cases h
 | y :: r,x,h=>by
  simp only [szs]
  rcases List.mem_cons.1 h with rfl | h
  ·omega
  ·have:=szs_mem r x h; omega
theorem szs_len:(l:List Node)→l.length≤szs l
 | []=>by simp [szs]
 | y :: r=>by simp only [szs,List.length_cons]; have:=szs_len r; have:=sz_pos y; omega
theorem szs_append:(a b:List Node)→szs (a ++ b) = szs a + szs b
 | [],b=>by simp [szs]
 | x :: r,b=>by simp [szs,szs_append r b]; omega
def sizedL (x:Node):Bytes:=wordsL [tl x.name,[58],numL x.n]
def commasL (l:List Bytes):Bytes:=joinL [44,32] l
def pairL:List Bytes→List Bytes
 | a :: b :: r=>wordsL [a,[58,61],b] :: pairL r
 | _=>[]
def assignsL (l:List Bytes):Bytes:=commasL (pairL l)
def sharedL (x:Node):Bytes :=
 wordsL [onlyL x.ghost [[103,104,111,115,116]],[115,104,97,114,101,100],bif x.len != 0 then tl x.name ++ ([91] ++ (numL x.len ++ [93])) else tl x.name,[58],
  bif strEq x.other (bs []) then numL x.n else tl x.other,onlyL (x.init != 0) [[61],numL x.init]]
def tx (ks:List Node):List Bytes:=ks.map txt
def tnth (ks:List Node) (i:Nat):Bytes:=(tx ks).getD i []
def stmtL (x:Node):Bytes :=
 bif x.kind == 20 then wordsL [[97,115,115,101,114,116],tnth x.kids 0]
 else bif x.kind == 29 then wordsL [[97,119,97,105,116],tnth x.kids 0]
 else bif x.kind == 26 then [102,101,110,99,101]
 else bif x.kind == 30 then [115,107,105,112]
 else bif x.kind == 21 then wordsL [onlyL (x.n == 1) [[114,101,108,101,97,115,101]],assignsL (tx (x.kids.take 2)),onlyL (decide (2 < (x.kids.length:Int))) [[119,105,116,104],assignsL (tx (x.kids.drop 2))]]
 else bif x.kind == 22 then wordsL [[97,116,111,109,105,99],[123],assignsL (tx (x.kids.drop 1)),[125],onlyL ((x.kids.head?.map Node.kind).getD 0 != 63) [[119,104,101,110],tnth x.kids 0]]
 else bif x.kind == 23 then wordsL [[99,97,115],commasL (tx (x.kids.take 3)),[105,110,116,111],tnth x.kids 3,onlyL (decide (4 < (x.kids.length:Int))) [[119,105,116,104],assignsL (tx (x.kids.drop 4))]]
 else bif x.kind == 24 then wordsL [[97,99,113,117,105,114,101],tl x.name]
 else bif x.kind == 25 then wordsL [[102,114,101,101],tl x.name]
 else bif x.kind == 27 then wordsL [[115,112,97,119,110],tl x.name]
 else bif x.kind == 28 then wordsL [[106,111,105,110],tl x.name]
 else bif x.kind == 33 then wordsL [[99,97,108,108],tl x.name ++ ([40] ++ (commasL (tx x.kids) ++ [41]))]
 else []
def simpL (x:Node):Bytes :=
 bif x.kind == 61 then wordsL [onlyL (x.n == 1) [[97,115,108,101,101,112]],[116,104,114,101,97,100],tl x.name,[61],tl x.other ++ ([40] ++ (commasL (tx x.kids) ++ [41]))]
 else bif x.kind == 52 then sizedL x
 else bif x.kind == 50 then sharedL x
 else bif x.kind == 53 then wordsL [[108,111,99,107],tl x.name,[105,110,118,97,114,105,97,110,116],tnth x.kids 0]
 else bif x.kind == 54 then wordsL [[114,101,108,121],tnth x.kids 0]
 else bif x.kind == 55 then wordsL [[103,117,97,114,97,110,116,101,101],tnth x.kids 0]
 else bif x.kind == 56 then wordsL [[102,114,97,109,101],commasL (tx x.kids)]
 else bif x.kind == 35 then wordsL [onlyL x.ghost [[103,104,111,115,116]],[108,111,99,97,108],sizedL x]
 else stmtL x
def headL (x:Node):Bytes :=
 bif x.kind == 60 then wordsL [[109,111,100,117,108,101],tl x.name,[111,119,110,101,114],tl x.other]
 else bif x.kind == 51 then wordsL [[114,101,99,111,114,100],tl x.name]
 else bif x.kind == 57 then wordsL [[112,114,111,99],tl x.name ++ ([40] ++ (commasL (x.kids.dropLast.map sizedL) ++ [41])),onlyL (!(strEq x.other (bs []))) [[108,111,99,107,101,100],tl x.other]]
 else bif x.kind == 31 then wordsL [[105,102],tnth x.kids 0]
 else wordsL [[119,104,105,108,101],tnth x.kids 0,onlyL ((x.kids[1]?.map Node.kind).getD 0 != 63) [[118,97,114,105,97,110,116],tnth x.kids 1]]
abbrev Lines:=List (Nat × Bytes)
def openL (d:Nat) (h:Bytes):Nat × Bytes:=(d,wordsL [h,[123]])
def elseE (ks:List Node):Bool:=(ks[2]?.map (fun y:Node=>y.kids.isEmpty)).getD true
def nthI (l:List Lines) (i:Nat):Lines:=l.getD i []
mutual
def itm (d:Nat):Node→Lines
 | ⟨k,nm,o,n,l,i,g,ks,p⟩ =>
  bif k == 60 || k == 51 then openL d (headL ⟨k,nm,o,n,l,i,g,ks,p⟩) :: (itms (d + 1) ks ++ [(d,[125])])
  else bif k == 57 then openL d (headL ⟨k,nm,o,n,l,i,g,ks,p⟩) :: (nthI (inns (d + 1) ks) (ks.length - 1) ++ [(d,[125])])
  else bif k == 31 then openL d (headL ⟨k,nm,o,n,l,i,g,ks,p⟩) :: (nthI (inns (d + 1) ks) 1 ++ ((bif elseE ks then [] else (d,[125,32,101,108,115,101,32,123]) :: nthI (inns (d + 1) ks) 2) ++ [(d,[125])]))
  else bif k == 32 then openL d (headL ⟨k,nm,o,n,l,i,g,ks,p⟩) :: (nthI (inns (d + 1) ks) 2 ++ [(d,[125])])
  else [(d,simpL ⟨k,nm,o,n,l,i,g,ks,p⟩ ++ [59])]
def itms (d:Nat):List Node→Lines
 | []=>[]
 | x :: r=>itm d x ++ itms d r
def inn (d:Nat):Node→Lines
 | ⟨_,_,_,_,_,_,_,ks,_⟩=>itms d ks
def inns (d:Nat):List Node→List Lines
 | []=>[]
 | x :: r=>inn d x :: inns d r
end
def lineT (p:Nat × Bytes):Bytes:=repL [32,32] p.1 ++ (p.2 ++ [10])
def linesT (l:Lines):Bytes:=l.flatMap lineT
def srcT (x:Node):Bytes:=linesT (itms 0 x.kids)
end Go.Proofs.YtbecjgckobhmpaaGreatDoor
end
section
namespace Go.Proofs.YtbecjgckobhmpaaGreatDoor
open Go Go.AM Go.Proofs
mutual
def okT:Node→Bool
 | ⟨k,nm,o,n,l,i,g,ks,p⟩=>fieldsB ⟨k,nm,o,n,l,i,g,ks,p⟩ && (kidsB ⟨k,nm,o,n,l,i,g,ks,p⟩ && okTs ks)
def okTs:List Node→Bool
 | []=>true
 | x :: r=>okT x && okTs r
end
theorem okTs_all:(l:List Node)→okTs l = l.all okT
 | []=>by simp [okTs]
 | x :: r=>by simp [okTs,okTs_all r]
theorem okT_eq (x:Node):okT x = (fieldsB x && (kidsB x && x.kids.all okT)):=by
 cases x; simp [okT,okTs_all]
inductive Lim (b:Nat):Node→Prop where
 | mk (x:Node) (h1:(tl x.name).length≤b) (h2:(tl x.other).length≤b) (h3:x.kids.length≤b) (h4:∀ y ∈ x.kids,Lim b y):Lim b x
theorem Lim.mono {b c:Nat} (h:b≤c) {x:Node} (hx:Lim b x):Lim c x:=by
 induction hx with
 | mk x h1 h2 h3 h4 ih=>exact .mk x (by omega) (by omega) (by omega) ih
theorem F64_eq {b:Nat} (hb:b≤9223372036854775807):∀ (m:Nat) (x:Node),sz x≤m→Lim b x→∀ n,30 + 3 * sz x≤n→F64 n x = some (okT x):=by
 intro m
 induction m with
 | zero=>intro x hx; have:=sz_pos x; omega
 | succ m ih =>
  intro x hx hlim n hn
  obtain ⟨_,h1,h2,h3,h4⟩:=hlim
  have hlen:=szs_len x.kids
  have hsz:=sz_eq x
  obtain ⟨n,rfl⟩:∃ m,n = m + 2:=⟨n - 2,by omega⟩
  have e99:F99 (n + 1) x.kids = some (x.kids.all okT):=by
   show F99_step (F99 n) (F64 n) n x.kids = _
   unfold F99_step
   rw [iter_all x.kids okT (by omega) (fun k y hy=>by
    have hlt:=lt_of_get hy
    have hm:y ∈ x.kids:=List.mem_of_getElem? hy
    have hys:=szs_mem x.kids y hm
    have c1:decide ((k:Int) < (x.kids.length:Int)) = true:=by simpa using hlt
    rw [c1,idxL_some hy]
    simp only [cond_true,Option.bind_some,ih y (by omega) (h4 y hm) n (by omega)]
    cases okT y <;> rfl) (by simp) (by omega)]
   cases x.kids.all okT <;> rfl
  show F64_step (F99 (n + 1)) (F64 (n + 1)) (n + 1) x = _
  unfold F64_step
  rw [F97_eq x (by omega) (by omega) (by omega),F98_eq x (by omega) (by omega) (by omega),e99,okT_eq]
  simp only [Option.bind_some]
  cases fieldsB x <;> cases kidsB x <;> simp
def okE (x:Node):Prop:=okT x = true∧isE x.kind = true
theorem okT_parts {x:Node} (h:okT x = true):fieldsB x = true∧kidsB x = true∧∀ y ∈ x.kids,okT y = true:=by
 rw [okT_eq] at h
 simp only [Bool.and_eq_true,List.all_eq_true] at h
 exact ⟨h.1,h.2.1,h.2.2⟩
theorem ex1_iff {p:Node→Bool} {l:List Node} (h:ex1 p l = true):∃ a,l = [a]∧p a = true:=by
 match l,h with
 | [a],h=>exact ⟨a,rfl,h⟩
theorem ex2_iff {p q:Node→Bool} {l:List Node} (h:ex2 p q l = true):∃ a b,l = [a,b]∧p a = true∧q b = true:=by
 match l,h with
 | [a,b],h=>simp only [ex2,Bool.and_eq_true] at h; exact ⟨a,b,rfl,h⟩
theorem ex3_iff {p q r:Node→Bool} {l:List Node} (h:ex3 p q r l = true):∃ a b c,l = [a,b,c]∧p a = true∧q b = true∧r c = true:=by
 match l,h with
 | [a,b,c],h=>simp only [ex3,Bool.and_eq_true] at h; exact ⟨a,b,c,rfl,h⟩
theorem isE_cases {k:Int} (h:isE k = true):k = 1∨k = 2∨k = 3∨k = 4∨k = 5∨k = 6∨k = 7∨k = 8:=by
 simp only [isE,Bool.and_eq_true,decide_eq_true_eq] at h
 omega
theorem okE_ind {P:Node→Prop}
  (c1:∀ x,x.kind = 1→x.kids = []→inR x.n = true→P x)
  (c2:∀ x,x.kind = 2→x.kids = []→pathB (tl x.name) = true→P x)
  (c2':∀ x a,x.kind = 2→x.kids = [a]→pathB (tl x.name) = true→okE a→P a→P x)
  (c3:∀ x a,x.kind = 3→x.kids = [a]→okE a→P a→P x)
  (c4:∀ x a,x.kind = 4→x.kids = [a]→okE a→P a→P x)
  (c5:∀ x a b,x.kind = 5→x.kids = [a,b]→levelI x.name≠0→okE a→P a→okE b→P b→P x)
  (c6:∀ x a b c,x.kind = 6→x.kids = [a,b,c]→okE a→P a→okE b→P b→okE c→P c→P x)
  (c7:∀ x a,(x.kind = 7∨x.kind = 8)→x.kids = [a]→nameB (tl x.name) = true→inR x.n = true→okE a→P a→P x) :
  ∀ x,okE x→P x:=by
 have key:∀ m x,sz x≤m→okE x→P x:=by
  intro m
  induction m with
  | zero=>intro x hx; have:=sz_pos x; omega
  | succ m ih =>
   intro x hx hE
   obtain ⟨hT,he⟩:=hE
   obtain ⟨hf,hk,hks⟩:=okT_parts hT
   have hsz:=sz_eq x
   have kid:∀ y,y ∈ x.kids→isE y.kind = true→okE y∧P y:=fun y hy hye=>by
    have h0:okE y:=⟨hks y hy,hye⟩
    have:=szs_mem x.kids y hy
    exact ⟨h0,ih y (by omega) h0⟩
   rcases isE_cases he with h | h | h | h | h | h | h | h
   ·simp [fieldsB,fldGood,h] at hf
    simp [kidsB,leafK,h] at hk
    exact c1 x h hk hf.1
   ·simp [fieldsB,fldGood,h] at hf
    simp [kidsB,leafK,h] at hk
    rcases hk with hk | hk
    ·exact c2 x h hk hf.1
    ·obtain ⟨a,ha,hea⟩:=ex1_iff hk
     obtain ⟨k1,k2⟩:=kid a (by simp [ha]) hea
     exact c2' x a h ha hf.1 k1 k2
   ·simp [kidsB,leafK,h] at hk
    obtain ⟨a,ha,hea⟩:=ex1_iff hk
    have hea':a.kind = 2:=by simpa [kX] using hea
    obtain ⟨k1,k2⟩:=kid a (by simp [ha]) (by rw [hea']; rfl)
    exact c3 x a h ha k1 k2
   ·simp [kidsB,leafK,oneK,h] at hk
    obtain ⟨a,ha,hea⟩:=ex1_iff hk
    obtain ⟨k1,k2⟩:=kid a (by simp [ha]) hea
    exact c4 x a h ha k1 k2
   ·simp [fieldsB,fldGood,h] at hf
    simp [kidsB,leafK,oneK,h] at hk
    obtain ⟨a,b,ha,hea,heb⟩:=ex2_iff hk
    obtain ⟨k1,k2⟩:=kid a (by simp [ha]) hea
    obtain ⟨k3,k4⟩:=kid b (by simp [ha]) heb
    exact c5 x a b h ha hf.1 k1 k2 k3 k4
   ·simp [kidsB,leafK,oneK,h] at hk
    obtain ⟨a,b,c,ha,hea,heb,hec⟩:=ex3_iff hk
    obtain ⟨k1,k2⟩:=kid a (by simp [ha]) hea
    obtain ⟨k3,k4⟩:=kid b (by simp [ha]) heb
    obtain ⟨k5,k6⟩:=kid c (by simp [ha]) hec
    exact c6 x a b c h ha k1 k2 k3 k4 k5 k6
   ·simp [fieldsB,fldGood,h] at hf
    simp [kidsB,leafK,oneK,h] at hk
    obtain ⟨a,ha,hea⟩:=ex1_iff hk
    obtain ⟨k1,k2⟩:=kid a (by simp [ha]) hea
    exact c7 x a (.inl h) ha hf.1.1 hf.1.2 k1 k2
   ·simp [fieldsB,fldGood,h] at hf
    simp [kidsB,leafK,oneK,h] at hk
    obtain ⟨a,ha,hea⟩:=ex1_iff hk
    obtain ⟨k1,k2⟩:=kid a (by simp [ha]) hea
    exact c7 x a (.inr h) ha hf.1.1 hf.1.2 k1 k2
 exact fun x hx=>key (sz x) x (Nat.le_refl _) hx
theorem nameB_len {s:Bytes} (h:nameB s = true):1≤s.length∧s.length≤16:=by
 simp [nameB] at h
 exact ⟨by omega,h.1.1.2⟩
theorem level_cases {s:ByteArray} (h:levelI s≠0):tl s ∈ [[61,61,62],[124,124],[38,38],[61,61],[33,61],[60],[60,61],[124],[94],[38],[43],[45],[42]]:=by
 have e:∀ l:List UInt8,strEq s (bs l) = decide (tl s = l):=fun l=>Bool.eq_iff_iff.2 (by rw [decide_eq_true_iff]; simp [strEq,bs,tl])
 simp only [levelI,e] at h
 simp only [List.mem_cons,List.not_mem_nil,or_false]
 by_cases h1:tl s = [61,61,62]
 ·exact .inl h1
 by_cases h2:tl s = [124,124]
 ·simp [h2]
 by_cases h3:tl s = [38,38]
 ·simp [h3]
 by_cases h4:tl s = [61,61]
 ·simp [h4]
 by_cases h5:tl s = [33,61]
 ·simp [h5]
 by_cases h6:tl s = [60]
 ·simp [h6]
 by_cases h7:tl s = [60,61]
 ·simp [h7]
 by_cases h8:tl s = [124]
 ·simp [h8]
 by_cases h9:tl s = [94]
 ·simp [h9]
 by_cases h10:tl s = [38]
 ·simp [h10]
 by_cases h11:tl s = [43]
 ·simp [h11]
 by_cases h12:tl s = [45]
 ·simp [h12]
 by_cases h13:tl s = [42]
 ·simp [h13]
 simp [h1,h2,h3,h4,h5,h6,h7,h8,h9,h10,h11,h12,h13] at h
theorem digs_pos (f u:Nat):1≤(digs (f + 1) u).length:=by
 simp only [digs]
 split <;> simp
end Go.Proofs.YtbecjgckobhmpaaGreatDoor
end
section
namespace Go.Proofs.YtbecjgckobhmpaaGreatDoor
open Go Go.AM Go.Proofs
namespace M
variable {α β σ ρ:Type}
def Post (m:M α) (P:α→Nat→Prop):Prop:=∀ fin s a s',TksOk s.rest→m.run fin s = .ok a s'→∃ d,s.rest.length = s'.rest.length + d∧P a d
theorem Post.mono {m:M α} {P Q:α→Nat→Prop} (h:Post m P) (k:∀ a d,P a d→Q a d):Post m Q:=fun fin s a s' ht e=>by
 obtain ⟨d,h1,h2⟩:=h fin s a s' ht e
 exact ⟨d,h1,k a d h2⟩
theorem post_ret {a:α} {P:α→Nat→Prop} (h:P a 0):Post (.ret a) P:=fun fin s b s' _ e=>by
 simp only [run,Out.ok.injEq] at e
 obtain ⟨rfl,rfl⟩:=e
 exact ⟨0,rfl,h⟩
theorem post_fail {b:Bool} {P:α→Nat→Prop}:Post (.fail b) P:=fun fin s a s' _ e=>by cases e
theorem post_out {P:α→Nat→Prop}:Post .out P:=fun fin s a s' _ e=>by cases e
theorem post_look {k:Option (Int × ByteArray)→M α} {P:α→Nat→Prop} (h:∀ t,Post (k t) P):Post (.look k) P:=fun fin s a s' ht e=>h _ fin s a s' ht e
theorem post_pos {k:Int→M α} {P:α→Nat→Prop} (h:∀ t,Post (k t) P):Post (.pos k) P:=fun fin s a s' ht e=>h _ fin s a s' ht e
theorem post_adv {k:M α} {P:α→Nat→Prop} (h:Post k fun a d=>P a (d + 1)):Post (.adv k) P:=fun fin s a s' ht e=>by
 obtain ⟨r,i,p⟩:=s
 cases r with
 | nil=>cases e
 | cons t r =>
  obtain ⟨d,h1,h2⟩:=h fin ⟨r,i,p⟩ a s' (fun x hx=>ht x (List.mem_cons_of_mem _ hx)) e
  exact ⟨d + 1,by simp only [List.length_cons] at h1 ⊢; omega,h2⟩
theorem post_cond {c:Bool} {a b:M α} {P:α→Nat→Prop} (h1:Post a P) (h2:Post b P):Post (bif c then a else b) P:=by cases c <;> assumption
theorem post_bind {m:M α} {k:α→M β} {Q:β→Nat→Prop} (P:α→Nat→Prop) (h1:Post m P) (h2:∀ a d,P a d→Post (k a) fun b e=>Q b (d + e)):Post (m.bind k) Q:=fun fin s b s' ht e=>by
 rw [run_bind] at e
 have hsuf:=run_suf fin m s
 cases hr:m.run fin s with
 | ok a s1 =>
  rw [hr] at e hsuf
  obtain ⟨d,h3,h4⟩:=h1 fin s a s1 ht hr
  obtain ⟨d2,h5,h6⟩:=h2 a d h4 fin s1 b s' (ht.suf hsuf) e
  exact ⟨d + d2,by omega,h6⟩
 | bad b s'=>rw [hr] at e; cases e
 | out=>rw [hr] at e; cases e
theorem post_iter {step:σ→M (σ ⊕ ρ)} {Q:ρ→Nat→Prop} (I:σ→Nat→Prop) (h:∀ x d,I x d→Post (step x) fun r e=>Sum.elim (fun x'=>I x' (d + e)) (fun r=>Q r (d + e)) r):∀ (n:Nat) (x:σ) (d:Nat),I x d→Post (iterM step n x) fun r e=>Q r (d + e)
 | 0,_,_,_=>post_out
 | n + 1,x,d,hi=>post_bind _ (h x d hi) fun r e hr=>by
   cases r with
   | inl x'=>exact (post_iter I h n x' (d + e) hr).mono fun a e2 hq=>by rw [← Nat.add_assoc]; exact hq
   | inr r=>exact post_ret hr
theorem post_accept (a:ByteArray):Post (accept a) fun b d=>d = bif b then 1 else 0:=fun fin s b s' _ e=>by
 rw [run_accept] at e
 obtain ⟨r,i,p⟩:=s
 cases r with
 | nil=>simp only [Out.ok.injEq] at e; obtain ⟨rfl,rfl⟩:=e; exact ⟨0,rfl,rfl⟩
 | cons t r =>
  simp only at e
  cases hc:strEq t.text a <;> rw [hc] at e <;> simp only [cond_true,cond_false,Out.ok.injEq] at e <;> obtain ⟨rfl,rfl⟩:=e
  ·exact ⟨0,rfl,rfl⟩
  ·exact ⟨1,rfl,rfl⟩
theorem post_kw {a:ByteArray} {m m':M α} {Q:α→Nat→Prop} (h1:Post m fun x d=>Q x (1 + d)) (h2:Post m' Q):Post (kw a m m') Q :=
 post_bind _ (post_accept a) fun b d hd=>by
  cases b
  ·subst hd; exact h2.mono fun x e h=>by rw [cond_false,Nat.zero_add]; exact h
  ·subst hd; exact h1
theorem post_expect (a:ByteArray):Post (expect a) fun _ d=>d = 1 :=
 post_bind _ (post_accept a) fun b d hd=>by
  cases b
  ·exact post_fail
  ·exact post_ret hd
theorem nameB_of {x:ByteArray} (h1:(tl x).length≤16) (h2:nameCs (tl x) = true) (h3:1≤(tl x).length) (h4:isKey x = false):nameB (tl x) = true:=by
 unfold nameB
 unfold isKey at h4
 rw [decide_eq_true h3,decide_eq_true h1,h2]
 have:keyNames.any (tl x == ·) = false:=h4
 rw [this]
 rfl
theorem post_name:Post name fun x d=>nameB (tl x) = true∧d = 1:=fun fin s a s' ht e=>by
 have h:=AllM.run fin name s a s' name_all ht e
 obtain ⟨r,i,p⟩:=s
 cases r with
 | nil=>cases e
 | cons t r =>
  simp only [name,run,hdOf] at e
  cases hn:isNm (t.kind,t.text) <;> rw [hn] at e
  ·cases e
  ·simp only [cond_true,run,Out.ok.injEq] at e
   obtain ⟨_,rfl⟩:=e
   exact ⟨1,rfl,nameB_of h.1 h.2.1 h.2.2.1 h.2.2.2,rfl⟩
theorem decL_lt:∀ (l:List UInt8) (n v:Nat),decL l n = some v→v < (n + 1) * 10 ^ l.length
 | [],n,v,h=>by simp only [decL,Option.some.injEq] at h; simp; omega
 | b :: r,n,v,h=>by
  unfold decL at h
  split at h
  ·rename_i hb
   have:=decL_lt r _ v h
   rw [List.length_cons,Nat.pow_succ,Nat.mul_comm (10 ^ r.length) 10,← Nat.mul_assoc]
   refine Nat.lt_of_lt_of_le this (Nat.mul_le_mul_right _ ?_)
   omega
  ·cases h
theorem numV_inR {t:Int × ByteArray} (h:TkOk t) (h2:t.1 = 2):inR (numV t.2) = true:=by
 rcases h with h | h | h
 ·omega
 ·obtain ⟨_,h3,h4,h5,_⟩:=h
  obtain ⟨v,hv⟩:=decL_some (tl t.2) 0 h5
  have hlt:=decL_lt _ _ _ hv
  have hpow:10 ^ (tl t.2).length≤10 ^ 9:=Nat.pow_le_pow_right (by omega) h4
  have e:numV t.2 = (v:Int):=by
   unfold numV atoiF
   rw [size_tl,tl_def,hv]
   rw [if_neg (by omega)]
   rfl
  rw [e]
  simp only [inR,Bool.and_eq_true,decide_eq_true_eq]
  omega
 ·omega
theorem post_num:Post num fun v d=>inR v = true∧d = 1:=fun fin s a s' ht e=>by
 obtain ⟨r,i,p⟩:=s
 cases r with
 | nil=>cases e
 | cons t r =>
  simp only [num,run,hdOf] at e
  cases hn:t.kind == 2 <;> rw [hn] at e
  ·cases e
  ·simp only [cond_true,run,Out.ok.injEq] at e
   obtain ⟨rfl,rfl⟩:=e
   exact ⟨1,rfl,numV_inR (ht t (List.mem_cons_self ..)) (by simpa using hn),rfl⟩
theorem no46 {a:List UInt8} (h:nameB a = true):46 ∉ a:=by
 intro hm
 simp only [nameB,Bool.and_eq_true] at h
 have hc:=h.2
 have hw:∀ l:List UInt8,nameCs l = true→∀ b ∈ l,isWordI b.toNat = true:=by
  intro l hl b hb
  cases l with
  | nil=>cases hb
  | cons x r =>
   simp only [nameCs,Bool.and_eq_true,List.all_eq_true] at hl
   rcases List.mem_cons.1 hb with rfl | hb
   ·simp [isWordI,hl.1]
   ·exact hl.2 b hb
 have:=hw a hc 46 hm
 revert this
 decide
theorem cut_none:∀ (a:List UInt8),46 ∉ a→cutB a = (a,none)
 | [],_=>rfl
 | b :: r,h=>by
  simp only [List.mem_cons,not_or] at h
  have hb:(b == 46) = false:=by
   cases hbb:b == 46
   ·rfl
   ·exact absurd (by simpa using hbb:b = 46).symm h.1
  simp [cutB,hb,cut_none r h.2]
theorem cut_dot:∀ (a r:List UInt8),46 ∉ a→cutB (a ++ 46 :: r) = (a,some r)
 | [],r,_=>by simp [cutB]
 | b :: a,r,h=>by
  simp only [List.mem_cons,not_or] at h
  have hb:(b == 46) = false:=by
   cases hbb:b == 46
   ·rfl
   ·exact absurd (by simpa using hbb:b = 46).symm h.1
  simp [cutB,hb,cut_dot a r h.2]
theorem path_add:∀ (k:Nat) (s y:List UInt8),pathN k s = true→nameB y = true→pathN (k + 1) (s ++ 46 :: y) = true
 | 0,s,y,h,_=>by simp [pathN] at h
 | k + 1,s,y,h,hy=>by
  rw [pathN,Bool.and_eq_true] at h
  have hno:=no46 h.1
  have hspec:=cutB_spec s
  cases hc:(cutB s).2 with
  | none =>
   have e:=(hspec.1 hc).1
   rw [e] at h hno
   rw [pathN,cut_dot s y hno,h.1]
   simp only [Bool.true_and]
   rw [pathN,cut_none y (no46 hy),hy]
   rfl
  | some r =>
   have e:=(hspec.2 r hc).1
   have h2:=h.2
   rw [hc] at h2
   have e2:s ++ 46 :: y = (cutB s).1 ++ 46 :: (r ++ 46 :: y):=by
    conv=>lhs; rw [e]
    simp
   rw [pathN,e2,cut_dot _ _ hno,h.1]
   exact path_add k r y h2 hy
theorem path_up:∀ (k:Nat) (s:List UInt8),pathN k s = true→pathN (k + 1) s = true
 | 0,s,h=>by simp [pathN] at h
 | k + 1,s,h=>by
  rw [pathN,Bool.and_eq_true] at h ⊢
  refine ⟨h.1,?_⟩
  have h2:=h.2
  cases hc:(cutB s).2 with
  | none=>rfl
  | some r =>
   rw [hc] at h2
   exact path_up k r h2
theorem post_path (n:Nat):Post (path n) fun x d=>pathB (tl x) = true∧1≤d:=by
 refine post_bind _ post_name fun x d hx=>?_
 have hI:∀ (s:ByteArray × Int) (d:Nat),(∃ k:Nat,s.2 = (k:Int)∧k≤2∧pathN (k + 1) (tl s.1) = true)→Post (pathS s) fun r e=>Sum.elim (fun s':ByteArray × Int=>∃ k:Nat,s'.2 = (k:Int)∧k≤2∧pathN (k + 1) (tl s'.1) = true) (fun r=>pathB (tl r) = true) r:=by
  rintro ⟨x,i⟩ d ⟨k,hk,h2,h3⟩
  simp only at hk h3
  subst hk
  have hB:pathB (tl x) = true:=by
   unfold pathB
   have:k = 0∨k = 1∨k = 2:=by omega
   rcases this with rfl | rfl | rfl
   ·exact path_up _ _ (path_up _ _ h3)
   ·exact path_up _ _ h3
   ·exact h3
  unfold pathS
  simp only
  cases hc:decide ((k:Int) < 2)
  ·exact post_ret hB
  ·have hc':k < 2:=by have:=of_decide_eq_true hc; omega
   refine post_bind _ (post_accept _) fun b d1 _=>?_
   cases b
   ·exact post_ret hB
   ·refine post_bind _ post_name fun y d2 hy=>post_ret ⟨k + 1,by simp,by omega,?_⟩
    exact path_add _ _ _ h3 hy.1
 refine (post_iter (fun s _=>∃ k:Nat,s.2 = (k:Int)∧k≤2∧pathN (k + 1) (tl s.1) = true) (Q:=fun r _=>pathB (tl r) = true) (fun s d hs=>hI s d hs) n (x,0) 0 ⟨0,rfl,by omega,?_⟩).mono fun r e hr=>⟨hr,by omega⟩
 simp only
 rw [pathN,cut_none _ (no46 hx.1),hx.1]
 rfl
theorem okT_of {x:Node} (hf:fieldsB x = true) (hk:kidsB x = true) (h:∀ y ∈ x.kids,okT y = true):okT x = true:=by
 rw [okT_eq,hf,hk]
 simpa using h
def QE (e:Node) (d:Nat):Prop:=okE e∧sz e≤d
def QR (e:Node) (d:Nat):Prop:=okT e = true∧e.kind = 2∧sz e≤d
def QL (P:Node→Prop) (l:List Node) (d:Nat):Prop:=(∀ y ∈ l,okT y = true∧P y)∧szs l≤d
theorem QR.e {e:Node} {d:Nat} (h:QR e d):QE e d:=⟨⟨h.1,by rw [h.2.1]; rfl⟩,h.2.2⟩
theorem QE.mono {e:Node} {d d':Nat} (h:QE e d) (hd:d≤d'):QE e d':=⟨h.1,by have:=h.2; omega⟩
theorem sz0 {k:Int} {a b:ByteArray} {n l i:Int} {g:Bool} {p:Int}:sz (Node.mk k a b n l i g [] p) = 1:=rfl
theorem sz1 {k:Int} {a b:ByteArray} {n l i:Int} {g:Bool} {x:Node} {p:Int}:sz (Node.mk k a b n l i g [x] p) = 1 + sz x:=rfl
theorem sz2 {k:Int} {a b:ByteArray} {n l i:Int} {g:Bool} {x y:Node} {p:Int}:sz (Node.mk k a b n l i g [x,y] p) = 1 + sz x + sz y:=by simp [sz,szs]; omega
theorem sz3 {k:Int} {a b:ByteArray} {n l i:Int} {g:Bool} {x y z:Node} {p:Int}:sz (Node.mk k a b n l i g [x,y,z] p) = 1 + sz x + sz y + sz z:=by simp [sz,szs]; omega
theorem ok_leaf {k:Int} {a b:ByteArray} {n l i:Int} {g:Bool} {p:Int} (hk:leafK k = true) (hf:fieldsB (Node.mk k a b n l i g [] p) = true):okT (Node.mk k a b n l i g [] p) = true :=
 okT_of hf (by simp [kidsB,hk]) (by simp)
theorem ok_num {v p:Int} (h:inR v = true):okE (Node.mk 1 (bs []) (bs []) v 0 0 false [] p) :=
 ⟨ok_leaf rfl (by simp [fieldsB,fldGood,hasName,hasOther,hasN,h,strEq_self]),rfl⟩
theorem post_numNode:Post numNode fun e d=>QE e d∧e.kind = 1:=post_pos fun p=>post_bind _ post_num fun v d hv=>post_ret ⟨⟨ok_num hv.1,by rw [sz0]; omega⟩,rfl⟩
theorem ok_ref0 {x:ByteArray} {p:Int} (h:pathB (tl x) = true):okT (Node.mk 2 x (bs []) 0 0 0 false [] p) = true :=
 okT_of (by simp [fieldsB,fldGood,hasName,hasOther,hasN,h,strEq_self]) (by simp [kidsB,leafK]) (by simp)
theorem ok_ref1 {x:ByteArray} {p:Int} {e:Node} (h:pathB (tl x) = true) (he:okE e):okT (Node.mk 2 x (bs []) 0 0 0 false [e] p) = true :=
 okT_of (by simp [fieldsB,fldGood,hasName,hasOther,hasN,h,strEq_self]) (by simp [kidsB,leafK,ex1,eX,he.2]) (by simp [he.1])
theorem ok_old {p:Int} {e:Node} (he:okT e = true) (h2:e.kind = 2):okE (Node.mk 3 (bs []) (bs []) 0 0 0 false [e] p) :=
 ⟨okT_of (by simp [fieldsB,fldGood,hasName,hasOther,hasN,strEq_self]) (by simp [kidsB,leafK,ex1,kX,h2]) (by simp [he]),rfl⟩
theorem ok_not {p:Int} {e:Node} (he:okE e):okE (Node.mk 4 (bs []) (bs []) 0 0 0 false [e] p) :=
 ⟨okT_of (by simp [fieldsB,fldGood,hasName,hasOther,hasN,strEq_self]) (by simp [kidsB,leafK,oneK,ex1,eX,he.2]) (by simp [he.1]),rfl⟩
theorem ok_bin {p:Int} {a b:Node} {x:ByteArray} (hx:levelI x≠0) (ha:okE a) (hb:okE b):okE (Node.mk 5 x (bs []) 0 0 0 false [a,b] p) :=
 ⟨okT_of (by simp [fieldsB,fldGood,hasName,hasOther,hasN,strEq_self,hx]) (by simp [kidsB,leafK,oneK,ex2,eX,ha.2,hb.2]) (by simp [ha.1,hb.1]),rfl⟩
theorem ok_cond {p:Int} {a b c:Node} (ha:okE a) (hb:okE b) (hc:okE c):okE (Node.mk 6 (bs []) (bs []) 0 0 0 false [a,b,c] p) :=
 ⟨okT_of (by simp [fieldsB,fldGood,hasName,hasOther,hasN,strEq_self]) (by simp [kidsB,leafK,oneK,ex3,eX,ha.2,hb.2,hc.2]) (by simp [ha.1,hb.1,hc.1]),rfl⟩
theorem ok_quant {k p v:Int} {e:Node} {x:ByteArray} (hk:k = 7∨k = 8) (hx:nameB (tl x) = true) (hv:inR v = true) (he:okE e):okE (Node.mk k x (bs []) v 0 0 false [e] p):=by
 rcases hk with rfl | rfl
 ·exact ⟨okT_of (by simp [fieldsB,fldGood,hasName,hasOther,hasN,strEq_self,hx,hv]) (by simp [kidsB,leafK,oneK,ex1,eX,he.2]) (by simp [he.1]),rfl⟩
 ·exact ⟨okT_of (by simp [fieldsB,fldGood,hasName,hasOther,hasN,strEq_self,hx,hv]) (by simp [kidsB,leafK,oneK,ex1,eX,he.2]) (by simp [he.1]),rfl⟩
theorem post_refS {mE:M Node} (hE:Post mE QE) (n:Nat):Post (refS mE n) QR:=by
 refine post_pos fun p=>post_bind _ (post_path n) fun x d hx=>post_kw ?_ (post_ret ⟨ok_ref0 hx.1,rfl,by rw [sz0]; omega⟩)
 refine post_bind _ hE fun e d2 he=>post_bind _ (post_expect _) fun _ d3 h3=>post_ret ⟨ok_ref1 hx.1 he.1,rfl,?_⟩
 have:=he.2
 rw [sz1]
 omega
theorem post_binL {mB:Int→M Node} (hB:∀ a,Post (mB a) QE) (a:Int) (n:Nat) (x:Node) (d:Nat) (hx:QE x d):Post (iterM (binStep mB a) n (10,x)) fun r e=>QE r (d + e):=by
 refine post_iter (fun s d=>QE s.2 d) (Q:=QE) (fun s d hs=>?_) n (10,x) d hx
 refine post_look fun t=>post_pos fun p=>?_
 cases hc:((levelI (textO t) == 0) || decide (levelI (textO t) < a)) || decide (s.1 < levelI (textO t))
 ·simp only [Bool.or_eq_false_iff,beq_eq_false_iff_ne] at hc
  refine post_adv ?_
  have hr:Post (rightS mB (levelI (textO t))) fun j e=>QE j.2 e:=by
   refine post_cond ?_ (post_cond ?_ ?_) <;> exact post_bind _ (hB _) fun r e hr=>post_ret (by rw [Nat.add_zero]; exact hr)
  refine post_bind _ hr fun j e hj=>post_ret ?_
  refine ⟨ok_bin hc.1.1 hs.1 hj.1,?_⟩
  have h1:=hs.2
  have h2:=hj.2
  rw [sz2]
  omega
 ·exact post_ret hs
theorem post_exprs:∀ n,Post (ref n) QR∧Post (unary n) QE∧(∀ a,Post (bin n a) QE)∧Post (cond n) QE∧Post (expr n) QE
 | 0=>by
  refine ⟨?_,?_,fun a=>?_,?_,?_⟩
  ·rw [ref]; exact post_out
  ·rw [unary]; exact post_out
  ·rw [bin]; exact post_out
  ·rw [cond]; exact post_out
  ·rw [expr]; exact post_out
 | n + 1=>by
  obtain ⟨h1,h2,h3,h4,h5⟩:=post_exprs n
  refine ⟨?_,?_,fun a=>?_,?_,?_⟩
  ·rw [ref]; exact post_refS h5 n
  ·rw [unary]
   refine post_pos fun p=>post_kw (post_bind _ h2 fun e d he=>post_ret ⟨ok_not he.1,by have:=he.2; rw [sz1]; omega⟩) (post_look fun t=>post_cond (post_numNode.mono fun _ _ h=>h.1) ?_)
   refine post_kw ?_ (post_kw ?_ (h1.mono fun _ _ h=>h.e))
   ·refine post_bind _ (post_expect _) fun _ d1 hd1=>post_bind _ h1 fun e d he=>post_bind _ (post_expect _) fun _ d2 hd2=>post_ret ⟨ok_old he.1 he.2.1,?_⟩
    have:=he.2.2
    rw [sz1]; omega
   ·exact post_bind _ h5 fun e d he=>post_bind _ (post_expect _) fun _ d2 hd2=>post_ret (he.mono (by omega))
  ·rw [bin]
   exact post_bind _ h2 fun x d hx=>post_binL h3 a n x d hx
  ·rw [cond]
   refine post_bind _ (h3 2) fun x d hx=>post_pos fun p=>post_bind _ (post_accept _) fun b d1 hd1=>?_
   cases b
   ·exact post_ret (hx.mono (by omega))
   ·refine post_bind _ h4 fun y d2 hy=>post_bind _ (post_expect _) fun _ d3 h3=>post_bind _ h4 fun z d4 hz=>post_ret ⟨ok_cond hx.1 hy.1 hz.1,?_⟩
    have e1:=hx.2
    have e2:=hy.2
    have e3:=hz.2
    simp only [cond_true] at hd1
    rw [sz3]; omega
  ·rw [expr]
   have hq:∀ k,k = 7∨k = 8→Post (quant (expr n) k) QE:=fun k hk=>by
    refine post_pos fun p=>post_adv (post_bind _ post_name fun x d1 hx=>post_bind _ (post_expect _) fun _ d2 h2=>post_bind _ post_num fun v d3 hv=>post_bind _ (post_expect _) fun _ d4 h4=>post_bind _ h5 fun e d5 he=>post_ret ⟨ok_quant hk hx.1 hv.1 he.1,?_⟩)
    have:=he.2
    rw [sz1]; omega
   exact post_look fun t=>post_cond (hq 7 (.inl rfl)) (post_cond (hq 8 (.inr rfl)) h4)
theorem post_expr (n:Nat):Post (expr n) QE:=(post_exprs n).2.2.2.2
theorem post_whole (n:Nat):Post (whole n) QE:=post_bind _ (post_expr n) fun e d he=>post_look fun t=>post_cond post_fail (post_ret (he.mono (by omega)))
theorem QL.mono {P:Node→Prop} {l:List Node} {d d':Nat} (h:QL P l d) (hd:d≤d'):QL P l d':=⟨h.1,by have:=h.2; omega⟩
theorem QL.nil {P:Node→Prop} {d:Nat}:QL P [] d:=⟨by simp,by simp [szs]⟩
theorem QL.one {P:Node→Prop} {x:Node} {d:Nat} (h1:okT x = true) (h2:P x) (h3:sz x≤d):QL P [x] d:=⟨by simp [h1,h2],by simpa [szs] using h3⟩
end M
end Go.Proofs.YtbecjgckobhmpaaGreatDoor
end
section
namespace Go.Proofs.YtbecjgckobhmpaaGreatDoor
open Go Go.AM Go.Proofs
theorem pathS_all (k:Nat) (x:ByteArray × Int) (h:x.2 = (k:Int)∧(tl x.1).length≤17 * (k + 1)) :
  AllM (Sum.elim (fun x'=>x'.2 = ((k + 1:Nat):Int)∧(tl x'.1).length≤17 * (k + 1 + 1)) fun _=>True) (M.pathS x):=by
 unfold M.pathS
 refine AllM.cond (AllM.bind' fun b=>?_) trivial
 cases b
 ·exact trivial
 ·refine AllM.bind ?_ _ name_all
  intro y hy
  refine ⟨by rw [h.1]; omega,?_⟩
  rw [tl_bs,List.length_append,List.length_cons]
  omega
theorem sim_path (n:Nat):Sim (F152 n) (M.path n):=by
 unfold F152 M.path
 refine sim_bind _ name_all sim_name fun x hx=>?_
 refine sim_eta (f:=iterP (σ:=ByteArray × Int) (ρ:=ByteArray) (ε:=Bad) (S:=RS) _ n (x,(0:Int))) ?_
 refine sim_iter (fun k s=>s.2 = (k:Int)∧(tl s.1).length≤17 * (k + 1)) (N:=n) (fun k x _ hi=>⟨?_,pathS_all k x hi⟩) n 0 (x,0) (by omega) ⟨rfl,by simp only; omega⟩
 unfold M.pathS
 cases hc:decide (x.2 < 2)
 ·exact sim_ret _
 ·have hk:x.2 < 2:=by simpa using hc
  refine sim_bind' (sim_accept _) fun b=>?_
  cases b
  ·exact sim_ret _
  ·refine sim_bind _ name_all sim_name fun y hy=>?_
   refine sim_opt (v:=bs ([46] ++ tl y)) ?_ (sim_opt (v:=bs (tl x.1 ++ 46 :: tl y)) ?_ ?_)
   ·unfold catS
    rw [if_pos (by rw [size_tl,size_tl,tl_bs]; simp only [List.length_cons,List.length_nil]; omega)]
    rfl
   ·unfold catS
    rw [if_pos (by rw [size_tl,size_tl,tl_bs]; simp only [List.length_append,List.length_cons,List.length_nil]; omega)]
    rfl
   ·rw [w64_id (by omega) (by omega)]
    exact sim_ret _
theorem level_le (s:ByteArray):0≤levelI s∧levelI s≤10:=by
 unfold levelI
 simp only [cond_eq_ite]
 repeat' split
 all_goals omega
theorem sim_right {fB:Int→RS→Option ((Node ⊕ Bad) × RS)} {mB:Int→M Node} (hB:∀ a,Sim (fB a) (mB a)) (l:Int) (h0:0≤l) (h1:l≤10) :
  Sim (fun s=>(bif l == 2 then
     (pbind (fB l s) fun x13 s15 =>
     some (.inl (w64 (l - 1),x13),s15))
    else
     (bif l == 5 then
      (pbind (fB (w64 (l + 1)) s) fun x17 s19 =>
      some (.inl (w64 (l - 1),x17),s19))
     else
      (pbind (fB (w64 (l + 1)) s) fun x20 s22 =>
      some (.inl (l,x20),s22))):Option ((((Int × Node)) ⊕ Bad) × RS))) (M.rightS mB l):=by
 rw [w64_id (x:=l - 1) (by omega) (by omega),w64_id (x:=l + 1) (by omega) (by omega)]
 unfold M.rightS
 exact sim_cond (sim_bind' (hB _) fun _=>sim_ret _) (sim_cond (sim_bind' (hB _) fun _=>sim_ret _) (sim_bind' (hB _) fun _=>sim_ret _))
theorem sim_ref {fE:RS→Option ((Node ⊕ Bad) × RS)} {mE:M Node} (hE:Sim fE mE) (n:Nat) (a b d:RS→Option ((Node ⊕ Bad) × RS)) (c:Int→RS→Option ((Node ⊕ Bad) × RS)):Sim (F223_step a b c d fE n) (M.refS mE n):=by
 unfold F223_step M.refS
 exact sim_pos fun p=>sim_bind' (sim_path n) fun x=>sim_kw (sim_bind' hE fun e=>sim_bind' (sim_expect _) fun _=>sim_ret _) (sim_ret _)
theorem sim_unary {fR fU fE:RS→Option ((Node ⊕ Bad) × RS)} {mR mU mE:M Node} (hR:Sim fR mR) (hU:Sim fU mU) (hE:Sim fE mE) (n:Nat) (d:RS→Option ((Node ⊕ Bad) × RS)) (c:Int→RS→Option ((Node ⊕ Bad) × RS)):Sim (F199_step fR fU c d fE n) (M.unaryS mR mU mE):=by
 unfold F199_step M.unaryS
 refine sim_pos fun p=>sim_kw (sim_bind' hU fun e=>sim_ret _) ?_
 refine sim_kind fun t=>sim_cond (sim_eta sim_numNode) ?_
 exact sim_kw (sim_bind' (sim_expect _) fun _=>sim_bind' hR fun e=>sim_bind' (sim_expect _) fun _=>sim_ret _)
  (sim_kw (sim_bind' hE fun e=>sim_bind' (sim_expect _) fun _=>sim_ret _) (sim_eta hR))
theorem sim_bin {fU:RS→Option ((Node ⊕ Bad) × RS)} {fB:Int→RS→Option ((Node ⊕ Bad) × RS)} {mU:M Node} {mB:Int→M Node} (hU:Sim fU mU) (hB:∀ a,Sim (fB a) (mB a)) (n:Nat) (l:Int) (a d e:RS→Option ((Node ⊕ Bad) × RS)):Sim (F167_step a fU fB d e n l) (M.binS mU mB n l):=by
 unfold F167_step M.binS
 refine sim_bind' hU fun x=>sim_eta (f:=iterP (σ:=Int × Node) (ρ:=Node) (ε:=Bad) (S:=RS) _ n ((10:Int),x)) ?_
 refine sim_iter' (fun s=>?_) n (10,x)
 intro T fin st hT hok hs
 simp only [F101_mk hs,F91_mk hs,F156_eq,Option.bind_some,M.binStep,M.run]
 cases hc:((levelI (textO (hdOf st.rest)) == 0) || decide (levelI (textO (hdOf st.rest)) < l)) || decide (s.1 < levelI (textO (hdOf st.rest)))
 ·obtain ⟨r,i,p⟩:=st
  cases r with
  | nil =>
   have:levelI (textO (hdOf [])) = 0:=by rfl
   simp only [this] at hc
   cases hc
  | cons t r =>
   have hl:=level_le (textO (hdOf (t :: r)))
   have H:=sim_bind' (sim_right hB (levelI (textO (hdOf (t :: r)))) hl.1 hl.2) (g:=fun j js=>some (.inl (.inl (j.1,Node.mk 5 (textO (hdOf (t :: r))) (bs []) 0 0 0 false [s.2,j.2] (posOf fin (t :: r))):(Int × Node) ⊕ Node),js)) (k:=fun j=>.ret (.inl (j.1,Node.mk 5 (textO (hdOf (t :: r))) (bs []) 0 0 0 false [s.2,j.2] (posOf fin (t :: r))):(Int × Node) ⊕ Node)) fun j=>sim_ret _
   have:=sim_adv (fin:=fin) (i:=i) (p:=p) H hT hok hs
   exact this
 ·rfl
theorem sim_cnd {fC:RS→Option ((Node ⊕ Bad) × RS)} {fB:Int→RS→Option ((Node ⊕ Bad) × RS)} {mC:M Node} {mB:Int→M Node} (hC:Sim fC mC) (hB:∀ a,Sim (fB a) (mB a)) (n:Nat) (a d e:RS→Option ((Node ⊕ Bad) × RS)):Sim (F102_step a d fB fC e n) (M.condS mB mC):=by
 unfold F102_step M.condS
 refine sim_bind' (hB _) fun x=>sim_pos fun p=>sim_bind' (sim_accept _) fun b=>sim_cond (sim_ret _) ?_
 exact sim_bind' hC fun y=>sim_bind' (sim_expect _) fun _=>sim_bind' hC fun z=>sim_ret _
theorem text_ne {l:List Token} {a:List UInt8} (ha:a≠[]) (h:strEq (textO (hdOf l)) (bs a) = true):l≠[]:=by
 rintro rfl
 simp only [hdOf,textO,strEq,bs] at h
 cases a with
 | nil=>exact ha rfl
 | cons b a=>simp at h
theorem sim_exp {fC fE:RS→Option ((Node ⊕ Bad) × RS)} {mC mE:M Node} (hC:Sim fC mC) (hE:Sim fE mE) (n:Nat) (a b:RS→Option ((Node ⊕ Bad) × RS)) (c:Int→RS→Option ((Node ⊕ Bad) × RS)):Sim (F67_step a b c fC fE n) (M.exprS mC mE):=by
 intro T fin s hT hok hs
 have hq:∀ (k p:Int),Sim (fun s=>pbind (F92 s) fun x11 s13 =>
  pbind (F93 (bs [60]) s13) fun _ s16 =>
  pbind (F103 s16) fun x17 s19 =>
  pbind (F93 (bs [58]) s19) fun _ s22 =>
  pbind (fE s22) fun x23 s25 =>
  some (.inl (Node.mk k x11 (bs []) x17 0 0 false ([x23]:List Node) p),s25)) (M.name.bind fun x=>(M.expect (bs [60])).bind fun _ =>
 M.num.bind fun v=>(M.expect (bs [58])).bind fun _=>mE.bind fun e=>.ret (Node.mk k x (bs []) v 0 0 false [e] p)):=fun k p =>
  sim_bind' sim_name fun x=>sim_bind' (sim_expect _) fun _=>sim_bind' sim_num fun v=>sim_bind' (sim_expect _) fun _=>sim_bind' hE fun e=>sim_ret _
 have hqq:∀ (k:Int),s.rest≠[]→(F91 (mkS T fin s)).bind (fun x9 =>
  pbind (F92 ((mkS T fin s).setNext (w64 ((mkS T fin s).next + 1)))) fun x11 s13 =>
  pbind (F93 (bs [60]) s13) fun _ s16 =>
  pbind (F103 s16) fun x17 s19 =>
  pbind (F93 (bs [58]) s19) fun _ s22 =>
  pbind (fE s22) fun x23 s25 =>
  some (.inl (Node.mk k x11 (bs []) x17 0 0 false ([x23]:List Node) x9),s25)) = toO T fin ((M.quant mE k).run fin s):=by
  intro k hne
  rw [F91_mk hs]
  obtain ⟨r,i,p⟩:=s
  cases r with
  | nil=>exact absurd rfl hne
  | cons t r=>exact sim_adv (fin:=fin) (i:=i) (p:=p) (hq k t.pos) hT hok hs
 unfold F67_step M.exprS
 simp only [F101_mk hs,Option.bind_some,M.run]
 cases h1:strEq (textO (hdOf s.rest)) (bs [97,108,108])
 ·cases h2:strEq (textO (hdOf s.rest)) (bs [115,111,109,101])
  ·simp only [cond_false]
   have:=sim_eta hC T fin s hT hok hs
   simp only at this
   rw [← this]
   cases fC (mkS T fin s) with
   | none=>rfl
   | some y=>obtain ⟨y,st⟩:=y; cases y <;> rfl
  ·exact hqq 8 (text_ne (by simp) h2)
 ·exact hqq 7 (text_ne (by simp) h1)
theorem sim_exprs:∀ n,Sim (F223 n) (M.ref n)∧Sim (F199 n) (M.unary n)∧(∀ a,Sim (F167 n a) (M.bin n a))∧Sim (F102 n) (M.cond n)∧Sim (F67 n) (M.expr n)
 | 0=>⟨fun _ _ _ _ _ _=>by rw [F223]; rfl,fun _ _ _ _ _ _=>by rw [F199]; rfl,fun _ _ _ _ _ _ _=>by rw [F167]; rfl,fun _ _ _ _ _ _=>by rw [F102]; rfl,fun _ _ _ _ _ _=>by rw [F67]; rfl⟩
 | n + 1=>by
  obtain ⟨h1,h2,h3,h4,h5⟩:=sim_exprs n
  refine ⟨?_,?_,fun a=>?_,?_,?_⟩
  ·have:F223 (n + 1) = F223_step (F223 n) (F199 n) (F167 n) (F102 n) (F67 n) n:=by funext s; rw [F223]
   rw [this]; exact sim_ref h5 n _ _ _ _
  ·have:F199 (n + 1) = F199_step (F223 n) (F199 n) (F167 n) (F102 n) (F67 n) n:=by funext s; rw [F199]
   rw [this]; exact sim_unary h1 h2 h5 n _ _
  ·have:F167 (n + 1) a = F167_step (F223 n) (F199 n) (F167 n) (F102 n) (F67 n) n a:=by funext s; rw [F167]
   rw [this]; exact sim_bin h2 h3 n a _ _ _
  ·have:F102 (n + 1) = F102_step (F223 n) (F199 n) (F167 n) (F102 n) (F67 n) n:=by funext s; rw [F102]
   rw [this]; exact sim_cnd h4 h3 n _ _ _
  ·have:F67 (n + 1) = F67_step (F223 n) (F199 n) (F167 n) (F102 n) (F67 n) n:=by funext s; rw [F67]
   rw [this]; exact sim_exp h4 h5 n _ _ _
theorem sim_whole (n:Nat):Sim (F66 n) (M.whole n):=by
 unfold F66 M.whole
 refine sim_bind' (sim_exprs n).2.2.2.2 fun e=>?_
 intro T fin s hT hok hs
 simp only [mk_lt hs,F68_mk hs,M.run]
 cases s.rest <;> rfl
section
variable {f:RS→Option ((List Node ⊕ Bad) × RS)} {part:M (List Node)}
theorem app104 {l m:List Node} (h:l.length + m.length≤1000000000):appL 104 l m = some (l ++ m):=appL_some (by omega)
end
theorem code_ne (b:Bool) (l:List Token):(codeOf b l == 0) = false:=by cases l <;> cases b <;> rfl
end Go.Proofs.YtbecjgckobhmpaaGreatDoor
end
section
namespace Go.Proofs.YtbecjgckobhmpaaGreatDoor
open Go Go.AM Go.Proofs
section
variable {n:Nat} (hn:n≤100000000)
include hn
end
end Go.Proofs.YtbecjgckobhmpaaGreatDoor
end
section
namespace Go.Proofs.YtbecjgckobhmpaaGreatDoor
open Go Go.AM Go.Proofs
mutual
def mapN (f:Int→Int):Node→Node
 | ⟨k,nm,o,n,l,i,g,ks,p⟩=>⟨k,nm,o,n,l,i,g,mapNs f ks,f p⟩
def mapNs (f:Int→Int):List Node→List Node
 | []=>[]
 | x :: r=>mapN f x :: mapNs f r
end
theorem mapNs_eq (f:Int→Int):(l:List Node)→mapNs f l = l.map (mapN f)
 | []=>by simp [mapNs]
 | x :: r=>by simp [mapNs,mapNs_eq f r]
theorem mapN_eq (f:Int→Int) (x:Node):mapN f x = ⟨x.kind,x.name,x.other,x.n,x.len,x.init,x.ghost,x.kids.map (mapN f),f x.pos⟩:=by
 cases x; simp [mapN,mapNs_eq]
def mapT (f:Int→Int) (t:Token):Token:=⟨t.kind,t.text,f t.pos⟩
def mapP (f:Int→Int) (s:PS):PS:=⟨s.rest.map (mapT f),s.inner,s.reps.map fun r=>(r.1,f r.2)⟩
namespace M
variable {α β γ δ σ ρ σ' ρ':Type} {f:Int→Int}
def Nat' (f:Int→Int) (g:α→β):M α→M β→Prop
 | .ret a,m=>m = .ret (g a)
 | .fail b,m=>m = .fail b
 | .out,m=>m = .out
 | .look k,m=>∃ k',m = .look k'∧∀ t,Nat' f g (k t) (k' t)
 | .adv k,m=>∃ k',m = .adv k'∧Nat' f g k k'
 | .pos k,m=>∃ k',m = .pos k'∧∀ x,Nat' f g (k x) (k' (f x))
 | .setI i k,m=>∃ k',m = .setI i k'∧Nat' f g k k'
 | .getI k,m=>∃ k',m = .getI k'∧∀ x,Nat' f g (k x) (k' x)
 | .rep b k,m=>∃ k',m = .rep b k'∧Nat' f g k k'
def mapO (f:Int→Int) (g:α→β):Out α→Out β
 | .ok a s=>.ok (g a) (mapP f s)
 | .bad b s=>.bad b (mapP f s)
 | .out=>.out
theorem hd_map (l:List Token):hdOf (l.map (mapT f)) = hdOf l:=by cases l <;> rfl
theorem pos_map (fin:Int) (l:List Token):posOf (f fin) (l.map (mapT f)) = f (posOf fin l):=by cases l <;> rfl
theorem code_map (b:Bool) (l:List Token):codeOf b (l.map (mapT f)) = codeOf b l:=by cases l <;> rfl
theorem Nat'.run {g:α→β} (fin:Int):∀ (m:M α) (m':M β) (s:PS),Nat' f g m m'→m'.run (f fin) (mapP f s) = mapO f g (m.run fin s)
 | .ret a,_,s,rfl=>rfl
 | .fail b,_,s,rfl=>rfl
 | .out,_,s,rfl=>rfl
 | .look k,_,s,⟨k',rfl,h⟩=>by
  have:=Nat'.run fin (k (hdOf s.rest)) (k' (hdOf s.rest)) s (h _)
  simp only [M.run]
  rw [← this]
  simp only [mapP,hd_map]
 | .adv k,_,s,⟨k',rfl,h⟩=>by
  obtain ⟨r,i,p⟩:=s
  cases r with
  | nil=>rfl
  | cons t r=>exact Nat'.run fin k k' ⟨r,i,p⟩ h
 | .pos k,_,s,⟨k',rfl,h⟩=>by
  have:=Nat'.run fin (k (posOf fin s.rest)) (k' (f (posOf fin s.rest))) s (h _)
  simp only [M.run]
  rw [← this]
  simp only [mapP,pos_map]
 | .setI i k,_,s,⟨k',rfl,h⟩=>Nat'.run fin k k' ⟨s.rest,i,s.reps⟩ h
 | .getI k,_,s,⟨k',rfl,h⟩=>Nat'.run fin (k s.inner) (k' s.inner) s (h _)
 | .rep b k,_,s,⟨k',rfl,h⟩=>by
  have:=Nat'.run fin k k' ⟨s.rest,s.inner,s.reps ++ [(codeOf b s.rest,posOf fin s.rest)]⟩ h
  simp only [M.run]
  rw [← this]
  simp only [mapP,pos_map,code_map,List.map_append,List.map_cons,List.map_nil]
theorem nat_bind0 {g:α→β} {h:γ→δ} {k:α→M γ} {k':β→M δ} (hk:∀ a,Nat' f h (k a) (k' (g a))):∀ {m:M α} {m':M β},Nat' f g m m'→Nat' f h (m.bind k) (m'.bind k')
 | .ret a,_,rfl=>hk a
 | .fail b,_,rfl=>rfl
 | .out,_,rfl=>rfl
 | .look k,_,⟨k',e,h⟩=>by subst e; exact ⟨_,rfl,fun t=>nat_bind0 hk (h t)⟩
 | .adv k,_,⟨k',e,h⟩=>by subst e; exact ⟨_,rfl,nat_bind0 hk h⟩
 | .pos k,_,⟨k',e,h⟩=>by subst e; exact ⟨_,rfl,fun t=>nat_bind0 hk (h t)⟩
 | .setI i k,_,⟨k',e,h⟩=>by subst e; exact ⟨_,rfl,nat_bind0 hk h⟩
 | .getI k,_,⟨k',e,h⟩=>by subst e; exact ⟨_,rfl,fun t=>nat_bind0 hk (h t)⟩
 | .rep b k,_,⟨k',e,h⟩=>by subst e; exact ⟨_,rfl,nat_bind0 hk h⟩
theorem nat_bind {g:α→β} {h:γ→δ} {k:α→M γ} {k':β→M δ} {m:M α} {m':M β} (hk:∀ a,Nat' f h (k a) (k' (g a))) (hm:Nat' f g m m'):Nat' f h (m.bind k) (m'.bind k'):=nat_bind0 hk hm
theorem nat_ret {g:α→β} {a:α} {b:β} (h:b = g a):Nat' f g (.ret a) (.ret b):=by rw [h]; rfl
theorem nat_look {g:α→β} {k:Option (Int × ByteArray)→M α} {k':Option (Int × ByteArray)→M β} (h:∀ t,Nat' f g (k t) (k' t)):Nat' f g (.look k) (.look k'):=⟨k',rfl,h⟩
theorem nat_pos {g:α→β} {k:Int→M α} {k':Int→M β} (h:∀ x,Nat' f g (k x) (k' (f x))):Nat' f g (.pos k) (.pos k'):=⟨k',rfl,h⟩
theorem nat_adv {g:α→β} {k:M α} {k':M β} (h:Nat' f g k k'):Nat' f g (.adv k) (.adv k'):=⟨k',rfl,h⟩
theorem nat_fail {g:α→β} {b:Bool}:Nat' f g (.fail b) (.fail b):=rfl
theorem nat_cond {g:α→β} {c:Bool} {a b:M α} {a' b':M β} (h1:Nat' f g a a') (h2:Nat' f g b b'):Nat' f g (bif c then a else b) (bif c then a' else b'):=by cases c <;> assumption
theorem nat_iter0 {gs:σ→σ'} {gr:ρ→ρ'} {step:σ→M (σ ⊕ ρ)} {step':σ'→M (σ' ⊕ ρ')} (h:∀ x,Nat' f (Sum.map gs gr) (step x) (step' (gs x))):∀ (n:Nat) (x:σ),Nat' f gr (iterM step n x) (iterM step' n (gs x))
 | 0,_=>rfl
 | n + 1,x=>nat_bind (fun r=>by
   cases r with
   | inl x'=>exact nat_iter0 h n x'
   | inr r=>exact rfl) (h x)
theorem nat_iter {gs:σ→σ'} {gr:ρ→ρ'} {step:σ→M (σ ⊕ ρ)} {step':σ'→M (σ' ⊕ ρ')} {n:Nat} {x:σ} (h:∀ x,Nat' f (Sum.map gs gr) (step x) (step' (gs x))):Nat' f gr (iterM step n x) (iterM step' n (gs x)):=nat_iter0 h n x
def Blank:M α→Prop
 | .ret _=>True
 | .fail _=>True
 | .out=>True
 | .look k=>∀ t,Blank (k t)
 | .adv k=>Blank k
 | .pos _=>False
 | .setI _ k=>Blank k
 | .getI k=>∀ x,Blank (k x)
 | .rep _ k=>Blank k
theorem Blank.nat:∀ {m:M α},Blank m→Nat' f id m m
 | .ret _,_=>rfl
 | .fail _,_=>rfl
 | .out,_=>rfl
 | .look _,h=>⟨_,rfl,fun t=>Blank.nat (h t)⟩
 | .adv _,h=>⟨_,rfl,Blank.nat h⟩
 | .pos _,h=>h.elim
 | .setI _ _,h=>⟨_,rfl,Blank.nat h⟩
 | .getI _,h=>⟨_,rfl,fun t=>Blank.nat (h t)⟩
 | .rep _ _,h=>⟨_,rfl,Blank.nat h⟩
theorem blank_bind0 {k:α→M β} (hk:∀ a,Blank (k a)):∀ {m:M α},Blank m→Blank (m.bind k)
 | .ret a,_=>hk a
 | .fail _,_=>trivial
 | .out,_=>trivial
 | .look _,h=>fun t=>blank_bind0 hk (h t)
 | .adv k,h=>blank_bind0 hk (m:=k) h
 | .pos _,h=>h.elim
 | .setI _ k,h=>blank_bind0 hk (m:=k) h
 | .getI _,h=>fun t=>blank_bind0 hk (h t)
 | .rep _ k,h=>blank_bind0 hk (m:=k) h
theorem blank_bind {k:α→M β} {m:M α} (hk:∀ a,Blank (k a)) (h:Blank m):Blank (m.bind k):=blank_bind0 hk h
theorem blank_cond {c:Bool} {a b:M α} (h1:Blank a) (h2:Blank b):Blank (bif c then a else b):=by cases c <;> assumption
theorem blank_iter0 {step:σ→M (σ ⊕ ρ)} (h:∀ x,Blank (step x)):∀ (n:Nat) (x:σ),Blank (iterM step n x)
 | 0,_=>trivial
 | n + 1,x=>blank_bind (fun r=>by
   cases r with
   | inl x'=>exact blank_iter0 h n x'
   | inr r=>trivial) (h x)
theorem blank_iter {step:σ→M (σ ⊕ ρ)} {n:Nat} {x:σ} (h:∀ x,Blank (step x)):Blank (iterM step n x):=blank_iter0 h n x
theorem blank_accept (a:ByteArray):Blank (accept a):=fun t=>by
 cases t with
 | none=>trivial
 | some t=>exact blank_cond (a:=.adv (.ret true)) trivial trivial
theorem blank_expect (a:ByteArray):Blank (expect a):=blank_bind (fun _=>blank_cond trivial trivial) (blank_accept a)
theorem blank_name:Blank name:=fun t=>by
 cases t with
 | none=>trivial
 | some t=>exact blank_cond (a:=.adv (.ret t.2)) trivial trivial
theorem blank_num:Blank num:=fun t=>by
 cases t with
 | none=>trivial
 | some t=>exact blank_cond (a:=.adv (.ret (numV t.2))) trivial trivial
theorem blank_path (n:Nat):Blank (path n):=blank_bind (fun _=>blank_iter (fun _=>blank_cond (blank_bind (fun _=>blank_cond trivial (blank_bind (fun _=>trivial) blank_name)) (blank_accept _)) trivial)) blank_name
theorem nat_accept {a:ByteArray}:Nat' f id (accept a) (accept a):=(blank_accept a).nat
theorem nat_expect {a:ByteArray}:Nat' f id (expect a) (expect a):=(blank_expect a).nat
theorem nat_name:Nat' f id name name:=blank_name.nat
theorem nat_num:Nat' f id num num:=blank_num.nat
theorem nat_path {n:Nat}:Nat' f id (path n) (path n):=(blank_path n).nat
theorem nat_kw {g:α→β} {a:ByteArray} {m m1:M α} {m' m1':M β} (h1:Nat' f g m m') (h2:Nat' f g m1 m1'):Nat' f g (kw a m m1) (kw a m' m1'):=nat_bind (fun _=>nat_cond h1 h2) nat_accept
theorem nat_numNode:Nat' f (mapN f) numNode numNode:=nat_pos fun _=>nat_bind (fun _=>nat_ret rfl) nat_num
theorem nat_refS {mE mE':M Node} (hE:Nat' f (mapN f) mE mE') (n:Nat):Nat' f (mapN f) (refS mE n) (refS mE' n) :=
 nat_pos fun _=>nat_bind (fun _=>nat_kw (nat_bind (fun _=>nat_bind (fun _=>nat_ret rfl) nat_expect) hE) (nat_ret rfl)) nat_path
theorem nat_exprs:∀ n,Nat' f (mapN f) (ref n) (ref n)∧Nat' f (mapN f) (unary n) (unary n)∧(∀ a,Nat' f (mapN f) (bin n a) (bin n a))∧Nat' f (mapN f) (cond n) (cond n)∧Nat' f (mapN f) (expr n) (expr n)
 | 0=>by
  refine ⟨?_,?_,fun a=>?_,?_,?_⟩
  ·rw [ref]; rfl
  ·rw [unary]; rfl
  ·rw [bin]; rfl
  ·rw [cond]; rfl
  ·rw [expr]; rfl
 | n + 1=>by
  obtain ⟨h1,h2,h3,h4,h5⟩:=nat_exprs n
  refine ⟨?_,?_,fun a=>?_,?_,?_⟩
  ·rw [ref]; exact nat_refS h5 n
  ·rw [unary]
   refine nat_pos fun p=>nat_kw (nat_bind (fun e=>nat_ret rfl) h2) (nat_look fun t=>nat_cond nat_numNode ?_)
   refine nat_kw (nat_bind (fun _=>nat_bind (fun e=>nat_bind (fun _=>nat_ret rfl) nat_expect) h1) nat_expect) ?_
   exact nat_kw (nat_bind (fun e=>nat_bind (fun _=>nat_ret rfl) nat_expect) h5) h1
  ·rw [bin]
   refine nat_bind (fun x=>nat_iter (gs:=fun s:Int × Node=>(s.1,mapN f s.2)) (gr:=mapN f) (fun s=>?_)) h2
   refine nat_look fun t=>nat_pos fun p=>nat_cond (nat_ret rfl) (nat_adv (nat_bind (g:=fun s:Int × Node=>(s.1,mapN f s.2)) (fun j=>nat_ret rfl) ?_))
   exact nat_cond (nat_bind (fun r=>nat_ret rfl) (h3 _)) (nat_cond (nat_bind (fun r=>nat_ret rfl) (h3 _)) (nat_bind (fun r=>nat_ret rfl) (h3 _)))
  ·rw [cond]
   refine nat_bind (fun x=>nat_pos fun p=>nat_bind (fun b=>nat_cond (nat_ret rfl) ?_) nat_accept) (h3 2)
   exact nat_bind (fun y=>nat_bind (fun _=>nat_bind (fun z=>nat_ret rfl) h4) nat_expect) h4
  ·rw [expr]
   have hq:∀ k,Nat' f (mapN f) (quant (expr n) k) (quant (expr n) k):=fun k =>
    nat_pos fun p=>nat_adv (nat_bind (fun x=>nat_bind (fun _=>nat_bind (fun v=>nat_bind (fun _=>nat_bind (fun e=>nat_ret rfl) h5) nat_expect) nat_num) nat_expect) nat_name)
   exact nat_look fun t=>nat_cond (hq 7) (nat_cond (hq 8) h4)
theorem nat_expr (n:Nat):Nat' f (mapN f) (expr n) (expr n):=(nat_exprs n).2.2.2.2
theorem nat_whole (n:Nat):Nat' f (mapN f) (whole n) (whole n):=nat_bind (fun _=>nat_look fun _=>nat_cond nat_fail (nat_ret rfl)) (nat_expr n)
end M
end Go.Proofs.YtbecjgckobhmpaaGreatDoor
end
section
namespace Go.Proofs.YtbecjgckobhmpaaGreatDoor
open Go Go.AM Go.Proofs
set_option maxRecDepth 100000
set_option maxHeartbeats 4000000
def F41_step (F41:Node→Int→Bool→Option Node) (n:Nat) (a0:Node) (a1:Int) (a2:Bool):Option Node :=
 (bif !a2 then
   (some (Node.mk a0.kind a0.name a0.other a0.n a0.len a0.init a0.ghost a0.kids (w64 (a0.pos + a1))))
  else
   (some a0):Option (Node)).bind fun j4 =>
 (iter (σ:=Int × Node) (ρ:=Node) (fun s5=>bif decide (s5.1 < (a0.kids.length:Int)) then
   ((idxL a0.kids s5.1).bind fun x7 =>
   (F41 x7 a1 false).bind fun x8 =>
   (appL 104 s5.2.kids ([x8]:List Node)).bind fun x9 =>
   some (.inl (w64 (s5.1 + 1),(Node.mk s5.2.kind s5.2.name s5.2.other s5.2.n s5.2.len s5.2.init s5.2.ghost x9 s5.2.pos))))
  else
   (some (.inr s5.2))) n ((0:Int),(Node.mk j4.kind j4.name j4.other j4.n j4.len j4.init j4.ghost ([]:List Node) j4.pos))).bind fun r11 =>
 some r11
def F41:Nat→Node→Int→Bool→Option Node
 | 0,_,_,_=>none
 | n + 1,a0,a1,a2=>F41_step (F41 n) n a0 a1 a2
end Go.Proofs.YtbecjgckobhmpaaGreatDoor
end
section
namespace Go.Proofs.YtbecjgckobhmpaaGreatDoor
open Go Go.AM Go.Proofs
theorem ktake {l:List Node}:∀ {k:Nat} {x:Node},l[k]? = some x→szs (l.take k) + sz x≤szs l∧szs (l.take (k + 1)) = szs (l.take k) + sz x:=by
 induction l with
 | nil=>intro k x h; simp at h
 | cons y r ih =>
  intro k x h
  cases k with
  | zero =>
   simp only [List.getElem?_cons_zero,Option.some.injEq] at h
   subst h
   simp [szs]
  | succ k =>
   have:=ih (k:=k) (x:=x) (by simpa using h)
   simp only [List.take_succ_cons,szs] at this ⊢
   omega
theorem take_mem {l:List Node} {k:Nat} {y z:Node} (hy:l[k]? = some y) (hz:z ∈ l.take (k + 1)):z ∈ l.take k∨z = y:=by
 rw [List.take_add_one,hy] at hz
 simpa using hz
mutual
def dep:Node→Nat
 | ⟨_,_,_,_,_,_,_,ks,_⟩=>1 + deps ks
def deps:List Node→Nat
 | []=>0
 | x :: r=>max (dep x) (deps r)
end
theorem dep_eq (x:Node):dep x = 1 + deps x.kids:=by cases x; rfl
theorem deps_le:∀ (l:List Node) (B:Nat),deps l≤B ↔ ∀ y ∈ l,dep y≤B
 | [],B=>by simp [deps]
 | x :: r,B=>by
  simp only [deps,List.mem_cons,forall_eq_or_imp,← deps_le r B]
  omega
theorem dep_pos (x:Node):1≤dep x:=by rw [dep_eq]; omega
theorem dep_mem {x y:Node} (h:y ∈ x.kids):dep y + 1≤dep x:=by
 have:=(deps_le x.kids (deps x.kids)).1 (Nat.le_refl _) y h
 rw [dep_eq x]
 omega
def smallP (x:Node):Prop:=sz x≤1500∧dep x≤40
instance (x:Node):Decidable (smallP x):=inferInstanceAs (Decidable (_∧_))
theorem G96:∀ (m:Nat) (x:Node),sz x≤m→sz x≤100000→∀ (d c:Nat),c≤1500→d≤100→∀ n,2000 + sz x≤n →
  T (F96 n x (d:Int) (c:Int)) (fun r=>r.1 = decide (c + sz x≤1500∧d + dep x≤41)∧(r.1 = true→r.2 = ((c + sz x:Nat):Int))):=by
 intro m
 induction m with
 | zero=>intro x hx; have:=sz_pos x; omega
 | succ m ih =>
  intro x hx hx2 d c hc hd n hn
  obtain ⟨n,rfl⟩:∃ k,n = k + 1:=⟨n - 1,by omega⟩
  have hsz:=sz_eq x
  have hdp:=dep_eq x
  have hlen:=szs_len x.kids
  have hpos:=sz_pos x
  show T (F96_step (F96 n) n x (d:Int) (c:Int)) _
  unfold F96_step
  have e1:w64 ((c:Int) + 1) = ((c + 1:Nat):Int):=w64_nat (by omega)
  rw [e1]
  by_cases hb:1500 < c + 1∨40 < d
  ·have c1:(decide ((1500:Int) < ((c + 1:Nat):Int)) || decide ((40:Int) < (d:Int))) = true:=by simp; omega
   rw [c1]
   refine T.some ⟨?_,fun h=>by simp at h⟩
   have:=dep_pos x
   have hno:¬ (c + sz x≤1500∧d + dep x≤41):=by omega
   simp [hno]
  ·have c1:(decide ((1500:Int) < ((c + 1:Nat):Int)) || decide ((40:Int) < (d:Int))) = false:=by simp; omega
   rw [c1]
   simp only [cond_false]
   refine T.bind (P:=fun r=>match r with | .inl _=>¬ (c + sz x≤1500∧d + dep x≤41) | .inr v=>(c + sz x≤1500∧d + dep x≤41)∧v = ((c + sz x:Nat):Int)) ?_ (fun r h=>by
    cases r with
    | inl v=>exact T.some ⟨(decide_eq_false h).symm,fun h=>by simp at h⟩
    | inr v=>exact T.some ⟨(decide_eq_true h.1).symm,fun _=>h.2⟩)
   refine iter_inv x.kids (fun (k:Nat) (a:Nat)=>((k:Int),(a:Int))) (fun k a=>a = c + 1 + szs (x.kids.take k)∧a≤1500∧∀ y ∈ x.kids.take k,d + 1 + dep y≤41) _ (fun k a y hy ha=>?_) (fun a ha=>?_) n (c + 1) (by omega) ⟨by simp [szs],by omega,by simp⟩
   ·have hlt:=lt_of_get hy
    have hm:=List.mem_of_getElem? hy
    have hys:=szs_mem x.kids y hm
    have htk:=ktake hy
    have hdm:=dep_mem hm
    have c2:decide ((k:Int) < (x.kids.length:Int)) = true:=by simpa using hlt
    obtain ⟨r,hr,hr1,hr2⟩:=ih y (by omega) (by omega) (d + 1) a ha.2.1 (by omega) n (by omega)
    simp only [c2,cond_true,idxL_some hy,Option.bind_some,w64_nat (k:=d) (by omega),hr,w64_nat (k:=k) (by omega)]
    cases hb:r.1
    ·right
     refine ⟨_,rfl,?_⟩
     rw [hb] at hr1
     have hr1':¬ (a + sz y≤1500∧d + 1 + dep y≤41):=by
      intro h
      rw [decide_eq_true h] at hr1
      cases hr1
     show ¬ (c + sz x≤1500∧d + dep x≤41)
     omega
    ·rw [hb] at hr1
     have hr1':a + sz y≤1500∧d + 1 + dep y≤41:=of_decide_eq_true hr1.symm
     left
     refine ⟨a + sz y,?_,?_,hr1'.1,?_⟩
     ·simp only [Bool.not_true,cond_false]
      rw [hr2 hb]
     ·rw [htk.2]; omega
     ·intro z hz
      rcases take_mem hy hz with hz | rfl
      ·exact ha.2.2 z hz
      ·exact hr1'.2
   ·have c2:decide ((x.kids.length:Int) < (x.kids.length:Int)) = false:=by simp
    simp only [c2,cond_false]
    have h1:=ha.1
    rw [List.take_length] at h1
    refine ⟨_,rfl,⟨by omega,?_⟩,?_⟩
    ·have:deps x.kids≤40 - d:=(deps_le _ _).2 (fun y hy=>by have:=ha.2.2 y (by simpa using hy); omega)
     omega
    ·rw [h1]
     congr 1
     omega
theorem G59 (x:Node) (hs:sz x≤100000) {n:Nat} (hn:2000 + sz x≤n):F59 n x = some (decide (smallP x)):=by
 obtain ⟨r,hr,h1,_⟩:=G96 (sz x) x (Nat.le_refl _) hs 1 0 (by omega) (by omega) n hn
 unfold F59
 erw [hr]
 simp only [Option.bind_some,h1]
 congr 1
 rw [decide_eq_decide]
 unfold smallP
 omega
theorem G61:∀ (m:Nat) (x:Node),sz x≤m→sz x≤100000→∀ (lim D:Nat),lim≤1500→D≤100→∀ n,2000 + sz x≤n →
  T (F61 n x (lim:Int) (D:Int)) (fun r=>∃ v:Nat,r.1 = (v:Int)∧1≤v∧v≤sz x∧(r.2 = false→¬ dep x≤D)∧(r.2 = true→v≤lim→v = sz x∧dep x≤D)):=by
 intro m
 induction m with
 | zero=>intro x hx; have:=sz_pos x; omega
 | succ m ih =>
  intro x hx hx2 lim D hl hD n hn
  obtain ⟨n,rfl⟩:∃ k,n = k + 1:=⟨n - 1,by omega⟩
  have hsz:=sz_eq x
  have hdp:=dep_eq x
  have hlen:=szs_len x.kids
  have hpos:=sz_pos x
  have hdpos:=dep_pos x
  show T (F61_step (F61 n) n x (lim:Int) (D:Int)) _
  unfold F61_step
  refine T.cond (fun hc=>T.some ⟨1,rfl,by omega,by omega,fun _=>?_,fun h=>by simp at h⟩) (fun hc=>?_)
  ·have hc:D = 0:=by simp at hc; omega
   omega
  have hc:1≤D:=by simp at hc; omega
  refine T.bind (P:=fun r=>match r with | .inl u=>(∃ v:Nat,u = (v:Int)∧1≤v∧v≤sz x)∧¬ (dep x≤D) | .inr u=>∃ v:Nat,u = (v:Int)∧1≤v∧v≤sz x∧(v≤lim→v = sz x∧dep x≤D)) ?_ (fun r h=>by
   cases r with
   | inl u=>obtain ⟨⟨v,h1,h2,h3⟩,h4⟩:=h; exact T.some ⟨v,h1,h2,h3,fun _=>h4,fun h=>by simp at h⟩
   | inr u=>obtain ⟨v,h1,h2,h3,h4⟩:=h; exact T.some ⟨v,h1,h2,h3,fun h=>by simp at h,fun _=>h4⟩)
  refine iter_inv x.kids (fun (k:Nat) (a:Nat)=>((a:Int),(k:Int))) (fun k a=>1≤a∧a≤1 + szs (x.kids.take k)∧(a≤lim→a = 1 + szs (x.kids.take k)∧∀ y ∈ x.kids.take k,dep y + 1≤D)) _ (fun k a y hy ha=>?_) (fun a ha=>?_) n 1 (by omega) ⟨by omega,by omega,fun _=>⟨by simp [szs],by simp⟩⟩
  ·have hlt:=lt_of_get hy
   have hm:=List.mem_of_getElem? hy
   have hys:=szs_mem x.kids y hm
   have htk:=ktake hy
   have hdm:=dep_mem hm
   by_cases hal:a≤lim
   ·have c2:(decide ((k:Int) < (x.kids.length:Int)) && decide ((a:Int)≤(lim:Int))) = true:=by simp; omega
    have e1:w64 ((lim:Int) - (a:Int)) = ((lim - a:Nat):Int):=by rw [w64_id (by omega) (by omega)]; omega
    have e2:w64 ((D:Int) - 1) = ((D - 1:Nat):Int):=by rw [w64_id (by omega) (by omega)]; omega
    obtain ⟨r,hr,v,hv,hv1,hv2,hr1,hr2⟩:=ih y (by omega) (by omega) (lim - a) (D - 1) (by omega) (by omega) n (by omega)
    simp only [c2,cond_true,idxL_some hy,Option.bind_some,e1,e2,hr,w64_nat (k:=k) (by omega)]
    cases hb:r.2
    ·right
     refine ⟨_,rfl,⟨a,rfl,by omega,by omega⟩,?_⟩
     have:=hr1 hb
     omega
    ·left
     have e3:w64 ((a:Int) + r.1) = ((a + v:Nat):Int):=by rw [hv,w64_id (by omega) (by omega)]; omega
     refine ⟨a + v,by simp only [Bool.not_true,cond_false,e3],by omega,by omega,fun hle=>?_⟩
     obtain ⟨h5,h6⟩:=hr2 hb (by omega)
     have h7:=ha.2.2 hal
     refine ⟨by omega,fun z hz=>?_⟩
     rcases take_mem hy hz with hz | rfl
     ·exact h7.2 z hz
     ·omega
   ·right
    have c2:(decide ((k:Int) < (x.kids.length:Int)) && decide ((a:Int)≤(lim:Int))) = false:=by simp; omega
    simp only [c2,cond_false]
    have:=ktake hy
    exact ⟨_,rfl,a,rfl,ha.1,by omega,fun h=>absurd h hal⟩
  ·have c2:(decide ((x.kids.length:Int) < (x.kids.length:Int)) && decide ((a:Int)≤(lim:Int))) = false:=by simp
   simp only [c2,cond_false]
   have h1:=ha.2
   rw [List.take_length] at h1
   refine ⟨_,rfl,a,rfl,ha.1,by omega,fun hle=>?_⟩
   have h2:=h1.2 hle
   refine ⟨by omega,?_⟩
   have:deps x.kids≤D - 1:=(deps_le _ _).2 (fun y hy=>by have:=h2.2 y hy; omega)
   omega
theorem G27 (x:Node) (hs:sz x≤100000) {n:Nat} (hn:2000 + sz x≤n):F27 n x = some (decide (smallP x)):=by
 obtain ⟨r,hr,v,hv,h1,h2,h3,h4⟩:=G61 (sz x) x (Nat.le_refl _) hs 1500 40 (by omega) (by omega) n hn
 unfold F27
 erw [hr]
 simp only [Option.bind_some]
 congr 1
 have hsm:smallP x ↔ sz x≤1500∧dep x≤40:=Iff.rfl
 cases hb:r.2
 ·have:=h3 hb
  rw [Bool.false_and]
  exact (decide_eq_false (fun h=>by rw [hsm] at h; omega)).symm
 ·rw [Bool.true_and,hv]
  refine decide_eq_decide.2 ?_
  rw [hsm]
  constructor
  ·intro h
   have:=h4 hb (by omega)
   omega
  ·intro h
   omega
theorem G60:∀ (m:Nat) (x:Node),sz x≤m→sz x≤100000→∀ (lim:Nat),lim≤10000→∀ n,2000 + sz x≤n →
  T (F60 n x (lim:Int)) (fun r=>∃ v:Nat,r = (v:Int)∧1≤v∧v≤sz x∧(v≤lim→v = sz x)):=by
 intro m
 induction m with
 | zero=>intro x hx; have:=sz_pos x; omega
 | succ m ih =>
  intro x hx hx2 lim hl n hn
  obtain ⟨n,rfl⟩:∃ k,n = k + 1:=⟨n - 1,by omega⟩
  have hsz:=sz_eq x
  have hlen:=szs_len x.kids
  have hpos:=sz_pos x
  show T (F60_step (F60 n) n x (lim:Int)) _
  unfold F60_step
  refine T.bind (P:=fun r=>∃ v:Nat,r = (v:Int)∧1≤v∧v≤sz x∧(v≤lim→v = sz x)) ?_ (fun r h=>T.some h)
  refine iter_inv x.kids (fun (k:Nat) (a:Nat)=>((a:Int),(k:Int))) (fun k a=>1≤a∧a≤1 + szs (x.kids.take k)∧(a≤lim→a = 1 + szs (x.kids.take k))) _ (fun k a y hy ha=>?_) (fun a ha=>?_) n 1 (by omega) ⟨by omega,by omega,fun _=>by simp [szs]⟩
  ·have hlt:=lt_of_get hy
   have hm:=List.mem_of_getElem? hy
   have hys:=szs_mem x.kids y hm
   have htk:=ktake hy
   by_cases hal:a≤lim
   ·have c2:(decide ((k:Int) < (x.kids.length:Int)) && decide ((a:Int)≤(lim:Int))) = true:=by simp; omega
    have e1:w64 ((lim:Int) - (a:Int)) = ((lim - a:Nat):Int):=by rw [w64_id (by omega) (by omega)]; omega
    obtain ⟨r,hr,v,hv,hv1,hv2,hr2⟩:=ih y (by omega) (by omega) (lim - a) (by omega) n (by omega)
    simp only [c2,cond_true,idxL_some hy,Option.bind_some,e1,hr,w64_nat (k:=k) (by omega)]
    left
    have e3:w64 ((a:Int) + r) = ((a + v:Nat):Int):=by rw [hv,w64_id (by omega) (by omega)]; omega
    refine ⟨a + v,by rw [e3],by omega,by omega,fun hle=>?_⟩
    have h5:=hr2 (by omega)
    have h7:=ha.2.2 hal
    omega
   ·right
    have c2:(decide ((k:Int) < (x.kids.length:Int)) && decide ((a:Int)≤(lim:Int))) = false:=by simp; omega
    simp only [c2,cond_false]
    exact ⟨_,rfl,a,rfl,ha.1,by omega,fun h=>absurd h hal⟩
  ·have c2:(decide ((x.kids.length:Int) < (x.kids.length:Int)) && decide ((a:Int)≤(lim:Int))) = false:=by simp
   simp only [c2,cond_false]
   have h1:=ha.2
   rw [List.take_length] at h1
   exact ⟨_,rfl,a,rfl,ha.1,by omega,fun hle=>by have h2:=h1.2 hle; omega⟩
theorem G26 (x:Node) (hs:sz x≤100000) {lim:Nat} (hl:lim≤10000) {n:Nat} (hn:2000 + sz x≤n):F26 n x (lim:Int) = some (decide (sz x≤lim)):=by
 obtain ⟨r,hr,v,rfl,h1,h2,h3⟩:=G60 (sz x) x (Nat.le_refl _) hs lim hl n hn
 unfold F26
 erw [hr]
 simp only [Option.bind_some]
 congr 1
 rw [decide_eq_decide]
 constructor
 ·intro h
  have:=h3 (by omega)
  omega
 ·intro h
  omega
theorem strEq_iff {a b:ByteArray}:strEq a b = true ↔ a = b:=by
 constructor
 ·intro h
  have h':tl a = tl b:=by simpa [strEq,tl] using h
  have:=congrArg bs h'
  rwa [bs_tl,bs_tl] at this
 ·rintro rfl
  exact strEq_self a
theorem G30:∀ (m:Nat) (x y:Node),sz x≤m→sz x≤100000→∀ n,2000 + sz x≤n→T (F30 n x y) (fun r=>r = true ↔ x = y):=by
 intro m
 induction m with
 | zero=>intro x y hx; have:=sz_pos x; omega
 | succ m ih =>
  intro x y hx hx2 n hn
  obtain ⟨n,rfl⟩:∃ k,n = k + 1:=⟨n - 1,by omega⟩
  have hsz:=sz_eq x
  have hlen:=szs_len x.kids
  show T (F30_step (F30 n) n x y) _
  unfold F30_step
  refine T.cond (fun hc=>T.some ?_) (fun hc=>?_)
  ·constructor
   ·intro h; cases h
   ·rintro rfl
    simp [strEq_self] at hc
  simp only [Bool.or_eq_false_iff,bne_eq_false_iff_eq,Bool.not_eq_false',beq_iff_eq,strEq_iff] at hc
  obtain ⟨⟨⟨⟨⟨⟨⟨h1,h2⟩,h3⟩,h4⟩,h5⟩,h6⟩,h7⟩,h8⟩:=hc
  have hxy:x = y ↔ x.kids = y.kids:=by
   cases x; cases y
   simp only at h1 h2 h3 h4 h5 h6 h7 h8
   subst h1 h2 h3 h4 h5 h6 h7 h8
   simp
  rw [hxy]
  refine T.cond (fun hc=>T.some ?_) (fun hc=>?_)
  ·constructor
   ·intro h; cases h
   ·intro h
    rw [h] at hc
    simp at hc
  have hl:x.kids.length = y.kids.length:=by simp at hc; omega
  refine T.bind (P:=fun r=>match r with | .inl _=>x.kids≠y.kids | .inr _=>x.kids = y.kids) ?_ (fun r h=>by
   cases r with
   | inl v=>exact T.some ⟨fun h=>(by cases h),fun h'=>absurd h' h⟩
   | inr v=>exact T.some ⟨fun _=>h,fun _=>rfl⟩)
  refine iter_inv x.kids (fun (k:Nat) (_:Unit)=>(k:Int)) (fun k _=>x.kids.take k = y.kids.take k) _ (fun k a z hz ha=>?_) (fun a ha=>?_) n () (by omega) (by simp)
  ·have hlt:=lt_of_get hz
   have hm:=List.mem_of_getElem? hz
   have hys:=szs_mem x.kids z hm
   have c2:decide ((k:Int) < (x.kids.length:Int)) = true:=by simpa using hlt
   obtain ⟨z2,hz2⟩:∃ z2,y.kids[k]? = some z2:=⟨y.kids[k]'(by omega),List.getElem?_eq_getElem (by omega)⟩
   obtain ⟨r,hr,hr1⟩:=ih z z2 (by omega) (by omega) n (by omega)
   simp only [c2,cond_true,idxL_some hz,idxL_some hz2,Option.bind_some,hr,w64_nat (k:=k) (by omega)]
   cases hb:r
   ·right
    refine ⟨_,rfl,fun h=>?_⟩
    rw [h,hz2] at hz
    have:z = z2:=by simpa using hz.symm
    rw [hr1.2 this] at hb
    cases hb
   ·left
    have:=hr1.1 hb
    subst this
    refine ⟨(),rfl,?_⟩
    rw [List.take_add_one,List.take_add_one,ha,hz,hz2]
  ·have c2:decide ((x.kids.length:Int) < (x.kids.length:Int)) = false:=by simp
   simp only [c2,cond_false]
   refine ⟨_,rfl,?_⟩
   show x.kids = y.kids
   rw [List.take_length,hl,List.take_length] at ha
   exact ha
theorem G30t {x y:Node} (h:x = y) (hs:sz x≤100000) {n:Nat} (hn:2000 + sz x≤n):F30 n x y = some true:=by
 obtain ⟨r,hr,h1⟩:=G30 (sz x) x y (Nat.le_refl _) hs n hn
 rw [hr,h1.2 h]
theorem sz_mapN (f:Int→Int):∀ (m:Nat) (x:Node),sz x≤m→sz (mapN f x) = sz x∧dep (mapN f x) = dep x:=by
 intro m
 induction m with
 | zero=>intro x hx; have:=sz_pos x; omega
 | succ m ih =>
  intro x hx
  have hl:∀ l:List Node,szs l≤m→szs (l.map (mapN f)) = szs l∧deps (l.map (mapN f)) = deps l:=by
   intro l
   induction l with
   | nil=>intro _; exact ⟨rfl,rfl⟩
   | cons y r ihl =>
    intro h
    simp only [szs] at h
    have:=sz_pos y
    have h1:=ih y (by omega)
    have h2:=ihl (by omega)
    simp only [List.map_cons,szs,deps]
    omega
  have hsz:=sz_eq x
  have:=hl x.kids (by omega)
  rw [mapN_eq,sz_eq,dep_eq,sz_eq x,dep_eq x]
  simp only
  omega
theorem mapN_small (f:Int→Int) (x:Node):smallP (mapN f x) ↔ smallP x:=by
 have:=sz_mapN f (sz x) x (Nat.le_refl _)
 unfold smallP
 omega
theorem Teq {α:Type} {o:Option α} {v:α} (h:T o (fun e=>e = v)):o = Option.some v:=by
 obtain ⟨r,hr,rfl⟩:=h
 exact hr
theorem G34:∀ (m:Nat) (x:Node),sz x≤m→sz x≤100000→∀ n,2000 + sz x≤n→F34 n x = some (mapN (fun _=>0) x):=by
 intro m
 induction m with
 | zero=>intro x hx; have:=sz_pos x; omega
 | succ m ih =>
  intro x hx hx2 n hn
  obtain ⟨n,rfl⟩:∃ k,n = k + 1:=⟨n - 1,by omega⟩
  have hsz:=sz_eq x
  have hlen:=szs_len x.kids
  show F34_step (F34 n) n x = _
  unfold F34_step
  refine Teq (T.bind (P:=fun r=>r = mapN (fun _=>0) x) ?_ fun r h=>T.some h)
  refine iter_inv x.kids (fun (k:Nat) (a:Node)=>((k:Int),a)) (fun k a=>a = Node.mk x.kind x.name x.other x.n x.len x.init x.ghost ((x.kids.take k).map (mapN fun _=>0)) 0) _ (fun k a y hy ha=>?_) (fun a ha=>?_) n (Node.mk x.kind x.name x.other x.n x.len x.init x.ghost ([]:List Node) 0) (by omega) (by simp)
  ·have hlt:=lt_of_get hy
   have hm:=List.mem_of_getElem? hy
   have hys:=szs_mem x.kids y hm
   have c2:decide ((k:Int) < (x.kids.length:Int)) = true:=by simpa using hlt
   subst ha
   left
   simp only [c2,cond_true,idxL_some hy,Option.bind_some,ih y (by omega) (by omega) n (by omega),w64_nat (k:=k) (by omega)]
   rw [app104 (by simp only [List.length_map,List.length_take,List.length_cons,List.length_nil]; omega)]
   refine ⟨_,rfl,?_⟩
   rw [List.take_add_one,hy]
   simp
  ·have c2:decide ((x.kids.length:Int) < (x.kids.length:Int)) = false:=by simp
   simp only [c2,cond_false]
   refine ⟨_,rfl,?_⟩
   rw [ha,mapN_eq,List.take_length]
end Go.Proofs.YtbecjgckobhmpaaGreatDoor
end
section
namespace Go.Proofs.YtbecjgckobhmpaaGreatDoor
open Go Go.AM Go.Proofs
def ltr (b:UInt8):Bool:=(decide (65≤b.toNat) && decide (b.toNat≤90)) || (decide (97≤b.toNat) && decide (b.toNat≤122))
def dgt (b:UInt8):Bool:=decide (48≤b.toNat) && decide (b.toNat≤57)
def wrd (b:UInt8):Bool:=ltr b || (dgt b || b.toNat == 95)
def wht (b:UInt8):Bool:=b.toNat == 32 || (b.toNat == 9 || (b.toNat == 10 || b.toNat == 13))
def nol (b:UInt8):Bool:=b.toNat != 10
def two (l:List UInt8):Bool:=([47,47]:List UInt8).isPrefixOf l
def skp:Bool→List UInt8→List UInt8
 | _,[]=>[]
 | true,b :: l=>if nol b then skp true l else skp false l
 | false,b :: l=>if wht b then skp false l else if two (b :: l) then skp true l else b :: l
theorem skp_nil (c:Bool):skp c [] = []:=by cases c <;> rfl
theorem skp_wht:∀ l,skp false l = skp false (l.dropWhile wht)
 | []=>rfl
 | b :: l=>by
  rw [List.dropWhile_cons]
  split
  ·rename_i h
   simp only [skp,h,if_true]
   exact skp_wht l
  ·rfl
theorem wht_nol {b:UInt8} (h:¬ nol b = true):wht b = true:=by
 simp [nol] at h
 simp [wht,h]
theorem skp_cmt:∀ l,skp true l = skp false (l.dropWhile nol)
 | []=>rfl
 | b :: l=>by
  rw [List.dropWhile_cons]
  split
  ·rename_i h
   simp only [skp,h,if_true]
   exact skp_cmt l
  ·rename_i h
   simp only [skp,wht_nol h,if_true]
   rw [if_neg h]
theorem two_cons {b:UInt8} {l:List UInt8} (h:two (b :: l) = true):b = 47:=by
 simp [two,List.isPrefixOf] at h
 exact h.1.symm
theorem skp_two:∀ l,two l = true→skp false l = skp false (l.dropWhile nol)
 | [],h=>by simp [two] at h
 | b :: l,h=>by
  have hb:=two_cons h
  subst hb
  have h1:wht 47 = false:=by decide
  have h2:nol 47 = true:=by decide
  rw [List.dropWhile_cons,if_pos h2,← skp_cmt]
  simp [skp,h1,h]
theorem skp_fix:∀ l,l.takeWhile wht = []→two l = false→skp false l = l
 | [],_,_=>rfl
 | b :: l,h1,h2=>by
  rw [List.takeWhile_cons] at h1
  split at h1
  ·cases h1
  ·rename_i h
   simp only [skp,h2]
   rw [if_neg h]
   rfl
theorem skp_suf:∀ (l:List UInt8) (c:Bool),∃ p,l = p ++ skp c l
 | [],c=>⟨[],by rw [skp_nil]; rfl⟩
 | b :: l,true=>by
  simp only [skp]
  split
  ·obtain ⟨p,hp⟩:=skp_suf l true
   exact ⟨b :: p,by rw [List.cons_append,← hp]⟩
  ·obtain ⟨p,hp⟩:=skp_suf l false
   exact ⟨b :: p,by rw [List.cons_append,← hp]⟩
 | b :: l,false=>by
  simp only [skp]
  split
  ·obtain ⟨p,hp⟩:=skp_suf l false
   exact ⟨b :: p,by rw [List.cons_append,← hp]⟩
  ·split
   ·obtain ⟨p,hp⟩:=skp_suf l true
    exact ⟨b :: p,by rw [List.cons_append,← hp]⟩
   ·exact ⟨[],rfl⟩
theorem skp_len (c:Bool) (l:List UInt8):(skp c l).length≤l.length:=by
 obtain ⟨p,hp⟩:=skp_suf l c
 have:=congrArg List.length hp
 rw [List.length_append] at this
 omega
theorem take_tw {α:Type} (p:α→Bool):∀ l:List α,l.take (l.takeWhile p).length = l.takeWhile p
 | []=>rfl
 | b :: l=>by
  rw [List.takeWhile_cons]
  split
  ·rw [List.length_cons,List.take_succ_cons,take_tw p l]
  ·rfl
theorem drop_tw {α:Type} (p:α→Bool):∀ l:List α,l.drop (l.takeWhile p).length = l.dropWhile p
 | []=>rfl
 | b :: l=>by
  rw [List.takeWhile_cons,List.dropWhile_cons]
  split
  ·rw [List.length_cons,List.drop_succ_cons,drop_tw p l]
  ·rfl
theorem mem_tw {α:Type} {p:α→Bool} {y:α}:∀ {l:List α},y ∈ l.takeWhile p→p y = true
 | [],h=>by cases h
 | b :: l,h=>by
  rw [List.takeWhile_cons] at h
  split at h
  ·rename_i hb
   rcases List.mem_cons.1 h with rfl | h
   ·exact hb
   ·exact mem_tw h
  ·cases h
theorem len_tw {α:Type} (p:α→Bool) (l:List α):(l.takeWhile p).length≤l.length:=by
 have:=congrArg List.length (List.takeWhile_append_dropWhile (p:=p) (l:=l))
 rw [List.length_append] at this
 omega
def symL:List (List UInt8):=[[61,61,62],[61,61],[58,61],[33,61],[60,61],[38,38],[124,124],[123],[125],[40],[41],[91],[93],[59],[58],[44],[46],[63],[61],[33],[60],[38],[124],[94],[43],[45],[42]]
theorem symL_ok:∀ t ∈ symL,1≤t.length∧t.length≤3∧∀ y ∈ t,y≠10:=by decide
def numOk (b:UInt8) (l:List UInt8):Bool :=
 decide ((l.takeWhile dgt).length≤9) && (((b.toNat != 48) || (l.takeWhile dgt).length == 1) && (l.dropWhile dgt).head?.all (fun c=>!wrd c))
def tokL:List UInt8→Option (Nat × Nat)
 | []=>none
 | b :: l =>
  bif ltr b then (bif decide (((b :: l).takeWhile wrd).length≤16) then some (1,((b :: l).takeWhile wrd).length) else none)
  else bif dgt b then (bif numOk b (b :: l) then some (2,((b :: l).takeWhile dgt).length) else none)
  else (symL.find? (fun t=>t.isPrefixOf (b :: l))).map fun t=>(3,t.length)
theorem tokL_cons (b:UInt8) (l:List UInt8):tokL (b :: l) =
  (bif ltr b then (bif decide (((b :: l).takeWhile wrd).length≤16) then some (1,((b :: l).takeWhile wrd).length) else none)
  else bif dgt b then (bif numOk b (b :: l) then some (2,((b :: l).takeWhile dgt).length) else none)
  else (symL.find? (fun t=>t.isPrefixOf (b :: l))).map fun t=>(3,t.length)):=rfl
theorem tokL_spec {l:List UInt8} {k m:Nat} (h:tokL l = some (k,m)):1≤m∧m≤l.length∧(∀ y ∈ l.take m,y≠10)∧1≤k∧k≤3:=by
 cases l with
 | nil=>cases h
 | cons b l =>
  rw [tokL_cons] at h
  cases h1:ltr b
  ·rw [h1,cond_false] at h
   cases h2:dgt b
   ·rw [h2,cond_false] at h
    cases h3:symL.find? (fun t=>t.isPrefixOf (b :: l)) with
    | none=>rw [h3] at h; cases h
    | some t =>
     rw [h3] at h
     simp only [Option.map_some,Option.some.injEq,Prod.mk.injEq] at h
     obtain ⟨rfl,rfl⟩:=h
     have hm:=List.mem_of_find?_eq_some h3
     have hp:=List.find?_some h3
     obtain ⟨r,hr⟩:=List.isPrefixOf_iff_prefix.1 hp
     have hs:=symL_ok t hm
     rw [← hr]
     refine ⟨hs.1,by rw [List.length_append]; omega,?_,by omega,by omega⟩
     rw [List.take_left]
     exact hs.2.2
   ·rw [h2,cond_true] at h
    cases h3:numOk b (b :: l)
    ·rw [h3] at h; cases h
    ·rw [h3,cond_true] at h
     simp only [Option.some.injEq,Prod.mk.injEq] at h
     obtain ⟨rfl,rfl⟩:=h
     refine ⟨?_,len_tw _ _,?_,by omega,by omega⟩
     ·rw [List.takeWhile_cons,if_pos h2]; simp
     ·rw [take_tw]
      intro y hy e
      subst e
      have:=mem_tw hy
      revert this
      decide
  ·rw [h1,cond_true] at h
   cases h3:decide (((b :: l).takeWhile wrd).length≤16)
   ·rw [h3] at h; cases h
   ·rw [h3,cond_true] at h
    simp only [Option.some.injEq,Prod.mk.injEq] at h
    obtain ⟨rfl,rfl⟩:=h
    refine ⟨?_,len_tw _ _,?_,by omega,by omega⟩
    ·rw [List.takeWhile_cons,if_pos (by simp [wrd,h1])]; simp
    ·rw [take_tw]
     intro y hy e
     subst e
     have:=mem_tw hy
     revert this
     decide
def consT (t:Token):List Token ⊕ (Int × Int)→List Token ⊕ (Int × Int)
 | .inl ts=>.inl (t :: ts)
 | .inr e=>.inr e
def lexS (N:Nat) (g:List UInt8→List Token ⊕ (Int × Int)) (c:Nat):List UInt8→List Token ⊕ (Int × Int)
 | []=>.inl []
 | b :: r=>if c = 1500 then .inr (2,((N - (b :: r).length:Nat):Int)) else
  match tokL (b :: r) with
  | none=>.inr (10,((N - (b :: r).length:Nat):Int))
  | some km=>consT ⟨(km.1:Int),bs ((b :: r).take km.2),((N - (b :: r).length:Nat):Int)⟩ (g ((b :: r).drop km.2))
def lexG (N:Nat):Nat→Nat→List UInt8→List Token ⊕ (Int × Int)
 | 0,_,_=>.inl []
 | f + 1,c,l=>lexS N (lexG N f (c + 1)) c (skp false l)
end Go.Proofs.YtbecjgckobhmpaaGreatDoor
end
section
namespace Go.Proofs.YtbecjgckobhmpaaGreatDoor
open Go Go.AM Go.Proofs
theorem symTab_sz:∀ x ∈ symTab,1≤x.size∧x.size≤3:=by
 have:symTab.all (fun x=>decide (1≤x.size∧x.size≤3)) = true:=by kernel_rfl
 intro x hx
 simpa using List.all_eq_true.1 this x hx
theorem iter_T {ρ σ:Type} {step:σ→Option (σ ⊕ ρ)} (I:σ→Prop) (m:σ→Nat) (Q:ρ→Prop)
  (h:∀ s,I s→T (step s) (fun r=>match r with | .inl s'=>I s'∧m s' < m s | .inr r=>Q r))
  (n:Nat) (s:σ) (hn:m s < n) (hi:I s):T (iter step n s) Q :=
 iter_meas I m Q (fun s hs=>by
  obtain ⟨r,hr,hq⟩:=h s hs
  cases r with
  | inl s'=>exact .inl ⟨s',hr,hq.1,hq.2⟩
  | inr r=>exact .inr ⟨r,hr,hq⟩) n s hn hi
theorem T.eq {α:Type} {o:Option α} {v:α} (h:T o (fun e=>e = v)):o = Option.some v:=by
 obtain ⟨r,hr,rfl⟩:=h
 exact hr
theorem get_drop {α:Type} {L:List α} {k:Nat} {b:α} (h:L[k]? = some b):L.drop k = b :: L.drop (k + 1):=by
 obtain ⟨hk,rfl⟩:=List.getElem?_eq_some_iff.1 h
 exact List.drop_eq_getElem_cons hk
theorem get_of_drop {α:Type} {L r:List α} {k:Nat} {b:α} (h:L.drop k = b :: r):L[k]? = some b:=by
 rw [← List.head?_drop,h]
 rfl
theorem take_T {L:List UInt8} {step:Int→Option (Int ⊕ Int)} (q:UInt8→Bool)
  (h1:∀ (k:Nat) b,L[k]? = some b→step (k:Int) = some (if q b = true then .inl ((k + 1:Nat):Int) else .inr (k:Int)))
  (h2:step (L.length:Int) = some (.inr (L.length:Int))) {n a:Nat} (ha:a≤L.length) (hn:L.length < n) :
  T (iter step n (a:Int)) (fun e=>e = ((a + ((L.drop a).takeWhile q).length:Nat):Int)):=by
 have key:∀ (j a n:Nat),a + j = L.length→j < n→iter step n (a:Int) = some (((a + ((L.drop a).takeWhile q).length:Nat):Int)):=by
  intro j
  induction j with
  | zero =>
   intro a n h hn
   have:a = L.length:=by omega
   subst this
   cases n with
   | zero=>omega
   | succ n=>simp only [iter,h2,List.drop_length,List.takeWhile_nil,List.length_nil,Nat.add_zero]
  | succ j ih =>
   intro a n h hn
   have hlt:a < L.length:=by omega
   have hg:=List.getElem?_eq_getElem hlt
   cases n with
   | zero=>omega
   | succ n =>
    rw [get_drop hg,List.takeWhile_cons]
    cases hq:q L[a]
    ·simp [iter,h1 a _ hg,hq]
    ·simp only [iter,h1 a _ hg,hq,if_true]
     rw [ih (a + 1) n (by omega) (by omega)]
     have:a + 1 + ((L.drop (a + 1)).takeWhile q).length = a + (L[a] :: (L.drop (a + 1)).takeWhile q).length:=by
      simp only [List.length_cons]; omega
     rw [this]
 exact ⟨_,key (L.length - a) a n (by omega) (by omega),rfl⟩
variable {s:ByteArray} {n:Nat}
theorem i_eq (m c:Nat):((m:Int) == (c:Int)) = (m == c):=by
 rw [Bool.eq_iff_iff]
 simp only [beq_iff_eq]
 omega
theorem i_le (m c:Nat):decide ((m:Int)≤(c:Int)) = decide (m≤c):=by rw [decide_eq_decide]; omega
theorem F136_eq {k:Nat} {b:UInt8} (hb:(tl s)[k]? = some b):F136 s k = some (wht b):=by
 unfold F136
 rw [idxS_some hb]
 have e1:((b.toNat:Int) == 32) = (b.toNat == 32):=i_eq _ 32
 have e2:((b.toNat:Int) == 9) = (b.toNat == 9):=i_eq _ 9
 have e3:((b.toNat:Int) == 10) = (b.toNat == 10):=i_eq _ 10
 have e4:((b.toNat:Int) == 13) = (b.toNat == 13):=i_eq _ 13
 simp only [Option.bind_some,e1,e2,e3,e4]
 unfold wht
 cases b.toNat == 32 <;> cases b.toNat == 9 <;> cases b.toNat == 10 <;> cases b.toNat == 13 <;> rfl
theorem F138_eq {k:Nat} {b:UInt8} (hb:(tl s)[k]? = some b):F138 s k = some (nol b):=by
 unfold F138
 rw [idxS_some hb]
 have e3:((b.toNat:Int) == 10) = (b.toNat == 10):=i_eq _ 10
 simp only [Option.bind_some,bne,e3,nol]
theorem F139_eq (b:UInt8):F139 (b.toNat:Int) = some (ltr b):=by
 unfold F139 ltr
 have e1:decide (65≤(b.toNat:Int)) = decide (65≤b.toNat):=i_le 65 _
 have e2:decide ((b.toNat:Int)≤90) = decide (b.toNat≤90):=i_le _ 90
 have e3:decide (97≤(b.toNat:Int)) = decide (97≤b.toNat):=i_le 97 _
 have e4:decide ((b.toNat:Int)≤122) = decide (b.toNat≤122):=i_le _ 122
 rw [e1,e2,e3,e4]
theorem F141_eq {k:Nat} {b:UInt8} (hb:(tl s)[k]? = some b):F141 s k = some (dgt b):=by
 unfold F141 dgt
 rw [idxS_some hb]
 have e1:decide (48≤(b.toNat:Int)) = decide (48≤b.toNat):=i_le 48 _
 have e2:decide ((b.toNat:Int)≤57) = decide (b.toNat≤57):=i_le _ 57
 simp only [Option.bind_some,e1,e2]
 cases decide (48≤b.toNat) <;> rfl
theorem F140_eq {k:Nat} {b:UInt8} (hb:(tl s)[k]? = some b):F140 s k = some (wrd b):=by
 unfold F140 wrd
 have e1:((b.toNat:Int) == 95) = (b.toNat == 95):=i_eq _ 95
 rw [idxS_some hb]
 simp only [Option.bind_some,F139_eq,F141_eq hb,e1]
 cases ltr b <;> cases dgt b <;> rfl
theorem run_eq {p:Int→Option Bool} {q:UInt8→Bool} (hp:∀ (k:Nat) b,(tl s)[k]? = some b→p (k:Int) = some (q b)) (hs:s.size≤4000) (hn:5000≤n) {a:Nat} (ha:a≤(tl s).length) :
  ((iter (σ:=Int) (ρ:=Int) (fun s1=>bif decide (s1 < (s.size:Int)) then ((p s1).bind fun x3=>bif x3 then (some (.inl (w64 (s1 + 1)))) else (some (.inr s1))) else (some (.inr s1))) n (a:Int)).bind fun r5=>some r5)
   = some ((a + (((tl s).drop a).takeWhile q).length:Nat):Int):=by
 have hz:=size_tl s
 apply T.eq
 refine T.bind (take_T (L:=tl s) q (fun k b hb=>?_) ?_ ha (by omega)) fun e he=>T.some he
 ·have hk:=lt_of_get hb
  have c:decide ((k:Int) < (s.size:Int)) = true:=by rw [hz]; simp; omega
  rw [c,hp k b hb,w64_nat (by omega)]
  cases q b <;> rfl
 ·have c:decide (((tl s).length:Int) < (s.size:Int)) = false:=by rw [hz]; simp
  rw [c]
  rfl
theorem F135_eq (hs:s.size≤4000) (hn:5000≤n) {a:Nat} (ha:a≤(tl s).length):F135 n s a s = some ((a + (((tl s).drop a).takeWhile wrd).length:Nat):Int):=by
 unfold F135
 exact run_eq (fun k b h=>F140_eq h) hs hn ha
theorem F135_1_eq (hs:s.size≤4000) (hn:5000≤n) {a:Nat} (ha:a≤(tl s).length):F135_1 n s a s = some ((a + (((tl s).drop a).takeWhile dgt).length:Nat):Int):=by
 unfold F135_1
 exact run_eq (fun k b h=>F141_eq h) hs hn ha
theorem F135_2_eq (hs:s.size≤4000) (hn:5000≤n) {a:Nat} (ha:a≤(tl s).length):F135_2 n s a s = some ((a + (((tl s).drop a).takeWhile wht).length:Nat):Int):=by
 unfold F135_2
 exact run_eq (fun k b h=>F136_eq h) hs hn ha
theorem F135_3_eq (hs:s.size≤4000) (hn:5000≤n) {a:Nat} (ha:a≤(tl s).length):F135_3 n s a s = some ((a + (((tl s).drop a).takeWhile nol).length:Nat):Int):=by
 unfold F135_3
 exact run_eq (fun k b h=>F138_eq h) hs hn ha
theorem pre_take (t l:List UInt8):(l.take t.length == t) = t.isPrefixOf l:=by
 rw [Bool.eq_iff_iff,List.isPrefixOf_iff_prefix,List.prefix_iff_eq_take,beq_iff_eq]
 exact eq_comm
theorem F137_eq (l:List UInt8):F137 (bs l) (bs [47,47]) = some (two l):=by
 unfold F137 F192
 have e0:((bs [47,47]).size:Int) = ((2:Nat):Int):=rfl
 have e1:((bs l).size:Int) = (l.length:Int):=rfl
 rw [e0,e1]
 by_cases h:2≤l.length
 ·have c:decide (((2:Nat):Int)≤(l.length:Int)) = true:=by simp; omega
  have e:=subS_eq (s:=bs l) (a:=0) (b:=2) (by omega) (by rw [tl_bs]; exact h)
  rw [c,cond_true]
  erw [e]
  simp only [Option.bind_some,tl_bs,List.drop_zero]
  exact congrArg some (pre_take [47,47] l)
 ·have c:decide (((2:Nat):Int)≤(l.length:Int)) = false:=by simp; omega
  rw [c]
  have:two l = false:=by
   rw [two,← pre_take]
   rw [beq_eq_false_iff_ne]
   intro e
   have:=congrArg List.length e
   rw [List.length_take] at this
   simp at this
   omega
  rw [this]
  rfl
theorem drop_step {L:List UInt8} {k:Nat} (q:UInt8→Bool) (hk:k≤L.length):k + ((L.drop k).takeWhile q).length≤L.length∧L.drop (k + ((L.drop k).takeWhile q).length) = (L.drop k).dropWhile q:=by
 constructor
 ·have:=len_tw q (L.drop k)
  rw [List.length_drop] at this
  omega
 ·rw [← List.drop_drop,drop_tw]
theorem F86_eq (hs:s.size≤4000) (hn:5000≤n) {a:Nat} (ha:a≤(tl s).length):F86 n s a = some (((tl s).length - (skp false ((tl s).drop a)).length:Nat):Int):=by
 have hz:=size_tl s
 apply T.eq
 unfold F86
 refine T.bind (P:=fun e=>e = (((tl s).length - (skp false ((tl s).drop a)).length:Nat):Int)) ?_ (fun _ h=>T.some h)
 refine iter_T (fun e=>∃ k:Nat,e = (k:Int)∧k≤(tl s).length∧skp false ((tl s).drop k) = skp false ((tl s).drop a)) (fun e=>((tl s).length - e.toNat)) _ (fun e he=>?_) n a (by omega) ⟨a,rfl,ha,rfl⟩
 obtain ⟨k,rfl,hk,hsk⟩:=he
 obtain ⟨hk2l,hd2⟩:=drop_step wht hk
 have h0:((tl s).drop k).takeWhile wht = [] ↔ (((tl s).drop k).takeWhile wht).length = 0:=List.length_eq_zero_iff.symm
 rw [F135_2_eq hs hn hk]
 simp only [Option.bind_some]
 generalize hk2:k + (((tl s).drop k).takeWhile wht).length = k2 at hk2l hd2
 have es:subS s (k2:Int) (s.size:Int) = some (bs ((tl s).drop k2)):=by
  rw [hz,subS_eq hk2l (Nat.le_refl _),List.take_of_length_le (by rw [List.length_drop]; omega)]
 rw [es]
 simp only [Option.bind_some,F137_eq]
 cases h2:two ((tl s).drop k2)
 ·simp only [cond_false,Option.bind_some]
  cases he:((k2:Int) == (k:Int))
  ·have ne:k2≠k:=by rw [i_eq] at he; simpa using he
   refine T.some ⟨⟨k2,rfl,hk2l,by rw [hd2,← skp_wht,hsk]⟩,?_⟩
   show (tl s).length - k2 < (tl s).length - k
   omega
  ·have eq:k2 = k:=by rw [i_eq] at he; simpa using he
   refine T.some ?_
   have h3:=skp_fix _ (h0.2 (by omega)) (by rw [← eq]; exact h2)
   rw [← hsk,h3,List.length_drop]
   show (k:Int) = _
   omega
 ·simp only [cond_true]
  obtain ⟨hk3l,hd3⟩:=drop_step nol hk2l
  have hpos:1≤(((tl s).drop k2).takeWhile nol).length:=by
   cases hd:(tl s).drop k2 with
   | nil=>rw [hd] at h2; simp [two] at h2
   | cons b r =>
    rw [hd] at h2
    have hb:=two_cons h2
    subst hb
    rw [List.takeWhile_cons,if_pos (by decide)]
    simp
  rw [F135_3_eq hs hn hk2l]
  simp only [Option.bind_some]
  generalize hk3:k2 + (((tl s).drop k2).takeWhile nol).length = k3 at hk3l hd3
  have he:((k3:Int) == (k:Int)) = false:=by rw [i_eq]; simp; omega
  rw [he]
  refine T.some ⟨⟨k3,rfl,hk3l,by rw [hd3,← skp_two _ h2,hd2,← skp_wht,hsk]⟩,?_⟩
  show (tl s).length - k3 < (tl s).length - k
  omega
theorem find_T {S:List ByteArray} {step:Int→Option (Int ⊕ (ByteArray ⊕ Unit))} (p:ByteArray→Bool)
  (h1:∀ (k:Nat) x,S[k]? = some x→T (step (k:Int)) (fun r=>r = if p x = true then .inr (.inl x) else .inl ((k + 1:Nat):Int)))
  (h2:step (S.length:Int) = some (.inr (.inr ()))) (hn:S.length < n) :
  T (iter step n (0:Int)) (fun r=>r = match S.find? p with | some x=>.inl x | none=>.inr ()):=by
 have key:∀ (l:List ByteArray) (k:Nat),runF (A:=Unit) (ρ:=ByteArray ⊕ Unit) (fun _ _ x=>if p x = true then .inr (.inl x) else .inl ()) (fun _=>.inr ()) k l () = match l.find? p with | some x=>.inl x | none=>.inr ():=by
  intro l
  induction l with
  | nil=>intro k; rfl
  | cons x l ih =>
   intro k
   rw [List.find?_cons,runF]
   cases hp:p x
   ·simpa [hp] using ih (k + 1)
   ·simp
 have e:=iter_runF S (fun (k:Nat) (_:Unit)=>(k:Int)) (fun _ _ x=>if p x = true then .inr (.inl x) else .inl ()) (fun _=>.inr ()) (step:=step)
  (fun k a x hx=>by
   rw [T.eq (h1 k x hx)]
   cases p x <;> rfl)
  (fun _=>h2) n () hn
 rw [key] at e
 exact ⟨_,e,rfl⟩
theorem allI_pre {L:List UInt8} {a:Nat}:∀ (t:List UInt8) (k:Nat),allI (fun j c=>L[a + j]? == some c) k t = t.isPrefixOf (L.drop (a + k))
 | [],_=>by simp [allI]
 | c :: t,k=>by
  rw [allI,allI_pre t (k + 1)]
  cases hd:L[a + k]? with
  | none =>
   have:L.drop (a + k) = []:=List.drop_eq_nil_iff.2 (List.getElem?_eq_none_iff.1 hd)
   rw [this]
   rfl
  | some d =>
   rw [get_drop hd,show a + (k + 1) = a + k + 1 by omega]
   show ((some d == some c) && _) = ((c == d) && _)
   congr 1
   rw [Bool.eq_iff_iff]
   simp
   exact eq_comm
theorem symTab_map:symTab.map tl = symL:=by rfl
theorem find_tl {p:List UInt8→Bool}:∀ (S:List ByteArray),(S.find? (fun x=>p (tl x))) = ((S.map tl).find? p).map bs
 | []=>rfl
 | x :: S=>by
  rw [List.find?_cons,List.map_cons,List.find?_cons]
  cases p (tl x)
  ·exact find_tl S
  ·rfl
theorem F142_eq (hs:s.size≤4000) (hn:5000≤n) {a:Nat} (ha:a≤(tl s).length):F142 n s a = some (bs ((symL.find? (fun t=>t.isPrefixOf ((tl s).drop a))).getD [])):=by
 have hz:=size_tl s
 apply T.eq
 unfold F142
 refine T.bind (find_T (S:=symTab) (fun x=>(tl x).isPrefixOf ((tl s).drop a)) (fun k x hx=>?_) ?_ (by simp [symTab]; omega)) fun r hr=>?_
 ·have hk:k < 27:=lt_of_get hx
  have c1:decide ((k:Int) < 27) = true:=by simp; omega
  have hm:=symTab_sz x (List.mem_of_getElem? hx)
  have hxz:=size_tl x
  rw [c1,idxL_some hx,w64_id (x:=(s.size:Int) - (a:Int)) (by omega) (by omega),w64_nat (k:=k) (by omega)]
  simp only [cond_true,Option.bind_some]
  refine T.cond (fun hc=>T.some ?_) (fun hc=>?_)
  ·have hc':(s.size:Int) - (a:Int) < (x.size:Int):=by simpa using hc
   have:(tl x).isPrefixOf ((tl s).drop a) = false:=by
    rw [← pre_take,beq_eq_false_iff_ne]
    intro e
    have:=congrArg List.length e
    rw [List.length_take,List.length_drop] at this
    omega
   simp [this]
  ·have hc':¬ (s.size:Int) - (a:Int) < (x.size:Int):=by simpa using hc
   refine T.bind (T.of_eq (iter_allI (tl x) (fun j c=>(tl s)[a + j]? == some c) (by omega) (fun j c hj=>?_) ?_ (n:=n) (by omega))) fun r hr=>?_
   ·have hjl:=lt_of_get hj
    have c2:decide ((j:Int) < (x.size:Int)) = true:=by simp; omega
    have hlt:a + j < (tl s).length:=by omega
    have hg:=List.getElem?_eq_getElem hlt
    have ew:w64 ((a:Int) + (j:Int)) = ((a + j:Nat):Int):=by rw [w64_id (by omega) (by omega)]; rfl
    rw [c2,ew,idxS_some hg,idxS_some hj,hg]
    simp only [cond_true,Option.bind_some]
    by_cases hcc:(tl s)[a + j] = c
    ·rw [hcc]; simp
    ·have:((((tl s)[a + j]).toNat:Int) != (c.toNat:Int)) = true:=by
      simp only [bne,i_eq,Bool.not_eq_true',beq_eq_false_iff_ne]
      exact fun e=>hcc (UInt8.toNat_inj.1 e)
     rw [this]
     simp [hcc]
   ·have c2:decide (((tl x).length:Int) < (x.size:Int)) = false:=by simp; omega
    rw [c2]
    rfl
   ·rw [hr,allI_pre]
    simp only [Nat.add_zero]
    cases (tl x).isPrefixOf ((tl s).drop a)
    ·exact T.some rfl
    ·exact T.some rfl
 ·have c1:decide (((symTab.length:Nat):Int) < 27) = false:=by simp [symTab]
  rw [c1]
  rfl
 ·rw [hr,find_tl (p:=fun t=>t.isPrefixOf ((tl s).drop a)),symTab_map]
  cases symL.find? (fun t=>t.isPrefixOf ((tl s).drop a)) with
  | none=>exact T.some rfl
  | some t=>exact T.some rfl
theorem F87_eq (hs:s.size≤4000) (hn:5000≤n) {a:Nat} {b:UInt8} {r:List UInt8} (hd:(tl s).drop a = b :: r) :
  F87 n s a = some (match tokL ((tl s).drop a) with | some km=>((km.1:Int),((a + km.2:Nat):Int)) | none=>((0:Int),(a:Int))):=by
 have hz:=size_tl s
 have hb:=get_of_drop hd
 have ha:=lt_of_get hb
 have hw:∀ k:Nat,k≤5000→w64 (((a + k:Nat):Int) - (a:Int)) = (k:Int):=fun k hk=>by
  rw [w64_id (by omega) (by omega)]; omega
 unfold F87
 rw [idxS_some hb]
 simp only [Option.bind_some,F139_eq]
 rw [hd,tokL_cons]
 cases h1:ltr b
 ·simp only [cond_false,F141_eq hb,Option.bind_some]
  cases h2:dgt b
  ·simp only [cond_false,F142_eq hs hn (Nat.le_of_lt ha),hd,Option.bind_some]
   cases hf:symL.find? (fun t=>t.isPrefixOf (b :: r)) with
   | none=>rfl
   | some t =>
    have hm:=symL_ok t (List.mem_of_find?_eq_some hf)
    have hne:strEq (bs t) (bs []) = false:=by
     cases t with
     | nil=>simp at hm
     | cons x y=>rfl
    have ew:w64 ((a:Int) + ((bs t).size:Int)) = ((a + t.length:Nat):Int):=by
     rw [size_bs,w64_id (by omega) (by omega)]; rfl
    simp only [Option.getD_some,hne,Bool.not_false,cond_true,ew,Option.map_some]
    rfl
  ·simp only [cond_true,F135_1_eq hs hn (Nat.le_of_lt ha),Option.bind_some]
   obtain ⟨hkl,hkd⟩:=drop_step dgt (Nat.le_of_lt ha)
   rw [hd] at hkl hkd ⊢
   unfold numOk
   rw [← hkd]
   generalize hk:((b :: r).takeWhile dgt).length = k at hkl hkd ⊢
   have hk1:1≤k:=by rw [← hk,List.takeWhile_cons,if_pos h2]; simp
   rw [hw k (by omega)]
   by_cases h9:9 < k
   ·have c1:decide (9 < (k:Int)) = true:=by simp; omega
    have c2:decide (k≤9) = false:=by simp; omega
    rw [c1,c2]
    rfl
   ·have c1:decide (9 < (k:Int)) = false:=by simp; omega
    have c2:decide (k≤9) = true:=by simp; omega
    rw [c1,c2]
    have e48:((b.toNat:Int) == 48) = (b.toNat == 48):=i_eq _ 48
    have e1:decide (1 < (k:Int)) = !(k == 1):=by rw [Bool.eq_iff_iff]; simp; omega
    simp only [cond_false,Option.bind_some,e48,e1,Bool.true_and]
    have e3:((b.toNat != 48) || (k == 1)) = !((b.toNat == 48) && !(k == 1)):=by
     simp only [bne]; cases b.toNat == 48 <;> cases k == 1 <;> rfl
    rw [e3]
    cases (b.toNat == 48) && !(k == 1)
    ·simp only [cond_false,Bool.not_false,Bool.true_and]
     rw [List.head?_drop]
     by_cases hlt:a + k < (tl s).length
     ·have hg:=List.getElem?_eq_getElem hlt
      have c3:decide (((a + k:Nat):Int) < (s.size:Int)) = true:=by simp; omega
      rw [c3,F140_eq hg,hg]
      simp only [cond_true,Option.bind_some,Option.all_some]
      cases wrd (tl s)[a + k] <;> rfl
     ·have c3:decide (((a + k:Nat):Int) < (s.size:Int)) = false:=by simp; omega
      rw [c3,List.getElem?_eq_none (by omega)]
      rfl
    ·rfl
 ·simp only [cond_true,F135_eq hs hn (Nat.le_of_lt ha),Option.bind_some]
  obtain ⟨hkl,_⟩:=drop_step wrd (Nat.le_of_lt ha)
  rw [hd] at hkl ⊢
  generalize hk:((b :: r).takeWhile wrd).length = k at hkl ⊢
  rw [hw k (by omega)]
  by_cases h16:16 < k
  ·have c1:decide (16 < (k:Int)) = true:=by simp; omega
   have c2:decide (k≤16) = false:=by simp; omega
   rw [c1,c2]
   rfl
  ·have c1:decide (16 < (k:Int)) = false:=by simp; omega
   have c2:decide (k≤16) = true:=by simp; omega
   rw [c1,c2]
   rfl
def outT (acc:List Token):List Token ⊕ (Int × Int)→List Token × Int × Int
 | .inl ts=>(acc ++ ts,0,0)
 | .inr e=>([],e.1,e.2)
def lexR (s:ByteArray):List Token × Int × Int :=
 if 4000 < s.size then ([],2,0) else outT [] (lexG s.size (s.size + 1) 0 (tl s))
theorem out_cons (acc:List Token) (t:Token) (r:List Token ⊕ (Int × Int)):outT acc (consT t r) = outT (acc ++ [t]) r:=by
 cases r with
 | inl ts=>simp [outT,consT]
 | inr e=>rfl
theorem F55_eq (hn:5000≤n):F55 n s = some (lexR s):=by
 have hz:=size_tl s
 apply T.eq
 unfold F55 lexR
 by_cases h4:4000 < s.size
 ·have c:decide ((4000:Int) < (s.size:Int)) = true:=by simp; omega
  rw [c,if_pos h4]
  exact T.some rfl
 have c:decide ((4000:Int) < (s.size:Int)) = false:=by simp; omega
 have hs:s.size≤4000:=by omega
 rw [c,if_neg h4]
 simp only [cond_false]
 refine T.bind (P:=fun r=>r = outT [] (lexG s.size (s.size + 1) 0 (tl s))) ?_ (fun r h=>T.some h)
 refine iter_T (fun st=>∃ (k f:Nat),st.2 = (k:Int)∧k≤(tl s).length∧st.1.length≤1500∧((tl s).drop k).length < f∧outT st.1 (lexG s.size f st.1.length ((tl s).drop k)) = outT [] (lexG s.size (s.size + 1) 0 (tl s))) (fun st=>(tl s).length - st.2.toNat) _ (fun st hst=>?_) n _ (by simp; omega) ⟨0,s.size + 1,rfl,by omega,by simp,by simp; omega,by simp⟩
 obtain ⟨k,f,hk,hkl,h15,hf,hout⟩:=hst
 rw [hk,F86_eq hs hn hkl]
 simp only [Option.bind_some]
 obtain ⟨f,rfl⟩:∃ g,f = g + 1:=⟨f - 1,by omega⟩
 simp only [lexG] at hout
 have hlen:=skp_len false ((tl s).drop k)
 rw [List.length_drop] at hlen
 obtain ⟨p,hp⟩:=skp_suf ((tl s).drop k) false
 have hp1:=congrArg List.length hp
 rw [List.length_append,List.length_drop] at hp1
 have hdr:(tl s).drop ((tl s).length - (skp false ((tl s).drop k)).length) = skp false ((tl s).drop k):=by
  have:(tl s).length - (skp false ((tl s).drop k)).length = k + p.length:=by omega
  rw [this,← List.drop_drop]
  conv=>lhs; rw [hp]
  exact List.drop_left
 cases hsk:skp false ((tl s).drop k) with
 | nil =>
  rw [hsk] at hout
  have c1:((((tl s).length - ([]:List UInt8).length:Nat):Int) == (s.size:Int)) = true:=by simp; omega
  rw [c1]
  simp only [lexS,outT,List.append_nil] at hout
  exact T.some hout
 | cons b r =>
  rw [hsk] at hout hdr hlen
  have hbl:1≤(b :: r).length:=by simp
  generalize hj:(tl s).length - (b :: r).length = j at hdr ⊢
  have hjl:j + (b :: r).length = (tl s).length:=by omega
  have c1:((j:Int) == (s.size:Int)) = false:=by rw [i_eq]; simp; omega
  rw [c1]
  simp only [cond_false]
  have hpos:s.size - (b :: r).length = j:=by omega
  simp only [lexS,hpos] at hout
  by_cases h1500:st.1.length = 1500
  ·have c2:((st.1.length:Int) == 1500) = true:=by simp; omega
   rw [c2]
   rw [if_pos h1500] at hout
   exact T.some hout
  have c2:((st.1.length:Int) == 1500) = false:=by simp; omega
  rw [c2,F87_eq hs hn hdr,hdr]
  rw [if_neg h1500] at hout
  simp only [cond_false,Option.bind_some]
  cases htk:tokL (b :: r) with
  | none =>
   rw [htk] at hout
   exact T.some hout
  | some km =>
   rw [htk] at hout
   have hm:=tokL_spec htk
   simp only at hout ⊢
   have c3:((km.1:Int) == 0) = false:=by simp; omega
   rw [c3,subS_eq (by omega) (by omega),hdr]
   simp only [cond_false,Option.bind_some,appL]
   rw [if_pos (by simp; omega)]
   rw [out_cons] at hout
   refine T.some ⟨⟨j + km.2,f,rfl,by omega,by simp; omega,?_,?_⟩,?_⟩
   ·rw [← List.drop_drop,hdr,List.length_drop]
    rw [List.length_drop] at hf
    omega
   ·rw [← List.drop_drop,hdr]
    have e1:j + km.2 - j = km.2:=by omega
    rw [e1,List.length_append]
    exact hout
   ·show (tl s).length - (((j + km.2:Nat):Int)).toNat < (tl s).length - ((k:Int)).toNat
    simp only [Int.toNat_natCast]
    omega
end Go.Proofs.YtbecjgckobhmpaaGreatDoor
end
section
namespace Go.Proofs.YtbecjgckobhmpaaGreatDoor
open Go Go.AM Go.Proofs
inductive Lx (N:Nat):List UInt8→List Token→Prop where
 | nil {l:List UInt8}:skp false l = []→Lx N l []
 | cons {l w r:List UInt8} {k:Nat} {ts:List Token}:skp false l = w ++ r→tokL (w ++ r) = some (k,w.length)→Lx N r ts→Lx N l (⟨(k:Int),bs w,((N - (w ++ r).length:Nat):Int)⟩ :: ts)
theorem lexG_Lx {N:Nat}:∀ {f c:Nat} {l:List UInt8} {ts:List Token},l.length < f→lexG N f c l = .inl ts→c≤1500→Lx N l ts∧c + ts.length≤1500
 | 0,_,_,_,h,_,_=>absurd h (Nat.not_lt_zero _)
 | f + 1,c,l,ts,hl,h,hc0=>by
  simp only [lexG] at h
  have hk:=skp_len false l
  cases hs:skp false l with
  | nil =>
   rw [hs] at h
   cases h
   exact ⟨.nil hs,by simpa using hc0⟩
  | cons b r =>
   rw [hs] at h hk
   simp only [lexS] at h
   by_cases hc:c = 1500
   ·rw [if_pos hc] at h; cases h
   ·rw [if_neg hc] at h
    cases ht:tokL (b :: r) with
    | none=>rw [ht] at h; cases h
    | some km =>
     rw [ht] at h
     simp only at h
     have hm:=tokL_spec ht
     cases hg:lexG N f (c + 1) ((b :: r).drop km.2) with
     | inr e=>rw [hg] at h; cases h
     | inl us =>
      rw [hg] at h
      cases h
      have hd:=List.length_drop (i:=km.2) (l:=b :: r)
      obtain ⟨i1,i2⟩:=lexG_Lx (by omega) hg (by omega)
      have e:(b :: r) = (b :: r).take km.2 ++ (b :: r).drop km.2:=(List.take_append_drop _ _).symm
      have hw:((b :: r).take km.2).length = km.2:=by rw [List.length_take]; omega
      refine ⟨?_,by simp only [List.length_cons]; omega⟩
      have:=Lx.cons (N:=N) (l:=l) (w:=(b :: r).take km.2) (r:=(b :: r).drop km.2) (k:=km.1) (by rw [← e]; exact hs) (by rw [← e,hw]; exact ht) i1
      rw [← e] at this
      exact this
theorem Lx_lexG {N:Nat} {l:List UInt8} {ts:List Token} (h:Lx N l ts):∀ {f c:Nat},l.length < f→c + ts.length≤1500→lexG N f c l = .inl ts:=by
 induction h with
 | nil hs =>
  intro f c hl _
  cases f with
  | zero=>omega
  | succ f=>simp only [lexG,hs,lexS]
 | @cons l w r k ts hs ht _ ih =>
  intro f c hl hc
  simp only [List.length_cons] at hc
  cases f with
  | zero=>omega
  | succ f =>
   have hk:=skp_len false l
   have hm:=tokL_spec ht
   rw [hs,List.length_append] at hk
   rw [lexG,hs]
   cases w with
   | nil=>simp at hm
   | cons b w =>
    rw [List.cons_append] at ht ⊢
    simp only [lexS,if_neg (show c≠1500 by omega),ht]
    have e1:(b :: (w ++ r)).drop (b :: w).length = r:=by rw [← List.cons_append,List.drop_left]
    have e2:(b :: (w ++ r)).take (b :: w).length = b :: w:=by rw [← List.cons_append,List.take_left]
    rw [e1,e2,ih (by simp only [List.length_cons] at hk; omega) (by omega)]
    rfl
def sepB (b:UInt8):Bool:=!wrd b && symL.all fun t=>!(t.drop 1).contains b
theorem sym_no47:∀ t ∈ symL,t.head?≠some 47:=by decide
theorem tokL_head {l:List UInt8} {km:Nat × Nat} (h:tokL l = some km):l.head?≠some 47∧l≠[]:=by
 cases l with
 | nil=>cases h
 | cons b l =>
  refine ⟨fun e=>?_,by simp⟩
  simp only [List.head?_cons,Option.some.injEq] at e
  subst e
  rw [tokL_cons] at h
  have h1:ltr 47 = false:=by decide
  have h2:dgt 47 = false:=by decide
  rw [h1,h2] at h
  simp only [cond_false] at h
  cases h3:symL.find? (fun t=>t.isPrefixOf (47 :: l)) with
  | none=>rw [h3] at h; cases h
  | some t =>
   have hm:=List.mem_of_find?_eq_some h3
   have hp:=List.find?_some h3
   cases t with
   | nil=>have:=symL_ok [] hm; simp at this
   | cons y t =>
    simp only [List.isPrefixOf,Bool.and_eq_true,beq_iff_eq] at hp
    have:=sym_no47 _ hm
    simp [hp.1] at this
theorem tw_pre {p:UInt8→Bool}:∀ (w r r':List UInt8),((w ++ r).takeWhile p).length = w.length→(∀ b,r'.head? = some b→p b = false)→(w ++ r').takeWhile p = w∧(w ++ r').dropWhile p = r'∧(w ++ r).dropWhile p = r
 | [],r,r',h,hr=>by
  simp only [List.nil_append,List.length_nil,List.length_eq_zero_iff] at h ⊢
  have hd:∀ x:List UInt8,x.takeWhile p = []→x.dropWhile p = x:=by
   intro x hx
   have:=List.takeWhile_append_dropWhile (p:=p) (l:=x)
   rw [hx,List.nil_append] at this
   exact this
  have ht:r'.takeWhile p = []:=by
   cases r' with
   | nil=>rfl
   | cons b r'=>rw [List.takeWhile_cons,hr b rfl]; simp
  exact ⟨ht,hd r' ht,hd r h⟩
 | b :: w,r,r',h,hr=>by
  rw [List.cons_append,List.takeWhile_cons] at h
  rw [List.cons_append,List.takeWhile_cons,List.dropWhile_cons,List.cons_append,List.dropWhile_cons]
  cases hb:p b
  ·rw [hb] at h; simp at h
  ·rw [hb] at h
   simp only [if_true,List.length_cons,Nat.add_right_cancel_iff] at h ⊢
   have:=tw_pre w r r' h hr
   exact ⟨by rw [this.1],this.2⟩
def Fol (r r':List UInt8):Prop:=r' <+: r∨∃ b x,r' = b :: x∧sepB b = true
theorem wrd_dgt {b:UInt8} (h:wrd b = false):dgt b = false:=by
 cases hd:dgt b
 ·rfl
 ·simp [wrd,hd] at h
theorem tokL_fol {w r r':List UInt8} {k:Nat} (h:tokL (w ++ r) = some (k,w.length)) (hf:Fol r r'):tokL (w ++ r') = some (k,w.length):=by
 have hm:=tokL_spec h
 cases w with
 | nil=>simp at hm
 | cons b w =>
  have hh:∀ (p:UInt8→Bool),(∀ c,wrd c = false→p c = false)→(∀ c,r.head? = some c→p c = false)→∀ c,r'.head? = some c→p c = false:=by
   intro p hp hr c hc
   rcases hf with ⟨x,hx⟩ | ⟨d,x,rfl,hd⟩
   ·cases r' with
    | nil=>cases hc
    | cons y r' =>
     simp only [List.head?_cons,Option.some.injEq] at hc
     subst hc
     exact hr y (by rw [← hx]; rfl)
   ·simp only [List.head?_cons,Option.some.injEq] at hc
    subst hc
    simp only [sepB,Bool.and_eq_true,Bool.not_eq_true'] at hd
    exact hp d hd.1
  have hstop:∀ (p:UInt8→Bool),((b :: w ++ r).takeWhile p).length = (b :: w).length→∀ c,r.head? = some c→p c = false:=by
   intro p hl c hc
   cases r with
   | nil=>cases hc
   | cons y r =>
    simp only [List.head?_cons,Option.some.injEq] at hc
    subst hc
    cases hy:p y
    ·rfl
    ·have e:=(tw_pre (p:=p) (b :: w) (y :: r) [] hl (by simp)).2.2
     have:=List.dropWhile_append_of_pos (p:=p) (l₁:=b :: w) (l₂:=y :: r)
     have hall:(b :: w ++ y :: r).takeWhile p = b :: w:=by
      have e1:=List.takeWhile_append_dropWhile (p:=p) (l:=b :: w ++ y :: r)
      rw [e] at e1
      exact List.append_cancel_right e1
     have hd2:(y :: r).dropWhile p≠y :: r:=by rw [List.dropWhile_cons,hy]; intro e; have:=congrArg List.length e; have h3:=(List.dropWhile_sublist p (l:=r)).length_le; simp at this; omega
     have hpre:∀ z ∈ b :: w,p z = true:=by
      intro z hz
      rw [← hall] at hz
      exact mem_tw hz
     rw [List.dropWhile_append_of_pos hpre] at e
     exact absurd e hd2
  have h':tokL (b :: (w ++ r)) = some (k,(b :: w).length):=h
  show tokL (b :: (w ++ r')) = some (k,(b :: w).length)
  rw [tokL_cons] at h' ⊢
  cases h1:ltr b
  ·rw [h1,cond_false] at h'
   rw [cond_false]
   cases h2:dgt b
   ·rw [h2,cond_false] at h'
    rw [cond_false]
    cases h3:symL.find? (fun t=>t.isPrefixOf (b :: (w ++ r))) with
    | none=>rw [h3] at h'; cases h'
    | some t =>
     rw [h3] at h'
     simp only [Option.map_some,Option.some.injEq,Prod.mk.injEq] at h'
     obtain ⟨rfl,hl⟩:=h'
     have hmem:=List.mem_of_find?_eq_some h3
     have hp:=List.find?_some h3
     have ht:t = b :: w:=by
      have hp':t <+: b :: w ++ r:=List.isPrefixOf_iff_prefix.1 hp
      obtain ⟨x,hx⟩:=hp'
      exact (List.append_inj hx hl).1
     subst ht
     obtain ⟨pre,pos,hsym,hno⟩:=(List.find?_eq_some_iff_append.1 h3).2
     have h4:symL.find? (fun t=>t.isPrefixOf (b :: (w ++ r'))) = some (b :: w):=by
      rw [List.find?_eq_some_iff_append]
      refine ⟨List.isPrefixOf_iff_prefix.2 ⟨r',rfl⟩,pre,pos,hsym,fun a ha=>?_⟩
      have hna:=hno a ha
      simp only [Bool.not_eq_true',Bool.eq_false_iff,ne_eq,List.isPrefixOf_iff_prefix] at hna ⊢
      intro hpa
      apply hna
      have hpa:a <+: b :: w ++ r':=hpa
      by_cases hla:a.length≤(b :: w).length
      ·exact (List.prefix_of_prefix_length_le hpa (List.prefix_append _ _) hla).trans (List.prefix_append _ _)
      ·rcases hf with hf | ⟨d,x,rfl,hd⟩
       ·exact hpa.trans ((List.prefix_append_right_inj _).2 hf)
       ·exfalso
        have hwa:b :: w <+: a:=List.prefix_of_prefix_length_le (List.prefix_append _ _) hpa (by omega)
        obtain ⟨y,rfl⟩:=hwa
        have hy:y <+: d :: x:=(List.prefix_append_right_inj _).1 hpa
        cases y with
        | nil=>simp at hla
        | cons y0 y =>
         obtain ⟨z,hz⟩:=hy
         simp only [List.cons_append,List.cons.injEq] at hz
         simp only [sepB,Bool.and_eq_true,List.all_eq_true,Bool.not_eq_true'] at hd
         have hin:(b :: w ++ y0 :: y) ∈ symL:=by rw [hsym]; exact List.mem_append_left _ ha
         have:=hd.2 _ hin
         rw [← hz.1] at this
         simp at this
     rw [h4]
     rfl
   ·rw [h2,cond_true] at h'
    rw [cond_true]
    cases h3:numOk b (b :: (w ++ r))
    ·rw [h3] at h'; cases h'
    ·rw [h3,cond_true] at h'
     simp only [Option.some.injEq,Prod.mk.injEq] at h'
     obtain ⟨rfl,hl⟩:=h'
     have hl':((b :: w ++ r).takeWhile dgt).length = (b :: w).length:=hl
     have e:=tw_pre (p:=dgt) (b :: w) r r' hl' (hh dgt (fun c=>wrd_dgt) (hstop dgt hl'))
     have e':(b :: (w ++ r')).takeWhile dgt = b :: w:=e.1
     have e2':(b :: (w ++ r')).dropWhile dgt = r':=e.2.1
     have e3':(b :: (w ++ r)).dropWhile dgt = r:=e.2.2
     have hn:numOk b (b :: (w ++ r')) = true:=by
      unfold numOk at h3 ⊢
      rw [e3',hl] at h3
      rw [e',e2']
      simp only [Bool.and_eq_true] at h3 ⊢
      refine ⟨h3.1,h3.2.1,?_⟩
      have h5:=hh wrd (fun c h=>h) (fun c hc=>by
       have:=h3.2.2
       rw [hc] at this
       simpa using this)
      cases hr:r'.head? with
      | none=>rfl
      | some c=>simp [h5 c hr]
     rw [hn,e']
     rfl
  ·rw [h1,cond_true] at h'
   rw [cond_true]
   cases h3:decide (((b :: (w ++ r)).takeWhile wrd).length≤16)
   ·rw [h3] at h'; cases h'
   ·rw [h3,cond_true] at h'
    simp only [Option.some.injEq,Prod.mk.injEq] at h'
    obtain ⟨rfl,hl⟩:=h'
    have hl':((b :: w ++ r).takeWhile wrd).length = (b :: w).length:=hl
    have e:=tw_pre (p:=wrd) (b :: w) r r' hl' (hh wrd (fun c h=>h) (hstop wrd hl'))
    have e':(b :: (w ++ r')).takeWhile wrd = b :: w:=e.1
    rw [hl] at h3
    rw [e',h3]
    rfl
theorem two_false {b:UInt8} {l:List UInt8} (h:b≠47):two (b :: l) = false:=by
 cases ht:two (b :: l)
 ·rfl
 ·exact absurd (two_cons ht) h
theorem skp_to {x x':List UInt8} (hx:∃ b y,x = b :: y∧b≠47) (hx':∃ b y,x' = b :: y∧b≠47∧wht b = false):∀ (g:List UInt8) (c:Bool),skp c (g ++ x) = x→skp c (g ++ x') = x'
 | [],c,h=>by
  obtain ⟨b,y,rfl,hb⟩:=hx
  obtain ⟨b',y',rfl,hb',hw⟩:=hx'
  simp only [List.nil_append] at h ⊢
  cases c
  ·simp only [skp,hw,two_false hb']
   rfl
  ·exfalso
   rw [skp] at h
   have h1:=skp_len true y
   have h2:=skp_len false y
   have h3:=congrArg List.length h
   split at h3 <;> simp only [List.length_cons] at h3 <;> omega
 | a :: g,true,h=>by
  rw [List.cons_append,skp] at h ⊢
  split
  ·rename_i hn
   rw [if_pos hn] at h
   exact skp_to hx hx' g true h
  ·rename_i hn
   rw [if_neg hn] at h
   exact skp_to hx hx' g false h
 | a :: g,false,h=>by
  have htwo:two (a :: (g ++ x')) = two (a :: (g ++ x)):=by
   cases g with
   | nil =>
    obtain ⟨b,y,rfl,hb⟩:=hx
    obtain ⟨b',y',rfl,hb',hw⟩:=hx'
    simp only [two,List.nil_append,List.isPrefixOf]
    have e1:((47:UInt8) == b) = false:=by simpa using fun h:(47:UInt8) = b=>hb h.symm
    have e2:((47:UInt8) == b') = false:=by simpa using fun h:(47:UInt8) = b'=>hb' h.symm
    simp [e1,e2]
   | cons b g=>simp [two,List.isPrefixOf]
  rw [List.cons_append,skp] at h ⊢
  rw [htwo]
  split
  ·rename_i hn
   rw [if_pos hn] at h
   exact skp_to hx hx' g false h
  ·rename_i hn
   rw [if_neg hn] at h
   split
   ·rename_i hn2
    rw [if_pos hn2] at h
    exact skp_to hx hx' g true h
   ·rename_i hn2
    rw [if_neg hn2] at h
    exfalso
    have:=congrArg List.length h
    simp at this
    omega
theorem tokL_wht {l:List UInt8} {km:Nat × Nat} (h:tokL l = some km):∃ b y,l = b :: y∧b≠47:=by
 have h1:=tokL_head h
 cases l with
 | nil=>exact absurd rfl h1.2
 | cons b y=>exact ⟨b,y,rfl,fun e=>h1.1 (by rw [e]; rfl)⟩
theorem skp_wfix {l b y} {g:List UInt8} (h:skp false g = l) (hl:l = b :: y):wht b = false:=by
 subst h
 revert hl
 suffices ∀ (g:List UInt8) (c:Bool),skp c g = b :: y→wht b = false from fun hl=>this g false hl
 intro g
 induction g with
 | nil=>intro c h; rw [skp_nil] at h; cases h
 | cons a g ih =>
  intro c h
  cases c
  ·rw [skp] at h
   split at h
   ·exact ih false h
   ·rename_i hn
    split at h
    ·exact ih true h
    ·simp only [List.cons.injEq] at h
     rw [← h.1]
     simpa using hn
  ·rw [skp] at h
   split at h
   ·exact ih true h
   ·exact ih false h
theorem Lx.split {N:Nat}:∀ {us:List Token} {l:List UInt8} {t:Token} {vs:List Token},Lx N l (us ++ t :: vs) →
  ∃ p r,l = p ++ r∧Lx N r vs∧t.pos + ((tl t.text).length:Int) = ((N - (tl t.text ++ r).length:Nat):Int) + ((tl t.text).length:Int)∧(∀ N',N' + r.length = N→Lx N' p (us ++ [t]))
 | [],l,t,vs,h=>by
  cases h with
  | @cons _ w r k _ hs ht hr =>
   obtain ⟨g,hg⟩:=skp_suf l false
   rw [hs] at hg
   refine ⟨g ++ w,r,by rw [List.append_assoc]; exact hg,hr,rfl,fun N' hN=>?_⟩
   have ht':=tokL_fol (r':=[]) ht (.inl (List.nil_prefix))
   have hs':skp false (g ++ (w ++ [])) = w ++ []:=skp_to (tokL_wht ht) (by
    obtain ⟨b,y,e,hb⟩:=tokL_wht ht'
    refine ⟨b,y,e,hb,?_⟩
    have hw:=tokL_spec ht
    cases w with
    | nil=>simp at hw
    | cons c w =>
     simp only [List.cons_append,List.cons.injEq] at e
     rw [← e.1]
     exact skp_wfix hs rfl) g false (by rw [← hg]; exact hs)
   have:=Lx.cons (N:=N') (l:=g ++ w) (w:=w) (r:=[]) (k:=k) (by simpa using hs') ht' (.nil rfl)
   have e:N' - (w ++ []).length = N - (w ++ r).length:=by
    simp only [List.length_append,List.length_nil]; omega
   rw [e] at this
   exact this
 | u :: us,l,t,vs,h=>by
  cases h with
  | @cons _ w r0 k _ hs ht hr =>
   obtain ⟨p,r,rfl,h2,h3,h4⟩:=Lx.split hr
   obtain ⟨g,hg⟩:=skp_suf l false
   rw [hs] at hg
   refine ⟨g ++ (w ++ p),r,by rw [hg]; simp,h2,h3,fun N' hN=>?_⟩
   have ht':=tokL_fol (r':=p) ht (.inl (List.prefix_append _ _))
   have hs':skp false (g ++ (w ++ p)) = w ++ p:=skp_to (tokL_wht ht) (by
    obtain ⟨b,y,e,hb⟩:=tokL_wht ht'
    refine ⟨b,y,e,hb,?_⟩
    have hw:=tokL_spec ht
    cases w with
    | nil=>simp at hw
    | cons c w =>
     simp only [List.cons_append,List.cons.injEq] at e
     rw [← e.1]
     exact skp_wfix hs rfl) g false (by rw [← hg]; exact hs)
   have:=Lx.cons (N:=N') (l:=g ++ (w ++ p)) (w:=w) (r:=p) (k:=k) hs' ht' (h4 N' hN)
   have e:N' - (w ++ p).length = N - (w ++ (p ++ r)).length:=by
    simp only [List.length_append]; omega
   rw [e] at this
   exact this
theorem Lx.le {N:Nat} {l:List UInt8} {ts:List Token} (h:Lx N l ts) (hN:l.length≤N):ts.Pairwise (fun a b=>a.pos + 1≤b.pos)∧∀ t ∈ ts,((N - l.length:Nat):Int)≤t.pos∧t.pos + ((tl t.text).length:Int)≤(N:Int)∧1≤(tl t.text).length:=by
 induction h with
 | nil hs=>exact ⟨.nil,by simp⟩
 | @cons l w r k ts hs ht _ ih =>
  have hk:=skp_len false l
  have hm:=tokL_spec ht
  rw [hs] at hk
  have hlen:=@List.length_append _ w r
  obtain ⟨i1,i2⟩:=ih (by omega)
  constructor
  ·refine List.pairwise_cons.2 ⟨fun t ht=>?_,i1⟩
   have:=(i2 t ht).1
   simp only
   omega
  ·intro t ht
   rcases List.mem_cons.1 ht with rfl | ht
   ·simp only [tl_bs]
    omega
   ·have:=i2 t ht
    omega
end Go.Proofs.YtbecjgckobhmpaaGreatDoor
end
section
namespace Go.Proofs.YtbecjgckobhmpaaGreatDoor
open Go Go.AM Go.Proofs
theorem key_sym:∀ t ∈ symL,keyNames.any (t == ·) = false:=by decide
theorem tk_ok {w r:List UInt8} {k:Nat} (h:tokL (w ++ r) = some (k,w.length)):TkOk ((k:Int),bs w):=by
 have hm:=tokL_spec h
 cases w with
 | nil=>simp at hm
 | cons b w =>
  have h':tokL (b :: (w ++ r)) = some (k,(b :: w).length):=h
  rw [tokL_cons] at h'
  cases h1:ltr b
  ·rw [h1,cond_false] at h'
   cases h2:dgt b
   ·rw [h2,cond_false] at h'
    cases h3:symL.find? (fun t=>t.isPrefixOf (b :: (w ++ r))) with
    | none=>rw [h3] at h'; cases h'
    | some t =>
     rw [h3] at h'
     simp only [Option.map_some,Option.some.injEq,Prod.mk.injEq] at h'
     obtain ⟨rfl,hl⟩:=h'
     have hmem:=List.mem_of_find?_eq_some h3
     have hp:=List.find?_some h3
     have ht:t = b :: w:=by
      have hp':t <+: b :: w ++ r:=List.isPrefixOf_iff_prefix.1 hp
      obtain ⟨x,hx⟩:=hp'
      exact (List.append_inj hx hl).1
     subst ht
     have:=symL_ok _ hmem
     exact .inr (.inr ⟨rfl,this.1,this.2.1,key_sym _ hmem⟩)
   ·rw [h2,cond_true] at h'
    cases h3:numOk b (b :: (w ++ r))
    ·rw [h3] at h'; cases h'
    ·rw [h3,cond_true] at h'
     simp only [Option.some.injEq,Prod.mk.injEq] at h'
     obtain ⟨rfl,hl⟩:=h'
     have hl':((b :: w ++ r).takeWhile dgt).length = (b :: w).length:=hl
     have e:=(tw_pre (p:=dgt) (b :: w) r [] hl' (by simp)).1
     rw [List.append_nil] at e
     have e0:(b :: (w ++ r)).takeWhile dgt = b :: w:=by
      have:=take_tw dgt (b :: w ++ r)
      rw [hl',List.take_left] at this
      exact this.symm
     unfold numOk at h3
     rw [e0] at h3
     simp only [Bool.and_eq_true,decide_eq_true_eq,Bool.or_eq_true,bne_iff_ne,beq_iff_eq] at h3
     refine .inr (.inl ⟨rfl,by simp [tl_bs],h3.1,fun c hc=>?_,?_⟩)
     ·rw [tl_bs,← e] at hc
      have:=mem_tw hc
      simpa [dgt] using this
     ·rw [tl_bs]
      rcases h3.2.1 with h4 | h4
      ·right
       simp only [List.head?_cons,ne_eq,Option.some.injEq]
       intro e; apply h4; rw [e]; rfl
      ·left; exact h4
  ·rw [h1,cond_true] at h'
   cases h3:decide (((b :: (w ++ r)).takeWhile wrd).length≤16)
   ·rw [h3] at h'; cases h'
   ·rw [h3,cond_true] at h'
    simp only [Option.some.injEq,Prod.mk.injEq] at h'
    obtain ⟨rfl,hl⟩:=h'
    have hl':((b :: w ++ r).takeWhile wrd).length = (b :: w).length:=hl
    have e:=(tw_pre (p:=wrd) (b :: w) r [] hl' (by simp)).1
    rw [List.append_nil] at e
    refine .inl ⟨rfl,?_,by simp [tl_bs],?_⟩
    ·rw [tl_bs]
     simp only [nameCs,Bool.and_eq_true,List.all_eq_true]
     refine ⟨?_,fun c hc=>?_⟩
     ·simp only [ltr,isLetI,Bool.or_eq_true,Bool.and_eq_true,decide_eq_true_eq] at h1 ⊢
      omega
     ·have:c ∈ b :: w:=List.mem_cons_of_mem _ hc
      rw [← e] at this
      have:=mem_tw this
      simp only [wrd,ltr,dgt,isWordI,isLetI,isDigI,Bool.or_eq_true,Bool.and_eq_true,decide_eq_true_eq,beq_iff_eq] at this ⊢
      omega
    ·rw [hl] at h3
     rw [tl_bs]
     exact of_decide_eq_true h3
theorem Lx.oks {N:Nat} {l:List UInt8} {ts:List Token} (h:Lx N l ts):TksOk ts:=by
 induction h with
 | nil hs=>intro t ht; cases ht
 | cons hs ht _ ih =>
  intro t hm
  rcases List.mem_cons.1 hm with rfl | hm
  ·exact tk_ok ht
  ·exact ih t hm
structure Lexed (s:ByteArray) (ts:List Token):Prop where
 len:s.size≤4000
 lx:Lx s.size (tl s) ts
 cnt:ts.length≤1500
theorem lexR_ok {s:ByteArray} {ts:List Token} (h:Lexed s ts):lexR s = (ts,0,0):=by
 unfold lexR
 rw [if_neg (by have:=h.len; omega),Lx_lexG h.lx (by rw [← size_tl]; omega) (by have:=h.cnt; omega)]
 rfl
theorem lexG_bad {N:Nat}:∀ {f c:Nat} {l:List UInt8} {e:Int × Int},lexG N f c l = .inr e→l.length≤N→(e.1 = 2∨e.1 = 10)∧0≤e.2∧e.2≤(N:Int)
 | 0,_,_,_,h,_=>by cases h
 | f + 1,c,l,e,h,hN=>by
  simp only [lexG] at h
  have hk:=skp_len false l
  cases hs:skp false l with
  | nil=>rw [hs] at h; cases h
  | cons b r =>
   rw [hs] at h hk
   simp only [lexS] at h
   by_cases hc:c = 1500
   ·rw [if_pos hc] at h; cases h; exact ⟨.inl rfl,by simp only; omega,by simp only; omega⟩
   ·rw [if_neg hc] at h
    cases ht:tokL (b :: r) with
    | none=>rw [ht] at h; cases h; exact ⟨.inr rfl,by simp only; omega,by simp only; omega⟩
    | some km =>
     rw [ht] at h
     simp only at h
     cases hg:lexG N f (c + 1) ((b :: r).drop km.2) with
     | inl e=>rw [hg] at h; cases h
     | inr e' =>
      rw [hg] at h
      cases h
      exact lexG_bad hg (by rw [List.length_drop]; omega)
theorem lexR_cases (s:ByteArray):(∃ ts,Lexed s ts∧lexR s = (ts,0,0))∨(∃ e p,lexR s = ([],e,p)∧(e = 2∨e = 10)∧0≤p∧p≤(s.size:Int)):=by
 unfold lexR
 by_cases h:4000 < s.size
 ·rw [if_pos h]
  exact .inr ⟨2,0,rfl,.inl rfl,by omega,by omega⟩
 ·rw [if_neg h]
  cases hg:lexG s.size (s.size + 1) 0 (tl s) with
  | inl ts =>
   obtain ⟨h1,h2⟩:=lexG_Lx (by rw [← size_tl]; omega) hg (by omega)
   exact .inl ⟨ts,⟨by omega,h1,by omega⟩,rfl⟩
  | inr e =>
   have:=lexG_bad hg (by rw [← size_tl]; omega)
   exact .inr ⟨e.1,e.2,rfl,this⟩
structure Read (n:Nat) (ts:List Token) (fin:Int) (l:List Node) (p:List (Int × Int)):Prop where
 run:∃ i,(M.source n).run fin ⟨ts,0,[]⟩ = .ok l ⟨[],i,p⟩
 ok:∀ y ∈ l,okT y = true∧isItm y.kind = true
 sz:szs l≤ts.length
theorem Read.eq {n:Nat} {ts:List Token} {fin:Int} {l l':List Node} {p p':List (Int × Int)} (h:Read n ts fin l p) (h':Read n ts fin l' p'):l = l'∧p = p':=by
 obtain ⟨i,h1⟩:=h.run
 obtain ⟨j,h2⟩:=h'.run
 rw [h1] at h2
 cases h2
 exact ⟨rfl,rfl⟩
def srcN (l:List Node):Node:=Node.mk 62 (bs []) (bs []) 0 0 0 false l 0
end Go.Proofs.YtbecjgckobhmpaaGreatDoor
end
section
namespace Go.Proofs.YtbecjgckobhmpaaGreatDoor
open Go Go.AM Go.Proofs
def zeroN:Node:=Node.mk 0 (bs []) (bs []) 0 0 0 false [] 0
def endX (fin:Int):Out Node→Node × List Diag
 | .ok e _=>if smallP e then (e,[]) else (zeroN,[⟨2,0⟩])
 | .bad b s=>(zeroN,[⟨codeOf b s.rest,posOf fin s.rest⟩])
 | .out=>(zeroN,[])
theorem whole_some {n:Nat} (hn:9000≤n) {ts:List Token} (hc:ts.length≤1500) (fin:Int):(M.whole n).run fin ⟨ts,0,[]⟩≠.out:=by
 refine M.tot_bind (L:=1501) (M.tot_expr (by omega)) (fun e=>M.tot_look fun t=>M.tot_cond (M.tot_fail _) (M.tot_ret _)) fin ⟨ts,0,[]⟩ ?_
 simp only
 omega
theorem F29_ok {n:Nat} (h1:9000≤n) {s:ByteArray} {ts:List Token} (hs:Lexed s ts):F29 n s = some (endX s.size ((M.whole n).run s.size ⟨ts,0,[]⟩)):=by
 unfold F29
 rw [F55_eq (by omega),lexR_ok hs]
 simp only [Option.bind_some]
 have hm:(RS.mk ts 0 (s.size:Int) 0 []) = mkS ts s.size ⟨ts,0,[]⟩:=by simp [mkS,addDs]
 have hsim:=sim_whole n ts s.size ⟨ts,0,[]⟩ hs.cnt hs.lx.oks (List.suffix_refl _)
 have ht:=whole_some h1 hs.cnt s.size
 have e:((0:Int) != 0) = false:=rfl
 rw [e,hm,hsim]
 cases hr:(M.whole n).run s.size ⟨ts,0,[]⟩ with
 | ok x s' =>
  obtain ⟨d,hd,hq⟩:=M.post_whole n s.size ⟨ts,0,[]⟩ x s' hs.lx.oks hr
  have hsz:sz x≤1500:=by
   have:=hq.2
   have:=hs.cnt
   simp only at hd
   omega
  simp only [cond_false,toO,guardF,Option.bind_some,endX]
  rw [G59 x (by omega) (by omega)]
  by_cases hsm:smallP x
  ·rw [decide_eq_true hsm,if_pos hsm]; rfl
  ·rw [decide_eq_false hsm,if_neg hsm]; rfl
 | bad b s' =>
  have hne:(codeOf b s'.rest != 0) = true:=by
   have:=code_ne b s'.rest
   simp only [bne,this,Bool.not_false]
  simp only [cond_false,toO,guardF,Option.bind_some,endX,hne,cond_true]
  rfl
 | out=>exact absurd hr ht
theorem G28 {b:Nat} (hb:b≤9223372036854775807) (x:Node) (hlim:Lim b x) (hs:sz x≤5000) {n:Nat} (hn:20000≤n):F28 n x = some ((x.kind == 62 || isE x.kind) && (decide (smallP x) && okT x)):=by
 unfold F28
 rw [G59 x (by omega) (by omega),F62_eq,F64_eq hb (sz x) x (Nat.le_refl _) hlim n (by omega)]
 simp only [Option.bind_some]
 by_cases h:x.kind = 62
 ·have e:(x.kind != 62) = false:=by simp [h]
  have e2:(x.kind == 62) = true:=by simp [h]
  rw [e,e2]
  cases decide (smallP x) <;> rfl
 ·have e:(x.kind != 62) = true:=by simpa using h
  have e2:(x.kind == 62) = false:=nbeq h
  rw [e,e2]
  cases isE x.kind <;> cases decide (smallP x) <;> rfl
theorem nmLen {s:List UInt8} (h:nameB s = true):s.length≤16:=by
 simp only [nameB,Bool.and_eq_true,decide_eq_true_eq] at h
 exact h.1.1.2
theorem ptLen:∀ (k:Nat) (s:List UInt8),pathN k s = true→s.length≤17 * k
 | 0,s,h=>by simp [pathN] at h
 | k + 1,s,h=>by
  rw [pathN,Bool.and_eq_true] at h
  have h1:=nmLen h.1
  have hspec:=cutB_spec s
  cases hc:(cutB s).2 with
  | none =>
   rw [(hspec.1 hc).1] at h1
   omega
  | some r =>
   have h2:=h.2
   rw [hc] at h2
   have:=ptLen k r h2
   have e:=congrArg List.length (hspec.2 r hc).1
   simp only [List.length_append,List.length_cons] at e
   omega
theorem lvLen {x:ByteArray} (h:levelI x≠0):(tl x).length≤3:=by
 have hs:∀ l:List UInt8,strEq x (bs l) = true→(tl x).length = l.length:=by
  intro l hl
  rw [strEq_iff.1 hl]
  rfl
 unfold levelI at h
 simp only [cond_eq_ite] at h
 repeat' split at h
 all_goals (rename_i hh; first | (simp only [Bool.or_eq_true] at hh; rcases hh with hh | hh | hh | hh <;> (have:=hs _ hh; simp at this; omega)) | (simp only [Bool.or_eq_true] at hh; rcases hh with hh | hh <;> (have:=hs _ hh; simp at this; omega)) | (have:=hs _ hh; simp at this; omega) | exact absurd rfl h)
theorem fields_len {x:Node} (h:fieldsB x = true):(tl x.name).length≤60∧(tl x.other).length≤60:=by
 simp only [fieldsB,Bool.and_eq_true] at h
 obtain ⟨hg,hn,ho,_⟩:=h
 have he:∀ y:ByteArray,strEq y (bs []) = true→(tl y).length≤60:=by
  intro y hy
  rw [strEq_iff.1 hy]
  simp [tl_bs]
 have hN:∀ y:ByteArray,nameB (tl y) = true→(tl y).length≤60:=fun y hy=>by have:=nmLen hy; omega
 have hP:∀ y:ByteArray,pathB (tl y) = true→(tl y).length≤60:=fun y hy=>by have:=ptLen 3 _ hy; omega
 constructor
 ·rcases Bool.or_eq_true_iff.1 hn with hn | hn
  ·simp only [hasName,Bool.or_eq_true,beq_iff_eq] at hn
   rcases hn with (((((((((((((((((h|h)|h)|h)|h)|h)|h)|h)|h)|h)|h)|h)|h)|h)|h)|h)|h)|h)
   all_goals simp [fldGood,h] at hg
   all_goals first | exact hP _ hg | exact hN _ hg | exact hN _ hg.1 | (have:=lvLen hg; omega)
  ·exact he _ hn
 ·rcases Bool.or_eq_true_iff.1 ho with ho | ho
  ·simp only [hasOther,Bool.or_eq_true,beq_iff_eq] at ho
   rcases ho with (((h|h)|h)|h)
   ·simp [fldGood,h] at hg
    rcases hg.2.2.2.2 with h2 | h2
    ·exact he _ h2
    ·exact hN _ h2.2
   ·simp [fldGood,h] at hg
    rcases hg.2 with h2 | h2
    ·exact he _ h2
    ·exact hN _ h2
   ·simp [fldGood,h] at hg
    exact hN _ hg.2
   ·simp [fldGood,h] at hg
    exact hP _ hg.2.1
  ·exact he _ ho
theorem lim_of:∀ (m:Nat) (x:Node),sz x≤m→sz x≤100000→okT x = true→Lim 100000 x:=by
 intro m
 induction m with
 | zero=>intro x hx; have:=sz_pos x; omega
 | succ m ih =>
  intro x hx hx2 h
  obtain ⟨hf,_,hk⟩:=okT_parts h
  have hl:=fields_len hf
  have hsz:=sz_eq x
  have hlen:=szs_len x.kids
  refine .mk x (by omega) (by omega) (by omega) fun y hy=>?_
  have:=szs_mem x.kids y hy
  exact ih y (by omega) (by omega) (hk y hy)
theorem F28_okT {x:Node} (h:okT x = true) (hk:(x.kind == 62 || isE x.kind) = true) (hs:sz x≤5000) {n:Nat} (hn:20000≤n):F28 n x = some (decide (smallP x)):=by
 rw [G28 (b:=100000) (by omega) x (lim_of _ x (Nat.le_refl _) (by omega) h) hs hn,hk,h,Bool.true_and,Bool.and_true]
def Inc (fin:Int) (l:List Token):Prop:=l.Pairwise (fun a b=>a.pos≤b.pos)∧∀ t ∈ l,t.pos≤fin
theorem Inc.tail {fin:Int} {t:Token} {l:List Token} (h:Inc fin (t :: l)):Inc fin l∧t.pos≤posOf fin l:=by
 obtain ⟨h1,h2⟩:=h
 rw [List.pairwise_cons] at h1
 refine ⟨⟨h1.2,fun x hx=>h2 x (List.mem_cons_of_mem _ hx)⟩,?_⟩
 cases l with
 | nil=>exact h2 t (List.mem_cons_self ..)
 | cons x l=>exact h1.1 x (List.mem_cons_self ..)
theorem Inc.le {fin:Int} {l:List Token} (h:Inc fin l):posOf fin l≤fin:=by
 cases l with
 | nil=>exact Int.le_refl _
 | cons x l=>exact h.2 x (List.mem_cons_self ..)
def RepOk (lo fin:Int) (l:List (Int × Int)):Prop:=l.Pairwise (fun a b=>a.2≤b.2)∧∀ r ∈ l,r.1≠0∧lo≤r.2∧r.2≤fin
theorem M.rep_ok {α:Type} (fin:Int):∀ (m:M α) (s:PS),Inc fin s.rest→M.Ends (m.run fin s) fun s'=>∃ l,s'.reps = s.reps ++ l∧RepOk (posOf fin s.rest) fin l
 | .ret a,s,_=>⟨[],by simp,by simp [RepOk]⟩
 | .fail b,s,_=>⟨[],by simp,by simp [RepOk]⟩
 | .out,s,_=>trivial
 | .look k,s,h=>rep_ok fin (k (hdOf s.rest)) s h
 | .adv k,s,h=>by
  obtain ⟨r,i,p⟩:=s
  cases r with
  | nil=>trivial
  | cons t r =>
   have ht:=Inc.tail h
   refine (rep_ok fin k ⟨r,i,p⟩ ht.1).mono fun s' ⟨l,h1,h2⟩=>⟨l,h1,h2.1,fun x hx=>?_⟩
   have:=h2.2 x hx
   have h3:=ht.2
   simp only [posOf] at this ⊢
   exact ⟨this.1,Int.le_trans h3 this.2.1,this.2.2⟩
 | .pos k,s,h=>rep_ok fin (k (posOf fin s.rest)) s h
 | .setI i k,s,h=>rep_ok fin k ⟨s.rest,i,s.reps⟩ h
 | .getI k,s,h=>rep_ok fin (k s.inner) s h
 | .rep b k,s,h=>(rep_ok fin k ⟨s.rest,s.inner,s.reps ++ [(codeOf b s.rest,posOf fin s.rest)]⟩ h).mono fun s' ⟨l,h1,h2⟩=>by
   refine ⟨(codeOf b s.rest,posOf fin s.rest) :: l,by rw [h1]; simp,List.pairwise_cons.2 ⟨fun x hx=>(h2.2 x hx).2.1,h2.1⟩,fun x hx=>?_⟩
   rcases List.mem_cons.1 hx with rfl | hx
   ·exact ⟨by have:=code_ne b s.rest; simpa using this,Int.le_refl _,h.le⟩
   ·exact h2.2 x hx
theorem addD_cases (d:List Diag) (r:Int × Int):addD d r = d∨(addD d r = d ++ [⟨r.1,r.2⟩]∧d.length < 20∧∀ y,d.getLast? = some y→y.pos≠r.2):=by
 unfold addD
 cases h20:decide (20≤(d.length:Int))
 ·have h20':¬ 20≤(d.length:Int):=of_decide_eq_false h20
  simp only [cond_false]
  cases hl:d.getLast? with
  | none=>exact .inr ⟨rfl,by omega,by simp⟩
  | some y =>
   cases hy:y.pos == r.2
   ·exact .inr ⟨by simp [hy],by omega,fun z hz=>by simp only [Option.some.injEq] at hz; subst hz; simpa using hy⟩
   ·exact .inl (by simp [hy])
 ·exact .inl rfl
theorem addDs_ok {lo fin:Int}:∀ (l:List (Int × Int)) (d:List Diag),RepOk lo fin l→d.length≤20→d.Pairwise (fun a b=>a.pos < b.pos)→(∀ x ∈ d,(x.err≠0∧lo≤x.pos∧x.pos≤fin)∧∀ r ∈ l,x.pos≤r.2) →
  (addDs d l).length≤20∧(addDs d l).Pairwise (fun a b=>a.pos < b.pos)∧∀ x ∈ addDs d l,x.err≠0∧lo≤x.pos∧x.pos≤fin
 | [],d,_,h1,h2,h3=>⟨h1,h2,fun x hx=>(h3 x hx).1⟩
 | r :: l,d,hr,h1,h2,h3=>by
  have hr1:=List.pairwise_cons.1 hr.1
  have hr':RepOk lo fin l:=⟨hr1.2,fun x hx=>hr.2 x (List.mem_cons_of_mem _ hx)⟩
  have hsame:(addDs d l).length≤20∧(addDs d l).Pairwise (fun a b=>a.pos < b.pos)∧∀ x ∈ addDs d l,x.err≠0∧lo≤x.pos∧x.pos≤fin :=
   addDs_ok l d hr' h1 h2 fun x hx=>⟨(h3 x hx).1,fun r hr=>(h3 x hx).2 r (List.mem_cons_of_mem _ hr)⟩
  have e:addDs d (r :: l) = addDs (addD d r) l:=rfl
  rw [e]
  rcases addD_cases d r with h | ⟨h,h20,hy⟩
  ·rw [h]
   exact hsame
  ·rw [h]
   have hlt:∀ x ∈ d,x.pos < r.2:=by
    intro x hx
    cases hl:d.getLast? with
    | none =>
     rw [List.getLast?_eq_none_iff] at hl
     rw [hl] at hx
     cases hx
    | some y =>
     have hy':=hy y hl
     have h5:=(h3 y (List.mem_of_getLast? hl)).2 r (List.mem_cons_self ..)
     obtain ⟨d',rfl⟩:∃ d',d = d' ++ [y]:=List.getLast?_eq_some_iff.1 hl
     rcases List.mem_append.1 hx with hx | hx
     ·have:=(List.pairwise_append.1 h2).2.2 x hx y (by simp)
      omega
     ·rw [List.mem_singleton.1 hx]
      omega
   refine addDs_ok l _ hr' (by simp; omega) (List.pairwise_append.2 ⟨h2,by simp,fun x hx y hy=>?_⟩) fun x hx=>?_
   ·rw [List.mem_singleton.1 hy]
    exact hlt x hx
   ·rcases List.mem_append.1 hx with hx | hx
    ·exact ⟨(h3 x hx).1,fun r hr=>(h3 x hx).2 r (List.mem_cons_of_mem _ hr)⟩
    ·rw [List.mem_singleton.1 hx]
     exact ⟨hr.2 r (List.mem_cons_self ..),fun y hy=>hr1.1 y hy⟩
theorem Read.diags {n:Nat} {s:ByteArray} {ts:List Token} (hs:Lexed s ts) {l:List Node} {p:List (Int × Int)} (hr:Read n ts s.size l p) :
  (addDs [] p).length≤20∧(addDs [] p).Pairwise (fun a b=>a.pos < b.pos)∧∀ x ∈ addDs [] p,x.err≠0∧0≤x.pos∧x.pos≤(s.size:Int):=by
 have hle:=hs.lx.le (by rw [← size_tl]; exact Nat.le_refl _)
 have hinc:Inc s.size ts:=⟨hle.1.imp fun h=>by omega,fun t ht=>by have:=hle.2 t ht; omega⟩
 have h:=M.rep_ok s.size (M.source n) ⟨ts,0,[]⟩ hinc
 obtain ⟨i,hi⟩:=hr.run
 rw [hi] at h
 obtain ⟨l',h1,h2⟩:=h
 simp only [List.nil_append] at h1
 subst h1
 have h0:0≤posOf s.size ts:=by
  cases ts with
  | nil=>simp [posOf]
  | cons t r=>have:=(hle.2 t (List.mem_cons_self ..)).1; simp only [posOf]; omega
 have:=addDs_ok p [] h2 (by simp) (by simp) (by simp)
 exact ⟨this.1,this.2.1,fun x hx=>⟨(this.2.2 x hx).1,Int.le_trans h0 (this.2.2 x hx).2.1,(this.2.2 x hx).2.2⟩⟩
end Go.Proofs.YtbecjgckobhmpaaGreatDoor
end
section
namespace Go.Proofs.YtbecjgckobhmpaaGreatDoor
open Go Go.AM Go.Proofs
def zt (k:Int) (s:ByteArray):Token:=⟨k,s,0⟩
def sy (l:List UInt8):Token:=⟨3,bs l,0⟩
inductive PathT:ByteArray→List Token→Prop where
 | one {a:ByteArray}:nameB (tl a) = true→PathT a [zt 1 a]
 | two {a b:ByteArray}:nameB (tl a) = true→nameB (tl b) = true→PathT (bs (tl a ++ 46 :: tl b)) [zt 1 a,sy [46],zt 1 b]
 | three {a b c:ByteArray}:nameB (tl a) = true→nameB (tl b) = true→nameB (tl c) = true→PathT (bs (tl (bs (tl a ++ 46 :: tl b)) ++ 46 :: tl c)) [zt 1 a,sy [46],zt 1 b,sy [46],zt 1 c]
def reqL (l:Int):Int:=if l = 2 then 3 else if l = 5 then 6 else l
def reqR (l:Int):Int:=if l = 2 then 2 else l + 1
def mostI (l:Int):Int:=if 11≤l then 10 else if l = 2 then 1 else if l = 5 then 4 else l
inductive Pr:Node→Int→List Token→Prop where
 | num {v:Int} {s:ByteArray}:numV s = v→(∀ b ∈ tl s,48≤b.toNat∧b.toNat≤57)→tl s≠[]→Pr (Node.mk 1 (bs []) (bs []) v 0 0 false [] 0) 12 [zt 2 s]
 | ref0 {x:ByteArray} {ts:List Token}:PathT x ts→Pr (Node.mk 2 x (bs []) 0 0 0 false [] 0) 13 ts
 | ref1 {x:ByteArray} {ts:List Token} {e:Node} {l:Int} {te:List Token}:PathT x ts→0≤l→Pr e l te→Pr (Node.mk 2 x (bs []) 0 0 0 false [e] 0) 13 (ts ++ sy [91] :: (te ++ [sy [93]]))
 | up {x:Node} {ts:List Token}:Pr x 13 ts→Pr x 12 ts
 | old {r:Node} {tr:List Token}:Pr r 13 tr→Pr (Node.mk 3 (bs []) (bs []) 0 0 0 false [r] 0) 12 (zt 1 (bs [111,108,100]) :: sy [40] :: (tr ++ [sy [41]]))
 | paren {x:Node} {l:Int} {ts:List Token}:0≤l→Pr x l ts→Pr x 12 (sy [40] :: (ts ++ [sy [41]]))
 | not {e:Node} {l:Int} {te:List Token}:11≤l→Pr e l te→Pr (Node.mk 4 (bs []) (bs []) 0 0 0 false [e] 0) 11 (sy [33] :: te)
 | bin {op:ByteArray} {a b:Node} {la lb:Int} {ta tb:List Token}:levelI op≠0→reqL (levelI op)≤la→reqR (levelI op)≤lb→Pr a la ta→Pr b lb tb→Pr (Node.mk 5 op (bs []) 0 0 0 false [a,b] 0) (levelI op) (ta ++ zt 3 op :: tb)
 | cond {a b c:Node} {la lb lc:Int} {ta tb tc:List Token}:2≤la→1≤lb→1≤lc→Pr a la ta→Pr b lb tb→Pr c lc tc→Pr (Node.mk 6 (bs []) (bs []) 0 0 0 false [a,b,c] 0) 1 (ta ++ sy [63] :: (tb ++ sy [58] :: tc))
 | quant {k:Int} {w x s:ByteArray} {v:Int} {e:Node} {l:Int} {te:List Token}:(k = 7∧w = bs [97,108,108]∨k = 8∧w = bs [115,111,109,101])→nameB (tl x) = true→numV s = v→0≤l→Pr e l te →
   Pr (Node.mk k x (bs []) v 0 0 false [e] 0) 0 (zt 1 w :: zt 1 x :: sy [60] :: zt 2 s :: sy [58] :: te)
def nx (r:List Token):ByteArray:=textO (hdOf r)
def Ends0 (r:List Token):Prop:=strEq (nx r) (bs [46]) = false∧strEq (nx r) (bs [91]) = false
theorem level_mem {op:ByteArray} (h:levelI op≠0):∃ l:List UInt8,op = bs l∧l ∈ ([[61,61,62],[124,124],[38,38],[61,61],[33,61],[60],[60,61],[124],[94],[38],[43],[45],[42]]:List (List UInt8)):=by
 have hs:∀ l:List UInt8,strEq op (bs l) = true→op = bs l:=fun l hl=>strEq_iff.1 hl
 unfold levelI at h
 simp only [cond_eq_ite] at h
 repeat' split at h
 all_goals (rename_i hh; first | (simp only [Bool.or_eq_true] at hh; rcases hh with hh | hh | hh | hh <;> exact ⟨_,hs _ hh,by simp⟩) | (simp only [Bool.or_eq_true] at hh; rcases hh with hh | hh <;> exact ⟨_,hs _ hh,by simp⟩) | exact ⟨_,hs _ hh,by simp⟩ | exact absurd rfl h)
theorem level_pos {op:ByteArray} (h:levelI op≠0):2≤levelI op∧levelI op≤10:=by
 obtain ⟨l,rfl,hl⟩:=level_mem h
 have:∀ l ∈ ([[61,61,62],[124,124],[38,38],[61,61],[33,61],[60],[60,61],[124],[94],[38],[43],[45],[42]]:List (List UInt8)),2≤levelI (bs l)∧levelI (bs l)≤10:=by decide
 exact this l hl
theorem op_ends {op:ByteArray} (h:levelI op≠0) (r:List Token):Ends0 (zt 3 op :: r)∧strEq op (bs [63]) = false:=by
 obtain ⟨l,rfl,hl⟩:=level_mem h
 have:∀ l ∈ ([[61,61,62],[124,124],[38,38],[61,61],[33,61],[60],[60,61],[124],[94],[38],[43],[45],[42]]:List (List UInt8)),strEq (bs l) (bs [46]) = false∧strEq (bs l) (bs [91]) = false∧strEq (bs l) (bs [63]) = false:=by decide
 exact ⟨⟨(this l hl).1,(this l hl).2.1⟩,(this l hl).2.2⟩
theorem name_facts {a:ByteArray} (h:nameB (tl a) = true):isNm (1,a) = true∧isKey a = false∧∃ c r,tl a = c :: r∧isLetI c.toNat = true:=by
 simp only [nameB,Bool.and_eq_true,Bool.not_eq_true',decide_eq_true_eq] at h
 have hk:isKey a = false:=h.1.2
 refine ⟨by simp [isNm,hk],hk,?_⟩
 cases hc:tl a with
 | nil=>rw [hc] at h; simp at h
 | cons c r =>
  rw [hc] at h
  simp only [nameCs,Bool.and_eq_true] at h
  exact ⟨c,r,rfl,h.2.1⟩
theorem not_let {a:ByteArray} {l:List UInt8} (h:∃ c r,tl a = c :: r∧isLetI c.toNat = true) (hl:∀ c r,l = c :: r→isLetI c.toNat = false):strEq a (bs l) = false:=by
 cases he:strEq a (bs l)
 ·rfl
 ·obtain ⟨c,r,h1,h2⟩:=h
  rw [strEq_iff.1 he,tl_bs] at h1
  rw [hl c r h1] at h2
  cases h2
theorem key_ne {a:ByteArray} {l:List UInt8} (h:isKey a = false) (hl:l ∈ keyNames):strEq a (bs l) = false:=by
 cases he:strEq a (bs l)
 ·rfl
 ·rw [strEq_iff.1 he] at h
  have:isKey (bs l) = true:=List.any_eq_true.2 ⟨l,hl,by simp [bs]⟩
  rw [this] at h
  cases h
namespace M
theorem run_name {a:ByteArray} (h:nameB (tl a) = true) (fin:Int) (r:List Token) (i:Int) (p:List (Int × Int)):name.run fin ⟨zt 1 a :: r,i,p⟩ = .ok a ⟨r,i,p⟩:=by
 have:=(name_facts h).1
 simp only [name,run,hdOf,zt]
 rw [this]
 rfl
theorem run_num (s:ByteArray) (fin:Int) (r:List Token) (i:Int) (p:List (Int × Int)):num.run fin ⟨zt 2 s :: r,i,p⟩ = .ok (numV s) ⟨r,i,p⟩:=rfl
theorem run_exp1 {l:List UInt8} (fin:Int) (r:List Token) (i:Int) (p:List (Int × Int)):(expect (bs l)).run fin ⟨sy l :: r,i,p⟩ = .ok () ⟨r,i,p⟩:=by
 rw [run_expect]
 simp only [sy,strEq_self,cond_true]
theorem run_acc1 {l:List UInt8} (fin:Int) (r:List Token) (i:Int) (p:List (Int × Int)):(accept (bs l)).run fin ⟨sy l :: r,i,p⟩ = .ok true ⟨r,i,p⟩:=by
 rw [run_accept]
 simp only [sy,strEq_self,cond_true]
theorem run_acc0 {a:ByteArray} (fin:Int) (r:List Token) (i:Int) (p:List (Int × Int)) (h:strEq (nx r) a = false):(accept a).run fin ⟨r,i,p⟩ = .ok false ⟨r,i,p⟩:=by
 rw [run_accept]
 cases r with
 | nil=>rfl
 | cons t r =>
  have h':strEq t.text a = false:=h
  simp only [h',cond_false]
theorem run_kw1 {α:Type} {l:List UInt8} {m m':M α} (fin:Int) (r:List Token) (i:Int) (p:List (Int × Int)):(kw (bs l) m m').run fin ⟨sy l :: r,i,p⟩ = m.run fin ⟨r,i,p⟩:=by
 rw [kw,run_bind,run_acc1]
 rfl
theorem run_kw0 {α:Type} {a:ByteArray} {m m':M α} (fin:Int) (r:List Token) (i:Int) (p:List (Int × Int)) (h:strEq (nx r) a = false):(kw a m m').run fin ⟨r,i,p⟩ = m'.run fin ⟨r,i,p⟩:=by
 rw [kw,run_bind,run_acc0 fin r i p h]
 rfl
theorem run_path {x:ByteArray} {ts:List Token} (h:PathT x ts) {n:Nat} (hn:3≤n) (fin:Int) (r:List Token) (i:Int) (p:List (Int × Int)) (hr:strEq (nx r) (bs [46]) = false):(path n).run fin ⟨ts ++ r,i,p⟩ = .ok x ⟨r,i,p⟩:=by
 obtain ⟨n,rfl⟩:∃ m,n = m + 3:=⟨n - 3,by omega⟩
 have stop:∀ (y:ByteArray) (k:Int),(pathS (y,k)).run fin ⟨r,i,p⟩ = .ok (.inr y) ⟨r,i,p⟩:=by
  intro y k
  unfold pathS
  cases decide ((y,k).2 < 2)
  ·rfl
  ·simp only [cond_true,run_bind]
   rw [run_acc0 fin r i p hr]
   rfl
 have go:∀ (y b:ByteArray) (k:Int) (r':List Token),k < 2→nameB (tl b) = true→(pathS (y,k)).run fin ⟨sy [46] :: zt 1 b :: r',i,p⟩ = .ok (.inl (bs (tl y ++ 46 :: tl b),k + 1)) ⟨r',i,p⟩:=by
  intro y b k r' hk hb
  unfold pathS
  have:decide ((y,k).2 < 2) = true:=decide_eq_true hk
  rw [this]
  simp only [cond_true,run_bind]
  rw [run_acc1]
  simp only [andThen,Bool.not_true,cond_false,run_bind]
  rw [run_name hb]
  rfl
 cases h with
 | one ha =>
  simp only [path,run_bind,List.cons_append,List.nil_append]
  rw [run_name ha]
  simp only [andThen,iterM,run_bind,stop,run]
 | two ha hb =>
  simp only [path,run_bind,List.cons_append,List.nil_append]
  rw [run_name ha]
  simp only [andThen,iterM,run_bind]
  rw [go _ _ _ _ (by omega) hb]
  simp only [andThen,run_bind,stop,run]
 | three ha hb hc =>
  simp only [path,run_bind,List.cons_append,List.nil_append]
  rw [run_name ha]
  simp only [andThen,iterM,run_bind]
  rw [go _ _ _ _ (by omega) hb]
  simp only [andThen,run_bind]
  rw [go _ _ _ _ (by omega) hc]
  simp only [andThen,run_bind,stop,run]
end M
theorem PathT.hd {x:ByteArray} {ts:List Token} (h:PathT x ts):∃ a r,ts = zt 1 a :: r∧nameB (tl a) = true:=by
 cases h with
 | one ha=>exact ⟨_,_,rfl,ha⟩
 | two ha hb=>exact ⟨_,_,rfl,ha⟩
 | three ha hb hc=>exact ⟨_,_,rfl,ha⟩
theorem Pr.hd {x:Node} {l:Int} {ts:List Token} (h:Pr x l ts):1≤l→∃ t r,ts = t :: r∧strEq t.text (bs [97,108,108]) = false∧strEq t.text (bs [115,111,109,101]) = false:=by
 have hnm:∀ a:ByteArray,nameB (tl a) = true→strEq a (bs [97,108,108]) = false∧strEq a (bs [115,111,109,101]) = false:=fun a ha =>
  ⟨key_ne (name_facts ha).2.1 (by decide),key_ne (name_facts ha).2.1 (by decide)⟩
 induction h with
 | @num v s h1 h2 h3 =>
  intro _
  have hne:∀ c r,(∃ d,d = c∧¬ (48≤d.toNat∧d.toNat≤57))→strEq s (bs (c :: r)) = false:=by
   rintro c r ⟨d,rfl,hd⟩
   cases he:strEq s (bs (d :: r))
   ·rfl
   ·exact absurd (h2 d (by rw [strEq_iff.1 he]; exact List.mem_cons_self ..)) hd
  exact ⟨_,_,rfl,hne _ _ ⟨_,rfl,by decide⟩,hne _ _ ⟨_,rfl,by decide⟩⟩
 | ref0 hp=>intro _; obtain ⟨a,r,rfl,ha⟩:=hp.hd; exact ⟨_,_,rfl,hnm a ha⟩
 | ref1 hp _ _ _=>intro _; obtain ⟨a,r,rfl,ha⟩:=hp.hd; exact ⟨_,_,rfl,hnm a ha⟩
 | up _ ih=>intro _; exact ih (by omega)
 | old _ _=>intro _; exact ⟨_,_,rfl,by decide,by decide⟩
 | paren _ _ _=>intro _; exact ⟨_,_,rfl,by decide,by decide⟩
 | not _ _ _=>intro _; exact ⟨_,_,rfl,by decide,by decide⟩
 | bin h1 h2 h3 _ _ iha _ =>
  intro _
  have:=level_pos h1
  obtain ⟨t,r,rfl,h⟩:=iha (by unfold reqL at h2; split at h2 <;> (try split at h2) <;> omega)
  exact ⟨_,_,rfl,h⟩
 | cond h1 _ _ _ _ _ iha _ _ =>
  intro _
  obtain ⟨t,r,rfl,h⟩:=iha (by omega)
  exact ⟨_,_,rfl,h⟩
 | quant _ _ _ _ _ _=>intro h; omega
end Go.Proofs.YtbecjgckobhmpaaGreatDoor
end
section
namespace Go.Proofs.YtbecjgckobhmpaaGreatDoor
open Go Go.AM Go.Proofs
namespace M
theorem loop_stop {mB:Int→M Node} {least most:Int} {x:Node} {r:List Token} (h:levelI (nx r) = 0∨levelI (nx r) < least∨most < levelI (nx r)) {k:Nat} (hk:1≤k) (fin:Int) (i:Int) (p:List (Int × Int)) :
  (iterM (binStep mB least) k (most,x)).run fin ⟨r,i,p⟩ = .ok x ⟨r,i,p⟩:=by
 obtain ⟨k,rfl⟩:∃ m,k = m + 1:=⟨k - 1,by omega⟩
 have hc:(((levelI (textO (hdOf r)) == 0) || decide (levelI (textO (hdOf r)) < least)) || decide (most < levelI (textO (hdOf r)))) = true:=by
  simp only [Bool.or_eq_true,beq_iff_eq,decide_eq_true_eq]
  rcases h with h | h | h
  ·exact .inl (.inl h)
  ·exact .inl (.inr h)
  ·exact .inr h
 simp only [iterM,run_bind,binStep,run,hc,cond_true,andThen]
theorem loop_step {mB:Int→M Node} {least most:Int} {x:Node} {op:ByteArray} {r:List Token} (h0:levelI op≠0) (h1:least≤levelI op) (h2:levelI op≤most) {k:Nat} (fin:Int) (i:Int) (p:List (Int × Int)) :
  (iterM (binStep mB least) (k + 1) (most,x)).run fin ⟨zt 3 op :: r,i,p⟩ = andThen ((rightS mB (levelI op)).run fin ⟨r,i,p⟩) (fun j s=>(iterM (binStep mB least) k (j.1,Node.mk 5 op (bs []) 0 0 0 false [x,j.2] 0)).run fin s) (fun b s=>.bad b s):=by
 have hc:(((levelI op == 0) || decide (levelI op < least)) || decide (most < levelI op)) = false:=by
  simp only [Bool.or_eq_false_iff,beq_eq_false_iff_ne,decide_eq_false_iff_not]
  exact ⟨⟨h0,by omega⟩,by omega⟩
 have hc':(((levelI (textO (hdOf (zt 3 op :: r))) == 0) || decide (levelI (textO (hdOf (zt 3 op :: r))) < least)) || decide (most < levelI (textO (hdOf (zt 3 op :: r))))) = false:=hc
 simp only [iterM,run_bind,binStep,run,hc',cond_false]
 rw [show (rightS mB (levelI (textO (hdOf (zt 3 op :: r))))).run fin ⟨r,i,p⟩ = (rightS mB (levelI op)).run fin ⟨r,i,p⟩ from rfl]
 cases (rightS mB (levelI op)).run fin ⟨r,i,p⟩ <;> rfl
theorem run_right {mB:Int→M Node} {l:Int} (hl:2≤l∧l≤10) {fin:Int} {s s':PS} {x:Node} (h:(mB (reqR l)).run fin s = .ok x s'):(rightS mB l).run fin s = .ok (mostI l,x) s':=by
 unfold rightS reqR mostI at *
 by_cases h2:l = 2
 ·subst h2
  simp only [if_true] at h
  simp [run_bind,h,andThen,run]
 ·have e2:(l == 2) = false:=by simpa using h2
  rw [if_neg h2] at h
  by_cases h5:l = 5
  ·subst h5
   simp only [e2,cond_false]
   have e5:((5:Int) == 5) = true:=rfl
   rw [e5]
   simp only [cond_true,run_bind,h,andThen,run]
   rfl
  ·have e5:(l == 5) = false:=by simpa using h5
   rw [e2,e5,if_neg (by omega),if_neg h2,if_neg h5]
   simp only [cond_false,run_bind,h,andThen,run]
structure Reads (x:Node) (l:Int) (ts:List Token):Prop where
 r:l = 13→∀ n,6 * ts.length + 10≤n→∀ fin r i p,Ends0 r→(ref n).run fin ⟨ts ++ r,i,p⟩ = .ok x ⟨r,i,p⟩
 u:11≤l→∀ n,6 * ts.length + 11≤n→∀ fin r i p,Ends0 r→(unary n).run fin ⟨ts ++ r,i,p⟩ = .ok x ⟨r,i,p⟩
 b:2≤l→∀ n,6 * ts.length + 11≤n→∀ least,least≤l→∀ fin r i p,Ends0 r→levelI (nx r)≤mostI l→∃ k,n≤k + ts.length∧(bin (n + 1) least).run fin ⟨ts ++ r,i,p⟩ = (iterM (binStep (bin n) least) k (mostI l,x)).run fin ⟨r,i,p⟩
 c:1≤l→∀ n,6 * ts.length + 13≤n→∀ fin r i p,Ends0 r→levelI (nx r) = 0→strEq (nx r) (bs [63]) = false→(cond n).run fin ⟨ts ++ r,i,p⟩ = .ok x ⟨r,i,p⟩
 e:∀ n,6 * ts.length + 14≤n→∀ fin r i p,Ends0 r→levelI (nx r) = 0→strEq (nx r) (bs [63]) = false→(expr n).run fin ⟨ts ++ r,i,p⟩ = .ok x ⟨r,i,p⟩
theorem most_pos (l:Int) (h:2≤l):0≤mostI l:=by
 unfold mostI
 split
 ·omega
 ·split
  ·omega
  ·split <;> omega
theorem reads_up {x:Node} {l:Int} {ts:List Token} (hp:Pr x l ts) (hl:2≤l)
  (hr:l = 13→∀ n,6 * ts.length + 10≤n→∀ fin r i p,Ends0 r→(ref n).run fin ⟨ts ++ r,i,p⟩ = .ok x ⟨r,i,p⟩)
  (hu:11≤l→∀ n,6 * ts.length + 11≤n→∀ fin r i p,Ends0 r→(unary n).run fin ⟨ts ++ r,i,p⟩ = .ok x ⟨r,i,p⟩)
  (hb:∀ n,6 * ts.length + 11≤n→∀ least,least≤l→∀ fin r i p,Ends0 r→levelI (nx r)≤mostI l→∃ k,n≤k + ts.length∧(bin (n + 1) least).run fin ⟨ts ++ r,i,p⟩ = (iterM (binStep (bin n) least) k (mostI l,x)).run fin ⟨r,i,p⟩):Reads x l ts:=by
 have hc:∀ n,6 * ts.length + 13≤n→∀ fin r i p,Ends0 r→levelI (nx r) = 0→strEq (nx r) (bs [63]) = false→(cond n).run fin ⟨ts ++ r,i,p⟩ = .ok x ⟨r,i,p⟩:=by
  intro n hn fin r i p h0 h1 h2
  obtain ⟨m,rfl⟩:∃ m,n = m + 2:=⟨n - 2,by omega⟩
  obtain ⟨k,hk,e⟩:=hb m (by omega) 2 hl fin r i p h0 (by have:=most_pos l hl; omega)
  rw [cond]
  simp only [condS,run_bind]
  rw [e,loop_stop (.inl h1) (by omega)]
  simp only [andThen,run,run_bind]
  rw [run_acc0 fin r i p h2]
  rfl
 refine ⟨hr,hu,fun _=>hb,fun _=>hc,?_⟩
 intro n hn fin r i p h0 h1 h2
 obtain ⟨m,rfl⟩:∃ m,n = m + 1:=⟨n - 1,by omega⟩
 obtain ⟨t,r',rfl,ha,hs⟩:=hp.hd (by omega)
 rw [expr]
 simp only [exprS,run,List.cons_append,hdOf,textO,ha,hs,cond_false]
 exact hc m (by omega) fin r i p h0 h1 h2
theorem b_prim {x:Node} {l:Int} {ts:List Token} (hl:11≤l) (hu:∀ n,6 * ts.length + 11≤n→∀ fin r i p,Ends0 r→(unary n).run fin ⟨ts ++ r,i,p⟩ = .ok x ⟨r,i,p⟩) :
  ∀ n,6 * ts.length + 11≤n→∀ least,least≤l→∀ fin r i p,Ends0 r→levelI (nx r)≤mostI l→∃ k,n≤k + ts.length∧(bin (n + 1) least).run fin ⟨ts ++ r,i,p⟩ = (iterM (binStep (bin n) least) k (mostI l,x)).run fin ⟨r,i,p⟩:=by
 intro n hn least _ fin r i p h0 _
 refine ⟨n,by omega,?_⟩
 rw [bin]
 simp only [binS,run_bind]
 rw [hu n hn fin r i p h0]
 have:mostI l = 10:=by unfold mostI; rw [if_pos hl]
 rw [this]
 rfl
theorem reads_prim {x:Node} {l:Int} {ts:List Token} (hp:Pr x l ts) (hl:11≤l)
  (hr:l = 13→∀ n,6 * ts.length + 10≤n→∀ fin r i p,Ends0 r→(ref n).run fin ⟨ts ++ r,i,p⟩ = .ok x ⟨r,i,p⟩)
  (hu:∀ n,6 * ts.length + 11≤n→∀ fin r i p,Ends0 r→(unary n).run fin ⟨ts ++ r,i,p⟩ = .ok x ⟨r,i,p⟩):Reads x l ts :=
 reads_up hp (by omega) hr (fun _=>hu) (b_prim hl hu)
theorem ends_sym (l:List UInt8) (h:l≠[46]∧l≠[91]) (r:List Token):Ends0 (sy l :: r):=by
 refine ⟨?_,?_⟩
 ·cases he:strEq (bs l) (bs [46])
  ·exact he
  ·exact absurd (congrArg tl (strEq_iff.1 he)) h.1
 ·cases he:strEq (bs l) (bs [91])
  ·exact he
  ·exact absurd (congrArg tl (strEq_iff.1 he)) h.2
theorem Pr.ref_hd {x:Node} {ts:List Token} (h:Pr x 13 ts):∃ a r,ts = zt 1 a :: r∧nameB (tl a) = true:=by
 generalize hl:(13:Int) = l at h
 cases h with
 | ref0 hp=>exact hp.hd
 | ref1 hp _ _ =>
  obtain ⟨a,r,rfl,ha⟩:=hp.hd
  exact ⟨a,_,rfl,ha⟩
 | bin h1 =>
  have:=level_pos h1
  omega
 | _=>omega
theorem u_ref {x:Node} {ts:List Token} (hp:Pr x 13 ts) (hr:∀ n,6 * ts.length + 10≤n→∀ fin r i p,Ends0 r→(ref n).run fin ⟨ts ++ r,i,p⟩ = .ok x ⟨r,i,p⟩) :
  ∀ n,6 * ts.length + 11≤n→∀ fin r i p,Ends0 r→(unary n).run fin ⟨ts ++ r,i,p⟩ = .ok x ⟨r,i,p⟩:=by
 intro n hn fin r i p h0
 obtain ⟨m,rfl⟩:∃ m,n = m + 1:=⟨n - 1,by omega⟩
 obtain ⟨a,r',rfl,ha⟩:=Pr.ref_hd hp
 have hf:=name_facts ha
 have e1:strEq (nx (zt 1 a :: r' ++ r)) (bs [33]) = false:=not_let hf.2.2 (by simp; decide)
 have e2:strEq (nx (zt 1 a :: r' ++ r)) (bs [111,108,100]) = false:=key_ne hf.2.1 (by decide)
 have e3:strEq (nx (zt 1 a :: r' ++ r)) (bs [40]) = false:=not_let hf.2.2 (by simp; decide)
 rw [unary]
 simp only [unaryS,run]
 rw [run_kw0 _ _ _ _ e1]
 simp only [run]
 have e4:(kindO (hdOf (zt 1 a :: r' ++ r)) == 2) = false:=rfl
 rw [e4]
 simp only [cond_false]
 rw [run_kw0 _ _ _ _ e2,run_kw0 _ _ _ _ e3]
 exact hr m (by simp only [List.length_cons] at hn ⊢; omega) fin r i p h0
theorem reads {x:Node} {l:Int} {ts:List Token} (h:Pr x l ts):Reads x l ts:=by
 induction h with
 | @num v s h1 h2 h3 =>
  refine reads_prim (.num h1 h2 h3) (by omega) (fun h=>by omega) ?_
  intro n hn fin r i p h0
  obtain ⟨m,rfl⟩:∃ m,n = m + 1:=⟨n - 1,by omega⟩
  have e1:strEq (nx (zt 2 s :: r)) (bs [33]) = false:=by
   cases he:strEq s (bs [33])
   ·exact he
   ·exact absurd (h2 33 (by rw [strEq_iff.1 he]; exact List.mem_cons_self ..)) (by decide)
  rw [unary]
  simp only [unaryS,run,List.cons_append,List.nil_append]
  rw [run_kw0 _ _ _ _ e1]
  simp only [run]
  have e4:(kindO (hdOf (zt 2 s :: r)) == 2) = true:=rfl
  rw [e4]
  simp only [cond_true,numNode,run,run_bind]
  rw [run_num]
  simp only [andThen,h1]
  rfl
 | @ref0 x ts hp =>
  have hr:∀ n,6 * ts.length + 10≤n→∀ fin r i p,Ends0 r→(ref n).run fin ⟨ts ++ r,i,p⟩ = .ok (Node.mk 2 x (bs []) 0 0 0 false [] 0) ⟨r,i,p⟩:=by
   intro n hn fin r i p h0
   obtain ⟨m,rfl⟩:∃ m,n = m + 1:=⟨n - 1,by omega⟩
   have hpos:posOf fin (ts ++ r) = 0:=by obtain ⟨a,r',rfl,_⟩:=hp.hd; rfl
   rw [ref]
   simp only [refS,run,run_bind]
   rw [run_path hp (by omega) fin r i p h0.1]
   simp only [andThen]
   rw [run_kw0 _ _ _ _ h0.2]
   simp only [run,hpos]
  exact reads_prim (.ref0 hp) (by omega) (fun _=>hr) (u_ref (.ref0 hp) hr)
 | @ref1 x ts e l te hp hl0 he ih =>
  have hr:∀ n,6 * (ts ++ sy [91] :: (te ++ [sy [93]])).length + 10≤n→∀ fin r i p,Ends0 r→(ref n).run fin ⟨(ts ++ sy [91] :: (te ++ [sy [93]])) ++ r,i,p⟩ = .ok (Node.mk 2 x (bs []) 0 0 0 false [e] 0) ⟨r,i,p⟩:=by
   intro n hn fin r i p h0
   obtain ⟨m,rfl⟩:∃ m,n = m + 1:=⟨n - 1,by omega⟩
   have hpos:∀ y,posOf fin (ts ++ y) = 0:=by intro y; obtain ⟨a,r',rfl,_⟩:=hp.hd; rfl
   simp only [List.length_append,List.length_cons,List.length_nil] at hn
   have e1:(ts ++ sy [91] :: (te ++ [sy [93]])) ++ r = ts ++ (sy [91] :: (te ++ (sy [93] :: r))):=by simp
   rw [ref,e1]
   simp only [refS,run,run_bind]
   rw [run_path hp (by omega) fin _ i p (by rfl)]
   simp only [andThen]
   rw [run_kw1]
   simp only [run_bind]
   rw [ih.e m (by omega) fin _ i p (ends_sym _ (by simp) r) (by rfl) (by rfl)]
   simp only [andThen]
   rw [run_exp1]
   simp only [run,hpos]
  exact reads_prim (.ref1 hp hl0 he) (by omega) (fun _=>hr) (u_ref (.ref1 hp hl0 he) hr)
 | up h ih=>exact reads_prim (.up h) (by omega) (fun h=>by omega) (u_ref h (ih.r rfl))
 | @old y tr h ih =>
  refine reads_prim (.old h) (by omega) (fun h=>by omega) ?_
  intro n hn fin r i p h0
  obtain ⟨m,rfl⟩:∃ m,n = m + 1:=⟨n - 1,by omega⟩
  simp only [List.length_append,List.length_cons,List.length_nil] at hn
  have e0:(zt 1 (bs [111,108,100]) :: sy [40] :: (tr ++ [sy [41]])) ++ r = zt 1 (bs [111,108,100]) :: sy [40] :: (tr ++ (sy [41] :: r)):=by simp
  rw [unary,e0]
  simp only [unaryS,run]
  rw [run_kw0 _ _ _ _ (by rfl)]
  simp only [run]
  have e4:(kindO (hdOf (zt 1 (bs [111,108,100]) :: sy [40] :: (tr ++ (sy [41] :: r)))) == 2) = false:=rfl
  rw [e4]
  simp only [cond_false]
  have e5:∀ (m1 m2:M Node) (r':List Token),(kw (bs [111,108,100]) m1 m2).run fin ⟨zt 1 (bs [111,108,100]) :: r',i,p⟩ = m1.run fin ⟨r',i,p⟩:=fun m1 m2 r'=>run_kw1 (l:=[111,108,100]) fin r' i p
  rw [e5]
  simp only [run_bind]
  rw [run_exp1]
  simp only [andThen]
  rw [ih.r rfl m (by omega) fin _ i p (ends_sym _ (by simp) r)]
  simp only
  rw [run_exp1]
  rfl
 | @paren x l ts hl0 h ih =>
  refine reads_prim (.paren hl0 h) (by omega) (fun h=>by omega) ?_
  intro n hn fin r i p h0
  obtain ⟨m,rfl⟩:∃ m,n = m + 1:=⟨n - 1,by omega⟩
  simp only [List.length_append,List.length_cons,List.length_nil] at hn
  have e0:(sy [40] :: (ts ++ [sy [41]])) ++ r = sy [40] :: (ts ++ (sy [41] :: r)):=by simp
  rw [unary,e0]
  simp only [unaryS,run]
  rw [run_kw0 _ _ _ _ (by rfl)]
  simp only [run]
  have e4:(kindO (hdOf (sy [40] :: (ts ++ (sy [41] :: r)))) == 2) = false:=rfl
  rw [e4]
  simp only [cond_false]
  rw [run_kw0 _ _ _ _ (by rfl),run_kw1]
  simp only [run_bind]
  rw [ih.e m (by omega) fin _ i p (ends_sym _ (by simp) r) (by rfl) (by rfl)]
  simp only [andThen]
  rw [run_exp1]
  rfl
 | @not e l te hl h ih =>
  refine reads_prim (.not hl h) (by omega) (fun h=>by omega) ?_
  intro n hn fin r i p h0
  obtain ⟨m,rfl⟩:∃ m,n = m + 1:=⟨n - 1,by omega⟩
  simp only [List.length_cons] at hn
  rw [unary,List.cons_append]
  simp only [unaryS,run]
  rw [run_kw1]
  simp only [run_bind]
  rw [ih.u hl m (by omega) fin r i p h0]
  rfl
 | @bin op a b la lb ta tb h1 h2 h3 ha hb iha ihb =>
  have hlv:=level_pos h1
  have hmost:mostI (levelI op) < reqR (levelI op):=by unfold mostI reqR; split <;> (try split) <;> (try split) <;> omega
  have hla:2≤la∧levelI op≤la∧levelI op≤mostI la:=by
   unfold reqL at h2
   unfold mostI
   split at h2 <;> (try split at h2) <;> split <;> (try split) <;> (try split) <;> omega
  have hlb:2≤lb∧mostI (levelI op)≤mostI lb:=by
   unfold reqR at h3
   unfold mostI
   split at h3 <;> split <;> (try split) <;> (try split) <;> (try split) <;> (try split) <;> (try split) <;> omega
  refine reads_up (.bin h1 h2 h3 ha hb) hlv.1 (fun h=>by omega) (fun h=>by omega) ?_
  intro n hn least hleast fin r i p h0 hnx
  simp only [List.length_append,List.length_cons] at hn ⊢
  have e0:(ta ++ zt 3 op :: tb) ++ r = ta ++ (zt 3 op :: (tb ++ r)):=by simp
  rw [e0]
  obtain ⟨k,hk,e1⟩:=iha.b hla.1 n (by omega) least (by omega) fin (zt 3 op :: (tb ++ r)) i p (op_ends h1 _).1 hla.2.2
  rw [e1]
  obtain ⟨k,rfl⟩:∃ m,k = m + 1:=⟨k - 1,by omega⟩
  rw [loop_step h1 hleast hla.2.2]
  obtain ⟨n',rfl⟩:∃ m,n = m + 1:=⟨n - 1,by omega⟩
  obtain ⟨k2,hk2,e2⟩:=ihb.b hlb.1 n' (by omega) (reqR (levelI op)) h3 fin r i p h0 (by omega)
  have e3:(bin (n' + 1) (reqR (levelI op))).run fin ⟨tb ++ r,i,p⟩ = .ok b ⟨r,i,p⟩:=by
   rw [e2]
   exact loop_stop (.inr (.inl (by omega))) (by omega) fin i p
  rw [run_right hlv e3]
  exact ⟨k,by omega,rfl⟩
 | @cond a b c la lb lc ta tb tc h1 h2 h3 ha hb hc iha ihb ihc =>
  have hC:∀ n,6 * (ta ++ sy [63] :: (tb ++ sy [58] :: tc)).length + 13≤n→∀ fin r i p,Ends0 r→levelI (nx r) = 0→strEq (nx r) (bs [63]) = false→(cond n).run fin ⟨(ta ++ sy [63] :: (tb ++ sy [58] :: tc)) ++ r,i,p⟩ = .ok (Node.mk 6 (bs []) (bs []) 0 0 0 false [a,b,c] 0) ⟨r,i,p⟩:=by
   intro n hn fin r i p h0 hl hq
   obtain ⟨m,rfl⟩:∃ m,n = m + 2:=⟨n - 2,by omega⟩
   simp only [List.length_append,List.length_cons] at hn
   have e0:(ta ++ sy [63] :: (tb ++ sy [58] :: tc)) ++ r = ta ++ (sy [63] :: (tb ++ (sy [58] :: (tc ++ r)))):=by simp
   rw [cond,e0]
   simp only [condS,run_bind]
   obtain ⟨k,hk,e1⟩:=iha.b h1 m (by omega) 2 h1 fin (sy [63] :: (tb ++ (sy [58] :: (tc ++ r)))) i p (ends_sym _ (by simp) _) (most_pos la h1)
   rw [e1,loop_stop (.inl (by rfl)) (by omega)]
   simp only [andThen,run,run_bind]
   rw [run_acc1]
   simp only [andThen,Bool.not_true,cond_false,run_bind]
   rw [ihb.c h2 (m + 1) (by omega) fin _ i p (ends_sym _ (by simp) _) (by rfl) (by rfl)]
   simp only
   rw [run_exp1]
   simp only
   rw [ihc.c h3 (m + 1) (by omega) fin r i p h0 hl hq]
   rfl
  refine ⟨fun h=>by omega,fun h=>by omega,fun h=>by omega,fun _=>hC,?_⟩
  intro n hn fin r i p h0 hl hq
  obtain ⟨m,rfl⟩:∃ m,n = m + 1:=⟨n - 1,by omega⟩
  obtain ⟨t,r',hts,hall,hsome⟩:=(Pr.cond h1 h2 h3 ha hb hc).hd (by omega)
  have:=hC m (by omega) fin r i p h0 hl hq
  rw [hts] at this ⊢
  rw [expr]
  simp only [exprS,run,List.cons_append,hdOf,textO,hall,hsome,cond_false]
  exact this
 | @quant k w x s v e l te hk hx hv hl0 h ih =>
  refine ⟨fun h=>by omega,fun h=>by omega,fun h=>by omega,fun h=>by omega,?_⟩
  intro n hn fin r i p h0 hl hq
  obtain ⟨m,rfl⟩:∃ m,n = m + 1:=⟨n - 1,by omega⟩
  simp only [List.length_cons] at hn
  have hqq:(quant (expr m) k).run fin ⟨zt 1 w :: zt 1 x :: sy [60] :: zt 2 s :: sy [58] :: (te ++ r),i,p⟩ = .ok (Node.mk k x (bs []) v 0 0 false [e] 0) ⟨r,i,p⟩:=by
   simp only [quant,run,run_bind]
   rw [run_name hx]
   simp only [andThen]
   rw [run_exp1]
   simp only
   rw [run_num]
   simp only
   rw [run_exp1]
   simp only
   rw [ih.e m (by omega) fin r i p h0 hl hq]
   simp only [hv]
   rfl
  rw [expr]
  simp only [List.cons_append]
  rcases hk with ⟨rfl,rfl⟩ | ⟨rfl,rfl⟩
  ·have e1:strEq (textO (hdOf (zt 1 (bs [97,108,108]) :: zt 1 x :: sy [60] :: zt 2 s :: sy [58] :: (te ++ r)))) (bs [97,108,108]) = true:=by rfl
   simp only [exprS,run,e1,cond_true]
   exact hqq
  ·have e1:strEq (textO (hdOf (zt 1 (bs [115,111,109,101]) :: zt 1 x :: sy [60] :: zt 2 s :: sy [58] :: (te ++ r)))) (bs [97,108,108]) = false:=by rfl
   have e2:strEq (textO (hdOf (zt 1 (bs [115,111,109,101]) :: zt 1 x :: sy [60] :: zt 2 s :: sy [58] :: (te ++ r)))) (bs [115,111,109,101]) = true:=by rfl
   simp only [exprS,run,e1,e2,cond_true,cond_false]
   exact hqq
theorem whole_reads {x:Node} {l:Int} {ts:List Token} (h:Pr x l ts) {n:Nat} (hn:6 * ts.length + 14≤n) (fin:Int) (i:Int) (p:List (Int × Int)):(whole n).run fin ⟨ts,i,p⟩ = .ok x ⟨[],i,p⟩:=by
 have:=(reads h).e n hn fin [] i p ⟨by rfl,by rfl⟩ (by rfl) (by rfl)
 rw [List.append_nil] at this
 simp only [whole,run_bind,this,andThen,run]
 rfl
end M
end Go.Proofs.YtbecjgckobhmpaaGreatDoor
end
section
namespace Go.Proofs.YtbecjgckobhmpaaGreatDoor
open Go Go.AM Go.Proofs
abbrev Tk:=Nat × Bytes
def tkn:Nat→Bytes→Option (List Tk)
 | 0,_=>none
 | f + 1,l=>match skp false l with
  | []=>some []
  | b :: r=>match tokL (b :: r) with
   | none=>none
   | some km=>(tkn f ((b :: r).drop km.2)).map ((km.1,(b :: r).take km.2) :: ·)
def tk (l:Bytes):Option (List Tk):=tkn (l.length + 1) l
theorem tkn_fuel:∀ (f f':Nat) (l:Bytes),l.length < f→l.length < f'→tkn f l = tkn f' l:=by
 intro f
 induction f with
 | zero=>intro f' l h; omega
 | succ f ih =>
  intro f' l h h'
  cases f' with
  | zero=>omega
  | succ f' =>
   simp only [tkn]
   have hk:=skp_len false l
   cases hs:skp false l with
   | nil=>rfl
   | cons b r =>
    rw [hs] at hk
    cases ht:tokL (b :: r) with
    | none=>simp only [ht]
    | some km =>
     have hm:=tokL_spec ht
     simp only [ht]
     have hd:=List.length_drop (i:=km.2) (l:=b :: r)
     rw [ih f' _ (by omega) (by omega)]
theorem tk_eq (l:Bytes):tk l = match skp false l with
  | []=>some []
  | b :: r=>match tokL (b :: r) with
   | none=>none
   | some km=>(tk ((b :: r).drop km.2)).map ((km.1,(b :: r).take km.2) :: ·):=by
 have hk:=skp_len false l
 unfold tk
 rw [tkn]
 cases hs:skp false l with
 | nil=>rfl
 | cons b r =>
  rw [hs] at hk
  cases ht:tokL (b :: r) with
  | none=>simp only [ht]
  | some km =>
   have hm:=tokL_spec ht
   have hd:=List.length_drop (i:=km.2) (l:=b :: r)
   simp only [ht]
   rw [tkn_fuel l.length (((b :: r).drop km.2).length + 1) _ (by omega) (by omega)]
theorem tk_nil:tk [] = some []:=rfl
def nw (r:Bytes):Prop:=∀ b,r.head? = some b→wrd b = false
theorem tk_step {w r:Bytes} {k:Nat} (hs:skp false (w ++ r) = w ++ r) (ht:tokL (w ++ r) = some (k,w.length)):tk (w ++ r) = (tk r).map ((k,w) :: ·):=by
 rw [tk_eq,hs]
 cases hw:w ++ r with
 | nil=>rw [hw] at ht; cases ht
 | cons b z =>
  rw [hw] at ht
  simp only [ht]
  rw [← hw,List.drop_left,List.take_left]
theorem tk_blank (r:Bytes):tk (32 :: r) = tk r:=by
 rw [tk_eq,tk_eq r]
 have:skp false (32 :: r) = skp false r:=by
  have h:wht 32 = true:=by decide
  simp [skp,h]
 rw [this]
theorem skp_head {b:UInt8} {l:Bytes} (h1:wht b = false) (h2:b≠47):skp false (b :: l) = b :: l:=by
 have ht:two (b :: l) = false:=by
  cases h:two (b :: l)
  ·rfl
  ·exact absurd (two_cons h) h2
 simp [skp,h1,ht]
theorem tw_all {α:Type} {p:α→Bool} {r:List α}:∀ {w:List α},(∀ y ∈ w,p y = true)→(∀ b,r.head? = some b→p b = false)→(w ++ r).takeWhile p = w∧(w ++ r).dropWhile p = r
 | [],_,h=>by
  cases r with
  | nil=>exact ⟨rfl,rfl⟩
  | cons b r =>
   have:=h b rfl
   exact ⟨by rw [List.nil_append,List.takeWhile_cons,if_neg (by simp [this])],by rw [List.nil_append,List.dropWhile_cons,if_neg (by simp [this])]⟩
 | x :: w,hw,h=>by
  have hx:=hw x (by simp)
  obtain ⟨e1,e2⟩:=tw_all (w:=w) (fun y hy=>hw y (by simp [hy])) h
  rw [List.cons_append,List.takeWhile_cons,List.dropWhile_cons,if_pos hx,if_pos hx,e1,e2]
  exact ⟨rfl,rfl⟩
theorem ltr_of {b:UInt8} (h:isLetI b.toNat = true):ltr b = true:=by
 simp only [isLetI,ltr,Bool.or_eq_true,Bool.and_eq_true,decide_eq_true_eq] at h ⊢
 omega
theorem wrd_of {b:UInt8} (h:isWordI b.toNat = true):wrd b = true:=by
 simp only [isWordI,isLetI,isDigI,wrd,ltr,dgt,Bool.or_eq_true,Bool.and_eq_true,decide_eq_true_eq,beq_iff_eq] at h ⊢
 omega
theorem ltr_wrd {b:UInt8} (h:ltr b = true):wrd b = true:=by simp [wrd,h]
theorem ltr_skp {b:UInt8} {l:Bytes} (h:ltr b = true):skp false (b :: l) = b :: l:=by
 refine skp_head ?_ (by rintro rfl; revert h; decide)
 cases hw:wht b
 ·rfl
 ·simp only [wht,ltr,Bool.or_eq_true,Bool.and_eq_true,decide_eq_true_eq,beq_iff_eq] at h hw
  omega
theorem dgt_skp {b:UInt8} {l:Bytes} (h:dgt b = true):skp false (b :: l) = b :: l:=by
 refine skp_head ?_ (by rintro rfl; revert h; decide)
 cases hw:wht b
 ·rfl
 ·simp only [wht,dgt,Bool.or_eq_true,Bool.and_eq_true,decide_eq_true_eq,beq_iff_eq] at h hw
  omega
theorem dgt_not_ltr {b:UInt8} (h:dgt b = true):ltr b = false:=by
 cases hw:ltr b
 ·rfl
 ·simp only [ltr,dgt,Bool.or_eq_true,Bool.and_eq_true,decide_eq_true_eq] at h hw
  omega
theorem tk_word {w r:Bytes} (hw:nameCs w = true) (h1:1≤w.length) (h2:w.length≤16) (hr:nw r):tk (w ++ r) = (tk r).map ((1,w) :: ·):=by
 cases w with
 | nil=>simp at h1
 | cons b w =>
  simp only [nameCs,Bool.and_eq_true,List.all_eq_true] at hw
  have hb:=ltr_of hw.1
  have hall:∀ y ∈ b :: w,wrd y = true:=by
   intro y hy
   rcases List.mem_cons.1 hy with rfl | hy
   ·exact ltr_wrd hb
   ·exact wrd_of (hw.2 y hy)
  refine tk_step (ltr_skp hb) ?_
  obtain ⟨e1,_⟩:=tw_all hall hr
  rw [List.cons_append,tokL_cons]
  rw [List.cons_append] at e1
  rw [hb,e1]
  have:decide ((b :: w).length≤16) = true:=by simpa using h2
  simp only [this,cond_true]
theorem tk_name {w r:Bytes} (hw:nameB w = true) (hr:nw r):tk (w ++ r) = (tk r).map ((1,w) :: ·):=by
 simp only [nameB,Bool.and_eq_true,decide_eq_true_eq] at hw
 exact tk_word hw.2 hw.1.1.1 hw.1.1.2 hr
theorem digs_all:∀ (f u:Nat),∀ b ∈ digs f u,dgt b = true
 | 0,u,b,h=>by cases h
 | f + 1,u,b,h=>by
  have hd:∀ k:Nat,k < 10→dgt (UInt8.ofNat (48 + k)) = true:=by decide
  rw [digs] at h
  split at h
  ·rename_i hu
   rw [List.mem_singleton.1 h]
   exact hd u hu
  ·rcases List.mem_append.1 h with h | h
   ·exact digs_all f _ b h
   ·rw [List.mem_singleton.1 h]
    exact hd _ (Nat.mod_lt _ (by omega))
theorem digs_le:∀ (f u k:Nat),u < 10 ^ (k + 1)→(digs f u).length≤k + 1
 | 0,u,k,h=>by simp [digs]
 | f + 1,u,k,h=>by
  rw [digs]
  split
  ·simp
  ·rename_i hu
   cases k with
   | zero=>simp at h; omega
   | succ k =>
    have:u / 10 < 10 ^ (k + 1):=by
     rw [Nat.div_lt_iff_lt_mul (by omega)]
     rw [Nat.pow_succ] at h
     omega
    have:=digs_le f (u / 10) k this
    simp
    omega
theorem digs_head:∀ (f u:Nat),u≠0→u < 10 ^ f→∃ b r,digs f u = b :: r∧b.toNat≠48
 | 0,u,h0,h=>by simp at h; omega
 | f + 1,u,h0,h=>by
  rw [digs]
  split
  ·rename_i hu
   refine ⟨_,_,rfl,?_⟩
   have:∀ k:Nat,k < 10→k≠0→(UInt8.ofNat (48 + k)).toNat≠48:=by decide
   exact this u hu h0
  ·rename_i hu
   have:u / 10 < 10 ^ f:=by
    rw [Nat.div_lt_iff_lt_mul (by omega)]
    rw [Nat.pow_succ] at h
    omega
   obtain ⟨b,r,e,hb⟩:=digs_head f (u / 10) (by omega) this
   rw [e]
   exact ⟨b,r ++ [UInt8.ofNat (48 + u % 10)],rfl,hb⟩
theorem tk_num {n:Int} {r:Bytes} (hn:inR n = true) (hr:nw r):tk (numL n ++ r) = (tk r).map ((2,numL n) :: ·):=by
 have hu:n.toNat < 10 ^ (8 + 1):=by
  simp only [inR,Bool.and_eq_true,decide_eq_true_eq] at hn
  omega
 have hall:=digs_all 20 n.toNat
 have hlen:=digs_le 20 n.toNat 8 hu
 have hpos:=digs_pos 19 n.toNat
 unfold numL
 cases hd:digs 20 n.toNat with
 | nil=>rw [hd] at hpos; simp at hpos
 | cons b w =>
  rw [hd] at hall hlen
  have hb:=hall b (by simp)
  have hr2:∀ c,r.head? = some c→dgt c = false:=fun c hc=>by
   have:=hr c hc
   simp only [wrd,Bool.or_eq_false_iff] at this
   exact this.2.1
  obtain ⟨e1,e2⟩:=tw_all hall hr2
  refine tk_step (dgt_skp hb) ?_
  rw [List.cons_append,tokL_cons]
  rw [List.cons_append] at e1 e2
  rw [dgt_not_ltr hb,hb,e1]
  have hok:numOk b (b :: (w ++ r)) = true:=by
   unfold numOk
   rw [e1,e2]
   simp only [Bool.and_eq_true,decide_eq_true_eq,Bool.or_eq_true,bne_iff_ne,ne_eq,beq_iff_eq]
   refine ⟨by omega,?_,?_⟩
   ·by_cases h48:b.toNat = 48
    ·right
     by_cases h0:n.toNat = 0
     ·have:digs 20 0 = [48]:=rfl
      rw [h0,this] at hd
      cases hd
      rfl
     ·obtain ⟨b',r',e,hb'⟩:=digs_head 20 n.toNat h0 (by omega)
      rw [hd] at e
      cases e
      exact absurd h48 hb'
    ·exact .inl h48
   ·cases hrr:r with
    | nil=>rfl
    | cons c z =>
     have:=hr c (by rw [hrr]; rfl)
     simp [this]
  simp only [hok,cond_true,cond_false]
theorem tk_sym {b:UInt8} {s r:Bytes} (h1:ltr b = false) (h2:dgt b = false) (h3:wht b = false) (h4:b≠47) (hf:symL.find? (fun t=>t.isPrefixOf (b :: s ++ r)) = some (b :: s)):tk (b :: s ++ r) = (tk r).map ((3,b :: s) :: ·):=by
 refine tk_step (skp_head h3 h4) ?_
 rw [List.cons_append,tokL_cons]
 rw [List.cons_append] at hf
 rw [h1,h2,hf]
 rfl
theorem tk_op {s:ByteArray} (h:levelI s≠0) (r:Bytes):tk (tl s ++ 32 :: r) = (tk (32 :: r)).map ((3,tl s) :: ·):=by
 have hc:=level_cases h
 generalize tl s = w at hc
 simp only [List.mem_cons,List.not_mem_nil,or_false] at hc
 rcases hc with rfl | rfl | rfl | rfl | rfl | rfl | rfl | rfl | rfl | rfl | rfl | rfl | rfl <;>
  exact tk_sym (by decide) (by decide) (by decide) (by decide) rfl
def pathT:Nat→Bytes→List Tk
 | 0,_=>[]
 | k + 1,s=>match (cutB s).2 with
  | none=>[(1,(cutB s).1)]
  | some r=>(1,(cutB s).1) :: (3,[46]) :: pathT k r
theorem nw_cons {b:UInt8} {r:Bytes} (h:wrd b = false):nw (b :: r):=fun c hc=>by
 have:b = c:=by simpa using hc
 subst this
 exact h
theorem tk_path:∀ (k:Nat) {s r:Bytes},pathN k s = true→nw r→tk (s ++ r) = (tk r).map (pathT k s ++ ·)
 | 0,s,r,h,_=>by cases h
 | k + 1,s,r,h,hr=>by
  simp only [pathN,Bool.and_eq_true] at h
  obtain ⟨h1,h2⟩:=h
  cases hc:(cutB s).2 with
  | none =>
   have e:=((cutB_spec s).1 hc).1
   rw [e] at h1
   simp only [pathT,hc,e]
   exact tk_name h1 hr
  | some q =>
   rw [hc] at h2
   have e:=((cutB_spec s).2 q hc).1
   simp only [pathT,hc]
   conv=>lhs; rw [e]
   have ih:=tk_path k h2 hr
   rw [List.append_assoc,tk_name (r:=46 :: q ++ r) h1 (nw_cons (by decide))]
   have e46:tk (46 :: q ++ r) = (tk (q ++ r)).map ((3,[46]) :: ·):=tk_sym (s:=[]) (r:=q ++ r) (by decide) (by decide) (by decide) (by decide) rfl
   rw [e46,ih]
   simp only [Option.map_map]
   rfl
end Go.Proofs.YtbecjgckobhmpaaGreatDoor
end
