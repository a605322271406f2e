/-
  Proved here: a part of what the claim needs (texts PL12 of the prover's own).
-/
import Derived.Test.YtbecjgckobhmpaaGreatDoorTR11
namespace Go.Proofs.YtbecjgckobhmpaaGreatDoor
open Go Go.AM Go.Proofs
namespace M
variable {α:Type}
theorem cut_reps {fin fin':Int} {m:M α} {A u:List Token} {i:Int} {a:α} {s':PS} (_:EAr m) (e:m.run fin ⟨A ++ u,i,[]⟩ = .ok a s') (hr:s'.reps = []) (hl:s'.rest.length < u.length) {b:Bool} {s2:PS} (e2:m.run fin' ⟨A,i,[]⟩ = .bad b s2) :
  s2.rest = []∧∀ r ∈ s2.reps,r = (21,fin'):=by
 have e':m.run fin (PS.ext ⟨A,i,[]⟩ u) = .ok a s':=e
 rw [drive_ext] at e'
 rw [drive_run] at e2
 have hnd:¬ Done (m.drive ⟨A,i,[]⟩).1:=by
  intro hd
  obtain ⟨h1,rfl⟩:=hd.ok e'
  simp only [PS.ext,List.length_append] at hl
  omega
 have hend:(m.drive ⟨A,i,[]⟩).2.rest = []:=(drive_end m ⟨A,i,[]⟩).resolve_right hnd
 have hp:=run_reps fin (m.drive ⟨A,i,[]⟩).1 ((m.drive ⟨A,i,[]⟩).2.ext u)
 rw [e'] at hp
 have hp':(m.drive ⟨A,i,[]⟩).2.reps <+: s'.reps:=hp
 rw [hr] at hp'
 have h0:(m.drive ⟨A,i,[]⟩).2.reps = []:=List.prefix_nil.1 hp'
 have h3:=run_end fin' (m.drive ⟨A,i,[]⟩).1 (m.drive ⟨A,i,[]⟩).2 hend
 rw [e2] at h3
 obtain ⟨h4,l,h5,h6⟩:=h3
 rw [h0,List.nil_append] at h5
 exact ⟨h4,by rw [h5]; exact h6⟩
theorem loop_pre {n:Nat} {item:M Node} (fin:Int):∀ (k:Nat) (acc:List Node) (s:PS) (l:List Node) (s':PS),(iterM (listS n false item) k acc).run fin s = .ok l s'→acc <+: l
 | 0,_,_,_,_,h=>by cases h
 | k + 1,acc,s,l,s',h=>by
  have hstep:∀ r s1,(listS n false item acc).run fin s = .ok r s1→acc <+: (match r with | .inl x=>x | .inr x=>x):=by
   intro r s1 e
   obtain ⟨r0,i,p⟩:=s
   cases r0 with
   | nil=>cases e; exact List.prefix_refl _
   | cons t r0 =>
    have e0:(listS n false item acc).run fin ⟨t :: r0,i,p⟩ = (item.tryM (fun x=>.ret (.inl (acc ++ [x]))) (fun b=>.rep b ((skip n false).bind fun _=>.ret (.inl acc))):M (List Node ⊕ List Node)).run fin ⟨t :: r0,i,p⟩:=rfl
    rw [e0,run_try] at e
    cases hr:item.run fin ⟨t :: r0,i,p⟩ with
    | ok a s2=>rw [hr] at e; cases e; exact List.prefix_append _ _
    | bad b s2 =>
     rw [hr] at e
     simp only [andThen,run,run_bind] at e
     cases hs:(skip n false).run fin ⟨s2.rest,s2.inner,s2.reps ++ [(codeOf b s2.rest,posOf fin s2.rest)]⟩ with
     | ok u s3=>rw [hs] at e; cases e; exact List.prefix_refl _
     | bad b s3=>rw [hs] at e; cases e
     | out=>rw [hs] at e; cases e
    | out=>rw [hr] at e; cases e
  simp only [iterM,run_bind] at h
  cases hr:(listS n false item acc).run fin s with
  | ok r s1 =>
   rw [hr] at h
   have h1:=hstep r s1 hr
   cases r with
   | inl x=>exact h1.trans (loop_pre fin k x s1 l s' h)
   | inr x=>cases h; exact h1
  | bad b s1=>rw [hr] at h; cases h
  | out=>rw [hr] at h; cases h
theorem listS_cons {n:Nat} {item:M Node} (fin:Int) (acc:List Node) (t:Token) (r:List Token) (i:Int) (p:List (Int × Int)):(listS n false item acc).run fin ⟨t :: r,i,p⟩ = (item.tryM (fun x=>.ret (.inl (acc ++ [x]))) (fun b=>.rep b ((skip n false).bind fun _=>.ret (.inl acc))):M (List Node ⊕ List Node)).run fin ⟨t :: r,i,p⟩:=rfl
theorem trunc {n:Nat} {item:M Node} (hEA:EA item) (fin fin':Int) (u:List Token):∀ (k k':Nat) (acc:List Node) (A:List Token) (i:Int) (l l2:List Node) (s' s2:PS),A.length < n →
  (iterM (listS n false item) k acc).run fin ⟨A ++ u,i,[]⟩ = .ok l s'→s'.reps = []→(iterM (listS n false item) k' acc).run fin' ⟨A,i,[]⟩ = .ok l2 s2→l2 <+: l∧∀ r ∈ s2.reps,r = (21,fin')
 | 0,_,_,_,_,_,_,_,_,_,h,_,_=>by cases h
 | k + 1,0,_,_,_,_,_,_,_,_,_,_,h=>by cases h
 | k + 1,k' + 1,acc,A,i,l,l2,s',s2,hA,h,hr,h2=>by
  cases A with
  | nil =>
   have hp:=loop_pre fin (k + 1) acc _ l s' h
   cases h2
   exact ⟨hp,by simp⟩
  | cons x A =>
   have hfin:=run_reps fin (iterM (listS n false item) (k + 1) acc) ⟨x :: A ++ u,i,[]⟩
   have hp0:=loop_pre fin (k + 1) acc _ l s' h
   simp only [iterM,run_bind] at h h2
   rw [List.cons_append,listS_cons,run_try] at h
   rw [listS_cons,run_try] at h2
   cases hi:item.run fin ⟨x :: (A ++ u),i,[]⟩ with
   | ok a s1 =>
    rw [hi] at h
    simp only [andThen,run] at h
    have hreps:=run_reps fin (iterM (listS n false item) k (acc ++ [a])) s1
    rw [h] at hreps
    have h0:s1.reps = []:=by
     have:s1.reps <+: s'.reps:=hreps
     rw [hr] at this
     exact List.prefix_nil.1 this
    have hi':item.run fin (PS.ext ⟨x :: A,i,[]⟩ u) = .ok a s1:=hi
    by_cases hlen:u.length≤s1.rest.length
    ·obtain ⟨s3,rfl,hs3⟩:=EAr.shrink (.inr hEA) hi' hlen fin'
     rw [hs3] at h2
     simp only [andThen,run] at h2
     have hless:=EA.less fin' item _ a s3 hEA hs3
     obtain ⟨r3,i3,p3⟩:=s3
     simp only [PS.ext] at h0 h
     subst h0
     simp only at hless
     exact trunc hEA fin fin' u k k' (acc ++ [a]) r3 i3 l l2 s' s2 (by omega) h hr h2
    ·cases hi2:item.run fin' ⟨x :: A,i,[]⟩ with
     | ok a2 s3=>exact absurd hi2 (EAr.cut (.inr hEA) hi' (by omega) a2 s3)
     | bad b s3 =>
      obtain ⟨h3,h4⟩:=cut_reps (.inr hEA) hi h0 (by omega) hi2
      rw [hi2] at h2
      obtain ⟨r3,i3,p3⟩:=s3
      simp only at h3 h4
      subst h3
      obtain ⟨s4,h5,_,h6,h7,_⟩:=run_skip (closed:=false) (fin:=fin') (s:=⟨[],i3,p3 ++ [(codeOf b [],posOf fin' [])]⟩) (n:=n) (by simp only [List.length_nil]; omega)
      simp only [andThen,run,run_bind,h5] at h2
      obtain ⟨r4,i4,p4⟩:=s4
      simp only at h6 h7
      have h7':r4 = []:=List.suffix_nil.1 h7
      subst h6 h7'
      cases k' with
      | zero=>cases h2
      | succ k' =>
       cases h2
       refine ⟨hp0,fun r hr=>?_⟩
       simp only [List.mem_append,List.mem_singleton] at hr
       rcases hr with hr | rfl
       ·exact h4 r hr
       ·rfl
     | out=>rw [hi2] at h2; cases h2
   | bad b s1 =>
    exfalso
    rw [hi] at h
    simp only [andThen,run,run_bind] at h
    cases hs:(skip n false).run fin ⟨s1.rest,s1.inner,s1.reps ++ [(codeOf b s1.rest,posOf fin s1.rest)]⟩ with
    | ok v s3 =>
     have h5:=run_reps fin (skip n false) ⟨s1.rest,s1.inner,s1.reps ++ [(codeOf b s1.rest,posOf fin s1.rest)]⟩
     rw [hs] at h5 h
     simp only at h
     have h6:=run_reps fin (iterM (listS n false item) k acc) s3
     rw [h] at h6
     have h7:s1.reps ++ [(codeOf b s1.rest,posOf fin s1.rest)] <+: s'.reps:=List.IsPrefix.trans h5 h6
     rw [hr] at h7
     have:=List.prefix_nil.1 h7
     simp at this
    | bad b s3=>rw [hs] at h; cases h
    | out=>rw [hs] at h; cases h
   | out=>rw [hi] at h; cases h
end M
theorem addDs_all {f:Int} {l:List (Int × Int)} (h:∀ r ∈ l,r = (21,f)):addDs [] l = []∨addDs [] l = [⟨21,f⟩]:=by
 cases l with
 | nil=>exact .inl rfl
 | cons r l =>
  right
  have h0:=h r (List.mem_cons_self ..)
  subst h0
  have hrep:∀ l:List (Int × Int),(∀ r ∈ l,r = (21,f))→addDs [⟨21,f⟩] l = [⟨21,f⟩]:=by
   intro l
   induction l with
   | nil=>intro _; rfl
   | cons r l ih =>
    intro hl
    have h1:=hl r (List.mem_cons_self ..)
    subst h1
    have h2:addD [⟨21,f⟩] (21,f) = [⟨21,f⟩]:=by simp [addD]
    show addDs (addD [⟨21,f⟩] (21,f)) l = _
    rw [h2]
    exact ih fun r hr=>hl r (List.mem_cons_of_mem _ hr)
  exact hrep l fun r hr=>h r (List.mem_cons_of_mem _ hr)
theorem small_pre {a b:List Node} (h:a <+: b) (hs:smallP (srcN b)):smallP (srcN a):=by
 obtain ⟨c,rfl⟩:=h
 obtain ⟨h1,h2⟩:=hs
 have hd:deps a≤deps (a ++ c):=(deps_le a _).2 fun y hy=>(deps_le (a ++ c) _).1 (Nat.le_refl _) y (List.mem_append_left _ hy)
 refine ⟨?_,?_⟩
 ·simp only [srcN,M.szL,szs_append] at h1 ⊢
  omega
 ·have e1:dep (srcN a) = 1 + deps a:=rfl
  have e2:dep (srcN (a ++ c)) = 1 + deps (a ++ c):=rfl
  omega
theorem law12 (s:ByteArray) (w:Nat) (hw:w < 65536):∃ n,F12 n s (w:Int) = some true:=by
 refine ⟨20000,?_⟩
 unfold F12
 rw [F24_ok]
 simp only [Option.bind_some]
 rcases F33_cases s (n:=20000) (by omega) with ⟨ts,hL,h33,h39⟩ | h33
 ·rw [h33,h39]
  obtain ⟨l,p,hR⟩:=read_some (n:=20000) (by omega) hL.cnt hL.lx.oks s.size
  rw [F25_ok (by omega) (by omega) hL hR]
  simp only [Option.bind_some,Bool.not_true,cond_false]
  have hszl:sz (srcN l)≤1501:=by
   have:=hR.sz
   have:=hL.cnt
   rw [srcN,M.szL]
   omega
  cases hd0:decide (0 < (((endP l (addDs [] p)).2.length:Nat):Int)) with
  | true=>rfl
  | false =>
   have hnil:(endP l (addDs [] p)).2 = []:=by
    have:¬ (0 < (((endP l (addDs [] p)).2.length:Nat):Int)):=of_decide_eq_false hd0
    exact List.length_eq_zero_iff.1 (by omega)
   have hd:addDs [] p = []:=by
    unfold endP at hnil
    by_cases h:addDs [] p = []
    ·exact h
    ·rw [if_neg h] at hnil; exact absurd hnil h
   have hp:p = []:=addDs_nil hd
   have hsm:smallP (srcN l):=by
    unfold endP at hnil
    rw [if_pos hd] at hnil
    by_cases h:smallP (srcN l)
    ·exact h
    ·rw [if_neg h] at hnil; cases hnil
   have hE:endP l (addDs [] p) = (srcN l,[]):=by unfold endP; rw [if_pos hd,if_pos hsm]
   rw [hE]
   simp only [cond_false]
   cases hts:ts with
   | nil=>rfl
   | cons t0 ts0 =>
    rw [← hts]
    have hpos:0 < ts.length:=by rw [hts]; simp
    have c1:((ts.length:Int) == 0) = false:=beq_eq_false_iff_ne.2 (by omega)
    rw [c1]
    have hF26:=G26 (srcN l) (by omega) (lim:=4000) (by omega) (n:=20000) (by omega)
    have h4000:decide (sz (srcN l)≤4000) = true:=by simp; omega
    rw [h4000] at hF26
    have hF26':F26 20000 (srcN l) (4000:Int) = some true:=hF26
    simp only [cond_false,hF26',Option.bind_some,Bool.not_true]
    have hrem:remI (w64 (w:Int)) (ts.length:Int) = some ((w % ts.length:Nat):Int):=by
     unfold remI
     rw [if_neg (by omega),w64_id (by omega) (by omega)]
     rw [Int.tmod_eq_emod_of_nonneg (by omega)]
     rfl
    have hlt:w % ts.length < ts.length:=Nat.mod_lt _ hpos
    generalize w % ts.length = j at hrem hlt
    have hget:ts[j]? = some ts[j]:=List.getElem?_eq_getElem hlt
    have hsplit:ts = ts.take j ++ ts[j] :: ts.drop (j + 1):=by
     rw [List.getElem_cons_drop hlt]
     simp
    obtain ⟨x,hx,hLx,hsz⟩:=Lexed.upto (s:=s) (us:=ts.take j) (t:=ts[j]) (vs:=ts.drop (j + 1)) (by rw [← hsplit]; exact hL)
    obtain ⟨l2,p2,hR2⟩:=read_some (n:=20000) (by omega) hLx.cnt hLx.lx.oks x.size
    rw [hrem]
    simp only [Option.bind_some,idxL_some hget,hx,F25_ok (by omega) (by omega) hLx hR2]
    have htr:l2 <+: l∧∀ r ∈ p2,r = (21,(x.size:Int)):=by
     obtain ⟨i,hi⟩:=hR.run
     obtain ⟨i2,hi2⟩:=hR2.run
     have hcnt:=hLx.cnt
     have hi':(M.iterM (M.listS 20000 false (M.item 20000)) 20000 []).run s.size ⟨(ts.take j ++ [ts[j]]) ++ ts.drop (j + 1),0,[]⟩ = .ok l ⟨[],i,p⟩:=by
      have e:(ts.take j ++ [ts[j]]) ++ ts.drop (j + 1) = ts:=by
       rw [List.append_assoc]
       exact hsplit.symm
      rw [e]
      exact hi
     exact M.trunc (M.EA_item 20000) s.size x.size (ts.drop (j + 1)) 20000 20000 [] (ts.take j ++ [ts[j]]) 0 l l2 ⟨[],i,p⟩ ⟨[],i2,p2⟩ (by omega) hi' hp hi2
    have hE2:∃ d,(d = []∨d = [⟨21,(x.size:Int)⟩])∧endP l2 (addDs [] p2) = (srcN l2,d):=by
     rcases addDs_all htr.2 with h | h
     ·refine ⟨[],.inl rfl,?_⟩
      unfold endP
      rw [if_pos h,if_pos (small_pre htr.1 hsm)]
     ·refine ⟨_,.inr rfl,?_⟩
      unfold endP
      rw [h,if_neg (by simp)]
    obtain ⟨d,hd2,hE2⟩:=hE2
    rw [hE2]
    have hlen:=htr.1.length_le
    have c2:decide ((((srcN l).kids.length:Nat):Int) < (((srcN l2).kids.length:Nat):Int)) = false:=by
     refine decide_eq_false ?_
     show ¬ ((l.length:Int) < (l2.length:Int))
     omega
    have hsz2:sz (srcN l2)≤1501:=by
     have:=hR2.sz
     have:=hLx.cnt
     rw [srcN,M.szL]
     omega
    have hG26:=G26 (srcN l2) (by omega) (lim:=4000) (by omega) (n:=20000) (by omega)
    have h4:decide (sz (srcN l2)≤4000) = true:=by simp; omega
    rw [h4] at hG26
    have hG26':F26 20000 (srcN l2) (4000:Int) = some true:=hG26
    have hsub:subL (srcN l).kids 0 (((srcN l2).kids.length:Nat):Int) = some l2:=by
     have:=subL_eq (l:=(srcN l).kids) (a:=0) (b:=(srcN l2).kids.length) (by omega) (by simp only [srcN]; omega)
     rw [show (0:Int) = ((0:Nat):Int) from rfl,this]
     congr 1
     simp only [srcN,List.drop_zero,Nat.sub_zero]
     exact (List.prefix_iff_eq_take.1 htr.1).symm
    have h30:F30 20000 (srcN l2) (Node.mk 62 (bs []) (bs []) 0 0 0 false l2 0) = some true:=G30t rfl (by omega) (by omega)
    simp only [c2,cond_false,hG26',Option.bind_some,Bool.not_true,hsub,h30,Bool.and_self,cond_true]
    rcases hd2 with rfl | rfl
    ·rfl
    ·have c3:((((([⟨21,(x.size:Int)⟩]:List Diag).length:Nat)):Int) == 0) = false:=rfl
     rw [c3]
     simp only [cond_false]
     rw [G37 rfl (by omega)]
     rfl
 ·rw [h33]
  rfl
end Go.Proofs.YtbecjgckobhmpaaGreatDoor
