/-
  Proved here: a part of what the claim needs (texts PH PL10a PX PY ZLC PL13 PL10 of the prover's own).
-/
import Derived.Test.YtbecjgckobhmpaaGreatDoorCO11
section
namespace Go.Proofs.YtbecjgckobhmpaaGreatDoor
open Go Go.AM Go.Proofs
namespace M
variable {α β σ ρ:Type}
def In (j:Int):Int→M α→Prop
 | i,.ret _=>i = j
 | _,.fail _=>True
 | _,.out=>True
 | i,.look k=>∀ t,In j i (k t)
 | i,.adv k=>In j i k
 | i,.pos k=>∀ x,In j i (k x)
 | _,.setI i' k=>In j i' k
 | i,.getI k=>In j i (k i)
 | _,.rep _ _=>True
theorem pre_self {l:List (Int × Int)} {x:Int × Int} (h:l ++ [x] <+: l):False:=by
 have:=h.length_le
 simp only [List.length_append,List.length_cons,List.length_nil] at this
 omega
theorem In.run {j:Int} (fin:Int):∀ (m:M α) (s:PS) (a:α) (s':PS),In j s.inner m→m.run fin s = .ok a s'→s'.reps = s.reps→s'.inner = j
 | .ret a,s,_,_,h,e,_=>by cases e; exact h
 | .fail b,s,_,_,_,e,_=>by cases e
 | .out,s,_,_,_,e,_=>by cases e
 | .look k,s,a,s',h,e,hr=>In.run fin (k (hdOf s.rest)) s a s' (h _) e hr
 | .adv k,s,a,s',h,e,hr=>by
  obtain ⟨r,i,p⟩:=s
  cases r with
  | nil=>cases e
  | cons t r=>exact In.run fin k ⟨r,i,p⟩ a s' h e hr
 | .pos k,s,a,s',h,e,hr=>In.run fin (k (posOf fin s.rest)) s a s' (h _) e hr
 | .setI i k,s,a,s',h,e,hr=>In.run fin k ⟨s.rest,i,s.reps⟩ a s' h e hr
 | .getI k,s,a,s',h,e,hr=>In.run fin (k s.inner) s a s' h e hr
 | .rep b k,s,a,s',_,e,hr=>by
  exfalso
  have h:=run_reps fin k ⟨s.rest,s.inner,s.reps ++ [(codeOf b s.rest,posOf fin s.rest)]⟩
  have e':k.run fin ⟨s.rest,s.inner,s.reps ++ [(codeOf b s.rest,posOf fin s.rest)]⟩ = .ok a s':=e
  rw [e'] at h
  have h':s.reps ++ [(codeOf b s.rest,posOf fin s.rest)] <+: s'.reps:=h
  rw [hr] at h'
  exact pre_self h'
theorem in_bind0 {j l:Int} {k:α→M β} (hk:∀ a,In l j (k a)):∀ {m:M α} {i:Int},In j i m→In l i (m.bind k)
 | .ret a,_,h=>by cases h; exact hk a
 | .fail _,_,_=>trivial
 | .out,_,_=>trivial
 | .look m,_,h=>fun t=>in_bind0 hk (m:=m t) (h t)
 | .adv m,_,h=>in_bind0 hk (m:=m) h
 | .pos m,_,h=>fun t=>in_bind0 hk (m:=m t) (h t)
 | .setI i' m,_,h=>in_bind0 hk (m:=m) (i:=i') h
 | .getI m,i,h=>in_bind0 hk (m:=m i) (i:=i) h
 | .rep _ _,_,_=>trivial
theorem in_bind {i j l:Int} {k:α→M β} {m:M α} (hk:∀ a,In l j (k a)) (h:In j i m):In l i (m.bind k):=in_bind0 hk h
theorem in_try0 {j l:Int} {k:α→M β} {c:Bool→M β} (hk:∀ a,In l j (k a)) (hc:∀ b i,In l i (c b)):∀ {m:M α} {i:Int},In j i m→In l i (m.tryM k c)
 | .ret a,_,h=>by cases h; exact hk a
 | .fail b,i,_=>hc b i
 | .out,_,_=>trivial
 | .look m,_,h=>fun t=>in_try0 hk hc (m:=m t) (h t)
 | .adv m,_,h=>in_try0 hk hc (m:=m) h
 | .pos m,_,h=>fun t=>in_try0 hk hc (m:=m t) (h t)
 | .setI i' m,_,h=>in_try0 hk hc (m:=m) (i:=i') h
 | .getI m,i,h=>in_try0 hk hc (m:=m i) (i:=i) h
 | .rep _ _,_,_=>trivial
theorem in_cond {i j:Int} {c:Bool} {a b:M α} (h1:In j i a) (h2:In j i b):In j i (bif c then a else b):=by cases c <;> assumption
theorem in_iter0 {i:Int} {step:σ→M (σ ⊕ ρ)} (h:∀ x,In i i (step x)):∀ (n:Nat) (x:σ),In i i (iterM step n x)
 | 0,_=>trivial
 | n + 1,x=>in_bind (fun r=>by
   cases r with
   | inl x'=>exact in_iter0 h n x'
   | inr r=>exact rfl) (h x)
theorem in_iter {i:Int} {step:σ→M (σ ⊕ ρ)} {n:Nat} {x:σ} (h:∀ x,In i i (step x)):In i i (iterM step n x):=in_iter0 h n x
theorem in_accept {i:Int} {a:ByteArray}:In i i (accept a):=fun t=>by
 cases t with
 | none=>exact rfl
 | some t=>exact in_cond (a:=.adv (.ret true)) rfl rfl
theorem in_expect {i:Int} {a:ByteArray}:In i i (expect a):=in_bind (fun _=>in_cond rfl trivial) in_accept
theorem in_name {i:Int}:In i i name:=fun t=>by
 cases t with
 | none=>trivial
 | some t=>exact in_cond (a:=.adv (.ret t.2)) rfl trivial
theorem in_num {i:Int}:In i i num:=fun t=>by
 cases t with
 | none=>trivial
 | some t=>exact in_cond (a:=.adv (.ret (numV t.2))) rfl trivial
theorem in_len {i:Int}:In i i len:=fun t=>by
 cases t with
 | none=>trivial
 | some t=>exact in_cond (in_cond (b:=.adv (.ret (numV t.2))) trivial rfl) trivial
theorem in_path {i:Int} {n:Nat}:In i i (path n):=in_bind (fun _=>in_iter (fun _=>in_cond (in_bind (fun _=>in_cond rfl (in_bind (fun _=>rfl) in_name)) in_accept) rfl)) in_name
theorem in_kw {i j:Int} {a:ByteArray} {m m':M α} (h1:In j i m) (h2:In j i m'):In j i (kw a m m'):=in_bind (fun _=>in_cond h1 h2) in_accept
theorem in_semi {i:Int} {x:α}:In i i (semi x):=in_bind (fun _=>rfl) in_expect
theorem in_numNode {i:Int}:In i i numNode:=fun _=>in_bind (fun _=>rfl) in_num
theorem in_exprs {i:Int}:∀ n,In i i (ref n)∧In i i (unary n)∧(∀ a,In i i (bin n a))∧In i i (cond n)∧In i i (expr n)
 | 0=>by
  refine ⟨?_,?_,fun a=>?_,?_,?_⟩
  ·rw [ref]; trivial
  ·rw [unary]; trivial
  ·rw [bin]; trivial
  ·rw [cond]; trivial
  ·rw [expr]; trivial
 | n + 1=>by
  obtain ⟨h1,h2,h3,h4,h5⟩:=in_exprs (i:=i) n
  refine ⟨?_,?_,fun a=>?_,?_,?_⟩
  ·rw [ref]
   exact fun _=>in_bind (fun _=>in_kw (in_bind (fun _=>in_bind (fun _=>rfl) in_expect) h5) rfl) in_path
  ·rw [unary]
   refine fun p=>in_kw (in_bind (fun e=>rfl) h2) (fun t=>in_cond in_numNode ?_)
   refine in_kw (in_bind (fun _=>in_bind (fun e=>in_bind (fun _=>rfl) in_expect) h1) in_expect) ?_
   exact in_kw (in_bind (fun e=>in_bind (fun _=>rfl) in_expect) h5) h1
  ·rw [bin]
   refine in_bind (fun x=>in_iter (fun s t p=>in_cond rfl ?_)) h2
   show In i i (M.bind _ _)
   refine in_bind (fun j=>rfl) ?_
   exact in_cond (in_bind (fun r=>rfl) (h3 _)) (in_cond (in_bind (fun r=>rfl) (h3 _)) (in_bind (fun r=>rfl) (h3 _)))
  ·rw [cond]
   refine in_bind (fun x p=>in_bind (fun b=>in_cond rfl ?_) in_accept) (h3 2)
   exact in_bind (fun y=>in_bind (fun _=>in_bind (fun z=>rfl) h4) in_expect) h4
  ·rw [expr]
   have hq:∀ k,In i i (quant (expr n) k):=fun k p=>by
    show In i i (M.bind _ _)
    exact in_bind (fun x=>in_bind (fun _=>in_bind (fun v=>in_bind (fun _=>in_bind (fun e=>rfl) h5) in_expect) in_num) in_expect) in_name
   exact fun t=>in_cond (hq 7) (in_cond (hq 8) h4)
theorem in_expr {i:Int} (n:Nat):In i i (expr n):=(in_exprs n).2.2.2.2
theorem in_ref {i:Int} (n:Nat):In i i (ref n):=(in_exprs n).1
theorem in_partsL {i:Int} {part:M (List Node)} (h:In i i part) (n:Nat) (x:List Node):In i i (iterM (partsL part) n x):=in_iter (fun _=>in_kw (in_bind (fun _=>rfl) h) rfl)
theorem in_some {i:Int} {part:M (List Node)} (h:In i i part) (n:Nat):In i i (some' n part):=in_bind (fun x=>in_partsL h n x) h
theorem in_parts {i:Int} {part:M (List Node)} (h:In i i part) (n:Nat) (a:ByteArray):In i i (parts n a part):=in_kw rfl (in_bind (fun x=>in_bind (fun _=>in_bind (fun _=>rfl) in_expect) (in_partsL h n x)) h)
theorem in_one {i:Int} {m:M Node} (h:In i i m):In i i (one m):=in_bind (fun _=>rfl) h
theorem in_listS {i:Int} {item:M Node} (h:In i i item) (n:Nat) (closed:Bool) (acc:List Node):In i i (listS n closed item acc):=fun t=>by
 refine in_cond (in_cond trivial rfl) (in_bind (j:=i) (fun b=>in_cond rfl ?_) (in_cond in_accept rfl))
 exact in_try0 (β:=List Node ⊕ List Node) (j:=i) (l:=i) (k:=fun x=>.ret (.inl (acc ++ [x]))) (c:=fun b=>.rep b ((skip n closed).bind fun _=>.ret (.inl acc))) (fun _=>rfl) (fun _ _=>trivial) h
theorem in_list {i:Int} {item:M Node} (h:In i i item) (n:Nat) (closed:Bool):In i i (list n closed item):=in_iter (in_listS h n closed)
theorem in_sized {i k:Int} {g:Bool} {p:Int}:In i i (sized k g p):=in_bind (fun _=>in_bind (fun _=>in_bind (fun _=>rfl) in_num) in_expect) in_name
theorem in_field {i:Int}:In i i field:=fun _=>in_bind (fun _=>in_semi) in_sized
theorem in_param {i:Int}:In i i param:=fun _=>in_sized
theorem in_pathNode {i:Int} (n:Nat):In i i (pathNode n):=fun _=>in_bind (fun _=>rfl) in_path
theorem in_assign {i:Int} (n:Nat):In i i (assign n):=in_bind (fun _=>in_bind (fun _=>in_bind (fun _=>rfl) (in_expr n)) in_expect) (in_ref n)
theorem in_with {i:Int} (n:Nat):In i i (with' n):=in_bind (fun _=>in_cond rfl (in_some (in_assign n) n)) in_accept
theorem in_atomic (n:Nat) (p:Int):In 0 0 (atomic n p):=by
 refine in_bind (fun _=>?_) in_expect
 show In 0 1 (M.bind _ _)
 refine in_bind (j:=1) (fun l=>?_) (in_parts (in_assign n) n _)
 show In 0 0 (kw _ _ _)
 exact in_kw (in_bind (fun e=>rfl) (in_expr n)) rfl
theorem in_cas {i:Int} (n:Nat):In i i (cas n) :=
 in_bind (fun _=>in_bind (fun _=>in_bind (fun _=>in_bind (fun _=>in_bind (fun _=>in_bind (fun _=>in_bind (fun _=>in_bind (fun _=>rfl) (in_with n)) (in_ref n)) in_expect) (in_expr n)) in_expect) (in_expr n)) in_expect) (in_ref n)
theorem in_stmtS {mIf mWh:Int→M Node} (h1:∀ p,In 0 0 (mIf p)) (h2:∀ p,In 0 0 (mWh p)) (n:Nat):In 0 0 (stmtS mIf mWh n):=by
 refine fun p=>?_
 have hE:=in_expr (i:=0) n
 refine in_kw (h1 p) ?_
 refine in_kw (h2 p) ?_
 refine in_kw (in_bind (fun _=>in_semi) hE) ?_
 refine in_kw (in_bind (fun _=>in_semi) hE) ?_
 refine in_kw in_semi ?_
 refine in_kw in_semi ?_
 refine in_kw (in_bind (fun l=>in_semi) (in_atomic n p)) ?_
 refine in_kw (in_bind (fun l=>in_semi) (in_cas n)) ?_
 refine in_kw (in_bind (fun _=>in_semi) in_path) ?_
 refine in_kw (in_bind (fun _=>in_semi) in_path) ?_
 refine in_kw (in_bind (fun _=>in_semi) in_name) ?_
 refine in_kw (in_bind (fun _=>in_semi) in_name) ?_
 refine in_kw (in_bind (fun x=>in_bind (fun _=>in_bind (fun l=>in_semi) (in_parts (in_one hE) n _)) in_expect) in_path) ?_
 refine in_kw (in_bind (fun _=>in_bind (fun _=>in_semi) in_sized) in_expect) ?_
 refine in_kw (in_bind (fun _=>in_semi) in_sized) ?_
 exact in_bind (fun j=>in_bind (fun a=>in_bind (fun w=>in_semi) (in_with n)) (in_assign n)) (in_kw rfl rfl)
theorem in_stmts:∀ n,(∀ p,In 0 0 (loop n p))∧(∀ p,In 0 0 (branch n p))∧In 0 0 (stmt n)∧In 0 0 (stmts n)∧In 0 0 (block n)
 | 0=>by
  refine ⟨fun p=>?_,fun p=>?_,?_,?_,?_⟩
  ·rw [loop]; trivial
  ·rw [branch]; trivial
  ·rw [stmt]; trivial
  ·rw [stmts]; trivial
  ·rw [block]; trivial
 | n + 1=>by
  obtain ⟨h1,h2,h3,h4,h5⟩:=in_stmts n
  have hE:=in_expr (i:=0) n
  refine ⟨fun p=>?_,fun p=>?_,?_,?_,?_⟩
  ·rw [loop]
   exact in_bind (fun c=>in_bind (fun v=>in_bind (fun b=>rfl) h5) (in_kw hE rfl)) hE
  ·rw [branch]
   exact in_bind (fun c=>in_bind (fun a=>in_bind (fun b=>rfl) (in_kw h5 rfl)) h5) hE
  ·rw [stmt]; exact in_stmtS h2 h1 n
  ·rw [stmts]; exact in_list h3 n true
  ·rw [block]; exact fun p=>in_bind (fun _=>in_bind (fun l=>rfl) h4) in_expect
theorem in_shared {g:Bool} {p:Int}:In 0 0 (shared g p):=by
 refine in_bind (j:=0) (fun x=>in_bind (j:=0) (fun j=>in_bind (j:=0) (fun _=>in_bind (j:=0) (fun j=>in_bind (j:=0) (fun j=>in_semi) ?_) ?_) in_expect) ?_) in_name
 ·exact in_kw (in_bind (fun v=>rfl) in_num) rfl
 ·exact fun t=>in_cond (in_bind (fun o=>rfl) in_name) (in_bind (fun v=>rfl) in_num)
 ·exact in_kw (in_bind (fun l=>in_bind (fun _=>rfl) in_expect) in_len) rfl
theorem in_decl (n:Nat):In 0 0 (decl n):=by
 have hE:=in_expr (i:=0) n
 refine fun p=>in_bind (fun j=>by cases j with | inl x=>exact rfl | inr x=>exact in_semi) ?_
 refine in_kw (in_bind (fun x=>in_bind (fun _=>in_bind (fun l=>rfl) (in_list in_field n true)) in_expect) in_name) ?_
 refine in_kw (in_bind (fun _=>in_bind (fun x=>rfl) in_shared) in_expect) ?_
 refine in_kw (in_bind (fun x=>rfl) in_shared) ?_
 refine in_kw (in_bind (fun x=>in_bind (fun _=>in_bind (fun e=>rfl) hE) in_expect) in_name) ?_
 refine in_kw (in_bind (fun e=>rfl) hE) ?_
 refine in_kw (in_bind (fun e=>rfl) hE) ?_
 refine in_kw (in_bind (fun l=>rfl) (in_some (in_one (in_pathNode n)) n)) ?_
 refine in_kw ?_ trivial
 refine in_bind (fun x=>in_bind (fun _=>in_bind (fun l=>in_bind (fun j=>in_bind (fun b=>rfl) (in_stmts n).2.2.2.2) ?_) (in_parts (in_one in_param) n _)) in_expect) in_name
 exact in_kw (in_bind (fun o=>rfl) in_name) rfl
theorem in_thread (v p:Int) (n:Nat):In 0 0 (thread v p n) :=
 in_bind (fun _=>in_bind (fun _=>in_bind (fun _=>in_bind (fun _=>in_bind (fun _=>in_semi) (in_parts (in_one in_numNode) n _)) in_expect) in_path) in_expect) in_name
theorem in_item (n:Nat):In 0 0 (item n):=by
 refine fun p=>in_kw (in_bind (fun x=>in_bind (fun _=>in_bind (fun o=>in_bind (fun _=>in_bind (fun l=>rfl) (in_list (in_decl n) n true)) in_expect) in_name) in_expect) in_name) ?_
 exact in_kw (in_bind (fun _=>in_thread 1 p n) in_expect) (in_kw (in_thread 0 p n) trivial)
end M
end Go.Proofs.YtbecjgckobhmpaaGreatDoor
end
section
namespace Go.Proofs.YtbecjgckobhmpaaGreatDoor
open Go Go.AM Go.Proofs
theorem skp_nl (z:List UInt8):∀ (l:List UInt8) (c:Bool),skp c (l ++ 10 :: z) = bif (skp c l).isEmpty then skp false z else skp c l ++ 10 :: z
 | [],c=>by
  have h1:wht 10 = true:=by decide
  have h2:nol 10 = false:=by decide
  cases c <;> simp [skp,h1,h2]
 | b :: l,true=>by
  rw [List.cons_append,skp,skp]
  split
  ·exact skp_nl z l true
  ·exact skp_nl z l false
 | b :: l,false=>by
  have htwo:two (b :: (l ++ 10 :: z)) = two (b :: l):=by
   cases l with
   | nil =>
    simp only [two,List.nil_append,List.isPrefixOf]
    have e:((47:UInt8) == 10) = false:=by decide
    simp [e]
   | cons c l=>simp [two,List.isPrefixOf]
  rw [List.cons_append,skp,skp,htwo]
  split
  ·exact skp_nl z l false
  ·split
   ·exact skp_nl z l true
   ·rfl
theorem Lx.app {N:Nat} {l:List UInt8} {ts:List Token} (h:Lx N l ts):∀ {z:List UInt8} {tz:List Token},l.length≤N→Lx (N + (z.length + 1)) z tz→Lx (N + (z.length + 1)) (l ++ 10 :: z) (ts ++ tz):=by
 induction h with
 | @nil l hs =>
  intro z tz hN hz
  have e:=skp_nl z l false
  rw [hs] at e
  have e:skp false (l ++ 10 :: z) = skp false z:=e
  cases hz with
  | nil h=>exact .nil (e.trans h)
  | cons h1 h2 h3=>exact .cons (e.trans h1) h2 h3
 | @cons l w r k ts hs ht _ ih =>
  intro z tz hN hz
  have hk:=skp_len false l
  rw [hs,List.length_append] at hk
  have hm:=tokL_spec ht
  have hne:(skp false l).isEmpty = false:=by
   rw [hs]
   cases w with
   | nil=>simp at hm
   | cons c w=>rfl
  have e:=skp_nl z l false
  rw [hne,cond_false,hs,List.append_assoc] at e
  have h1:=tokL_fol (r':=r ++ 10 :: z) ht (.inr (.inr ⟨r,10,z,List.prefix_refl _,rfl,by decide⟩))
  have h2:=Lx.cons e h1 (ih (by omega) hz)
  have e2:N + (z.length + 1) - (w ++ (r ++ 10 :: z)).length = N - (w ++ r).length:=by
   simp only [List.length_append,List.length_cons]
   omega
  rw [e2] at h2
  exact h2
theorem Lx.shift {N:Nat} (d:Nat) {l:List UInt8} {ts:List Token} (h:Lx N l ts):l.length≤N→Lx (N + d) l (ts.map (mapT fun p=>p + d)):=by
 induction h with
 | nil hs=>intro _; exact .nil hs
 | @cons l w r k ts hs ht _ ih =>
  intro hN
  have hk:=skp_len false l
  rw [hs,List.length_append] at hk
  have h2:=Lx.cons (N:=N + d) hs ht (ih (by omega))
  have e2:((N + d - (w ++ r).length:Nat):Int) = ((N - (w ++ r).length:Nat):Int) + d:=by
   simp only [List.length_append]
   omega
  rw [e2] at h2
  exact h2
theorem Lx.det {N:Nat} {l:List UInt8} {t1:List Token} (h1:Lx N l t1):∀ {t2:List Token},Lx N l t2→t1 = t2:=by
 induction h1 with
 | nil hs =>
  intro t2 h2
  cases h2 with
  | nil _=>rfl
  | cons h3 h4 _ =>
   have:=tokL_spec h4
   rw [hs] at h3
   have e:=congrArg List.length h3
   simp only [List.length_nil,List.length_append] at e
   omega
 | @cons l w r k ts hs ht _ ih =>
  intro t2 h2
  cases h2 with
  | nil h3 =>
   have:=tokL_spec ht
   rw [hs] at h3
   have e:=congrArg List.length h3
   simp only [List.length_nil,List.length_append] at e
   omega
  | @cons _ w' r' k' ts' h3 h4 h5 =>
   rw [hs] at h3
   rw [← h3,ht] at h4
   simp only [Option.some.injEq,Prod.mk.injEq] at h4
   obtain ⟨rfl,rfl⟩:=List.append_inj h3 h4.2
   obtain rfl:=h4.1
   rw [ih h5]
namespace M
variable {α β σ ρ:Type}
theorem nat_refl:∀ m:M α,Nat' id id m m
 | .ret _=>rfl
 | .fail _=>rfl
 | .out=>rfl
 | .look k=>⟨k,rfl,fun t=>nat_refl (k t)⟩
 | .adv k=>⟨k,rfl,nat_refl k⟩
 | .pos k=>⟨k,rfl,fun x=>nat_refl (k x)⟩
 | .setI _ k=>⟨k,rfl,nat_refl k⟩
 | .getI k=>⟨k,rfl,fun x=>nat_refl (k x)⟩
 | .rep _ k=>⟨k,rfl,nat_refl k⟩
theorem mapP_id (s:PS):mapP id s = s:=by
 obtain ⟨r,i,p⟩:=s
 have h1:mapT id = id:=funext fun t=>rfl
 have h2:(fun r:Int × Int=>(r.1,id r.2)) = id:=funext fun t=>rfl
 simp only [mapP,h1,h2,List.map_id]
theorem loop_acc {n:Nat} {closed:Bool} {item:M Node} (fin:Int) (p:List Node) (k:Nat) (acc:List Node) (s:PS) {l:List Node} {s':PS} (h:(iterM (listS n closed item) k acc).run fin s = .ok l s'):(iterM (listS n closed item) k (p ++ acc)).run fin s = .ok (p ++ l) s':=by
 have hn:Nat' id (fun l=>p ++ l) (iterM (listS n closed item) k acc) (iterM (listS n closed item) k (p ++ acc)):=by
  refine nat_iter (gs:=fun l=>p ++ l) (gr:=fun l=>p ++ l) (fun acc=>nat_look fun t=>nat_cond (nat_cond nat_fail (nat_ret rfl)) (nat_bind (g:=id) (fun b=>nat_cond (nat_ret rfl) ?_) (nat_refl _)))
  exact nat_try (fun x=>nat_ret (by simp)) (fun b=>nat_rep (nat_bind (fun _=>nat_ret rfl) (nat_refl _))) (nat_refl _)
 have:=Nat'.run (f:=id) fin _ _ s hn
 rw [h,mapP_id] at this
 simp only [id_eq,mapO,mapP_id] at this
 exact this
theorem iter_mono {step:σ→M (σ ⊕ ρ)} (fin:Int) (d:Nat):∀ (k:Nat) (x:σ) (s:PS) (a:ρ) (s':PS),(iterM step k x).run fin s = .ok a s'→(iterM step (k + d) x).run fin s = .ok a s'
 | 0,_,_,_,_,h=>by cases h
 | k + 1,x,s,a,s',h=>by
  rw [Nat.add_right_comm,iterM,run_bind]
  rw [iterM,run_bind] at h
  cases hr:(step x).run fin s with
  | ok r s1 =>
   rw [hr] at h
   cases r with
   | inl x'=>exact iter_mono fin d k x' s1 a s' h
   | inr r=>exact h
  | bad b s1=>rw [hr] at h; cases h
  | out=>rw [hr] at h; cases h
theorem listS_one {n:Nat} {item:M Node} (fin:Int) (acc:List Node) (t:Token) (r:List Token) (i:Int) (p:List (Int × Int)):(listS n false item acc).run fin ⟨t :: r,i,p⟩ = (item.tryM (fun x=>.ret (.inl (acc ++ [x]))) (fun b=>.rep b ((skip n false).bind fun _=>.ret (.inl acc))):M (List Node ⊕ List Node)).run fin ⟨t :: r,i,p⟩:=rfl
theorem loop_cat {n:Nat} {item:M Node} (hEA:EA item) (hIn:In 0 0 item) (fin fin':Int) (u:List Token):∀ (k:Nat) (acc:List Node) (A:List Token) (l:List Node) (s':PS),
  (iterM (listS n false item) k acc).run fin ⟨A,0,[]⟩ = .ok l s'→s'.reps = []→∀ (k2:Nat) (l2:List Node) (s2:PS),(iterM (listS n false item) k2 l).run fin' ⟨u,0,[]⟩ = .ok l2 s2 →
   ∃ K,(iterM (listS n false item) K acc).run fin' ⟨A ++ u,0,[]⟩ = .ok l2 s2
 | 0,_,_,_,_,h,_,_,_,_,_=>by cases h
 | k + 1,acc,A,l,s',h,hr,k2,l2,s2,h2=>by
  cases A with
  | nil=>cases h; exact ⟨k2,h2⟩
  | cons x A =>
   rw [iterM,run_bind,listS_one,run_try] at h
   cases hi:item.run fin ⟨x :: A,0,[]⟩ with
   | ok a s1 =>
    rw [hi] at h
    simp only [andThen,run] at h
    have hreps:=run_reps fin (iterM (listS n false item) k (acc ++ [a])) s1
    rw [h] at hreps
    have h0:s1.reps = []:=by
     have:s1.reps <+: s'.reps:=hreps
     rw [hr] at this
     exact List.prefix_nil.1 this
    have h1:s1.inner = 0:=In.run fin item ⟨x :: A,0,[]⟩ a s1 hIn hi h0
    have hx:=EAr.ext (.inr hEA) hi fin' u
    obtain ⟨r1,i1,p1⟩:=s1
    simp only at h0 h1
    subst h0 h1
    obtain ⟨K,hK⟩:=loop_cat hEA hIn fin fin' u k (acc ++ [a]) r1 l s' h hr k2 l2 s2 h2
    refine ⟨K + 1,?_⟩
    rw [iterM,run_bind,List.cons_append,listS_one,run_try]
    have hx':item.run fin' ⟨x :: (A ++ u),0,[]⟩ = .ok a ⟨r1 ++ u,0,[]⟩:=hx
    rw [hx']
    exact hK
   | bad b s1 =>
    exfalso
    rw [hi] at h
    simp only [andThen,run,run_bind] at h
    cases hs:(skip n false).run fin ⟨s1.rest,s1.inner,s1.reps ++ [(codeOf b s1.rest,posOf fin s1.rest)]⟩ with
    | ok v s3 =>
     have h5:=run_reps fin (skip n false) ⟨s1.rest,s1.inner,s1.reps ++ [(codeOf b s1.rest,posOf fin s1.rest)]⟩
     rw [hs] at h5 h
     simp only at h
     have h6:=run_reps fin (iterM (listS n false item) k acc) s3
     rw [h] at h6
     have h7:s1.reps ++ [(codeOf b s1.rest,posOf fin s1.rest)] <+: s'.reps:=List.IsPrefix.trans h5 h6
     rw [hr] at h7
     have:=List.prefix_nil.1 h7
     simp at this
    | bad b s3=>rw [hs] at h; cases h
    | out=>rw [hs] at h; cases h
   | out=>rw [hi] at h; cases h
end M
end Go.Proofs.YtbecjgckobhmpaaGreatDoor
end
section
namespace Go.Proofs.YtbecjgckobhmpaaGreatDoor
open Go Go.AM Go.Proofs
def Inc (fin:Int) (l:List Token):Prop:=l.Pairwise (fun a b=>a.pos≤b.pos)∧∀ t ∈ l,t.pos≤fin
theorem Inc.tail {fin:Int} {t:Token} {l:List Token} (h:Inc fin (t :: l)):Inc fin l∧t.pos≤posOf fin l:=by
 obtain ⟨h1,h2⟩:=h
 rw [List.pairwise_cons] at h1
 refine ⟨⟨h1.2,fun x hx=>h2 x (List.mem_cons_of_mem _ hx)⟩,?_⟩
 cases l with
 | nil=>exact h2 t (List.mem_cons_self ..)
 | cons x l=>exact h1.1 x (List.mem_cons_self ..)
theorem Inc.le {fin:Int} {l:List Token} (h:Inc fin l):posOf fin l≤fin:=by
 cases l with
 | nil=>exact Int.le_refl _
 | cons x l=>exact h.2 x (List.mem_cons_self ..)
def RepOk (lo fin:Int) (l:List (Int × Int)):Prop:=l.Pairwise (fun a b=>a.2≤b.2)∧∀ r ∈ l,r.1≠0∧lo≤r.2∧r.2≤fin
theorem M.rep_ok {α:Type} (fin:Int):∀ (m:M α) (s:PS),Inc fin s.rest→M.Ends (m.run fin s) fun s'=>∃ l,s'.reps = s.reps ++ l∧RepOk (posOf fin s.rest) fin l
 | .ret a,s,_=>⟨[],by simp,by simp [RepOk]⟩
 | .fail b,s,_=>⟨[],by simp,by simp [RepOk]⟩
 | .out,s,_=>trivial
 | .look k,s,h=>rep_ok fin (k (hdOf s.rest)) s h
 | .adv k,s,h=>by
  obtain ⟨r,i,p⟩:=s
  cases r with
  | nil=>trivial
  | cons t r =>
   have ht:=Inc.tail h
   refine (rep_ok fin k ⟨r,i,p⟩ ht.1).mono fun s' ⟨l,h1,h2⟩=>⟨l,h1,h2.1,fun x hx=>?_⟩
   have:=h2.2 x hx
   have h3:=ht.2
   simp only [posOf] at this ⊢
   exact ⟨this.1,Int.le_trans h3 this.2.1,this.2.2⟩
 | .pos k,s,h=>rep_ok fin (k (posOf fin s.rest)) s h
 | .setI i k,s,h=>rep_ok fin k ⟨s.rest,i,s.reps⟩ h
 | .getI k,s,h=>rep_ok fin (k s.inner) s h
 | .rep b k,s,h=>(rep_ok fin k ⟨s.rest,s.inner,s.reps ++ [(codeOf b s.rest,posOf fin s.rest)]⟩ h).mono fun s' ⟨l,h1,h2⟩=>by
   refine ⟨(codeOf b s.rest,posOf fin s.rest) :: l,by rw [h1]; simp,List.pairwise_cons.2 ⟨fun x hx=>(h2.2 x hx).2.1,h2.1⟩,fun x hx=>?_⟩
   rcases List.mem_cons.1 hx with rfl | hx
   ·exact ⟨by have:=code_ne b s.rest; simpa using this,Int.le_refl _,h.le⟩
   ·exact h2.2 x hx
theorem addD_cases (d:List Diag) (r:Int × Int):addD d r = d∨(addD d r = d ++ [⟨r.1,r.2⟩]∧d.length < 20∧∀ y,d.getLast? = some y→y.pos≠r.2):=by
 unfold addD
 cases h20:decide (20≤(d.length:Int))
 ·have h20':¬ 20≤(d.length:Int):=of_decide_eq_false h20
  simp only [cond_false]
  cases hl:d.getLast? with
  | none=>exact .inr ⟨rfl,by omega,by simp⟩
  | some y =>
   cases hy:y.pos == r.2
   ·exact .inr ⟨by simp [hy],by omega,fun z hz=>by simp only [Option.some.injEq] at hz; subst hz; simpa using hy⟩
   ·exact .inl (by simp [hy])
 ·exact .inl rfl
theorem addDs_ok {lo fin:Int}:∀ (l:List (Int × Int)) (d:List Diag),RepOk lo fin l→d.length≤20→d.Pairwise (fun a b=>a.pos < b.pos)→(∀ x ∈ d,(x.err≠0∧lo≤x.pos∧x.pos≤fin)∧∀ r ∈ l,x.pos≤r.2) →
  (addDs d l).length≤20∧(addDs d l).Pairwise (fun a b=>a.pos < b.pos)∧∀ x ∈ addDs d l,x.err≠0∧lo≤x.pos∧x.pos≤fin
 | [],d,_,h1,h2,h3=>⟨h1,h2,fun x hx=>(h3 x hx).1⟩
 | r :: l,d,hr,h1,h2,h3=>by
  have hr1:=List.pairwise_cons.1 hr.1
  have hr':RepOk lo fin l:=⟨hr1.2,fun x hx=>hr.2 x (List.mem_cons_of_mem _ hx)⟩
  have hsame:(addDs d l).length≤20∧(addDs d l).Pairwise (fun a b=>a.pos < b.pos)∧∀ x ∈ addDs d l,x.err≠0∧lo≤x.pos∧x.pos≤fin :=
   addDs_ok l d hr' h1 h2 fun x hx=>⟨(h3 x hx).1,fun r hr=>(h3 x hx).2 r (List.mem_cons_of_mem _ hr)⟩
  have e:addDs d (r :: l) = addDs (addD d r) l:=rfl
  rw [e]
  rcases addD_cases d r with h | ⟨h,h20,hy⟩
  ·rw [h]
   exact hsame
  ·rw [h]
   have hlt:∀ x ∈ d,x.pos < r.2:=by
    intro x hx
    cases hl:d.getLast? with
    | none =>
     rw [List.getLast?_eq_none_iff] at hl
     rw [hl] at hx
     cases hx
    | some y =>
     have hy':=hy y hl
     have h5:=(h3 y (List.mem_of_getLast? hl)).2 r (List.mem_cons_self ..)
     obtain ⟨d',rfl⟩:∃ d',d = d' ++ [y]:=List.getLast?_eq_some_iff.1 hl
     rcases List.mem_append.1 hx with hx | hx
     ·have:=(List.pairwise_append.1 h2).2.2 x hx y (by simp)
      omega
     ·rw [List.mem_singleton.1 hx]
      omega
   refine addDs_ok l _ hr' (by simp; omega) (List.pairwise_append.2 ⟨h2,by simp,fun x hx y hy=>?_⟩) fun x hx=>?_
   ·rw [List.mem_singleton.1 hy]
    exact hlt x hx
   ·rcases List.mem_append.1 hx with hx | hx
    ·exact ⟨(h3 x hx).1,fun r hr=>(h3 x hx).2 r (List.mem_cons_of_mem _ hr)⟩
    ·rw [List.mem_singleton.1 hx]
     exact ⟨hr.2 r (List.mem_cons_self ..),fun y hy=>hr1.1 y hy⟩
theorem Read.diags {n:Nat} {s:ByteArray} {ts:List Token} (hs:Lexed s ts) {l:List Node} {p:List (Int × Int)} (hr:Read n ts s.size l p) :
  (addDs [] p).length≤20∧(addDs [] p).Pairwise (fun a b=>a.pos < b.pos)∧∀ x ∈ addDs [] p,x.err≠0∧0≤x.pos∧x.pos≤(s.size:Int):=by
 have hle:=hs.lx.le (by rw [← size_tl]; exact Nat.le_refl _)
 have hinc:Inc s.size ts:=⟨hle.1.imp fun h=>by omega,fun t ht=>by have:=hle.2 t ht; omega⟩
 have h:=M.rep_ok s.size (M.source n) ⟨ts,0,[]⟩ hinc
 obtain ⟨i,hi⟩:=hr.run
 rw [hi] at h
 obtain ⟨l',h1,h2⟩:=h
 simp only [List.nil_append] at h1
 subst h1
 have h0:0≤posOf s.size ts:=by
  cases ts with
  | nil=>simp [posOf]
  | cons t r=>have:=(hle.2 t (List.mem_cons_self ..)).1; simp only [posOf]; omega
 have:=addDs_ok p [] h2 (by simp) (by simp) (by simp)
 exact ⟨this.1,this.2.1,fun x hx=>⟨(this.2.2 x hx).1,Int.le_trans h0 (this.2.2 x hx).2.1,(this.2.2 x hx).2.2⟩⟩
end Go.Proofs.YtbecjgckobhmpaaGreatDoor
end
section
namespace Go.Proofs.YtbecjgckobhmpaaGreatDoor
open Go Go.AM Go.Proofs
theorem cat_ok {a b:ByteArray} (h:(tl a).length + (tl b).length≤1000000000000000):catS a b = some (bs (tl a ++ tl b)):=by
 unfold catS
 rw [if_pos (by rw [size_tl,size_tl]; omega)]
 rfl
theorem M.rep_in {α:Type} (fin:Int):∀ (m:M α) (s:PS),M.Ends (m.run fin s) fun s'=>∃ l,s'.reps = s.reps ++ l∧∀ r ∈ l,r.2 = fin∨∃ t ∈ s.rest,t.pos = r.2
 | .ret a,s=>⟨[],by simp,by simp⟩
 | .fail b,s=>⟨[],by simp,by simp⟩
 | .out,s=>trivial
 | .look k,s=>rep_in fin (k (hdOf s.rest)) s
 | .adv k,s=>by
  obtain ⟨r,i,p⟩:=s
  cases r with
  | nil=>trivial
  | cons t r =>
   refine (rep_in fin k ⟨r,i,p⟩).mono fun s' ⟨l,h1,h2⟩=>⟨l,h1,fun x hx=>?_⟩
   rcases h2 x hx with h | ⟨u,hu,h⟩
   ·exact .inl h
   ·exact .inr ⟨u,List.mem_cons_of_mem _ hu,h⟩
 | .pos k,s=>rep_in fin (k (posOf fin s.rest)) s
 | .setI i k,s=>rep_in fin k ⟨s.rest,i,s.reps⟩
 | .getI k,s=>rep_in fin (k s.inner) s
 | .rep b k,s=>(rep_in fin k ⟨s.rest,s.inner,s.reps ++ [(codeOf b s.rest,posOf fin s.rest)]⟩).mono fun s' ⟨l,h1,h2⟩=>by
   refine ⟨(codeOf b s.rest,posOf fin s.rest) :: l,by rw [h1]; simp,fun x hx=>?_⟩
   rcases List.mem_cons.1 hx with rfl | hx
   ·cases hr:s.rest with
    | nil=>exact .inl rfl
    | cons t r=>exact .inr ⟨t,List.mem_cons_self ..,rfl⟩
   ·exact h2 x hx
def mapD (f:Int→Int) (d:Diag):Diag:=⟨d.err,f d.pos⟩
theorem addDs_map {f:Int→Int} {S:Int→Prop} (hf:∀ x y,S x→S y→f x = f y→x = y):∀ (l:List (Int × Int)) (d:List Diag),(∀ r ∈ l,S r.2)→(∀ x ∈ d,S x.pos)→addDs (d.map (mapD f)) (l.map fun r=>(r.1,f r.2)) = (addDs d l).map (mapD f)∧∀ x ∈ addDs d l,S x.pos
 | [],d,_,hd=>⟨rfl,hd⟩
 | r :: l,d,hl,hd=>by
  have hr:=hl r (List.mem_cons_self ..)
  have h1:addD (d.map (mapD f)) (r.1,f r.2) = (addD d r).map (mapD f)∧∀ x ∈ addD d r,S x.pos:=by
   unfold addD
   rw [List.length_map]
   cases decide (20≤(d.length:Int))
   ·simp only [cond_false]
    rw [List.getLast?_map]
    cases hg:d.getLast? with
    | none=>exact ⟨by simp [mapD],by
      intro x hx
      simp only [cond_false,List.mem_append,List.mem_singleton] at hx
      rcases hx with hx | rfl
      ·exact hd x hx
      ·exact hr⟩
    | some y =>
     have hy:=hd y (List.mem_of_getLast? hg)
     have e:(f y.pos == f r.2) = (y.pos == r.2):=by
      cases h:y.pos == r.2
      ·refine beq_eq_false_iff_ne.2 fun e=>?_
       have:=hf _ _ hy hr e
       simp [this] at h
      ·rw [eq_of_beq h]; simp
     show (bif (f y.pos == f r.2) then d.map (mapD f) else d.map (mapD f) ++ [⟨r.1,f r.2⟩]) = (bif y.pos == r.2 then d else d ++ [⟨r.1,r.2⟩]).map (mapD f)∧∀ x ∈ (bif y.pos == r.2 then d else d ++ [⟨r.1,r.2⟩]:List Diag),S x.pos
     rw [e]
     cases y.pos == r.2
     ·refine ⟨by simp [mapD],fun x hx=>?_⟩
      simp only [cond_false,List.mem_append,List.mem_singleton] at hx
      rcases hx with hx | rfl
      ·exact hd x hx
      ·exact hr
     ·exact ⟨rfl,hd⟩
   ·exact ⟨rfl,hd⟩
  have h2:=addDs_map hf l (addD d r) (fun x hx=>hl x (List.mem_cons_of_mem _ hx)) h1.2
  show addDs (addD (d.map (mapD f)) (r.1,f r.2)) (l.map fun r=>(r.1,f r.2)) = (addDs (addD d r) l).map (mapD f)∧∀ x ∈ addDs (addD d r) l,S x.pos
  rw [h1.1]
  exact h2
theorem Read.map {n:Nat} {ts:List Token} {fin:Int} {l:List Node} {p:List (Int × Int)} (h:Read n ts fin l p) (f:Int→Int) {l2:List Node} {p2:List (Int × Int)} (h2:Read n (ts.map (mapT f)) (f fin) l2 p2):l2 = l.map (mapN f)∧p2 = p.map fun r=>(r.1,f r.2):=by
 obtain ⟨i,h⟩:=h.run
 obtain ⟨j,h2⟩:=h2.run
 have e:=M.Nat'.run (f:=f) fin _ _ ⟨ts,0,[]⟩ (M.nat_source n)
 rw [h] at e
 have e2:mapP f ⟨ts,0,[]⟩ = ⟨ts.map (mapT f),0,[]⟩:=rfl
 rw [e2,h2] at e
 cases e
 exact ⟨rfl,rfl⟩
theorem Read.rep_in {n:Nat} {ts:List Token} {fin:Int} {l:List Node} {p:List (Int × Int)} (h:Read n ts fin l p):∀ r ∈ p,r.2 = fin∨∃ t ∈ ts,t.pos = r.2:=by
 obtain ⟨i,h⟩:=h.run
 have:=M.rep_in fin (M.source n) ⟨ts,0,[]⟩
 rw [h] at this
 obtain ⟨l',h1,h2⟩:=this
 simp only [List.nil_append] at h1
 subst h1
 exact h2
end Go.Proofs.YtbecjgckobhmpaaGreatDoor
end
section
namespace Go.Proofs.YtbecjgckobhmpaaGreatDoor
open Go Go.AM Go.Proofs
variable {s:ByteArray} {n:Nat}
theorem F113_eq {t:ByteArray} {a:Nat} (ha:a≤(tl s).length) (hs:s.size≤4000) (ht:t.size≤3):F113 s a t = some ((tl t).isPrefixOf ((tl s).drop a)):=by
 have hz:=size_tl s
 have htz:=size_tl t
 unfold F113
 have ew:w64 ((a:Int) + (t.size:Int)) = ((a + (tl t).length:Nat):Int):=by rw [w64_id (by omega) (by omega)]; omega
 rw [ew]
 by_cases h:a + (tl t).length≤(tl s).length
 ·have c:decide (((a + (tl t).length:Nat):Int)≤(s.size:Int)) = true:=by simp; omega
  rw [c,subS_eq (by omega) h]
  simp only [cond_true,Option.bind_some]
  rw [show a + (tl t).length - a = (tl t).length by omega]
  exact congrArg some (pre_take (tl t) _)
 ·have c:decide (((a + (tl t).length:Nat):Int)≤(s.size:Int)) = false:=by simp; omega
  rw [c]
  have:(tl t).isPrefixOf ((tl s).drop a) = false:=by
   rw [← pre_take,beq_eq_false_iff_ne]
   intro e
   have:=congrArg List.length e
   rw [List.length_take,List.length_drop] at this
   omega
  rw [this]
  rfl
theorem F114_eq (b:UInt8):F114 (b.toNat:Int) = some (wht b):=by
 unfold F114 wht
 have e1:((b.toNat:Int) == 32) = (b.toNat == 32):=i_eq _ 32
 have e2:((b.toNat:Int) == 9) = (b.toNat == 9):=i_eq _ 9
 have e3:((b.toNat:Int) == 10) = (b.toNat == 10):=i_eq _ 10
 have e4:((b.toNat:Int) == 13) = (b.toNat == 13):=i_eq _ 13
 rw [e1,e2,e3,e4]
 simp only [Bool.or_assoc]
theorem F115_eq (b:UInt8):F115 (b.toNat:Int) = some (ltr b):=by
 unfold F115 ltr
 have e1:decide (65≤(b.toNat:Int)) = decide (65≤b.toNat):=i_le 65 _
 have e2:decide ((b.toNat:Int)≤90) = decide (b.toNat≤90):=i_le _ 90
 have e3:decide (97≤(b.toNat:Int)) = decide (97≤b.toNat):=i_le 97 _
 have e4:decide ((b.toNat:Int)≤122) = decide (b.toNat≤122):=i_le _ 122
 rw [e1,e2,e3,e4,Bool.or_comm]
theorem F117_eq (b:UInt8):F117 (b.toNat:Int) = some (dgt b):=by
 unfold F117 dgt
 have e1:decide (48≤(b.toNat:Int)) = decide (48≤b.toNat):=i_le 48 _
 have e2:decide ((b.toNat:Int)≤57) = decide (b.toNat≤57):=i_le _ 57
 rw [e1,e2]
theorem F74_eq (hs:s.size≤4000) (hn:5000≤n) {a:Nat} (ha:a≤(tl s).length):F74 n s a = some (((tl s).length - (skp false ((tl s).drop a)).length:Nat):Int):=by
 have hz:=size_tl s
 apply T.eq
 unfold F74
 refine T.bind (P:=fun r=>match r with | .inl e=>e = (((tl s).length - (skp false ((tl s).drop a)).length:Nat):Int) | .inr e=>e = (((tl s).length - (skp false ((tl s).drop a)).length:Nat):Int)) ?_ (fun r h=>by
  cases r with
  | inl r=>exact T.some h
  | inr r=>exact T.some h)
 refine iter_T (fun e=>∃ k:Nat,e = (k:Int)∧k≤(tl s).length∧skp false ((tl s).drop k) = skp false ((tl s).drop a)) (fun e=>((tl s).length - e.toNat)) _ (fun e he=>?_) n a (by omega) ⟨a,rfl,ha,rfl⟩
 obtain ⟨k,rfl,hk,hsk⟩:=he
 by_cases hlt:k < (tl s).length
 ·have hg:=List.getElem?_eq_getElem hlt
  have hd:=get_drop hg
  have c1:decide ((k:Int) < (s.size:Int)) = true:=by simp; omega
  rw [c1,F113_eq hk hs (by simp [size_bs])]
  have e2:(tl (bs [47,47])).isPrefixOf ((tl s).drop k) = two ((tl s).drop k):=rfl
  rw [e2]
  simp only [cond_true,Option.bind_some]
  cases h2:two ((tl s).drop k)
  ·rw [idxS_some hg]
   simp only [cond_false,Option.bind_some,F114_eq,w64_nat (k:=k) (by omega)]
   cases hw:wht (tl s)[k]
   ·refine T.some ?_
    have h3:=skp_fix ((tl s).drop k) (by rw [hd,List.takeWhile_cons,if_neg (by simp [hw])]) h2
    show (k:Int) = _
    rw [← hsk,h3,List.length_drop]
    omega
   ·refine T.some ⟨⟨k + 1,rfl,by omega,?_⟩,?_⟩
    ·rw [← hsk,hd]
     simp only [skp,hw,if_true]
    ·show (tl s).length - (k + 1) < (tl s).length - k
     omega
  ·simp only [cond_true]
   obtain ⟨hk3l,hd3⟩:=drop_step nol hk
   have hpos:1≤(((tl s).drop k).takeWhile nol).length:=by
    rw [hd] at h2 ⊢
    have hb:=two_cons h2
    rw [hb,List.takeWhile_cons,if_pos (by decide)]
    simp
   refine T.bind (take_T (L:=tl s) nol (fun j b hb=>?_) ?_ hk (by omega)) fun e he=>?_
   ·have hjl:=lt_of_get hb
    have c:decide ((j:Int) < (s.size:Int)) = true:=by simp; omega
    have e3:((b.toNat:Int) == 10) = (b.toNat == 10):=i_eq _ 10
    rw [c,idxS_some hb,w64_nat (by omega)]
    simp only [cond_true,Option.bind_some,bne,e3]
    have:nol b = !(b.toNat == 10):=rfl
    rw [this]
    cases b.toNat == 10 <;> rfl
   ·have c:decide (((tl s).length:Int) < (s.size:Int)) = false:=by simp; omega
    rw [c]
    rfl
   ·subst he
    generalize hk3:k + (((tl s).drop k).takeWhile nol).length = k3 at hk3l hd3
    refine T.some ⟨⟨k3,rfl,hk3l,by rw [hd3,← skp_two _ h2,hsk]⟩,?_⟩
    show (tl s).length - k3 < (tl s).length - k
    omega
 ·have c1:decide ((k:Int) < (s.size:Int)) = false:=by simp; omega
  rw [c1]
  refine T.some ?_
  have:(tl s).drop k = []:=List.drop_eq_nil_iff.2 (by omega)
  show (k:Int) = _
  rw [← hsk,this,skp_nil]
  simp
  omega
theorem F116_eq (hs:s.size≤4000) (hn:5000≤n) {a:Nat} (ha:a≤(tl s).length) :
  F116 n s a = some (⟨1,bs (((tl s).drop a).takeWhile wrd),(a:Int)⟩,decide ((((tl s).drop a).takeWhile wrd).length≤16)):=by
 have hz:=size_tl s
 apply T.eq
 unfold F116
 refine T.bind (take_T (L:=tl s) wrd (fun j b hb=>?_) ?_ ha (by omega)) fun e he=>?_
 ·have hjl:=lt_of_get hb
  have c:decide ((j:Int) < (s.size:Int)) = true:=by simp; omega
  have e3:((b.toNat:Int) == 95) = (b.toNat == 95):=i_eq _ 95
  rw [c,idxS_some hb,w64_nat (by omega)]
  simp only [cond_true,Option.bind_some,F115_eq,F117_eq,e3]
  have hw:wrd b = (ltr b || (dgt b || b.toNat == 95)):=rfl
  rw [hw]
  cases ltr b <;> cases dgt b <;> cases b.toNat == 95 <;> rfl
 ·have c:decide (((tl s).length:Int) < (s.size:Int)) = false:=by simp; omega
  rw [c]
  rfl
 ·subst he
  obtain ⟨hkl,_⟩:=drop_step wrd ha
  rw [subS_eq (by omega) hkl]
  simp only [Option.bind_some]
  rw [w64_id (by omega) (by omega),Nat.add_sub_cancel_left,take_tw]
  refine T.some ?_
  congr 1
  rw [decide_eq_decide]
  omega
theorem F118_eq (hs:s.size≤4000) (hn:5000≤n) {a:Nat} {b:UInt8} {r:List UInt8} (hd:(tl s).drop a = b :: r) (hb2:dgt b = true) :
  F118 n s a = some (⟨2,bs (((tl s).drop a).takeWhile dgt),(a:Int)⟩,numOk b ((tl s).drop a)):=by
 have hz:=size_tl s
 have hb:=get_of_drop hd
 have ha:=lt_of_get hb
 apply T.eq
 unfold F118
 refine T.bind (take_T (L:=tl s) dgt (fun j b hb=>?_) ?_ (Nat.le_of_lt ha) (by omega)) fun e he=>?_
 ·have hjl:=lt_of_get hb
  have c:decide ((j:Int) < (s.size:Int)) = true:=by simp; omega
  rw [c,idxS_some hb,w64_nat (by omega)]
  simp only [cond_true,Option.bind_some,F117_eq]
  cases dgt b <;> rfl
 ·have c:decide (((tl s).length:Int) < (s.size:Int)) = false:=by simp; omega
  rw [c]
  rfl
 ·subst he
  obtain ⟨hkl,hkd⟩:=drop_step dgt (Nat.le_of_lt ha)
  have htk:=take_tw dgt ((tl s).drop a)
  have hnd:∀ c,(((tl s).drop a).dropWhile dgt).head? = some c→dgt c = false:=by
   intro c hc
   have:=List.head?_dropWhile_not dgt ((tl s).drop a)
   rw [hc] at this
   simpa using this
  unfold numOk
  rw [← hkd] at hnd ⊢
  have hk1:1≤(((tl s).drop a).takeWhile dgt).length:=by rw [hd,List.takeWhile_cons,if_pos hb2]; simp
  rw [subS_eq (by omega) hkl,Nat.add_sub_cancel_left,htk,idxS_some hb]
  generalize hk:(((tl s).drop a).takeWhile dgt).length = k at hkl hkd hk1 hnd ⊢
  have ew:w64 (((a + k:Nat):Int) - (a:Int)) = (k:Int):=by rw [w64_id (by omega) (by omega)]; omega
  have ew2:w64 ((a:Int) + 1) = ((a + 1:Nat):Int):=w64_nat (by omega)
  rw [ew,ew2]
  have e9:decide ((k:Int)≤9) = decide (k≤9):=i_le k 9
  have e48:((b.toNat:Int) == 48) = (b.toNat == 48):=i_eq _ 48
  have e1:(((a + k:Nat):Int) == ((a + 1:Nat):Int)) = (k == 1):=by
   rw [i_eq,Bool.eq_iff_iff]; simp only [beq_iff_eq]; omega
  simp only [Option.bind_some,e9,bne,e48,e1]
  have ej:(bif decide (k≤9) then some ((!(b.toNat == 48)) || (k == 1)) else some false) = some (decide (k≤9) && ((!(b.toNat == 48)) || (k == 1))):=by
   cases decide (k≤9) <;> rfl
  rw [ej]
  simp only [Option.bind_some]
  rw [List.head?_drop] at hnd ⊢
  by_cases hlt:a + k < (tl s).length
  ·have hg:=List.getElem?_eq_getElem hlt
   have hdg:=hnd _ hg
   have c3:decide (((a + k:Nat):Int) < (s.size:Int)) = true:=by simp; omega
   have e95:((((tl s)[a + k]).toNat:Int) == 95) = (((tl s)[a + k]).toNat == 95):=i_eq _ 95
   rw [c3,idxS_some hg,hg]
   simp only [cond_true,Option.bind_some,F115_eq,e95,Option.all_some,wrd,hdg,Bool.false_or]
   cases ltr (tl s)[a + k] <;> cases ((tl s)[a + k]).toNat == 95 <;> cases decide (k≤9) <;> cases b.toNat == 48 <;> cases k == 1 <;> exact T.some rfl
  ·have c3:decide (((a + k:Nat):Int) < (s.size:Int)) = false:=by simp; omega
   rw [c3,List.getElem?_eq_none (by omega)]
   simp only [cond_false,Option.bind_some,Option.all_none,Bool.and_true]
   exact T.some rfl
def symR:List ByteArray:=[(bs [61,61,62]),(bs [58,61]),(bs [61,61]),(bs [33,61]),(bs [60,61]),(bs [38,38]),(bs [124,124]),(bs [123]),(bs [125]),(bs [40]),(bs [41]),(bs [91]),(bs [93]),(bs [59]),(bs [58]),(bs [44]),(bs [46]),(bs [63]),(bs [61]),(bs [33]),(bs [60]),(bs [38]),(bs [124]),(bs [94]),(bs [43]),(bs [45]),(bs [42])]
theorem symR_sz:∀ x ∈ symR,1≤x.size∧x.size≤3:=by
 have:symR.all (fun x=>decide (1≤x.size∧x.size≤3)) = true:=by rfl
 intro x hx
 simpa using List.all_eq_true.1 this x hx
theorem symR_find (l:List UInt8):(symR.map tl).find? (fun t=>t.isPrefixOf l) = symL.find? (fun t=>t.isPrefixOf l):=by
 show ([61,61,62] :: [58,61] :: [61,61] :: symL.drop 3:List (List UInt8)).find? _ = ([61,61,62] :: [61,61] :: [58,61] :: symL.drop 3:List (List UInt8)).find? _
 simp only [List.find?_cons]
 cases h1:([61,61,62]:List UInt8).isPrefixOf l
 ·cases h2:([58,61]:List UInt8).isPrefixOf l
  ·cases h3:([61,61]:List UInt8).isPrefixOf l <;> rfl
  ·cases h3:([61,61]:List UInt8).isPrefixOf l
   ·rfl
   ·cases l with
    | nil=>simp at h2
    | cons x l =>
     simp [List.isPrefixOf] at h2 h3
     exact absurd (h2.1.trans h3.1.symm) (by decide)
 ·rfl
theorem find_TF {β:Type} {S:List ByteArray} {step:Int→Option (Int ⊕ (β ⊕ Unit))} (p:ByteArray→Bool) (f:ByteArray→β)
  (h1:∀ (k:Nat) x,S[k]? = some x→T (step (k:Int)) (fun r=>r = if p x = true then .inr (.inl (f x)) else .inl ((k + 1:Nat):Int)))
  (h2:step (S.length:Int) = some (.inr (.inr ()))) {n:Nat} (hn:S.length < n) :
  T (iter step n (0:Int)) (fun r=>r = match S.find? p with | some x=>.inl (f x) | none=>.inr ()):=by
 have key:∀ (l:List ByteArray) (k:Nat),runF (A:=Unit) (ρ:=β ⊕ Unit) (fun _ _ x=>if p x = true then .inr (.inl (f x)) else .inl ()) (fun _=>.inr ()) k l () = match l.find? p with | some x=>.inl (f x) | none=>.inr ():=by
  intro l
  induction l with
  | nil=>intro k; rfl
  | cons x l ih =>
   intro k
   rw [List.find?_cons,runF]
   cases hp:p x
   ·simpa [hp] using ih (k + 1)
   ·simp
 have e:=iter_runF S (fun (k:Nat) (_:Unit)=>(k:Int)) (fun _ _ x=>if p x = true then .inr (.inl (f x)) else .inl ()) (fun _=>.inr ()) (step:=step)
  (fun k a x hx=>by
   rw [T.eq (h1 k x hx)]
   cases p x <;> rfl)
  (fun _=>h2) n () hn
 rw [key] at e
 exact ⟨_,e,rfl⟩
theorem F75_eq (hs:s.size≤4000) (hn:5000≤n) {a:Nat} {b:UInt8} {r:List UInt8} (hd:(tl s).drop a = b :: r) :
  T (F75 n s a) (fun q=>match tokL ((tl s).drop a) with | some km=>q = (⟨(km.1:Int),bs (((tl s).drop a).take km.2),(a:Int)⟩,true) | none=>q.2 = false):=by
 have hz:=size_tl s
 have hb:=get_of_drop hd
 have ha:=lt_of_get hb
 unfold F75
 rw [idxS_some hb]
 simp only [Option.bind_some,F115_eq,F117_eq]
 rw [hd,tokL_cons]
 cases h1:ltr b
 ·simp only [cond_false]
  cases h2:dgt b
  ·simp only [cond_false,F119,Option.bind_some]
   refine T.bind (find_TF (S:=symR) (fun x=>(tl x).isPrefixOf ((tl s).drop a)) (fun x=>Token.mk 3 x (a:Int)) (fun k x hx=>?_) ?_ (by simp [symR]; omega)) fun q hq=>?_
   ·have hk:=lt_of_get hx
    have hk27:k < 27:=hk
    have c1:decide ((k:Int) < (symR.length:Int)) = true:=by simp; omega
    have hm:=symR_sz x (List.mem_of_getElem? hx)
    show T (bif decide ((k:Int) < (symR.length:Int)) then ((idxL symR (k:Int)).bind fun x13 =>
     (F113 s (a:Int) x13).bind fun x14 =>
     bif x14 then
      ((idxL symR (k:Int)).bind fun x16 =>
      some (.inr (.inl (Token.mk 3 x16 (a:Int)))))
     else
      (some (.inl (w64 ((k:Int) + 1))))) else some (.inr (.inr ())):Option (Int ⊕ (Token ⊕ Unit))) _
    rw [c1,idxL_some hx,w64_nat (k:=k) (by omega)]
    simp only [cond_true,Option.bind_some]
    rw [F113_eq (Nat.le_of_lt ha) hs hm.2]
    simp only [Option.bind_some]
    cases (tl x).isPrefixOf ((tl s).drop a)
    ·exact T.some rfl
    ·exact T.some rfl
   ·rfl
   ·rw [hq,find_tl (p:=fun t=>t.isPrefixOf ((tl s).drop a)),symR_find,hd]
    cases hf:symL.find? (fun t=>t.isPrefixOf (b :: r)) with
    | none=>exact T.some rfl
    | some t =>
     have hp:=List.find?_some hf
     have ht:=List.prefix_iff_eq_take.1 (List.isPrefixOf_iff_prefix.1 hp)
     refine T.some ?_
     simp only [Option.map_some]
     rw [← ht]
     rfl
  ·simp only [cond_true]
   rw [F118_eq hs hn hd h2,hd]
   simp only [Option.bind_some]
   cases numOk b (b :: r)
   ·exact T.some rfl
   ·refine T.some ?_
    simp only [cond_true]
    rw [take_tw]
    rfl
 ·simp only [cond_true]
  rw [F116_eq hs hn (Nat.le_of_lt ha),hd]
  simp only [Option.bind_some]
  cases decide (((b :: r).takeWhile wrd).length≤16)
  ·exact T.some rfl
  ·refine T.some ?_
   simp only [cond_true]
   rw [take_tw]
   rfl
theorem F39_eq (hn:5000≤n):F39 n s = some (lexR s):=by
 have hz:=size_tl s
 apply T.eq
 unfold F39 lexR
 by_cases h4:4000 < s.size
 ·have c:decide ((4000:Int) < (s.size:Int)) = true:=by simp; omega
  rw [c,if_pos h4]
  exact T.some rfl
 have c:decide ((4000:Int) < (s.size:Int)) = false:=by simp; omega
 have hs:s.size≤4000:=by omega
 rw [c,if_neg h4]
 simp only [cond_false]
 have e0:F74 n s (0:Int) = some (((tl s).length - (skp false ((tl s).drop 0)).length:Nat):Int):=F74_eq (a:=0) hs hn (by omega)
 rw [e0]
 simp only [Option.bind_some]
 have hdr:∀ k,k≤(tl s).length→(tl s).drop ((tl s).length - (skp false ((tl s).drop k)).length) = skp false ((tl s).drop k)∧k≤(tl s).length - (skp false ((tl s).drop k)).length:=by
  intro k hk
  obtain ⟨p,hp⟩:=skp_suf ((tl s).drop k) false
  have hp1:=congrArg List.length hp
  rw [List.length_append,List.length_drop] at hp1
  have e:(tl s).length - (skp false ((tl s).drop k)).length = k + p.length:=by omega
  constructor
  ·rw [e,← List.drop_drop]
   conv=>lhs; rw [hp]
   exact List.drop_left
  ·omega
 refine T.bind (P:=fun r=>(match r with | .inl e=>(([]:List Token),e.1,e.2) | .inr l=>(l,(0:Int),(0:Int))) = outT [] (lexG s.size (s.size + 1) 0 (tl s))) ?_ (fun r h=>by
  cases r with
  | inl e=>exact T.some h
  | inr l=>exact T.some h)
 refine iter_T (fun st=>∃ (k f:Nat),st.2 = (k:Int)∧k≤(tl s).length∧st.1.length≤1500∧((tl s).drop k).length≤f∧outT st.1 (lexS s.size (lexG s.size f (st.1.length + 1)) st.1.length ((tl s).drop k)) = outT [] (lexG s.size (s.size + 1) 0 (tl s))) (fun st=>(tl s).length - st.2.toNat) _ (fun st hst=>?_) n _ ?_ ⟨(tl s).length - (skp false ((tl s).drop 0)).length,s.size,rfl,by omega,by simp,?_,?_⟩
 ·obtain ⟨k,f,hk,hkl,h15,hf,hout⟩:=hst
  rw [hk]
  cases hd:(tl s).drop k with
  | nil =>
   have hk2:k = (tl s).length:=by
    have:=List.drop_eq_nil_iff.1 hd
    omega
   have c1:decide ((k:Int) < (s.size:Int)) = false:=by simp; omega
   rw [c1]
   rw [hd] at hout
   simp only [lexS,outT,List.append_nil] at hout
   exact T.some hout
  | cons b r =>
   have hlt:k < (tl s).length:=lt_of_get (get_of_drop hd)
   have hlen:=List.length_drop (i:=k) (l:=tl s)
   have c1:decide ((k:Int) < (s.size:Int)) = true:=by simp; omega
   have hpos:s.size - ((tl s).drop k).length = k:=by omega
   rw [c1]
   rw [hd] at hpos
   rw [hd] at hout
   simp only [lexS,hpos] at hout
   simp only [cond_true]
   by_cases h1500:st.1.length = 1500
   ·have c2:decide ((1500:Int)≤(st.1.length:Int)) = true:=by simp; omega
    rw [c2]
    rw [if_pos h1500] at hout
    exact T.some hout
   have c2:decide ((1500:Int)≤(st.1.length:Int)) = false:=by simp; omega
   rw [c2]
   simp only [cond_false]
   rw [if_neg h1500] at hout
   obtain ⟨q,hq,hq2⟩:=F75_eq hs hn hd
   rw [hq]
   simp only [Option.bind_some]
   rw [hd] at hq2
   cases htk:tokL (b :: r) with
   | none =>
    rw [htk] at hout hq2
    have hq2':q.2 = false:=hq2
    rw [hq2']
    exact T.some hout
   | some km =>
    rw [htk] at hout hq2
    have hq2':q = (⟨(km.1:Int),bs ((b :: r).take km.2),(k:Int)⟩,true):=hq2
    have hm:=tokL_spec htk
    subst hq2'
    simp only [Bool.not_true,cond_false,appL] at hout ⊢
    rw [if_pos (by simp; omega)]
    have hlen2:(tl s).length - k = (b :: r).length:=by rw [← hlen,hd]
    have etz:((bs ((b :: r).take km.2)).size:Int) = (km.2:Int):=by
     rw [size_bs,List.length_take]; omega
    have ew:w64 ((k:Int) + ((bs ((b :: r).take km.2)).size:Int)) = ((k + km.2:Nat):Int):=by
     rw [etz,w64_id (by omega) (by omega)]; rfl
    rw [ew,F74_eq hs hn (a:=k + km.2) (by omega)]
    simp only [Option.bind_some]
    obtain ⟨h5,h6⟩:=hdr (k + km.2) (by omega)
    rw [out_cons] at hout
    have hdk:(tl s).drop (k + km.2) = (b :: r).drop km.2:=by rw [← List.drop_drop,hd]
    have hsl:=skp_len false ((tl s).drop (k + km.2))
    rw [List.length_drop] at hsl
    obtain ⟨f,rfl⟩:∃ g,f = g + 1:=⟨f - 1,by rw [List.length_drop] at hf; omega⟩
    refine T.some ⟨⟨_,f,rfl,by omega,by simp; omega,?_,?_⟩,?_⟩
    ·rw [h5]
     rw [List.length_drop] at hf
     omega
    ·rw [h5,hdk]
     simp only [List.length_append,List.length_cons,List.length_nil]
     simp only [lexG] at hout
     exact hout
    ·show (tl s).length - ((((tl s).length - (skp false ((tl s).drop (k + km.2))).length:Nat):Int)).toNat < (tl s).length - ((k:Int)).toNat
     simp only [Int.toNat_natCast]
     omega
 ·simp only [Int.toNat_natCast]
  omega
 ·rw [(hdr 0 (by omega)).1]
  have:=skp_len false ((tl s).drop 0)
  rw [List.length_drop] at this
  omega
 ·rw [(hdr 0 (by omega)).1]
  simp only [List.drop_zero,List.length_nil]
  rfl
end Go.Proofs.YtbecjgckobhmpaaGreatDoor
end
section
namespace Go.Proofs.YtbecjgckobhmpaaGreatDoor
open Go Go.AM Go.Proofs
theorem addDs_head (x:Diag):∀ (l:List (Int × Int)) (d:List Diag),∃ d',addDs (x :: d) l = x :: d'
 | [],d=>⟨d,rfl⟩
 | r :: l,d=>by
  have:∃ d1,addD (x :: d) r = x :: d1:=by
   unfold addD
   cases decide (20≤(((x :: d).length:Nat):Int))
   ·simp only [cond_false]
    cases hl:(x :: d).getLast? with
    | none=>simp at hl
    | some y =>
     show ∃ d1,(bif y.pos == r.2 then x :: d else x :: d ++ [⟨r.1,r.2⟩]) = x :: d1
     cases y.pos == r.2
     ·exact ⟨d ++ [⟨r.1,r.2⟩],rfl⟩
     ·exact ⟨d,rfl⟩
   ·exact ⟨d,rfl⟩
  obtain ⟨d1,h1⟩:=this
  obtain ⟨d',h2⟩:=addDs_head x l d1
  exact ⟨d',by show addDs (addD (x :: d) r) l = _; rw [h1,h2]⟩
theorem addDs_cons (r:Int × Int) (l:List (Int × Int)):∃ d,addDs [] (r :: l) = ⟨r.1,r.2⟩ :: d:=addDs_head ⟨r.1,r.2⟩ l []
theorem addDs_nil {l:List (Int × Int)} (h:addDs [] l = []):l = []:=by
 cases l with
 | nil=>rfl
 | cons r l =>
  obtain ⟨d,hd⟩:=addDs_cons r l
  rw [hd] at h
  cases h
namespace M
variable {α:Type}
end M
theorem Lexed.nodup {s:ByteArray} {ts:List Token} (h:Lexed s ts) {i j:Nat} {a b:Token} (ha:ts[i]? = some a) (hb:ts[j]? = some b) (e:a.pos = b.pos):i = j:=by
 have hp:=(h.lx.le (by rw [← size_tl]; exact Nat.le_refl _)).1
 obtain ⟨hi,rfl⟩:=List.getElem?_eq_some_iff.1 ha
 obtain ⟨hj,rfl⟩:=List.getElem?_eq_some_iff.1 hb
 rw [List.pairwise_iff_getElem] at hp
 rcases Nat.lt_trichotomy i j with h1 | h1 | h1
 ·have:=hp i j hi hj h1; omega
 ·exact h1
 ·have:=hp j i hj hi h1; omega
theorem F33_ok {s:ByteArray} {ts:List Token} (h:Lexed s ts) {n:Nat} (hn:5000≤n):F33 n s = some true:=by
 unfold F33
 rw [decide_eq_false (by have:=h.len; omega),F39_eq hn,lexR_ok h]
 rfl
theorem F33_cases (s:ByteArray) {n:Nat} (hn:5000≤n):(∃ ts,Lexed s ts∧F33 n s = some true∧F39 n s = some (ts,0,0))∨F33 n s = some false:=by
 rcases lexR_cases s with ⟨ts,h,h2⟩ | ⟨e,p,h,h2,_⟩
 ·exact .inl ⟨ts,h,F33_ok h hn,by rw [F39_eq hn,h2]⟩
 ·right
  unfold F33
  cases decide ((6000:Int) < (s.size:Int))
  ·simp only [cond_false]
   rw [F39_eq hn,h]
   rcases h2 with rfl | rfl <;> rfl
  ·rfl
end Go.Proofs.YtbecjgckobhmpaaGreatDoor
end
section
namespace Go.Proofs.YtbecjgckobhmpaaGreatDoor
open Go Go.AM Go.Proofs
theorem moves (by':Int) (e:List Diag) (he:e.length≤20):(iter (σ:=(List Diag) × Int) (ρ:=((List Diag))) (fun s44=>bif decide (s44.2 < (e.length:Int)) then
           ((idxL e s44.2).bind fun x46 =>
           (idxL e s44.2).bind fun x47 =>
           (appL 16 s44.1 ([(Diag.mk x46.err (w64 (x47.pos + by')))]:List Diag)).bind fun x48 =>
           some (.inl (x48,w64 (s44.2 + 1))))
          else
           (some (.inr s44.1))) 20000 (([]:List Diag),(0:Int))) = some (e.map (mapD fun p=>w64 (p + by'))):=by
 refine Teq (iter_inv e (fun (k:Nat) (a:List Diag)=>(a,(k:Int))) (fun k a=>a = (e.take k).map (mapD fun p=>w64 (p + by'))) _ (fun k a x hx ha=>?_) (fun a ha=>?_) 20000 [] (by omega) rfl)
 ·left
  have hlt:=lt_of_get hx
  have c2:decide ((k:Int) < (e.length:Int)) = true:=by simpa using hlt
  refine ⟨a ++ [⟨x.err,w64 (x.pos + by')⟩],?_,?_⟩
  ·simp only [c2,cond_true,idxL_some hx,Option.bind_some]
   rw [appL_some (by rw [ha]; simp only [List.length_map,List.length_take,List.length_cons,List.length_nil]; omega)]
   simp only [Option.bind_some,w64_nat (k:=k) (by omega)]
  ·rw [ha,List.take_add_one,hx]
   simp [mapD]
 ·have c2:decide ((e.length:Int) < (e.length:Int)) = false:=by simp
  simp only [c2,cond_false]
  refine ⟨_,rfl,?_⟩
  rw [ha,List.take_length]
theorem law10 (a b:ByteArray):∃ n,F10 n a b = some true:=by
 refine ⟨20000,?_⟩
 unfold F10
 rw [F24_ok]
 simp only [Option.bind_some]
 by_cases hsz:(decide (6000 < (a.size:Int)) || decide (6000 < (b.size:Int))) = true
 ·rw [hsz]; rfl
 have hsz':=Bool.eq_false_iff.2 hsz
 rw [hsz']
 simp only [Bool.or_eq_false_iff,decide_eq_false_iff_not] at hsz'
 simp only [cond_false]
 rcases F33_cases b (n:=20000) (by omega) with ⟨tb,hB,h33,_⟩ | h33
 rotate_left
 ·rw [h33]; rfl
 have e1:catS a (bs [10]) = some (bs (tl a ++ [10])):=by
  rw [cat_ok (by rw [tl_bs,← size_tl]; simp only [List.length_cons,List.length_nil]; omega)]
  rfl
 have e2:catS (bs (tl a ++ [10])) b = some (bs (tl a ++ 10 :: tl b)):=by
  rw [cat_ok (by rw [tl_bs,← size_tl,List.length_append,← size_tl]; simp only [List.length_cons,List.length_nil]; omega),tl_bs,List.append_assoc]
  rfl
 simp only [h33,Option.bind_some,Bool.not_true,cond_false,e1,e2]
 generalize hz0:bs (tl a ++ 10 :: tl b) = z
 rcases F33_cases z (n:=20000) (by omega) with ⟨tz,hZ,h33z,_⟩ | h33z
 rotate_left
 ·rw [h33z]; rfl
 simp only [h33z,Option.bind_some,Bool.not_true,cond_false]
 rcases lexR_cases a with ⟨ta,hA,_⟩ | ⟨e,p,h,he,_⟩
 rotate_left
 ·rw [F25_bad (by omega) h (by omega)]
  rfl
 obtain ⟨l,p,hRa⟩:=read_some (n:=20000) (by omega) hA.cnt hA.lx.oks a.size
 obtain ⟨lb,pb,hRb⟩:=read_some (n:=20000) (by omega) hB.cnt hB.lx.oks b.size
 obtain ⟨lz,pz,hRz⟩:=read_some (n:=20000) (by omega) hZ.cnt hZ.lx.oks z.size
 rw [F25_ok (by omega) (by omega) hA hRa,F25_ok (by omega) (by omega) hB hRb,F25_ok (by omega) (by omega) hZ hRz]
 simp only [Option.bind_some]
 have hla:szs l≤1500:=Nat.le_trans hRa.sz hA.cnt
 have hlb:szs lb≤1500:=Nat.le_trans hRb.sz hB.cnt
 have hlz:szs lz≤1500:=Nat.le_trans hRz.sz hZ.cnt
 have hsl:∀ l:List Node,szs l≤1500→sz (srcN l)≤1501:=fun l h=>by rw [srcN,M.szL]; omega
 cases hd0:decide (0 < (((endP l (addDs [] p)).2.length:Nat):Int)) with
 | true=>rfl
 | false =>
  have hnil:(endP l (addDs [] p)).2 = []:=by
   have:¬ (0 < (((endP l (addDs [] p)).2.length:Nat):Int)):=of_decide_eq_false hd0
   exact List.length_eq_zero_iff.1 (by omega)
  have hd:addDs [] p = []:=by
   unfold endP at hnil
   by_cases h:addDs [] p = []
   ·exact h
   ·rw [if_neg h] at hnil; exact absurd hnil h
  have hp:p = []:=addDs_nil hd
  subst hp
  have hsm:smallP (srcN l):=by
   unfold endP at hnil
   rw [if_pos hd] at hnil
   by_cases h:smallP (srcN l)
   ·exact h
   ·rw [if_neg h] at hnil; cases hnil
  have hE:endP l (addDs [] []) = (srcN l,[]):=by unfold endP; rw [if_pos hd,if_pos hsm]
  rw [hE]
  have h4:∀ T,sz T≤1501→F26 20000 T (4000:Int) = some true:=fun T hT=>by
   have:=G26 T (by omega) (lim:=4000) (by omega) (n:=20000) (by omega)
   rw [decide_eq_true (by omega)] at this
   exact this
  have hesz:∀ (l:List Node) (d:List Diag),szs l≤1500→sz (endP l d).1≤1501:=fun l d h=>by
   unfold endP
   split
   ·split
    ·exact hsl l h
    ·exact Nat.le_trans (hsl [] (by simp [szs])) (by omega)
   ·exact hsl l h
  simp only [cond_false,h4 _ (hsl l hla),h4 _ (hesz lb _ hlb),h4 _ (hesz lz _ hlz),Option.bind_some,Bool.not_true]
  have hzt:tl z = tl a ++ 10 :: tl b:=by rw [← hz0,tl_bs]
  have hzs:z.size = a.size + ((tl b).length + 1):=by rw [size_tl,hzt,size_tl,List.length_append,List.length_cons]
  have hby:w64 ((a.size:Int) + 1) = ((a.size + 1:Nat):Int):=by rw [w64_id (by omega) (by omega)]; omega
  rw [hby]
  obtain ⟨f,hf⟩:∃ f:Int→Int,f = fun p=>w64 (p + ((a.size + 1:Nat):Int)):=⟨_,rfl⟩
  have hfr:∀ x:Int,0≤x→x≤6000→f x = x + ((a.size + 1:Nat):Int):=fun x h1 h2=>by
   rw [hf]
   exact w64_id (by omega) (by omega)
  have hbl:=hB.len
  have hleb:=hB.lx.le (by rw [← size_tl]; exact Nat.le_refl _)
  have hfin:f b.size = (z.size:Int):=by
   rw [hfr _ (by omega) (by omega),hzs,← size_tl]
   omega
  have htz:tz = ta ++ tb.map (mapT f):=by
   have h1:=(hB.lx.shift (a.size + 1) (by rw [← size_tl]; exact Nat.le_refl _))
   have e3:tb.map (mapT fun p=>p + ((a.size + 1:Nat):Int)) = tb.map (mapT f):=by
    refine List.map_congr_left fun t ht=>?_
    have:=hleb.2 t ht
    simp only [mapT]
    rw [hfr _ (by omega) (by omega)]
   have e4:b.size + (a.size + 1) = a.size + ((tl b).length + 1):=by rw [← size_tl]; omega
   rw [e3,e4] at h1
   have h2:=hA.lx.app (by rw [← size_tl]; exact Nat.le_refl _) h1
   rw [← hzs,← hzt] at h2
   exact hZ.lx.det h2
  obtain ⟨ia,hia⟩:=hRa.run
  obtain ⟨ib,hib⟩:=hRb.run
  obtain ⟨iz,hiz⟩:=hRz.run
  have hib2:=M.Nat'.run (f:=f) b.size _ _ ⟨tb,0,[]⟩ (M.nat_source 20000)
  have em:mapP f ⟨tb,0,[]⟩ = ⟨tb.map (mapT f),0,[]⟩:=rfl
  rw [hib,em,hfin] at hib2
  have hcat:=M.loop_cat (M.EA_item 20000) (M.in_item 20000) a.size z.size (tb.map (mapT f)) 20000 [] ta l _ hia rfl 20000 (l ++ lb.map (mapN f)) _ (by
   have:=M.loop_acc (z.size:Int) l 20000 [] _ hib2
   rw [List.append_nil] at this
   exact this)
  obtain ⟨K,hK⟩:=hcat
  rw [← htz] at hK
  have k1:=M.iter_mono z.size 20000 K _ _ _ _ hK
  have k2:=M.iter_mono z.size K 20000 _ _ _ _ hiz
  rw [Nat.add_comm,k2] at k1
  simp only [Out.ok.injEq] at k1
  obtain ⟨rfl,_,_,rfl⟩:=k1
  have hinj:∀ x y:Int,(0≤x∧x≤6000)→(0≤y∧y≤6000)→f x = f y→x = y:=fun x y hx hy e=>by
   rw [hfr x hx.1 hx.2,hfr y hy.1 hy.2] at e
   omega
  have hin:∀ r ∈ pb,0≤r.2∧r.2≤6000:=fun r hr=>by
   rcases hRb.rep_in r hr with h | ⟨t,ht,h⟩
   ·omega
   ·have:=hleb.2 t ht; omega
  have hdm:=(addDs_map hinj pb [] hin (by simp)).1
  simp only [List.map_nil] at hdm
  have hdl:=(hRb.diags hB).1
  have hmr:(List.map (fun r:Int × Int=>(r.1,f r.2)) pb) = pb.map fun r=>(r.1,f r.2):=rfl
  simp only at hlz ⊢
  have e3:appL 104 ([]:List Node) (srcN l).kids = some l:=by
   have:=szs_len l
   rw [appL_some (by simp only [srcN,List.length_nil]; omega)]
   rfl
  rw [e3]
  have hysz:=hesz lb (addDs [] pb) hlb
  have e4:=G41 ((a.size + 1:Nat):Int) _ (endP lb (addDs [] pb)).1 (Nat.le_refl _) (by omega) true 20000 (by omega)
  simp only [Option.bind_some,e4]
  have e5:∀ y:Node,(shiftB true ((a.size + 1:Nat):Int) y).kids = y.kids.map (mapN f):=fun y=>by rw [hf]; rfl
  rw [e5,appL_some (by
   have h1:=szs_len l
   have h2:=szs_len (endP lb (addDs [] pb)).1.kids
   have h3:=sz_eq (endP lb (addDs [] pb)).1
   simp only [List.length_map]
   omega)]
  simp only [Option.bind_some]
  have hwant:∀ k:List Node,Node.mk 62 (bs []) (bs []) 0 0 0 false k 0 = srcN k:=fun _=>rfl
  simp only [hwant]
  have hlz2:sz (srcN (l ++ lb.map (mapN f)))≤1501:=hsl _ hlz
  have hmv:∀ e:List Diag,e.length≤20→_:=fun e he=>moves ((a.size + 1:Nat):Int) e he
  rw [← hf] at hmv
  have hsame:F30 20000 (srcN (l ++ lb.map (mapN f))) (srcN (l ++ lb.map (mapN f))) = some true:=G30t rfl (by omega) (by omega)
  by_cases hdb:addDs [] pb = []
  ·have hE1:endP lb (addDs [] pb) = if smallP (srcN lb) then (srcN lb,[]) else (srcN [],[⟨2,0⟩]):=by unfold endP; rw [if_pos hdb]
   have hE2:endP (l ++ lb.map (mapN f)) (addDs [] (pb.map fun r=>(r.1,f r.2))) = if smallP (srcN (l ++ lb.map (mapN f))) then (srcN (l ++ lb.map (mapN f)),[]) else (srcN [],[⟨2,0⟩]):=by unfold endP; rw [hdm,hdb]; rfl
   rw [hE1,hE2]
   by_cases hs1:smallP (srcN lb)
   ·rw [if_pos hs1]
    have hF27:=G27 (srcN (l ++ lb.map (mapN f))) (by omega) (n:=20000) (by omega)
    have c0:(((([]:List Diag).length:Nat):Int) == 0) = true:=rfl
    have c1:(((([]:List Diag).length:Nat):Int) == 1) = false:=rfl
    have hk:(srcN lb).kids = lb:=rfl
    simp only [c0,c1,cond_true,cond_false,hk,hF27,Option.bind_some]
    by_cases hs2:smallP (srcN (l ++ lb.map (mapN f)))
    ·rw [decide_eq_true hs2,if_pos hs2]
     simp only [Bool.not_true,cond_false,Option.bind_some]
     rw [hmv [] (by simp)]
     simp only [Option.bind_some,cond_true,hsame,List.map_nil]
     rw [G42t rfl (by simp) (by simp)]
     rfl
    ·rw [decide_eq_false hs2]
     rfl
   ·rw [if_neg hs1]
    rfl
  ·have hE1:endP lb (addDs [] pb) = (srcN lb,addDs [] pb):=by unfold endP; rw [if_neg hdb]
   have hE2:endP (l ++ lb.map (mapN f)) (addDs [] (pb.map fun r=>(r.1,f r.2))) = (srcN (l ++ lb.map (mapN f)),(addDs [] pb).map (mapD f)):=by
    unfold endP
    rw [hdm,if_neg (by simpa using hdb)]
   rw [hE1,hE2]
   have c0:((((addDs [] pb).length:Nat):Int) == 0) = false:=by
    have:(addDs [] pb).length≠0:=fun h=>hdb (List.length_eq_zero_iff.1 h)
    simpa using this
   have hk:(srcN lb).kids = lb:=rfl
   have hrest:(iter (σ:=(List Diag) × Int) (ρ:=((List Diag))) (fun s44=>bif decide (s44.2 < ((addDs [] pb).length:Int)) then
           ((idxL (addDs [] pb) s44.2).bind fun x46 =>
           (idxL (addDs [] pb) s44.2).bind fun x47 =>
           (appL 16 s44.1 ([(Diag.mk x46.err (w64 (x47.pos + ((a.size + 1:Nat):Int))))]:List Diag)).bind fun x48 =>
           some (.inl (x48,w64 (s44.2 + 1))))
          else
           (some (.inr s44.1))) 20000 (([]:List Diag),(0:Int))).bind (fun r50 =>
         (F30 20000 (srcN (l ++ lb.map (mapN f))) (srcN (l ++ lb.map (mapN f)))).bind fun x52 =>
          bif x52 then
           ((F42 20000 ((addDs [] pb).map (mapD f)) r50).bind fun x54 =>
           some x54)
          else
           (some false)) = some true:=by
    rw [hmv _ hdl]
    simp only [Option.bind_some,hsame,cond_true]
    rw [G42t rfl (by rw [List.length_map]; omega) (by rw [List.length_map]; omega)]
    rfl
   simp only [c0,cond_false,hk]
   cases c1:((((addDs [] pb).length:Nat):Int) == 1)
   ·simp only [cond_false,Option.bind_some,cond_true]
    exact hrest
   ·obtain ⟨x,hx⟩:∃ x,addDs [] pb = [x]:=List.length_eq_one_iff.1 (by have:=eq_of_beq c1; omega)
    have hi:idxL (addDs [] pb) 0 = some x:=by rw [hx]; rfl
    simp only [cond_true,hi,Option.bind_some]
    cases x.err == 2
    ·simp only [cond_false,Option.bind_some]
     exact hrest
    ·cases x.pos == 0
     ·simp only [cond_true,cond_false,Option.bind_some]
      exact hrest
     ·rfl
end Go.Proofs.YtbecjgckobhmpaaGreatDoor
end
