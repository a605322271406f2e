/-
  Proved here: a part of what the claim needs (texts AmW YW of the prover's own).
-/
import Derived.Test.YtbecjgckobhmpaaGreatDoorPS07
import Derived.KernelRfl
section
namespace Go.AM
open Go
def newL {α:Type} (B:Nat) (l:List α):Option (List α):=if l.isEmpty = false∧l.length * B≤140737488355328 then some l else none
def setL {α:Type} (l:List α) (i:Int) (x:α):Option (List α):=if 0≤i∧i < (l.length:Int) then some (l.set i.toNat x) else none
def flatE {α:Type} (E:ET α) (l:List α):List AV:=l.flatMap E.c
theorem flatE_len {α:Type} (E:ET α):(l:List α)→(flatE E l).length = l.length * E.n
 | []=>by simp [flatE]
 | x :: r=>by
  have:=flatE_len E r
  simp only [flatE] at this
  simp only [flatE,List.flatMap_cons,List.length_append,E.hn,List.length_cons,this,Nat.add_mul]
  omega
theorem flatE_set {α:Type} (E:ET α) (y:α):(l:List α)→(i:Nat)→i < l.length→putCells (flatE E l) (i * E.n) (E.c y) = flatE E (l.set i y)
 | [],i,h=>by simp at h
 | x :: r,0,_=>by
  simp only [putCells,Nat.zero_mul,List.take_zero,List.nil_append,Nat.zero_add,E.hn,flatE,List.flatMap_cons,List.set_cons_zero]
  rw [List.drop_append_of_le_length (by rw [E.hn]; exact Nat.le_refl _),List.drop_of_length_le (by rw [E.hn]; exact Nat.le_refl _),List.nil_append]
 | x :: r,i + 1,h=>by
  have ih:=flatE_set E y r i (by simpa using h)
  simp only [putCells] at ih ⊢
  have e1:(i + 1) * E.n = (E.c x).length + i * E.n:=by rw [E.hn,Nat.add_mul]; omega
  simp only [flatE,List.flatMap_cons,List.set_cons_succ] at ih ⊢
  rw [e1,List.take_append,List.take_of_length_le (by omega),Nat.add_sub_cancel_left,Nat.add_assoc,List.drop_append,List.drop_of_length_le (by omega),Nat.add_sub_cancel_left,List.append_assoc,List.nil_append,ih]
theorem cellsL_flatE {α:Type} (E:ET α) (hagg:∀ x,E.e x = .agg (E.c x)):(l:List α)→cellsL (l.map E.e) = some (flatE E l)
 | []=>rfl
 | x :: r=>by simp [cellsL,hagg,cellsL_flatE E hagg r,flatE]
theorem chunk_flatE {α:Type} (E:ET α) (hagg:∀ x,E.e x = .agg (E.c x)):(l:List α)→chunk E.n l.length (flatE E l) = l.map E.e
 | []=>rfl
 | x :: r=>by
  have ih:=chunk_flatE E hagg r
  simp only [flatE] at ih
  have hn:=E.hn x
  simp only [flatE,List.flatMap_cons,List.length_cons,chunk,List.map_cons,hagg]
  rw [List.take_append_of_le_length (by omega),List.take_of_length_le (by omega),List.drop_append_of_le_length (by omega),List.drop_of_length_le (by omega),List.nil_append,ih]
theorem strip0L_app {a b a' b':List AV} (h1:strip0L a = some a') (h2:strip0L b = some b'):strip0L (a ++ b) = some (a' ++ b'):=by
 induction a generalizing a' with
 | nil=>simp [strip0L] at h1; subst h1; simpa using h2
 | cons x r ih =>
  simp only [strip0L,Option.bind_eq_some_iff,Option.map_eq_some_iff] at h1
  obtain ⟨u,h3,r',h4,rfl⟩:=h1
  simp only [List.cons_append,strip0L,h3,Option.bind_some,ih h4,Option.map_some]
theorem strip0L_flatE {α:Type} (E:ET α) (h0:∀ x,strip0L (E.c x) = some (E.c x)):(l:List α)→strip0L (flatE E l) = some (flatE E l)
 | []=>rfl
 | x :: r=>by
  have ih:=strip0L_flatE E h0 r
  simp only [flatE] at ih ⊢
  rw [List.flatMap_cons]
  exact strip0L_app (h0 x) ih
def Kd.ren (ids:List Nat):Kd→Kd
 | .look (some j)=>.look (some (ids.getD j 0))
 | .put j=>.put (ids.getD j 0)
 | k=>k
def Kd.below (n:Nat):Kd→Bool
 | .look (some j)=>Nat.blt j n
 | .put j=>Nat.blt j n
 | _=>true
theorem getD_inj {ids:List Nat} (hn:ids.Nodup) {i j:Nat} (hi:i < ids.length) (hj:j < ids.length) (h:i≠j):ids.getD i 0≠ids.getD j 0:=by
 rw [List.getD_eq_getElem?_getD,List.getD_eq_getElem?_getD,List.getElem?_eq_getElem hi,List.getElem?_eq_getElem hj]
 rcases Nat.lt_or_gt_of_ne h with hlt | hgt
 ·exact List.pairwise_iff_getElem.1 hn i j hi hj hlt
 ·exact Ne.symm (List.pairwise_iff_getElem.1 hn j i hj hi hgt)
theorem clash_ren {ids:List Nat} (hn:ids.Nodup) {j k:Kd} (hj:j.below ids.length = true) (hk:k.below ids.length = true) (h:clash j k = false):clash (j.ren ids) (k.ren ids) = false:=by
 have ne:∀ a b:Nat,Nat.blt a ids.length = true→Nat.blt b ids.length = true→(a == b) = false→(ids.getD a 0 == ids.getD b 0) = false:=fun a b ha hb h=>by
  have ha':a < ids.length:=by simpa using ha
  have hb':b < ids.length:=by simpa using hb
  have:=getD_inj hn ha' hb' (by simpa using h)
  simpa using this
 cases j with
 | calm=>cases k <;> (try (rename_i o; cases o)) <;> rfl
 | look o=>cases o with
  | none=>cases k with
   | look q=>cases q <;> rfl
   | calm=>rfl
   | put b=>simp [clash] at h
   | all=>simp [clash] at h
  | some a=>cases k with
   | look q=>cases q <;> rfl
   | calm=>rfl
   | put b=>exact ne a b hj hk h
   | all=>simp [clash] at h
 | put a=>cases k with
  | look q=>cases q with
   | none=>simp [clash] at h
   | some b=>exact ne a b hj hk h
  | calm=>rfl
  | put b=>exact ne a b hj hk h
  | all=>simp [clash] at h
 | all=>cases k with
  | calm=>rfl
  | look q=>cases q <;> simp [clash] at h
  | put b=>simp [clash] at h
  | all=>simp [clash] at h
theorem pairOk_ren {ops:Array Oper} {ids:List Nat} (hn:ids.Nodup) {m:Nat} {y:Oper} {k:Kd} (hk:k.below ids.length = true):(l:List (Oper × Kd))→(i:Nat)→(∀ p ∈ l,p.2.below ids.length = true)→pairOk ops m y k l i = true →
  pairOk ops m y (k.ren ids) (l.map fun p=>(p.1,p.2.ren ids)) i = true
 | [],i,_,_=>rfl
 | (x,j) :: r,i,hb,h=>by
  simp only [pairOk,List.map_cons,Bool.and_eq_true,Bool.or_eq_true] at h ⊢
  refine ⟨?_,pairOk_ren hn hk r (i + 1) (fun p hp=>hb p (by simp [hp])) h.2⟩
  rcases h.1 with h1 | h1
  ·exact .inl h1
  ·right
   simp only [free,Bool.and_eq_true,Bool.not_eq_true'] at h1 ⊢
   exact ⟨h1.1,clash_ren hn (hb (x,j) (by simp)) hk h1.2⟩
theorem orderGo_ren {ops:Array Oper} {ids:List Nat} (hn:ids.Nodup):(l:List (Oper × Kd))→(ms:List Nat)→(done:List (Oper × Kd))→(∀ p ∈ l,p.2.below ids.length = true)→(∀ p ∈ done,p.2.below ids.length = true)→orderGo ops l ms done = true →
  orderGo ops (l.map fun p=>(p.1,p.2.ren ids)) ms (done.map fun p=>(p.1,p.2.ren ids)) = true
 | [],ms,done,_,_,_=>by simp [orderGo]
 | (y,k) :: r,[],done,_,_,_=>by simp [orderGo]
 | (y,k) :: r,m :: ms,done,hl,hd,h=>by
  simp only [orderGo,List.map_cons,Bool.and_eq_true] at h ⊢
  refine ⟨pairOk_ren hn (hl (y,k) (by simp)) done 0 hd h.1,?_⟩
  have:=orderGo_ren hn r ms (done ++ [(y,k)]) (fun p hp=>hl p (by simp [hp])) (fun p hp=>by
   rcases List.mem_append.1 hp with hp | hp
   ·exact hd p hp
   ·exact hl p (by simp at hp; simp [hp])) h.2
  simpa using this
theorem zip_ren (ids:List Nat):(l:List Oper)→(ks:List Kd)→l.zip (ks.map (Kd.ren ids)) = (l.zip ks).map fun p=>(p.1,p.2.ren ids)
 | [],ks=>by simp
 | x :: l,[]=>by simp
 | x :: l,k :: ks=>by simp [zip_ren ids l ks]
theorem order_ren {ops:Array Oper} {ids:List Nat} (hn:ids.Nodup) {ks0:List Kd} (hb:ks0.all (Kd.below ids.length) = true) (h:orderOk ops ks0 = true):orderOk ops (ks0.map (Kd.ren ids)) = true:=by
 simp only [orderOk,Bool.and_eq_true] at h ⊢
 refine ⟨h.1,?_⟩
 rw [zip_ren]
 exact orderGo_ren hn _ _ [] (fun p hp=>List.all_eq_true.1 hb p.2 (List.of_mem_zip hp).2) (by simp) h.2
theorem q_dI {ops:Array Oper} {ks:List Kd} {q:Prop} {st:St} {rs:List Res} (K:HL st rs) (ks0:List Kd) (h:q) (he:ks0.map (Kd.ren (rs.filterMap Res.id)) = ks:=by kernel_rfl)
  (ho:(ks0.all (Kd.below (rs.filterMap Res.id).length) && orderOk ops ks0) = true:=by kernel_rfl):orderOk ops ks = true∧q:=by
 simp only [Bool.and_eq_true] at ho
 rw [← he]
 exact ⟨order_ren K.1 ho.1 ho.2,h⟩
section
variable {P:Program} {A:Ann} {f:FuncId} {ops:Array Oper} {i:Nat} {fr:Fr} {st:St} {env:Env} {rs:List Res} {QK:Fr→St→List Kd→Prop}
theorem k_appO {α:Type} (E:ET α) (hagg:∀ x,E.e x = .agg (E.c x)) {t t2 e:TypeId} {l r:List α} {sp2:Spare} {B:Nat} (hx:newL B l = some r) (env':Nat→Env) (H:Rd fr env) (K:HL st rs)
  (ht:(slB P t E.n B && isSlT P t2) = true) (he:elemOfSlice P t = some e)
  (hv:∀ fr id,chk A f ops i (puts fr env) (.arr id r.length E.n) ((env' id).map Prod.fst) = some (.appendO t t2 (.slice [] .full) (.slice (l.map E.e) sp2),(env' id).map Prod.snd))
  (h:∀ id st',HL st' (.obj id (.arr e (flatE E r)) :: rs)→∀ fr',Rd fr' (env' id)→WKI P A f ops (i + 1) fr' st' fun fr st ks=>QK fr st (2 :: ks)):WKI P A f ops i fr st QK:=by
 simp only [Bool.and_eq_true] at ht
 obtain ⟨e2,hu2⟩:=isSlT_ok ht.2
 unfold newL at hx
 split at hx
 ·rename_i hb
  simp only [Option.some.injEq] at hx
  subst hx
  refine k_vw (v:=.arr st.length l.length E.n) (st':=st ++ [.arr e (flatE E l)]) _ (env' st.length) H ?_ (fun fr=>hv fr _) (h _ _ (K.grow _))
  have ht1:=ht.1
  unfold slB at ht1
  split at ht1
  ·rename_i e' hu
   have he':elemOfSlice P t = some e':=by simp [elemOfSlice,hu]
   rw [he] at he'
   obtain rfl:=Option.some.inj he'
   split at ht1
   ·rename_i m' inf hm hinf
    split at ht1
    ·rename_i z hz
     simp only [Bool.and_eq_true,beq_iff_eq,decide_eq_true_eq] at ht1
     obtain ⟨⟨rfl,rfl,hB⟩,hsz,hzs⟩:=ht1
     have hroom:roomOk P e l.length = true:=by
      have h4:l.length≤4611686018427387904:=by
       have:=Nat.le_mul_of_pos_right l.length hB
       omega
      simp only [roomOk,hinf,hz,hb.2,decide_true,hB,hsz,h4,hzs,beq_self_eq_true,Bool.and_self]
     have hne:(l.map E.e).isEmpty = false:=by
      have:=hb.1
      cases l with
      | nil=>simp at this
      | cons _ _=>rfl
     simp only [Vw.run,appendO,he,hm,hu2,sized_map,List.length_map,hroom,srcT,hne,and_self,true_or,if_true,cellsL_flatE E hagg l,Option.map_some]
    ·cases ht1
   ·cases ht1
  ·cases ht1
 ·cases hx
theorem run_idxO {t:TypeId} {id n m:Nat} {k:IntKind} {i:Int} (ht:slN P t m = true) (h0:0≤i) (h1:i < (n:Int)) :
  Vw.run P st (.indexAddr t (.arr id n m) (.sc (.int k i))) = some (.ptr id (i.toNat * m),st):=by
 obtain ⟨e,hu,hn,hp⟩:=slN_ok ht
 simp only [Vw.run,same,indexAddrA,hu,hn,h0,h1,and_self,if_true,Option.map_some]
theorem k_storeO {α:Type} (E:ET α) {t T:TypeId} {id:Nat} {i':Int} {l l':List α} {y:α} {v:AV} (hx:setL l i' y = some l') (j:Nat) (env':Env) (H:Rd fr env) (K:HL st rs) (hj:rs[j]? = some (.obj id (.arr T (flatE E l))))
  (hvc:v.cells? = some (E.c y)) (hsz:size? P t = some E.n)
  (hv:∀ fr,chk A f ops i (puts fr env) (.tuple []) (env'.map Prod.fst) = some (.store t (.ptr id (i'.toNat * E.n)) v,env'.map Prod.snd))
  (h:∀ st',HL st' (rs.set j (.obj id (.arr T (flatE E l'))))→∀ fr',Rd fr' env'→WKI P A f ops (i + 1) fr' st' fun fr st ks=>QK fr st (.put id :: ks)):WKI P A f ops i fr st QK:=by
 have hk:st[id]? = some (.arr T (flatE E l)):=K.2 _ (List.mem_of_getElem? hj)
 unfold setL at hx
 split at hx
 ·rename_i hb
  simp only [Option.some.injEq] at hx
  subst hx
  have hlt:i'.toNat < l.length:=by omega
  refine k_vw (st':=st.set id (.arr T (flatE E (l.set i'.toNat y)))) _ env' H ?_ hv (h _ (((K.front j hj).put).back j hj))
  have hle:i'.toNat * E.n + E.n≤(flatE E l).length:=by
   rw [flatE_len]
   have:(i'.toNat + 1) * E.n≤l.length * E.n:=Nat.mul_le_mul_right _ hlt
   rw [Nat.add_mul] at this
   omega
  have hc:(E.c y).length = E.n∧i'.toNat * E.n + E.n≤(flatE E l).length∧(E.c y).all AV.one = true:=⟨E.hn y,hle,E.ho y⟩
  simp only [Vw.run,storeA,hvc,hsz,hk,if_pos hc,Option.map_some,flatE_set E y l i'.toNat hlt]
 ·cases hx
theorem e_retO {fn:Func} {v:AV} (vs:List AV) (H:Rd fr env) (K:HL st rs) (hr:∀ fr,ResL P rs (puts fr env) fn.results.toList vs) (hs:∀ st,HL st rs→strip st (oneOf vs) = some v):endsP P fn v .ret fr st:=by
 have h1:=hr fr
 rw [H.puts] at h1
 have h2:=results_one (P:=P) (ResL_ok K _ _ h1)
 exact ⟨_,by simp only [endA,h2,Option.map_some],hs st K⟩
theorem strip_arr {α:Type} (E:ET α) (hagg:∀ x,E.e x = .agg (E.c x)) (h0:∀ x,strip0L (E.c x) = some (E.c x)) (hn:0 < E.n) {T:TypeId} {id:Nat} {l:List α} (hl:l.isEmpty = false) (K:HL st rs) (hm:.obj id (.arr T (flatE E l)) ∈ rs) :
  strip st (.arr id l.length E.n) = some (.slice (l.map E.e) .shut):=by
 have hk:st[id]? = some (.arr T (flatE E l)):=K.2 _ hm
 have hpos:0 < l.length:=by
  cases l with
  | nil=>simp at hl
  | cons _ _=>simp
 simp only [strip,hk,flatE_len,hn,hpos,and_self,if_true,strip0L_flatE E h0,Option.map_some,chunk_flatE E hagg]
end
end Go.AM
end
section
namespace Go.Proofs.YtbecjgckobhmpaaGreatDoor
open Go Go.AM Go.Proofs
mutual
theorem eNode_strip0:(x:Node)→strip0 (eNode x) = some (eNode x)
 | ⟨k,nm,o,n,l,i,g,ks,p⟩=>by simp [eNode,strip0,strip0L,eNodes_strip0 ks]
theorem eNodes_strip0:(l:List Node)→strip0L (eNodes l) = some (eNodes l)
 | []=>by simp [eNodes,strip0L]
 | x :: r=>by simp [eNodes,strip0L,eNode_strip0 x,eNodes_strip0 r]
end
theorem cNode_strip0 (x:Node):strip0L (tNode.c x) = some (tNode.c x):=by
 have:=eNodes_strip0 x.kids
 show strip0L (cNode .shut x) = some (cNode .shut x)
 simp [cNode,strip0,strip0L,← eNodes_map,this]
theorem idxL_b {α:Type} {l:List α} {i:Int} {x:α} (h:idxL l i = some x):0≤i∧i < (l.length:Int):=by
 unfold idxL at h
 split at h
 ·have:=(List.getElem?_eq_some_iff.1 h).1
  omega
 ·cases h
theorem setL_len {α:Type} {l m:List α} {i:Int} {x:α} (h:setL l i x = some m):l.length = m.length∧m.isEmpty = false:=by
 unfold setL at h
 split at h
 ·rename_i hb
  simp only [Option.some.injEq] at h
  subst h
  refine ⟨by simp,?_⟩
  cases l with
  | nil=>simp at hb; omega
  | cons y r=>cases i.toNat <;> rfl
 ·cases h
theorem strip_row {st:St} {rs:List Res} {id:Nat} {l m:List Node} {i:Int} {x:Node} (K:HL st rs) (hx:setL l i x = some m) (hm:.obj id (.arr 24 (flatE tNode m)) ∈ rs) (y z:Node) :
  strip st (oneOf [.agg [vI y.kind,vS y.name,vS y.other,vI y.n,vI y.len,vI y.init,vB y.ghost,.arr id l.length 9,vI y.pos],aN z]) =
   some (.tuple [aN (Node.mk y.kind y.name y.other y.n y.len y.init y.ghost m y.pos),aN z]):=by
 obtain ⟨h1,h2⟩:=setL_len hx
 have hs:strip st (.arr id m.length 9) = some (.slice (m.map eNode) .shut):=strip_arr tNode eNode_eq cNode_strip0 (by decide) h2 K hm
 rw [h1]
 generalize AV.arr id m.length 9 = a at hs ⊢
 simp only [oneOf,strip,stripL,hs,stripL_cNode,Option.bind_some,Option.map_some,vI,vS,vB]
 rfl
end Go.Proofs.YtbecjgckobhmpaaGreatDoor
end
