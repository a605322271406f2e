/-
  Proved here: a part of what the claim needs (texts YS YR YRG YQ1 YQ2 YQ3 YQ4 YQ5 YQ6 YQ7 YQ8 YQ9 YQ10 of the prover's own).
-/
import Derived.Test.YtbecjgckobhmpaaGreatDoorFE03
import Derived.Tactics
import Derived.Tactics2
import Derived.Defers
import Derived.Recover
section
namespace Go.Proofs.YtbecjgckobhmpaaGreatDoor
open Go Go.AM Go.Proofs
set_option maxRecDepth 100000
theorem idxL_nat {α:Type} {l:List α} {i:Int} {x:α} (h:idxL l i = some x):∃ n:Nat,i = n∧l[n]? = some x:=by
 unfold idxL at h
 split at h
 ·exact ⟨i.toNat,by omega,h⟩
 ·cases h
theorem run_arr1 {P:Program} {st:St} {t e len:Nat} {k:IntKind} (hu:P.underlying t = some (.array len e)) (hs:size? P e = some 1) (ha:isAgg? P e = some false) {cs:List AV} {n:Nat} {v:AV} (hn:n < len) (h:cs[n]? = some v) :
  Vw.run P st (.index t (.agg cs) (.sc (.int k (n:Int)))) = some (v,st):=by
 have h1:0≤(n:Int)∧(n:Int) < len:=by omega
 simp only [Vw.run,same,indexA,hu,hs,loadC,ha,if_pos h1,Int.toNat_natCast,Nat.mul_one,h,Option.map_some]
theorem run_arrN {P:Program} {st:St} {t e len m:Nat} {k:IntKind} (hu:P.underlying t = some (.array len e)) (hs:size? P e = some m) (ha:isAgg? P e = some true) {cs:List AV} {n:Nat} (hn:n < len) (h:n * m + m≤cs.length) :
  Vw.run P st (.index t (.agg cs) (.sc (.int k (n:Int)))) = some (.agg ((cs.drop (n * m)).take m),st):=by
 have h1:0≤(n:Int)∧(n:Int) < len:=by omega
 simp only [Vw.run,same,indexA,hu,hs,loadC,ha,if_pos h1,Int.toNat_natCast,if_pos h,Option.map_some]
theorem run_sym {st:St} {i:Int} {x:ByteArray} (h:idxL symTab i = some x):Vw.run Tryz.prog st (.index 164 (.agg symCells) (vI i)) = some (vS x,st):=by
 obtain ⟨n,rfl,h2⟩:=idxL_nat h
 have hn:n < 27:=(List.getElem?_eq_some_iff.1 h2).1
 exact run_arr1 (len:=27) (e:=9) (by kernel_rfl) (by kernel_rfl) (by kernel_rfl) hn (by simp [symCells,h2])
theorem flat4 {α β:Type} (f:α→List β) (hf:∀ x,(f x).length = 4):(l:List α)→(n:Nat)→(x:α)→l[n]? = some x→((l.flatMap f).drop (n * 4)).take 4 = f x
 | [],n,x,h=>by simp at h
 | y :: l,0,x,h=>by
  simp at h
  subst h
  have:=hf y
  simp [← this]
 | y :: l,n + 1,x,h=>by
  have ih:=flat4 f hf l n x (by simpa using h)
  have e:(n + 1) * 4 = (f y).length + n * 4:=by rw [hf y]; omega
  rw [List.flatMap_cons,e,List.drop_append,List.drop_eq_nil_of_le (by omega),Nat.add_sub_cancel_left]
  exact ih
theorem run_rule {st:St} {i:Int} {x:ByteArray × Int × Int × Int} (h:idxL ruleTab i = some x):Vw.run Tryz.prog st (.index 140 (.agg ruleCells) (vI i)) = some (.agg [vS x.1,vI x.2.1,vI x.2.2.1,vI x.2.2.2],st):=by
 obtain ⟨n,rfl,h2⟩:=idxL_nat h
 have hn:n < 13:=(List.getElem?_eq_some_iff.1 h2).1
 have hl:ruleCells.length = 52:=by kernel_rfl
 rw [run_arrN (len:=13) (e:=113) (m:=4) (by kernel_rfl) (by kernel_rfl) (by kernel_rfl) hn (by omega)]
 rw [ruleCells,flat4 _ (fun _=>rfl) _ _ _ h2]
def keyNames:List (List UInt8):=[[109,111,100,117,108,101],[111,119,110,101,114],[114,101,99,111,114,100],[115,104,97,114,101,100],[103,104,111,115,116],[108,111,99,107],[105,110,118,97,114,105,97,110,116],[114,101,108,121],[103,117,97,114,97,110,116,101,101],[102,114,97,109,101],[112,114,111,99],[108,111,99,107,101,100],[108,111,99,97,108],[97,115,115,101,114,116],[114,101,108,101,97,115,101],[119,105,116,104],[97,116,111,109,105,99],[119,104,101,110],[99,97,115],[105,110,116,111],[97,99,113,117,105,114,101],[102,114,101,101],[102,101,110,99,101],[115,112,97,119,110],[106,111,105,110],[97,119,97,105,116],[115,107,105,112],[105,102],[101,108,115,101],[119,104,105,108,101],[118,97,114,105,97,110,116],[99,97,108,108],[116,104,114,101,97,100],[97,115,108,101,101,112],[111,108,100],[97,108,108],[115,111,109,101]]
def keysV:AV:=.cmap (keyNames.map bs) (keyNames.map fun _=>.sc (.bool true))
def isKey (s:ByteArray):Bool:=keyNames.any (s.data.toList == ·)
theorem strip_keysV (st:St):strip st keysV = some keysV:=rfl
theorem keyWords_R {st:St}:R Tryz.prog AN 63 [] st (.ret keysV) st:=R_closed AN_mixed 120 [] Tryz.func63 rfl rfl
theorem beq_bs (s:ByteArray) (l:List UInt8):(s == bs l) = (s.data.toList == l):=by
 show (s.data == (⟨l⟩:Array UInt8)) = _
 cases s
 rename_i d
 cases d
 simp
theorem run_key {st:St} {k:ByteArray}:Vw.run Tryz.prog st (.lookup 85 keysV (vS k)) = some (vB (isKey k),st):=by
 have hm:strMap Tryz.prog 85 = some 4:=by kernel_rfl
 have hz:zeroA Tryz.prog 4 = some (.sc (.bool false)):=by kernel_rfl
 simp only [Vw.run,same,keysV,lookupA,hm]
 have hk:isKey k = ((keyNames.map bs).findIdx? (k == ·)).isSome:=by
  rw [List.findIdx?_isSome]
  simp [isKey,List.any_map,Function.comp_def,beq_bs]
 rw [hk]
 split
 ·rename_i i hi
  have hlt:i < keyNames.length:=by
   have:=(List.findIdx?_eq_some_iff_getElem.1 hi).1
   simpa using this
  rw [hi]
  simp [hlt]
 ·rename_i hi
  simp [hi,hz]
theorem sj {α:Type} {a b:α} (h:some a = some b):a = b:=Option.some.inj h
theorem cl159_R (k:Int) {st:St}:R Tryz.prog AN 159 [vI k] st (.ret (.fn 197 [] [.cptr [vI k] 0])) st:=R_still AN_mixed 20 Tryz.func159 rfl
theorem cl162_R (g:FuncId) (a b:List AV) (h:FuncId) (c d:List AV) {st:St}:R Tryz.prog AN 162 [.fn g a b,.fn h c d] st (.ret (.fn 198 [] [.cptr [.fn g a b] 0,.cptr [.fn h c d] 0])) st:=R_still AN_mixed 20 Tryz.func162 rfl
end Go.Proofs.YtbecjgckobhmpaaGreatDoor
end
section
namespace Go.Proofs.YtbecjgckobhmpaaGreatDoor
open Go Go.AM Go.Proofs
set_option maxRecDepth 100000
structure RS where
 toks:List Token
 next:Int
 fin:Int
 inner:Int
 diags:List Diag
def RS.setNext (s:RS) (n:Int):RS:=⟨s.toks,n,s.fin,s.inner,s.diags⟩
def RS.setInner (s:RS) (n:Int):RS:=⟨s.toks,s.next,s.fin,n,s.diags⟩
def RS.setDiags (s:RS) (d:List Diag):RS:=⟨s.toks,s.next,s.fin,s.inner,d⟩
def rdC (s:RS) (sp:Spare):List AV:=[.slice (s.toks.map tToken.e) .shut,vI s.next,vI s.fin,vI s.inner,keysV,.slice (s.diags.map tDiag.e) sp]
abbrev Bad:=Int × Int
def encW (b:Bad):AV:=.iface 95 (.agg [vI b.1,vI b.2])
def guardF (m:Option ((Node ⊕ Bad) × RS)):Option ((Node × Int × Int) × RS) :=
 match m with
 | some (.inl v,s)=>some ((v,0,0),s)
 | some (.inr e,s)=>some ((⟨0,bs [],bs [],0,0,0,false,[],0⟩,e.1,e.2),s)
 | none=>none
theorem rd_join {st:St} {rs:List Res} {id:Nat} {T:TypeId} {sp:Spare} {cs:List AV} (K:HL st (.own sp :: .obj id (.cells T cs) :: rs)):HL st (.rd id T sp cs :: rs):=by
 refine ⟨?_,fun r hr=>?_⟩
 ·have h1:=K.1
  simp only [List.flatMap_cons,Res.ids] at h1 ⊢
  refine h1.perm ?_
  rw [← List.append_assoc]
  exact List.Perm.append_right _ (by simp)
 ·simp only [List.mem_cons] at hr
  rcases hr with rfl | hr
  ·exact ⟨K.2 (.obj id (.cells T cs)) (by simp),K.2 (.own sp) (by simp)⟩
  ·exact K.2 r (by simp [hr])
theorem _root_.Go.AM.HL.mid {st:St} {a b:Res} {pre rs:List Res} (K:HL st (a :: (pre ++ b :: rs))):HL st (a :: b :: (pre ++ rs)):=K.perm (List.Perm.cons a List.perm_middle)
theorem _root_.Go.AM.HL.unmid {st:St} {a b:Res} {pre rs:List Res} (K:HL st (a :: b :: (pre ++ rs))):HL st (a :: (pre ++ b :: rs)):=K.perm (List.Perm.cons a List.perm_middle.symm)
theorem newReader_R (toks:List Token) (t:ByteArray) {st:St} {rs:List Res} (K:HL st rs) :
  ∃ (id:Nat) (st':St),R Tryz.prog AN 56 [vS t,.slice (toks.map tToken.e) .shut] st (.ret (.ptr id 0)) st'∧HL st' (.rd id 87 .nil (rdC ⟨toks,0,(t.size:Int),0,[]⟩ .nil) :: rs):=by
 obtain ⟨got,st',hR,id,rfl,K⟩:=R_bodyG (P:=Tryz.prog) (A:=AN) (args:=[vS t,.slice (toks.map tToken.e) .shut]) (st:=st) (Post:=fun got st'=>∃ id,got = .ret (.ptr id 0)∧HL st' (.rd id 87 .nil (rdC ⟨toks,0,(t.size:Int),0,[]⟩ .nil) :: rs)) Tryz.func56 rfl (by kernel_rfl) (by
  have H:Rd (frame0 [vS t,.slice (toks.map tToken.e) .shut]) [(0,vS t),(1,.slice (toks.map tToken.e) .shut)]:=⟨rfl,rfl,trivial⟩
  refine W_seq (W_reg ?_)
  refine qg 1 [] H fun fr H=>?_
  refine qe ?_
  refine W_seq (W_reg ?_)
  refine qg 3 [(5,.slice (toks.map tToken.e) .shut),(7,vI (t.size:Int))] H fun fr H=>?_
  refine qc (fun s=>keyWords_R) H fun fr H=>?_
  refine qg 1 [(9,.agg [.slice (toks.map tToken.e) .shut,vI 0,vI (t.size:Int),vI 0,keysV,.slice [] .nil])] H fun fr H=>?_
  refine qbx 87 (.agg [.slice (toks.map tToken.e) .shut,vI 0,vI (t.size:Int),vI 0,keysV,.slice [] .nil]) [.slice (toks.map tToken.e) .shut,vI 0,vI (t.size:Int),vI 0,keysV,.slice [] .nil] H K fun id st K fr H=>?_
  refine qg 1 [(4,.ptr id 0)] H fun fr H=>?_
  refine qe ?_
  refine W_ret ?_
  have h1:ResL Tryz.prog (.obj id (.cells 87 [.slice (toks.map tToken.e) .shut,vI 0,vI (t.size:Int),vI 0,keysV,.slice [] .nil]) :: rs) fr Tryz.f56.results.toList [.ptr id 0]:=by
   refine resT ?_ resN
   rw [H.1]
   rfl
  exact ⟨_,results_one (P:=Tryz.prog) (ResL_ok K _ _ h1),id,rfl,rd_join K.nilo⟩)
 exact ⟨id,st',hR,K⟩
end Go.Proofs.YtbecjgckobhmpaaGreatDoor
end
section
namespace Go.Proofs.YtbecjgckobhmpaaGreatDoor
open Go Go.AM Go.Proofs
set_option maxRecDepth 100000
def zNc:List AV:=[vI 0,vS (bs []),vS (bs []),vI 0,vI 0,vI 0,vB false,.slice [] .nil,vI 0]
def zBc:List AV:=[vI 0,vI 0]
def frC (id1 id2:Nat) (v:AV):Fr:=put (put (frame0 [.ptr id1 0,.ptr id2 0]) (some 5) v) (some 2) v
theorem frC_Rd (id1 id2:Nat) (v:AV):Rd (frC id1 id2 v) [(0,.ptr id1 0),(1,.ptr id2 0),(2,v)]:=⟨rfl,rfl,rfl,trivial⟩
theorem rest_idle {r0 c:Code} (hb:Tryz.f100.body = some (.seq r0 c)) (id1 id2:Nat) (st:St):W Tryz.prog AN 100 c (frC id1 id2 (.sc .nilIface)) st fun e _ st'=>e = .normal∧st' = st:=by
 cases (show some (Code.seq _ _) = some (.seq r0 c) from hb)
 have H:=frC_Rd id1 id2 (.sc .nilIface)
 refine W_seq (W_reg ?_)
 refine qg 2 [(7,vB false)] H fun fr H=>?_
 refine qe ?_
 refine qF H rfl ?_
 exact W_skip ⟨rfl,rfl⟩
theorem rest_catch {r0 c:Code} (hb:Tryz.f100.body = some (.seq r0 c)) {st:St} {rs:List Res} {id1 id2:Nat} (b:Bad) (K:HL st (.obj id2 (.cells 95 zBc) :: .obj id1 (.cells 24 zNc) :: rs)) :
  W Tryz.prog AN 100 c (frC id1 id2 (encW b)) st fun e _ st'=>e = .normal∧HL st' (.obj id2 (.cells 95 [vI b.1,vI b.2]) :: .obj id1 (.cells 24 zNc) :: rs):=by
 cases (show some (Code.seq _ _) = some (.seq r0 c) from hb)
 have H:=frC_Rd id1 id2 (encW b)
 refine W_seq (W_reg ?_)
 refine qg 2 [(7,vB true)] H fun fr H=>?_
 refine qe ?_
 refine qT H rfl ?_
 refine W_seq (W_reg ?_)
 refine qg 5 [(11,.agg [vI b.1,vI b.2]),(12,vB true)] H fun fr H=>?_
 refine qal 95 [vI 0,vI 0] H K fun id3 st K fr H=>?_
 refine qst 95 0 (.agg [vI b.1,vI b.2]) [vI b.1,vI b.2] 0 H K rfl fun st K fr H=>?_
 refine qg 1 [(4,vB true)] H fun fr H=>?_
 refine qe ?_
 refine W_seq (W_seq (W_reg ?_))
 refine qg 2 [(14,vB false)] H fun fr H=>?_
 refine qe ?_
 refine qF H rfl ?_
 refine W_skip ?_
 refine W_drw ?_
 refine qg 1 [(16,.agg zNc)] H fun fr H=>?_
 refine qld 95 0 (.agg [vI b.1,vI b.2]) 0 H K rfl fun fr H=>?_
 refine qst 24 0 (.agg zNc) zNc 2 H K rfl fun st K fr H=>?_
 refine qst 95 0 (.agg [vI b.1,vI b.2]) [vI b.1,vI b.2] 1 H K rfl fun st K fr H=>?_
 refine qe (qdI K [0,.look (some 0),.put 2,.put 1] ?_)
 exact ⟨rfl,(K.keep [false]).cv⟩
def recs (u u':FrameMode) (cv:Value):Prop:=∀ (c₀:Frame) (cs:List Frame),c₀.mode = u →
 (recoverD (c₀ :: cs) = some (cv,{ c₀ with mode:=u' } :: cs))∨(recoverD (c₀ :: cs) = none∧cv = .nilIface∧u' = u)
theorem clo_100 {c:Code} {y0 y1:TypeId} {p0 p1:String} {a0 a1:Array Edge} (hb:Tryz.f100.body = some (.seq (.region 0 #[⟨some 5,.call ⟨.builtin .recover,#[],#[]⟩,y0,p0,a0,none⟩,⟨some 2,.assign (.tmp 5),y1,p1,a1,none⟩] false) c)) {st stF:St} {fr':Fr} {id1 id2:Nat} {v:AV} (hd:dstOk 18 c = true)
  (hsim:Sim Tryz.prog AN c (frC id1 id2 v) st (.normal,fr',stF)) {u u':FrameMode} {G:Gh} {w:World} (hs:Sok G w st) (hg:GlobOk AN G w) {p q cv:Value} (hp:V G w (.ptr id1 0) p) (hq:V G w (.ptr id2 0) q) (hv:V G w v cv) (hrec:recs u u' cv) :
  CallsD Tryz.prog 100 #[p,q] u w fun e u2 w'=>e = .returned (.tuple #[])∧u2 = u'∧∃ G',Ext G w st G' w' stF∧Sok G' w' stF:=by
 refine callsD_of_wpS Tryz.func100 hb fun c₀ cs hu=>?_
 have hf0:Fits G w (frame0 [.ptr id1 0,.ptr id2 0]) { tmps:=⟨[p,q]⟩ ++ Array.replicate (18 - (⟨[p,q]⟩:Array Value).size) undef,defers:=[] } 18:=fits0 (VL.cons hp (VL.cons hq VL.nil)) (by simp)
 have hf1:=(hf0.put (d:=some 5) (by simp) hv).put (d:=some 2) (by simp) hv
 apply wpS_seq
 apply wpS_region
 have fin:∀ cs' act,cs' = { c₀ with mode:=u' } :: cs→act = (Act.put (Act.put { tmps:=⟨[p,q]⟩ ++ Array.replicate (18 - (⟨[p,q]⟩:Array Value).size) undef,defers:=[] } (some 5) cv) (some 2) cv)→Code.wpS Tryz.prog c (bodyPostS Tryz.prog Tryz.f100 c₀ cs fun e u2 w'=>e = .returned (.tuple #[])∧u2 = u'∧∃ G',Ext G w st G' w' stF∧Sok G' w' stF) act cs' w:=fun cs' act hcs hact=>by
  subst hact
  refine wpS_of_wp (hsim 18 hd G w _ _ hf1 hg hs ?_)
  intro ex a' w' hpost
  obtain ⟨rfl,G',hx,hs',hf',hdef⟩:=hpost.fits
  exact ⟨hdef,u',hcs,.tuple #[],by simp [results,Tryz.results100],rfl,rfl,G',hx,hs'⟩
 show wpOpsS _ _ _ [0,1] _ _ _
 rcases hrec c₀ cs hu with h1 | ⟨h1,rfl,rfl⟩
 ·simp [wpOpsS,go_sem,h1,Exit.thenS,Tryz.ntmps100]
  exact fin _ _ rfl (by simp [Act.put])
 ·simp [wpOpsS,go_sem,h1,Exit.thenS,Tryz.ntmps100]
  exact fin _ _ (by rw [← hu]) (by simp [Act.put])
theorem recs_idle:recs .returning .returning .nilIface:=fun c₀ cs h=>.inr ⟨by simp [recoverD,h],rfl,rfl⟩
theorem recs_catch (c:Value):recs (.panicking (entry c)) (.panicking [{ v:=c,recovered:=true }]) c:=fun c₀ cs h=>.inl (by simp [recoverD,h,entry])
section
variable {g:FuncId} {first cap:List AV} {i0:Nat} {p:Spare} {s:RS} {st:St} {rs:List Res}
theorem g65_0 {r0 c:Code} (hb:Tryz.f65.body = some (.seq r0 c)) (K:HL st (.rd i0 87 p (rdC s p) :: rs)) :
  W Tryz.prog AN 65 r0 (frame0 [.ptr i0 0,.fn g first cap]) st fun e fr st'=>e = .normal∧∃ id1 id2,Rd fr [(0,.ptr i0 0),(1,.fn g first cap),(4,.ptr id1 0),(5,.ptr id2 0)]∧HL st' (.obj id2 (.cells 95 zBc) :: .obj id1 (.cells 24 zNc) :: .rd i0 87 p (rdC s p) :: rs):=by
 cases (show some (Code.seq _ _) = some (.seq r0 c) from hb)
 have H:Rd (frame0 [.ptr i0 0,.fn g first cap]) [(0,.ptr i0 0),(1,.fn g first cap)]:=⟨rfl,rfl,trivial⟩
 refine W_reg ?_
 refine qal 24 zNc H K fun id1 st K fr H=>?_
 refine qal 95 zBc H K fun id2 st K fr H=>?_
 refine qe ?_
 exact ⟨rfl,id1,id2,H.tq,K⟩
def frG (fr:Fr) (id1 id2:Nat):Fr:=put (put fr (some 6) (.fn 100 [] [.ptr id1 0,.ptr id2 0])) none (.tuple [])
theorem frG_Rd {fr:Fr} {id1 id2:Nat} (H:Rd fr [(0,.ptr i0 0),(1,.fn g first cap),(4,.ptr id1 0),(5,.ptr id2 0)]):Rd (frG fr id1 id2) [(1,.fn g first cap),(4,.ptr id1 0),(5,.ptr id2 0)]:=by
 obtain ⟨_,h1,h4,h5,_⟩:=H
 exact ⟨h1,h4,h5,trivial⟩
theorem g65_2 {r0 r1 r2 c:Code} (hb:Tryz.f65.body = some (.seq r0 (.seq r1 (.seq r2 c)))) {fr:Fr} {id1 id2:Nat} {v:Node} {q:Spare} {s':RS} {st2:St} (H:Rd fr [(1,.fn g first cap),(4,.ptr id1 0),(5,.ptr id2 0)])
  (hR:R Tryz.prog AN g (first ++ [] ++ cap) st (.ret (aN v)) st2) (K:HL st2 (.rd i0 87 q (rdC s' q) :: .obj id2 (.cells 95 zBc) :: .obj id1 (.cells 24 zNc) :: rs)) :
  W Tryz.prog AN 65 r2 fr st fun e fr st'=>e = .normal∧Rd fr [(4,.ptr id1 0),(5,.ptr id2 0)]∧HL st' (.rd i0 87 q (rdC s' q) :: .obj id2 (.cells 95 zBc) :: .obj id1 (.cells 24 (cNode .shut v)) :: rs):=by
 cases (show some (Code.seq _ (Code.seq _ (Code.seq _ _))) = some (.seq r0 (.seq r1 (.seq r2 c))) from hb)
 refine W_reg ?_
 refine qg 1 [(7,.fn g first cap)] H fun fr H=>?_
 refine qq (τ:=Unit) (v:=fun _=>aN v) (post:=fun _=>.rd i0 87 q (rdC s' q) :: .obj id2 (.cells 95 zBc) :: .obj id1 (.cells 24 zNc) :: rs) ⟨(),st2,hR,K⟩ H fun _ st K fr H=>?_
 refine qg 1 [(9,.agg zBc)] H fun fr H=>?_
 refine qst 24 0 (aN v) (cNode .shut v) 2 H K rfl fun st K fr H=>?_
 refine qst 95 0 (.agg zBc) zBc 1 H K rfl fun st K fr H=>?_
 refine qe ?_
 exact ⟨rfl,H.tq,K⟩
theorem g65_r {fr:Fr} {id1 id2:Nat} {n b:List AV} {rs:List Res} (H:Rd fr [(4,.ptr id1 0),(5,.ptr id2 0)]) (K:HL st rs) (h1:.obj id1 (.cells 24 n) ∈ rs) (h2:.obj id2 (.cells 95 b) ∈ rs) {vn vb:AV} (hn:(loadC Tryz.prog 24 n 0).map weakA = some vn) (hb:(loadC Tryz.prog 95 b 0).map weakA = some vb) :
  resultsA Tryz.prog Tryz.f65 st fr = some (.tuple [vn,vb]) :=
 results_one (P:=Tryz.prog) (vs:=[vn,vb]) (ResL_ok K _ _ (show ResL Tryz.prog rs fr [.cell 4 24,.cell 5 95] [vn,vb] from ⟨⟨id1,0,24,n,H.1,h1,hn⟩,⟨id2,0,95,b,H.2.1,h2,hb⟩,trivial⟩))
end
theorem body100:∃ (c:Code) (y0 y1:TypeId) (p0 p1:String) (a0 a1:Array Edge),Tryz.f100.body = some (.seq (.region 0 #[⟨some 5,.call ⟨.builtin .recover,#[],#[]⟩,y0,p0,a0,none⟩,⟨some 2,.assign (.tmp 5),y1,p1,a1,none⟩] false) c)∧dstOk 18 c = true :=
 ⟨_,_,_,_,_,_,_,rfl,by kernel_rfl⟩
theorem enters100:Go.AM.Enters Tryz.prog 100:=Go.AM.enters_of Tryz.func100 rfl (k:=0) (by kernel_rfl)
theorem g65_end {st stE stF:St} {fr:Fr} {v:AV} {id1 id2:Nat} {frF:Fr} {n b:List AV} {rs:List Res} {vn vb:AV} {c:Code} (hb:∃ (y0 y1:TypeId) (p0 p1:String) (a0 a1:Array Edge),Tryz.f100.body = some (.seq (.region 0 #[⟨some 5,.call ⟨.builtin .recover,#[],#[]⟩,y0,p0,a0,none⟩,⟨some 2,.assign (.tmp 5),y1,p1,a1,none⟩] false) c)) (hd:dstOk 18 c = true)
  (hsim:Sim Tryz.prog AN c (frC id1 id2 v) stE (.normal,frF,stF)) {u u':FrameMode} (hu:u≠.run) (hset:settle u' = .returning) {G G0:Gh} {w w0:World} (hx0:Ext G0 w0 st G w stE) (hs:Sok G w stE) (hg:GlobOk AN G w)
  {a:Act} (hf:Fits G w fr a 10) {l2:List Value} (hl:VL G w [.ptr id1 0,.ptr id2 0] l2) {cv:Value} (hv:V G w v cv) (hrec:recs u u' cv) {dargs:Array Value} (hda:dargs = #[])
  (H:Rd fr [(4,.ptr id1 0),(5,.ptr id2 0)]) (K:HL stF rs) (h1:.obj id1 (.cells 24 n) ∈ rs) (h2:.obj id2 (.cells 95 b) ∈ rs) (hn:(loadC Tryz.prog 24 n 0).map weakA = some vn) (hbb:(loadC Tryz.prog 95 b 0).map weakA = some vb) :
  Leaves Tryz.prog Tryz.f65 a.tmps (Gotten G0 w0 st (.ret (.tuple [vn,vb])) stF) [{ target:=.fn (.func 100) ⟨l2⟩,args:=dargs }] u w:=by
 subst hda
 simp only [VL] at hl
 obtain ⟨p,l',rfl,hp,q,l'',rfl,hq,rfl⟩:=hl
 obtain ⟨y0,y1,p0,p1,a0,a1,hb⟩:=hb
 refine leaves_cons (f:=100) (args:=#[p,q]) hu (by simp [invoke,run_callFunc enters100]) ?_
 refine (clo_100 hb hd hsim hs hg hp hq hv hrec).mono ?_
 rintro e u2 w' ⟨rfl,rfl,G',hx,hs'⟩
 simp only [hset]
 obtain ⟨c,hc,hvc⟩:=resultsA_ok (g65_r H K h1 h2 hn hbb) (hf.mono hx) hs'
 exact ⟨c,hc,G',hx0.trans hx,hs',c,rfl,hvc⟩
theorem guarded_R {g:FuncId} {first cap:List AV} {m:Option ((Node ⊕ Bad) × RS)} {x:(Node × Int × Int) × RS} (hx:guardF m = some x) {i0:Nat} {p:Spare} {s:RS} {st:St} {rs:List Res} (K:HL st (.rd i0 87 p (rdC s p) :: rs))
  (hc:∀ a s',m = some (a,s')→∀ st1 pre,HL st1 (.rd i0 87 p (rdC s p) :: (pre ++ rs))→∃ (q:Spare) (st':St),R Tryz.prog AN g (first ++ [] ++ cap) st1 (gotE encW (fun v=>aN v) a) st'∧HL st' (.rd i0 87 q (rdC s' q) :: (pre ++ rs))) :
  ∃ (q:Spare) (st':St),R Tryz.prog AN 65 [.ptr i0 0,.fn g first cap] st (.ret (.tuple [aN x.1.1,.agg [vI x.1.2.1,vI x.1.2.2]])) st'∧HL st' (.rd i0 87 q (rdC x.2 q) :: rs):=by
 obtain ⟨r0,t1,q1,f1,t2,q2,f2,t3,q3,f3,t4,q4,f4,o2,o3,o4,hb⟩:∃ (r0:Code) (t1:TypeId) (q1:String) (f1:Array Edge) (t2:TypeId) (q2:String) (f2:Array Edge) (t3:TypeId) (q3:String) (f3:Array Edge) (t4:TypeId) (q4:String) (f4:Array Edge) (o2 o3 o4:Oper),
   Tryz.f65.body = some (.seq r0 (.seq (.region 1 #[⟨some 6,.makeFunc (.func 100) #[] #[.tmp 4,.tmp 5],t1,q1,f1,none⟩,⟨none,.defer ⟨.value (.tmp 6),#[],#[]⟩,t2,q2,f2,none⟩] false)
    (.seq (.region 2 #[⟨some 7,.move (.tmp 1),t3,q3,f3,none⟩,⟨some 8,.call ⟨.value (.tmp 7),#[],#[]⟩,t4,q4,f4,none⟩,o2,o3,o4] false) .ret))):=⟨_,_,_,_,_,_,_,_,_,_,_,_,_,_,_,_,rfl⟩
 have hd0:dstOk 10 r0 = true:=by
  cases (show some (Code.seq _ _) = some _ from hb)
  kernel_rfl
 have hd2:dstOk 10 (.region 2 #[⟨some 7,.move (.tmp 1),t3,q3,f3,none⟩,⟨some 8,.call ⟨.value (.tmp 7),#[],#[]⟩,t4,q4,f4,none⟩,o2,o3,o4] false) = true:=by
  cases (show some (Code.seq _ _) = some _ from hb)
  kernel_rfl
 have hen:Go.AM.Enters Tryz.prog 65:=⟨_,_,Tryz.func65,hb,by kernel_rfl⟩
 obtain ⟨c100,y0,y1,p0,p1,a0,a1,hb1,hd1⟩:=body100
 obtain ⟨e0,fr0,st0,⟨rfl,id1,id2,H0,K0⟩,hs0⟩:=(g65_0 (first:=first) (cap:=cap) (g:=g) hb K).use
 have Kc:HL st0 (.rd i0 87 p (rdC s p) :: ([.obj id2 (.cells 95 zBc),.obj id1 (.cells 24 zNc)] ++ rs)):=K0.front 2 rfl
 have H1:=frG_Rd H0
 have ev6:∀ fr:Fr,fr 4 = .ptr id1 0→fr 5 = .ptr id2 0→opA Tryz.prog AN 65 fr st0 ⟨some 6,.makeFunc (.func 100) #[] #[.tmp 4,.tmp 5],t1,q1,f1,none⟩ = some (.fn 100 [] [.ptr id1 0,.ptr id2 0],st0):=fun fr h4 h5=>by
  show some (AV.fn 100 [] [fr 4,fr 5],st0) = _
  rw [h4,h5]
 have begin_:∀ (R':Ending→World→Prop) G w cargs,VL G w [.ptr i0 0,.fn g first cap] cargs→Sok G w st→GlobOk AN G w →
   (∀ G2 w2 a2 l2,Ext G w st G2 w2 st0→Sok G2 w2 st0→GlobOk AN G2 w2→Fits G2 w2 (frG fr0 id1 id2) a2 10→VL G2 w2 [.ptr id1 0,.ptr id2 0] l2→a2.defers = [{ target:=.fn (.func 100) ⟨l2⟩,args:=#[] }] →
    (Code.seq (.region 2 #[⟨some 7,.move (.tmp 1),t3,q3,f3,none⟩,⟨some 8,.call ⟨.value (.tmp 7),#[],#[]⟩,t4,q4,f4,none⟩,o2,o3,o4] false) .ret).wp Tryz.prog (bodyPostD Tryz.prog Tryz.f65 R') a2 w2)→Calls Tryz.prog 65 ⟨cargs⟩ w R':=fun R' G w cargs hva hs hg hk=>by
  refine calls_of_wp_defers Tryz.func65 hb ?_
  apply wp_seq
  refine hs0 10 hd0 G w _ _ (fits0 hva (by simp)) hg hs ?_
  intro ex a1 w1 hp1
  obtain ⟨rfl,G1,hx1,hs1,hf1,hde1⟩:=hp1.fits
  simp only [Exit.then]
  apply wp_seq
  refine wp_region ?_
  show wpOps _ _ _ [0,1] _ _
  rw [wpOps_cons]
  refine step_ok (n:=10) (fr:=fr0) (st:=st0) (o:=⟨some 6,.makeFunc (.func 100) #[] #[.tmp 4,.tmp 5],t1,q1,f1,none⟩) rfl (by intro d hd; cases hd; decide) (.op (f:=65) rfl rfl (ev6 fr0 H0.2.2.1 H0.2.2.2.1)) hf1 (hg.mono hx1) hs1 ?_
  intro G2 w2 a2 hx2 hs2 hf2 hde2
  rw [wpOps_cons]
  have h6:=hf2.2 6
  simp only [put,upd,if_true,V] at h6
  obtain ⟨l1,l2,h6,hl1,hl2⟩:=h6
  simp only [VL] at hl1
  subst hl1
  have hev:a2.eval (.tmp 6) = .func (.func 100) #[] ⟨l2⟩:=h6
  unfold wpOp
  simp only [Region.wanted,List.getElem?_toArray,List.getElem?_cons_succ,List.getElem?_cons_zero,if_true]
  left
  unfold Oper.wp
  have hrun:(execOp a2.eval ⟨none,.defer ⟨.value (.tmp 6),#[],#[]⟩,t2,q2,f2,none⟩).run Tryz.prog w2 = .ok (.defer { target:=.fn (.func 100) ⟨l2⟩,args:=#[] }) w2:=by
   simp [execOp,resolve,hev,Deferred.ofValue]
  rw [hrun,Oper.upon_defer]
  simp only [wpOps,Exit.then]
  refine hk G2 w2 _ l2 (hx1.trans hx2) hs2 ((hg.mono hx1).mono hx2) ⟨hf2.1,hf2.2⟩ (by simpa only [VL] using hl2) ?_
  simp only [Act.put,hde2,hde1]
 unfold guardF at hx
 split at hx
 ·rename_i v s'
  simp only [Option.some.injEq] at hx
  subst hx
  obtain ⟨q,st2,hR,K2⟩:=hc (.inl v) s' rfl st0 _ Kc
  obtain ⟨e2,fr2,st3,⟨rfl,H2,K3⟩,hs2⟩:=(g65_2 hb H1 hR K2).use
  obtain ⟨e4,fr4,st4,⟨rfl,rfl⟩,hs4⟩:=(rest_idle hb1 id1 id2 st3).use
  refine ⟨q,st4,⟨hen,fun G w cargs hva hs hg=>begin_ _ G w cargs hva hs hg ?_⟩,K3.keep [true,false,false]⟩
  intro G2 w2 a2 l2 hx2 hs2' hg2 hf2 hl2 hde2
  apply wp_seq
  refine hs2 10 hd2 G2 w2 a2 _ hf2 hg2 hs2' ?_
  intro ex a3 w3 hp3
  obtain ⟨rfl,G3,hx3,hs3,hf3,hde3⟩:=hp3.fits
  simp only [Exit.then]
  refine wp_ret ?_
  simp only [bodyPostD]
  rw [hde3,hde2]
  exact g65_end (n:=cNode .shut v) (b:=zBc) ⟨y0,y1,p0,p1,a0,a1,hb1⟩ hd1 hs4 (u:=.returning) (u':=.returning) (by simp) rfl (hx2.trans hx3) hs3 (hg2.mono hx3) hf3 (hx3.vl hl2) (cv:=.nilIface) (by simp [V]) recs_idle rfl H2 K3 (by simp) (by simp) (by kernel_rfl) (by kernel_rfl)
 ·rename_i b s'
  simp only [Option.some.injEq] at hx
  subst hx
  obtain ⟨q,st2,hR,K2⟩:=hc (.inr b) s' rfl st0 _ Kc
  have K2':HL st2 (.obj id2 (.cells 95 zBc) :: .obj id1 (.cells 24 zNc) :: .rd i0 87 q (rdC s' q) :: rs):=(K2.front 2 rfl).front 2 rfl
  obtain ⟨e5,fr5,st5,⟨rfl,K5⟩,hs5⟩:=(rest_catch hb1 b K2').use
  refine ⟨q,st5,⟨hen,fun G w cargs hva hs hg=>begin_ _ G w cargs hva hs hg ?_⟩,K5.keep [false,false]⟩
  intro G2 w2 a2 l2 hx2 hs2' hg2 hf2 hl2 hde2
  apply wp_seq
  refine wp_region ?_
  show wpOps _ _ _ [0,1,2,3,4] _ _
  rw [wpOps_cons]
  refine step_ok (n:=10) (fr:=frG fr0 id1 id2) (st:=st0) (o:=⟨some 7,.move (.tmp 1),t3,q3,f3,none⟩) rfl (by intro d hd; cases hd; decide) (.op (f:=65) (v:=.fn g first cap) rfl rfl (by show some (frG fr0 id1 id2 1,st0) = _; rw [H1.1])) hf2 hg2 hs2' ?_
  intro G3 w3 a3 hx3 hs3 hf3 hde3
  rw [wpOps_cons]
  refine panic_call (n:=10) (o:=⟨some 8,.call ⟨.value (.tmp 7),#[],#[]⟩,t4,q4,f4,none⟩) rfl (fr:=put (frG fr0 id1 id2) (some 7) (.fn g first cap)) rfl rfl hR hf3 (hg2.mono hx3) hs3 ?_
  intro c G4 w4 hx4 hs4 hv4 hf4
  simp only [Exit.then,bodyPostD]
  rw [hde3,hde2]
  exact g65_end (n:=zNc) (b:=[vI b.1,vI b.2]) ⟨y0,y1,p0,p1,a0,a1,hb1⟩ hd1 hs5 (u:=.panicking (entry c)) (u':=.panicking [{ v:=c,recovered:=true }]) (by simp) rfl ((hx2.trans hx3).trans hx4) hs4 ((hg2.mono hx3).mono hx4) hf4 (hx4.vl (hx3.vl hl2)) hv4 (recs_catch c) rfl ⟨H1.2.1,H1.2.2.1,trivial⟩ K5 (by simp) (by simp) (by kernel_rfl) (by kernel_rfl)
 ·cases hx
end Go.Proofs.YtbecjgckobhmpaaGreatDoor
end
section
namespace Go.Proofs.YtbecjgckobhmpaaGreatDoor
open Go Go.AM Go.Proofs
set_option maxRecDepth 100000
set_option maxHeartbeats 4000000
def F136 (a0:ByteArray) (a1:Int):Option Bool :=
 (idxS a0 a1).bind fun x1 =>
 bif x1 == 32 then
  (bif x1 == 32 then
   (some true)
  else
   (some false))
 else
  (bif x1 == 9 then
   (bif x1 == 9 then
    (some true)
   else
    (some false))
  else
   (bif x1 == 10 then
    (bif x1 == 10 then
     (some true)
    else
     (some false))
   else
    (bif x1 == 13 then
     (some true)
    else
     (some false))))
theorem F136_R (a0:ByteArray) (a1:Int) (r:Bool) (hr:F136 a0 a1 = some r) {st:St}:R Tryz.prog AN 136 [.agg [vS a0],vI a1] st (.ret (vB r)) st:=by
 unfold F136 at hr
 refine R_pureX [.agg [vS a0],vI a1] [(0,.agg [vS a0]),(1,vI a1)] Tryz.func136 rfl (by kernel_rfl) rfl fun fr st H K=>sr (qg 2 [(2,.cptr ([vS a0]) 0)] H fun _ H=>qe (W_seq (W_seq (W_reg (qg 3 [(6,vS a0),(7,vI a1)] H fun _ H=>?_)))))
 obtain ⟨x1,hx1,hr⟩:=obind hr
 refine qv (.index 9 (vS a0) (vI a1)) H (run_idxS (by kernel_rfl) hx1) fun _ H=>qe (W_block (W_seq (W_seq (W_reg (qg 2 [(9,vB (x1 == 32))] H fun _ H=>qe ?_)))))
 rcases csplit hr with ⟨c2,hr⟩|⟨c2,hr⟩
 ·refine qT H c2 (W_skip ?_)
  rcases csplit hr with ⟨c5,hr⟩|⟨c5,hr⟩
  ·refine qT H c5 (sr (qg 1 [(4,vB true)] H fun _ H=>qe (W_ret ?_)))
   cases hr
   exact qr [vB true] H K
  refine qF H c5 (W_skip (sr (qg 1 [(4,vB false)] H fun _ H=>qe (W_ret ?_))))
  cases hr
  exact qr [vB false] H K
 refine qF H c2 (sr (qg 2 [(9,vB (x1 == 9))] H fun _ H=>qe ?_))
 rcases csplit hr with ⟨c3,hr⟩|⟨c3,hr⟩
 ·refine qT H c3 (W_skip ?_)
  rcases csplit hr with ⟨c6,hr⟩|⟨c6,hr⟩
  ·refine qT H c6 (sr (qg 1 [(4,vB true)] H fun _ H=>qe (W_ret ?_)))
   cases hr
   exact qr [vB true] H K
  refine qF H c6 (W_skip (sr (qg 1 [(4,vB false)] H fun _ H=>qe (W_ret ?_))))
  cases hr
  exact qr [vB false] H K
 refine qF H c3 (sr (qg 2 [(9,vB (x1 == 10))] H fun _ H=>qe ?_))
 rcases csplit hr with ⟨c4,hr⟩|⟨c4,hr⟩
 ·refine qT H c4 (W_skip ?_)
  rcases csplit hr with ⟨c7,hr⟩|⟨c7,hr⟩
  ·refine qT H c7 (sr (qg 1 [(4,vB true)] H fun _ H=>qe (W_ret ?_)))
   cases hr
   exact qr [vB true] H K
  refine qF H c7 (W_skip (sr (qg 1 [(4,vB false)] H fun _ H=>qe (W_ret ?_))))
  cases hr
  exact qr [vB false] H K
 refine qF H c4 (W_reg (qg 2 [(9,vB (x1 == 13))] H fun _ H=>qe ?_))
 rcases csplit hr with ⟨c8,hr⟩|⟨c8,hr⟩
 ·refine qT H c8 (sr (qg 1 [(4,vB true)] H fun _ H=>qe (W_ret ?_)))
  cases hr
  exact qr [vB true] H K
 refine qF H c8 (W_skip (sr (qg 1 [(4,vB false)] H fun _ H=>qe (W_ret ?_))))
 cases hr
 exact qr [vB false] H K
def F135_2 (n:Nat) (a0:ByteArray) (a1:Int) (a2:ByteArray):Option Int :=
 (iter (σ:=Int) (ρ:=Int) (fun s1=>bif decide (s1 < (a0.size:Int)) then
   ((F136 a2 s1).bind fun x3 =>
   bif x3 then
    (some (.inl (w64 (s1 + 1))))
   else
    (some (.inr s1)))
  else
   (some (.inr s1))) n a1).bind fun r5 =>
 some r5
theorem F135_2_R (n:Nat) (a0:ByteArray) (a1:Int) (a2:ByteArray) (r:Int) (hr:F135_2 n a0 a1 a2 = some r) {st:St}:R Tryz.prog AN 135 [.agg [vS a0],vI a1,.fn 136 [.agg [vS a2]] []] st (.ret (vI r)) st:=by
 unfold F135_2 at hr
 refine R_pureX [.agg [vS a0],vI a1,.fn 136 [.agg [vS a2]] []] [(0,.agg [vS a0]),(1,vI a1),(2,.fn 136 [.agg [vS a2]] [])] Tryz.func135 rfl (by kernel_rfl) rfl fun fr st H K=>sr (qg 2 [(3,.cptr ([vS a0]) 0)] H fun _ H=>qe (W_seq (W_block ?_)))
 obtain ⟨r5,hr5,hr⟩:=obind hr
 refine W_iter hr5 (fun (s1:Int) fr st=>Rd fr [(1,vI s1),(2,.fn 136 [.agg [vS a2]] []),(3,.cptr ([vS a0]) 0)]∧HL st []) (fun (r5:Int) e fr st=>e = .exit 0∧Rd fr [(1,vI r5)]∧HL st []) ⟨H.tq,K.keep []⟩ ?_ ?_
 ·intro s1 fr st r hi hr
  obtain ⟨H,K⟩:=hi
  refine W_seq (W_seq (W_reg (qg 6 [(12,vB (decide (s1 < (a0.size:Int))))] H fun _ H=>?_)))
  rcases csplit hr with ⟨c2,hr⟩|⟨c2,hr⟩
  rotate_left
  ·rw [c2] at H
   refine qg 4 [(16,vB false)] H fun _ H=>qe (qF H rfl ?_)
   refine W_exit ?_
   cases hr
   exact ⟨by simp,⟨rfl,H.tq,K.keep []⟩⟩
  rw [c2] at H
  refine qg 2 [(13,.fn 136 [.agg [vS a2]] []),(14,vI s1)] H fun _ H=>?_
  refine qb hr (fun x h s=>F136_R  _ _ x h) H fun x3 hr fr H=>qg 1 [(16,vB x3)] H fun _ H=>qe ?_
  rcases csplit hr with ⟨c4,hr⟩|⟨c4,hr⟩
  rotate_left
  ·refine qF H c4 ?_
   refine W_exit ?_
   cases hr
   exact ⟨by simp,⟨rfl,H.tq,K.keep []⟩⟩
  refine qT H c4 (W_skip (W_block (W_reg (qg 3 [(1,vI (w64 (s1 + 1)))] H fun _ H=>qe ?_))))
  cases hr
  exact ⟨rfl,⟨H.tq,K.keep []⟩⟩
 rintro e fr st ⟨rfl,H,K⟩
 refine sr (qg 2 [(6,vI r5)] H fun _ H=>qe (W_ret ?_))
 obtain rfl:=Option.some.inj hr
 exact qr [vI r5] H K
def F192 (a0:ByteArray) (a1:ByteArray):Option Bool :=
 bif decide ((a1.size:Int)≤(a0.size:Int)) then
  ((subS a0 0 (a1.size:Int)).bind fun x2 =>
  some (strEq x2 a1))
 else
  (some false)
theorem F192_R (a0:ByteArray) (a1:ByteArray) (r:Bool) (hr:F192 a0 a1 = some r) {st:St}:R Tryz.prog AN 192 [vS a0,vS a1] st (.ret (vB r)) st:=by
 unfold F192 at hr
 refine R_pureX [vS a0,vS a1] [(0,vS a0),(1,vS a1)] Tryz.func192 rfl (by kernel_rfl) rfl fun fr st H K=>sr (qg 1 [] H fun _ H=>qe (sr (qg 6 [(10,vB (decide ((a1.size:Int)≤(a0.size:Int))))] H fun _ H=>?_)))
 rcases csplit hr with ⟨c1,hr⟩|⟨c1,hr⟩
 rotate_left
 ·rw [c1] at H
  refine qg 8 [(4,vB false)] H fun _ H=>qe (W_ret ?_)
  cases hr
  exact qr [vB false] H K
 rw [c1] at H
 refine qg 3 [(11,vS a0),(13,vI (a1.size:Int))] H fun _ H=>?_
 obtain ⟨x2,hx2,hr⟩:=obind hr
 refine qv (.slice 9 (vS a0) none (some (vI (a1.size:Int)))) H (run_subS_hi (by kernel_rfl) hx2) fun _ H=>qg 4 [(4,vB (strEq x2 a1))] H fun _ H=>qe (W_ret ?_)
 cases hr
 exact qr [vB (strEq x2 a1)] H K
def F137 (a0:ByteArray) (a1:ByteArray):Option Bool :=
 (F192 a0 a1).bind fun x1 =>
 some x1
theorem F137_R (a0:ByteArray) (a1:ByteArray) (r:Bool) (hr:F137 a0 a1 = some r) {st:St}:R Tryz.prog AN 137 [vS a0,vS a1] st (.ret (vB r)) st:=by
 unfold F137 at hr
 refine R_pureX [vS a0,vS a1] [(0,vS a0),(1,vS a1)] Tryz.func137 rfl (by kernel_rfl) rfl fun fr st H K=>sr (qg 1 [] H fun _ H=>qe (sr (qg 2 [(5,vS a0),(6,vS a1)] H fun _ H=>?_)))
 refine qb hr (fun x h s=>F192_R  _ _ x h) H fun x1 hr fr H=>qg 1 [(4,vB x1)] H fun _ H=>qe (W_ret ?_)
 obtain rfl:=Option.some.inj hr
 exact qr [vB x1] H K
def F138 (a0:ByteArray) (a1:Int):Option Bool :=
 (idxS a0 a1).bind fun x1 =>
 some (x1 != 10)
theorem F138_R (a0:ByteArray) (a1:Int) (r:Bool) (hr:F138 a0 a1 = some r) {st:St}:R Tryz.prog AN 138 [.agg [vS a0],vI a1] st (.ret (vB r)) st:=by
 unfold F138 at hr
 refine R_pureX [.agg [vS a0],vI a1] [(0,.agg [vS a0]),(1,vI a1)] Tryz.func138 rfl (by kernel_rfl) rfl fun fr st H K=>sr (qg 2 [(2,.cptr ([vS a0]) 0)] H fun _ H=>qe (sr (qg 3 [(6,vS a0),(7,vI a1)] H fun _ H=>?_)))
 obtain ⟨x1,hx1,hr⟩:=obind hr
 refine qv (.index 9 (vS a0) (vI a1)) H (run_idxS (by kernel_rfl) hx1) fun _ H=>qg 2 [(4,vB (x1 != 10))] H fun _ H=>qe (W_ret ?_)
 cases hr
 exact qr [vB (x1 != 10)] H K
def F135_3 (n:Nat) (a0:ByteArray) (a1:Int) (a2:ByteArray):Option Int :=
 (iter (σ:=Int) (ρ:=Int) (fun s1=>bif decide (s1 < (a0.size:Int)) then
   ((F138 a2 s1).bind fun x3 =>
   bif x3 then
    (some (.inl (w64 (s1 + 1))))
   else
    (some (.inr s1)))
  else
   (some (.inr s1))) n a1).bind fun r5 =>
 some r5
theorem F135_3_R (n:Nat) (a0:ByteArray) (a1:Int) (a2:ByteArray) (r:Int) (hr:F135_3 n a0 a1 a2 = some r) {st:St}:R Tryz.prog AN 135 [.agg [vS a0],vI a1,.fn 138 [.agg [vS a2]] []] st (.ret (vI r)) st:=by
 unfold F135_3 at hr
 refine R_pureX [.agg [vS a0],vI a1,.fn 138 [.agg [vS a2]] []] [(0,.agg [vS a0]),(1,vI a1),(2,.fn 138 [.agg [vS a2]] [])] Tryz.func135 rfl (by kernel_rfl) rfl fun fr st H K=>sr (qg 2 [(3,.cptr ([vS a0]) 0)] H fun _ H=>qe (W_seq (W_block ?_)))
 obtain ⟨r5,hr5,hr⟩:=obind hr
 refine W_iter hr5 (fun (s1:Int) fr st=>Rd fr [(1,vI s1),(2,.fn 138 [.agg [vS a2]] []),(3,.cptr ([vS a0]) 0)]∧HL st []) (fun (r5:Int) e fr st=>e = .exit 0∧Rd fr [(1,vI r5)]∧HL st []) ⟨H.tq,K.keep []⟩ ?_ ?_
 ·intro s1 fr st r hi hr
  obtain ⟨H,K⟩:=hi
  refine W_seq (W_seq (W_reg (qg 6 [(12,vB (decide (s1 < (a0.size:Int))))] H fun _ H=>?_)))
  rcases csplit hr with ⟨c2,hr⟩|⟨c2,hr⟩
  rotate_left
  ·rw [c2] at H
   refine qg 4 [(16,vB false)] H fun _ H=>qe (qF H rfl ?_)
   refine W_exit ?_
   cases hr
   exact ⟨by simp,⟨rfl,H.tq,K.keep []⟩⟩
  rw [c2] at H
  refine qg 2 [(13,.fn 138 [.agg [vS a2]] []),(14,vI s1)] H fun _ H=>?_
  refine qb hr (fun x h s=>F138_R  _ _ x h) H fun x3 hr fr H=>qg 1 [(16,vB x3)] H fun _ H=>qe ?_
  rcases csplit hr with ⟨c4,hr⟩|⟨c4,hr⟩
  rotate_left
  ·refine qF H c4 ?_
   refine W_exit ?_
   cases hr
   exact ⟨by simp,⟨rfl,H.tq,K.keep []⟩⟩
  refine qT H c4 (W_skip (W_block (W_reg (qg 3 [(1,vI (w64 (s1 + 1)))] H fun _ H=>qe ?_))))
  cases hr
  exact ⟨rfl,⟨H.tq,K.keep []⟩⟩
 rintro e fr st ⟨rfl,H,K⟩
 refine sr (qg 2 [(6,vI r5)] H fun _ H=>qe (W_ret ?_))
 obtain rfl:=Option.some.inj hr
 exact qr [vI r5] H K
def F86 (n:Nat) (a0:ByteArray) (a1:Int):Option Int :=
 (iter (σ:=Int) (ρ:=Int) (fun s1=>(F135_2 n a0 s1 a0).bind fun x2 =>
  ((subS a0 x2 (a0.size:Int)).bind fun x3 =>
   (F137 x3 (bs [47,47])).bind fun x4 =>
   bif x4 then
    ((F135_3 n a0 x2 a0).bind fun x6 =>
    some x6)
   else
    (some x2):Option (Int)).bind fun j7 =>
  bif j7 == s1 then
   (some (.inr s1))
  else
   (some (.inl j7))) n a1).bind fun r9 =>
 some r9
theorem F86_R (n:Nat) (a0:ByteArray) (a1:Int) (r:Int) (hr:F86 n a0 a1 = some r) {st:St}:R Tryz.prog AN 86 [.agg [vS a0],vI a1] st (.ret (vI r)) st:=by
 unfold F86 at hr
 refine R_pureX [.agg [vS a0],vI a1] [(0,.agg [vS a0]),(1,vI a1)] Tryz.func86 rfl (by kernel_rfl) rfl fun fr st H K=>sr (qg 2 [(2,.cptr ([vS a0]) 0)] H fun _ H=>qe (W_block ?_))
 obtain ⟨r9,hr9,hr⟩:=obind hr
 refine W_iter hr9 (fun (s1:Int) fr st=>Rd fr [(1,vI s1),(2,.cptr ([vS a0]) 0)]∧HL st []) (fun (r9:Int) e fr st=>e = .ret∧Rd fr [(4,vI r9)]∧HL st []) ⟨H.tq,K.keep []⟩ ?_ ?_
 ·intro s1 fr st r hi hr
  obtain ⟨H,K⟩:=hi
  refine W_block (sr (qg 4 [(6,.agg [vS a0]),(7,vI s1),(9,.fn 136 [.agg [vS a0]] [])] H fun _ H=>?_))
  refine qb hr (fun x h s=>F135_2_R n _ _ _ x h) H fun x2 hr fr H=>qg 1 [(5,vI x2)] H fun _ H=>qe (W_seq ?_)
  obtain ⟨j7,hj7,hr⟩:=obind hr
  refine W_via (fun e fr st=>e = .normal∧Rd fr [(1,vI s1),(2,.cptr ([vS a0]) 0),(5,vI j7)]∧HL st []) ?_ ?_
  ·replace hr:=hj7
   refine sr (qg 3 [(12,vS a0),(13,vI x2)] H fun _ H=>?_)
   obtain ⟨x3,hx3,hr⟩:=obind hr
   refine qv (.slice 9 (vS a0) (some (vI x2)) none) H (run_subS_lo (by kernel_rfl) hx3) fun _ H=>?_
   refine qb hr (fun x h s=>F137_R  _ _ x h) H fun x4 hr fr H=>qe ?_
   rcases csplit hr with ⟨c5,hr⟩|⟨c5,hr⟩
   rotate_left
   ·refine qF H c5 (W_skip ?_)
    cases hr
    exact ⟨rfl,H.tq,K.keep []⟩
   refine qT H c5 (W_reg (qg 4 [(16,.agg [vS a0]),(17,vI x2),(19,.fn 138 [.agg [vS a0]] [])] H fun _ H=>?_))
   refine qb hr (fun x h s=>F135_3_R n _ _ _ x h) H fun x6 hr fr H=>qg 1 [(5,vI x6)] H fun _ H=>qe ?_
   cases hr
   exact ⟨rfl,H.tq,K.keep []⟩
  rintro e fr st ⟨rfl,H,K⟩
  refine W_seq (W_seq (W_reg (qg 3 [(23,vB (j7 == s1))] H fun _ H=>qe ?_)))
  rcases csplit hr with ⟨c8,hr⟩|⟨c8,hr⟩
  ·refine qT H c8 (sr (qg 2 [(4,vI s1)] H fun _ H=>qe (W_ret ?_)))
   cases hr
   exact ⟨by simp,⟨rfl,H.tq,K.keep []⟩⟩
  refine qF H c8 (W_skip (W_reg (qg 2 [(1,vI j7)] H fun _ H=>qe ?_)))
  cases hr
  exact ⟨rfl,⟨H.tq,K.keep []⟩⟩
 rintro e fr st ⟨rfl,H,K⟩
 obtain rfl:=Option.some.inj hr
 exact qr [vI r9] H K
def F139 (a0:Int):Option Bool :=
 some (((decide (65≤a0)) && (decide (a0≤90))) || ((decide (97≤a0)) && (decide (a0≤122))))
theorem F139_R (a0:Int) (r:Bool) (hr:F139 a0 = some r) {st:St}:R Tryz.prog AN 139 [vU a0] st (.ret (vB r)) st:=by
 unfold F139 at hr
 refine R_pureX [vU a0] [(0,vU a0)] Tryz.func139 rfl (by kernel_rfl) rfl fun fr st H K=>sr (qg 1 [] H fun _ H=>qe (sr (qg 3 [(5,vB (decide (65≤a0)))] H fun _ H=>qg 3 [(8,vB ((decide (65≤a0)) && (decide (a0≤90))))] H (hs:=by intro _ _; generalize (decide (65≤a0)) = b0; cases b0 <;> kernel_rfl) fun _ H=>qg 1 [(9,vB ((decide (65≤a0)) && (decide (a0≤90))))] H fun _ H=>?_)))
 refine qseg 7 [(16,vB (((decide (65≤a0)) && (decide (a0≤90))) || ((decide (97≤a0)) && (decide (a0≤122)))))] H ?_ ?_
 ·cases hg1:((decide (65≤a0)) && (decide (a0≤90)))
  ·rw [hg1] at H
   refine seg_go 4 3 [(12,vB (decide (97≤a0)))] H fun _ H=>?_
   cases hg2:(decide (97≤a0))
   ·rw [hg2] at H
    refine seg_go 0 4 [(16,vB false)] H fun _ H=>?_
    exact seg_end (by (try simp only [hg1,hg2]); exact H.tq)
   ·rw [hg2] at H
    refine seg_go 0 4 [(16,vB (decide (a0≤122)))] H fun _ H=>?_
    exact seg_end (by (try simp only [hg1,hg2]); exact H.tq)
  ·rw [hg1] at H
   refine seg_go 0 7 [(16,vB true)] H fun _ H=>?_
   exact seg_end (by (try simp only [hg1]); exact H.tq)
 intro fr H
 refine qg 1 [(2,vB (((decide (65≤a0)) && (decide (a0≤90))) || ((decide (97≤a0)) && (decide (a0≤122)))))] H fun _ H=>qe (W_ret ?_)
 cases hr
 exact qr [vB (((decide (65≤a0)) && (decide (a0≤90))) || ((decide (97≤a0)) && (decide (a0≤122))))] H K
def F141 (a0:ByteArray) (a1:Int):Option Bool :=
 (idxS a0 a1).bind fun x1 =>
 bif decide (48≤x1) then
  ((idxS a0 a1).bind fun x3 =>
  some (decide (x3≤57)))
 else
  (some false)
theorem F141_R (a0:ByteArray) (a1:Int) (r:Bool) (hr:F141 a0 a1 = some r) {st:St}:R Tryz.prog AN 141 [.agg [vS a0],vI a1] st (.ret (vB r)) st:=by
 unfold F141 at hr
 refine R_pureX [.agg [vS a0],vI a1] [(0,.agg [vS a0]),(1,vI a1)] Tryz.func141 rfl (by kernel_rfl) rfl fun fr st H K=>sr (qg 2 [(2,.cptr ([vS a0]) 0)] H fun _ H=>qe (sr (qg 3 [(6,vS a0),(7,vI a1)] H fun _ H=>?_)))
 obtain ⟨x1,hx1,hr⟩:=obind hr
 refine qv (.index 9 (vS a0) (vI a1)) H (run_idxS (by kernel_rfl) hx1) fun _ H=>qg 2 [(10,vB (decide (48≤x1)))] H fun _ H=>?_
 rcases csplit hr with ⟨c2,hr⟩|⟨c2,hr⟩
 rotate_left
 ·rw [c2] at H
  refine qg 7 [(4,vB false)] H fun _ H=>qe (W_ret ?_)
  cases hr
  exact qr [vB false] H K
 rw [c2] at H
 refine qg 3 [(12,vS a0),(13,vI a1)] H fun _ H=>?_
 obtain ⟨x3,hx3,hr⟩:=obind hr
 refine qv (.index 9 (vS a0) (vI a1)) H (run_idxS (by kernel_rfl) hx3) fun _ H=>qg 3 [(4,vB (decide (x3≤57)))] H fun _ H=>qe (W_ret ?_)
 cases hr
 exact qr [vB (decide (x3≤57))] H K
def F140 (a0:ByteArray) (a1:Int):Option Bool :=
 (idxS a0 a1).bind fun x1 =>
 (F139 x1).bind fun x2 =>
 bif x2 then
  (some true)
 else
  ((F141 a0 a1).bind fun x4 =>
  bif x4 then
   (some true)
  else
   ((idxS a0 a1).bind fun x6 =>
   some (x6 == 95)))
theorem F140_R (a0:ByteArray) (a1:Int) (r:Bool) (hr:F140 a0 a1 = some r) {st:St}:R Tryz.prog AN 140 [.agg [vS a0],vI a1] st (.ret (vB r)) st:=by
 unfold F140 at hr
 refine R_pureX [.agg [vS a0],vI a1] [(0,.agg [vS a0]),(1,vI a1)] Tryz.func140 rfl (by kernel_rfl) rfl fun fr st H K=>sr (qg 2 [(2,.cptr ([vS a0]) 0)] H fun _ H=>qe (sr (qg 3 [(6,vS a0),(7,vI a1)] H fun _ H=>?_)))
 obtain ⟨x1,hx1,hr⟩:=obind hr
 refine qv (.index 9 (vS a0) (vI a1)) H (run_idxS (by kernel_rfl) hx1) fun _ H=>?_
 refine qb hr (fun x h s=>F139_R  _ x h) H fun x2 hr fr H=>qg 1 [(10,vB x2)] H fun _ H=>?_
 rcases csplit hr with ⟨c3,hr⟩|⟨c3,hr⟩
 ·rw [c3] at H
  refine qg 12 [(4,vB true)] H fun _ H=>qe (W_ret ?_)
  cases hr
  exact qr [vB true] H K
 rw [c3] at H
 refine qg 2 [(11,.agg [vS a0]),(12,vI a1)] H fun _ H=>?_
 refine qb hr (fun x h s=>F141_R  _ _ x h) H fun x4 hr fr H=>qg 2 [(15,vB x4)] H fun _ H=>?_
 rcases csplit hr with ⟨c5,hr⟩|⟨c5,hr⟩
 ·rw [c5] at H
  refine qg 7 [(4,vB true)] H fun _ H=>qe (W_ret ?_)
  cases hr
  exact qr [vB true] H K
 rw [c5] at H
 refine qg 3 [(17,vS a0),(18,vI a1)] H fun _ H=>?_
 obtain ⟨x6,hx6,hr⟩:=obind hr
 refine qv (.index 9 (vS a0) (vI a1)) H (run_idxS (by kernel_rfl) hx6) fun _ H=>qg 3 [(4,vB (x6 == 95))] H fun _ H=>qe (W_ret ?_)
 cases hr
 exact qr [vB (x6 == 95)] H K
def F135 (n:Nat) (a0:ByteArray) (a1:Int) (a2:ByteArray):Option Int :=
 (iter (σ:=Int) (ρ:=Int) (fun s1=>bif decide (s1 < (a0.size:Int)) then
   ((F140 a2 s1).bind fun x3 =>
   bif x3 then
    (some (.inl (w64 (s1 + 1))))
   else
    (some (.inr s1)))
  else
   (some (.inr s1))) n a1).bind fun r5 =>
 some r5
theorem F135_R (n:Nat) (a0:ByteArray) (a1:Int) (a2:ByteArray) (r:Int) (hr:F135 n a0 a1 a2 = some r) {st:St}:R Tryz.prog AN 135 [.agg [vS a0],vI a1,.fn 140 [.agg [vS a2]] []] st (.ret (vI r)) st:=by
 unfold F135 at hr
 refine R_pureX [.agg [vS a0],vI a1,.fn 140 [.agg [vS a2]] []] [(0,.agg [vS a0]),(1,vI a1),(2,.fn 140 [.agg [vS a2]] [])] Tryz.func135 rfl (by kernel_rfl) rfl fun fr st H K=>sr (qg 2 [(3,.cptr ([vS a0]) 0)] H fun _ H=>qe (W_seq (W_block ?_)))
 obtain ⟨r5,hr5,hr⟩:=obind hr
 refine W_iter hr5 (fun (s1:Int) fr st=>Rd fr [(1,vI s1),(2,.fn 140 [.agg [vS a2]] []),(3,.cptr ([vS a0]) 0)]∧HL st []) (fun (r5:Int) e fr st=>e = .exit 0∧Rd fr [(1,vI r5)]∧HL st []) ⟨H.tq,K.keep []⟩ ?_ ?_
 ·intro s1 fr st r hi hr
  obtain ⟨H,K⟩:=hi
  refine W_seq (W_seq (W_reg (qg 6 [(12,vB (decide (s1 < (a0.size:Int))))] H fun _ H=>?_)))
  rcases csplit hr with ⟨c2,hr⟩|⟨c2,hr⟩
  rotate_left
  ·rw [c2] at H
   refine qg 4 [(16,vB false)] H fun _ H=>qe (qF H rfl ?_)
   refine W_exit ?_
   cases hr
   exact ⟨by simp,⟨rfl,H.tq,K.keep []⟩⟩
  rw [c2] at H
  refine qg 2 [(13,.fn 140 [.agg [vS a2]] []),(14,vI s1)] H fun _ H=>?_
  refine qb hr (fun x h s=>F140_R  _ _ x h) H fun x3 hr fr H=>qg 1 [(16,vB x3)] H fun _ H=>qe ?_
  rcases csplit hr with ⟨c4,hr⟩|⟨c4,hr⟩
  rotate_left
  ·refine qF H c4 ?_
   refine W_exit ?_
   cases hr
   exact ⟨by simp,⟨rfl,H.tq,K.keep []⟩⟩
  refine qT H c4 (W_skip (W_block (W_reg (qg 3 [(1,vI (w64 (s1 + 1)))] H fun _ H=>qe ?_))))
  cases hr
  exact ⟨rfl,⟨H.tq,K.keep []⟩⟩
 rintro e fr st ⟨rfl,H,K⟩
 refine sr (qg 2 [(6,vI r5)] H fun _ H=>qe (W_ret ?_))
 obtain rfl:=Option.some.inj hr
 exact qr [vI r5] H K
def F135_1 (n:Nat) (a0:ByteArray) (a1:Int) (a2:ByteArray):Option Int :=
 (iter (σ:=Int) (ρ:=Int) (fun s1=>bif decide (s1 < (a0.size:Int)) then
   ((F141 a2 s1).bind fun x3 =>
   bif x3 then
    (some (.inl (w64 (s1 + 1))))
   else
    (some (.inr s1)))
  else
   (some (.inr s1))) n a1).bind fun r5 =>
 some r5
theorem F135_1_R (n:Nat) (a0:ByteArray) (a1:Int) (a2:ByteArray) (r:Int) (hr:F135_1 n a0 a1 a2 = some r) {st:St}:R Tryz.prog AN 135 [.agg [vS a0],vI a1,.fn 141 [.agg [vS a2]] []] st (.ret (vI r)) st:=by
 unfold F135_1 at hr
 refine R_pureX [.agg [vS a0],vI a1,.fn 141 [.agg [vS a2]] []] [(0,.agg [vS a0]),(1,vI a1),(2,.fn 141 [.agg [vS a2]] [])] Tryz.func135 rfl (by kernel_rfl) rfl fun fr st H K=>sr (qg 2 [(3,.cptr ([vS a0]) 0)] H fun _ H=>qe (W_seq (W_block ?_)))
 obtain ⟨r5,hr5,hr⟩:=obind hr
 refine W_iter hr5 (fun (s1:Int) fr st=>Rd fr [(1,vI s1),(2,.fn 141 [.agg [vS a2]] []),(3,.cptr ([vS a0]) 0)]∧HL st []) (fun (r5:Int) e fr st=>e = .exit 0∧Rd fr [(1,vI r5)]∧HL st []) ⟨H.tq,K.keep []⟩ ?_ ?_
 ·intro s1 fr st r hi hr
  obtain ⟨H,K⟩:=hi
  refine W_seq (W_seq (W_reg (qg 6 [(12,vB (decide (s1 < (a0.size:Int))))] H fun _ H=>?_)))
  rcases csplit hr with ⟨c2,hr⟩|⟨c2,hr⟩
  rotate_left
  ·rw [c2] at H
   refine qg 4 [(16,vB false)] H fun _ H=>qe (qF H rfl ?_)
   refine W_exit ?_
   cases hr
   exact ⟨by simp,⟨rfl,H.tq,K.keep []⟩⟩
  rw [c2] at H
  refine qg 2 [(13,.fn 141 [.agg [vS a2]] []),(14,vI s1)] H fun _ H=>?_
  refine qb hr (fun x h s=>F141_R  _ _ x h) H fun x3 hr fr H=>qg 1 [(16,vB x3)] H fun _ H=>qe ?_
  rcases csplit hr with ⟨c4,hr⟩|⟨c4,hr⟩
  rotate_left
  ·refine qF H c4 ?_
   refine W_exit ?_
   cases hr
   exact ⟨by simp,⟨rfl,H.tq,K.keep []⟩⟩
  refine qT H c4 (W_skip (W_block (W_reg (qg 3 [(1,vI (w64 (s1 + 1)))] H fun _ H=>qe ?_))))
  cases hr
  exact ⟨rfl,⟨H.tq,K.keep []⟩⟩
 rintro e fr st ⟨rfl,H,K⟩
 refine sr (qg 2 [(6,vI r5)] H fun _ H=>qe (W_ret ?_))
 obtain rfl:=Option.some.inj hr
 exact qr [vI r5] H K
def F142 (n:Nat) (a0:ByteArray) (a1:Int):Option ByteArray :=
 (iter (σ:=Int) (ρ:=ByteArray ⊕ Unit) (fun s1=>bif decide (s1 < 27) then
   ((idxL symTab s1).bind fun x3 =>
   bif decide ((w64 ((a0.size:Int) - a1)) < (x3.size:Int)) then
    (some (.inl (w64 (s1 + 1))))
   else
    ((iter (σ:=Int) (ρ:=Unit ⊕ Unit) (fun s5=>bif decide (s5 < (x3.size:Int)) then
      ((idxS a0 (w64 (a1 + s5))).bind fun x7 =>
      (idxS x3 s5).bind fun x8 =>
      bif x7 != x8 then
       (some (.inr (.inl ())))
      else
       (some (.inl (w64 (s5 + 1)))))
     else
      (some (.inr (.inr ())))) n (0:Int)).bind fun r10=>match r10 with
    | .inl _=>some (.inl (w64 (s1 + 1)))
    | .inr _=>some (.inr (.inl x3))))
  else
   (some (.inr (.inr ())))) n (0:Int)).bind fun r11=>match r11 with
 | .inl r11a=>some r11a
 | .inr _=>some (bs [])
theorem F142_R (n:Nat) (a0:ByteArray) (a1:Int) (r:ByteArray) (hr:F142 n a0 a1 = some r) {st:St}:R Tryz.prog AN 142 [.agg [vS a0],vI a1] st (.ret (vS r)) st:=by
 unfold F142 at hr
 refine R_pureX [.agg [vS a0],vI a1] [(0,.agg [vS a0]),(1,vI a1)] Tryz.func142 rfl (by kernel_rfl) rfl fun fr st H K=>sr (qg 2 [(2,.cptr ([vS a0]) 0)] H fun _ H=>qe ?_)
 refine W_scope (W_seq ?_)
 refine W_label (W_seq (W_seq (W_reg (qg 2 [(8,.agg symCells),(9,vI 0)] H fun _ H=>qe (W_block ?_)))))
 obtain ⟨r11,hr11,hr⟩:=obind hr
 refine W_iter hr11 (fun (s1:Int) fr st=>Rd fr [(1,vI a1),(2,.cptr ([vS a0]) 0),(8,.agg symCells),(9,vI s1)]∧HL st []) (fun (r11:ByteArray ⊕ Unit) e fr st=>match r11 with | .inl r11a=>(e = .ret∧Rd fr [(4,vS r11a)]∧HL st []) | .inr r11b=>(e = .exit 0∧Rd fr []∧HL st [])) ⟨H.tq,K.keep []⟩ ?_ ?_
 ·intro s1 fr st r hi hr
  obtain ⟨H,K⟩:=hi
  refine sr (qg 1 [(10,vB (decide (s1 < 27)))] H fun _ H=>qe (W_seq ?_))
  rcases csplit hr with ⟨c2,hr⟩|⟨c2,hr⟩
  rotate_left
  ·refine qF H c2 ?_
   refine W_exit ?_
   cases hr
   exact ⟨by simp,⟨rfl,H.tq,K.keep []⟩⟩
  refine qT H c2 (W_skip (W_seq (W_block (sr ?_))))
  obtain ⟨x3,hx3,hr⟩:=obind hr
  refine qv (.index 164 (.agg symCells) (vI s1)) H (run_sym hx3) fun _ H=>qg 1 [(6,vS x3)] H fun _ H=>qe (W_seq (W_seq (W_reg (qg 8 [(19,vB (decide ((w64 ((a0.size:Int) - a1)) < (x3.size:Int))))] H fun _ H=>qe ?_))))
  rcases csplit hr with ⟨c4,hr⟩|⟨c4,hr⟩
  ·refine qT H c4 ?_
   refine W_exit (W_reg (qg 2 [(9,vI (w64 (s1 + 1)))] H fun _ H=>qe ?_))
   cases hr
   exact ⟨rfl,⟨H.tq,K.keep []⟩⟩
  refine qF H c4 (W_skip (W_seq (W_seq (W_reg (qg 3 [(21,vI (x3.size:Int)),(22,vI 0)] H fun _ H=>qe (W_block ?_))))))
  obtain ⟨r10,hr10,hr⟩:=obind hr
  refine W_iter hr10 (fun (s5:Int) fr st=>Rd fr [(1,vI a1),(2,.cptr ([vS a0]) 0),(6,vS x3),(8,.agg symCells),(9,vI s1),(21,vI (x3.size:Int)),(22,vI s5)]∧HL st []) (fun (r10:Unit ⊕ Unit) e fr st=>match r10 with | .inl r10a=>(e = .exit 1∧Rd fr [(1,vI a1),(2,.cptr ([vS a0]) 0),(8,.agg symCells),(9,vI s1)]∧HL st []) | .inr r10b=>(e = .exit 2∧Rd fr [(6,vS x3)]∧HL st [])) ⟨H.tq,K.keep []⟩ ?_ ?_
  ·intro s5 fr st r hi hr
   obtain ⟨H,K⟩:=hi
   refine sr (qg 1 [(23,vB (decide (s5 < (x3.size:Int))))] H fun _ H=>qe (W_seq ?_))
   rcases csplit hr with ⟨c6,hr⟩|⟨c6,hr⟩
   rotate_left
   ·refine qF H c6 ?_
    refine W_exit ?_
    cases hr
    exact ⟨by simp,⟨rfl,H.tq,K.keep []⟩⟩
   refine qT H c6 (W_skip (W_seq (W_block (sr (qg 2 [(7,vI s5)] H fun _ H=>qe (W_seq (W_drw (qg 5 [(26,vS a0),(29,vI (w64 (a1 + s5)))] H fun _ H=>?_))))))))
   obtain ⟨x7,hx7,hr⟩:=obind hr
   refine qv (.index 9 (vS a0) (vI (w64 (a1 + s5)))) H (run_idxS (by kernel_rfl) hx7) fun _ H=>qg 2 [(31,vS x3),(32,vI s5)] H fun _ H=>?_
   obtain ⟨x8,hx8,hr⟩:=obind hr
   refine qv (.index 9 (vS x3) (vI s5)) H (run_idxS (by kernel_rfl) hx8) fun _ H=>qg 1 [(34,vB (x7 != x8))] H fun _ H=>qe (qd ?_)
   rcases csplit hr with ⟨c9,hr⟩|⟨c9,hr⟩
   ·refine qT H c9 ?_
    refine W_exit ?_
    cases hr
    exact ⟨by simp,⟨rfl,H.tq,K.keep []⟩⟩
   refine qF H c9 (W_skip (W_reg (qg 2 [(22,vI (w64 (s5 + 1)))] H fun _ H=>qe ?_)))
   cases hr
   exact ⟨rfl,⟨H.tq,K.keep []⟩⟩
  rcases r10 with r10a | r10b
  ·rintro e fr st ⟨rfl,H,K⟩
   refine W_reg (qg 2 [(9,vI (w64 (s1 + 1)))] H fun _ H=>qe ?_)
   cases hr
   exact ⟨rfl,⟨H.tq,K.keep []⟩⟩
  rintro e fr st ⟨rfl,H,K⟩
  refine sr (qg 2 [(4,vS x3)] H fun _ H=>qe (W_ret ?_))
  cases hr
  exact ⟨by simp,⟨rfl,H.tq,K.keep []⟩⟩
 rcases r11 with r11a | r11b
 ·rintro e fr st ⟨rfl,H,K⟩
  obtain rfl:=Option.some.inj hr
  exact qr [vS r11a] H K
 rintro e fr st ⟨rfl,H,K⟩
 refine sr (qg 1 [(4,vS (bs []))] H fun _ H=>qe (W_ret ?_))
 cases hr
 exact qr [vS (bs [])] H K
def F87 (n:Nat) (a0:ByteArray) (a1:Int):Option (Int × Int) :=
 (idxS a0 a1).bind fun x1 =>
 (F139 x1).bind fun x2 =>
 bif x2 then
  ((F135 n a0 a1 a0).bind fun x4 =>
  bif decide (16 < (w64 (x4 - a1))) then
   (some ((0:Int),a1))
  else
   (some ((1:Int),x4)))
 else
  ((F141 a0 a1).bind fun x6 =>
  bif x6 then
   ((F135_1 n a0 a1 a0).bind fun x8 =>
   (bif decide (9 < (w64 (x8 - a1))) then
     (some (decide (9 < (w64 (x8 - a1)))))
    else
     ((idxS a0 a1).bind fun x10 =>
     some ((x10 == 48) && (decide (1 < (w64 (x8 - a1)))))):Option (Bool)).bind fun j11 =>
   bif j11 then
    (some ((0:Int),a1))
   else
    (bif decide (x8 < (a0.size:Int)) then
     ((F140 a0 x8).bind fun x14 =>
     bif x14 then
      (some ((0:Int),a1))
     else
      (some ((2:Int),x8)))
    else
     (some ((2:Int),x8))))
  else
   ((F142 n a0 a1).bind fun x16 =>
   bif !(strEq x16 (bs [])) then
    (some ((3:Int),w64 (a1 + (x16.size:Int))))
   else
    (some ((0:Int),a1))))
theorem F87_R (n:Nat) (a0:ByteArray) (a1:Int) (r:Int × Int) (hr:F87 n a0 a1 = some r) {st:St}:R Tryz.prog AN 87 [.agg [vS a0],vI a1] st (.ret (.tuple [vI r.1,vI r.2])) st:=by
 unfold F87 at hr
 refine R_pureX [.agg [vS a0],vI a1] [(0,.agg [vS a0]),(1,vI a1)] Tryz.func87 rfl (by kernel_rfl) rfl fun fr st H K=>sr (qg 3 [(2,.cptr ([vS a0]) 0)] H fun _ H=>qe (W_seq (W_block (sr (qg 3 [(11,vS a0),(12,vI a1)] H fun _ H=>?_)))))
 obtain ⟨x1,hx1,hr⟩:=obind hr
 refine qv (.index 9 (vS a0) (vI a1)) H (run_idxS (by kernel_rfl) hx1) fun _ H=>?_
 refine qb hr (fun x h s=>F139_R  _ x h) H fun x2 hr fr H=>qg 1 [(9,vB x2)] H fun _ H=>qe ?_
 rcases csplit hr with ⟨c3,hr⟩|⟨c3,hr⟩
 ·refine qT H c3 (sr (qg 4 [(15,.agg [vS a0]),(16,vI a1),(18,.fn 140 [.agg [vS a0]] [])] H fun _ H=>?_))
  refine qb hr (fun x h s=>F135_R n _ _ _ x h) H fun x4 hr fr H=>qg 1 [(6,vI x4)] H fun _ H=>qe (W_seq (W_seq (W_reg (qg 4 [(23,vB (decide (16 < (w64 (x4 - a1)))))] H fun _ H=>qe ?_))))
  rcases csplit hr with ⟨c5,hr⟩|⟨c5,hr⟩
  ·refine qT H c5 (sr (qg 3 [(4,vI 0),(5,vI a1)] H fun _ H=>qe (W_ret ?_)))
   cases hr
   exact e_ret [vI 0,vI a1] H K (fun _=>resT (by kernel_rfl) (resT (by kernel_rfl) resN)) (fun _=>by kernel_rfl)
  refine qF H c5 (W_skip (sr (qg 3 [(4,vI 1),(5,vI x4)] H fun _ H=>qe (W_ret ?_))))
  cases hr
  exact e_ret [vI 1,vI x4] H K (fun _=>resT (by kernel_rfl) (resT (by kernel_rfl) resN)) (fun _=>by kernel_rfl)
 refine qF H c3 (sr (qg 2 [(27,.agg [vS a0]),(28,vI a1)] H fun _ H=>?_))
 refine qb hr (fun x h s=>F141_R  _ _ x h) H fun x6 hr fr H=>qg 1 [(26,vB x6)] H fun _ H=>qe ?_
 rcases csplit hr with ⟨c7,hr⟩|⟨c7,hr⟩
 rotate_left
 ·refine qF H c7 (W_skip (W_seq (W_seq (W_reg (qg 2 [(65,.agg [vS a0]),(66,vI a1)] H fun _ H=>?_)))))
  refine qb hr (fun x h s=>F142_R n _ _ x h) H fun x16 hr fr H=>qg 1 [(8,vS x16)] H fun _ H=>qe (sr (qg 2 [(69,vB (!(strEq x16 (bs []))))] H fun _ H=>qe ?_))
  rcases csplit hr with ⟨c17,hr⟩|⟨c17,hr⟩
  ·refine qT H c17 (sr (qg 6 [(4,vI 3),(5,vI (w64 (a1 + (x16.size:Int))))] H fun _ H=>qe (W_ret ?_)))
   cases hr
   exact e_ret [vI 3,vI (w64 (a1 + (x16.size:Int)))] H K (fun _=>resT (by kernel_rfl) (resT (by kernel_rfl) resN)) (fun _=>by kernel_rfl)
  refine qF H c17 (W_skip (sr (qg 3 [(4,vI 0),(5,vI a1)] H fun _ H=>qe (W_ret ?_))))
  cases hr
  exact e_ret [vI 0,vI a1] H K (fun _=>resT (by kernel_rfl) (resT (by kernel_rfl) resN)) (fun _=>by kernel_rfl)
 refine qT H c7 (sr (qg 4 [(30,.agg [vS a0]),(31,vI a1),(33,.fn 141 [.agg [vS a0]] [])] H fun _ H=>?_))
 refine qb hr (fun x h s=>F135_1_R n _ _ _ x h) H fun x8 hr fr H=>qg 1 [(7,vI x8)] H fun _ H=>qe (W_seq (W_block (W_seq ?_)))
 obtain ⟨j11,hj11,hr⟩:=obind hr
 refine W_via (fun e fr st=>e = .normal∧Rd fr [(1,vI a1),(2,.cptr ([vS a0]) 0),(7,vI x8),(35,vB j11)]∧HL st []) ?_ ?_
 ·replace hr:=hj11
  refine sr (qg 5 [(35,vB (decide (9 < (w64 (x8 - a1)))))] H fun _ H=>qe ?_)
  rcases csplit hr with ⟨c9,hr⟩|⟨c9,hr⟩
  ·refine qT H c9 (W_skip ?_)
   cases hr
   exact ⟨rfl,H.tq,K.keep []⟩
  refine qF H c9 (W_reg (qg 3 [(41,vS a0),(42,vI a1)] H fun _ H=>?_))
  obtain ⟨x10,hx10,hr⟩:=obind hr
  refine qv (.index 9 (vS a0) (vI a1)) H (run_idxS (by kernel_rfl) hx10) fun _ H=>qg 2 [(45,vB (x10 == 48))] H fun _ H=>qg 5 [(50,vB ((x10 == 48) && (decide (1 < (w64 (x8 - a1))))))] H (hs:=by intro _ _; generalize (x10 == 48) = b0; cases b0 <;> kernel_rfl) fun _ H=>qg 1 [(35,vB ((x10 == 48) && (decide (1 < (w64 (x8 - a1))))))] H fun _ H=>qe ?_
  cases hr
  exact ⟨rfl,H.tq,K.keep []⟩
 rintro e fr st ⟨rfl,H,K⟩
 rcases csplit hr with ⟨c12,hr⟩|⟨c12,hr⟩
 ·refine qT H c12 (sr (qg 3 [(4,vI 0),(5,vI a1)] H fun _ H=>qe (W_ret ?_)))
  cases hr
  exact e_ret [vI 0,vI a1] H K (fun _=>resT (by kernel_rfl) (resT (by kernel_rfl) resN)) (fun _=>by kernel_rfl)
 refine qF H c12 (sr (qg 6 [(58,vB (decide (x8 < (a0.size:Int))))] H fun _ H=>?_))
 rcases csplit hr with ⟨c13,hr⟩|⟨c13,hr⟩
 rotate_left
 ·rw [c13] at H
  refine qg 5 [(52,vB false)] H fun _ H=>qe (qF H rfl (W_skip (sr (qg 3 [(4,vI 2),(5,vI x8)] H fun _ H=>qe (W_ret ?_)))))
  cases hr
  exact e_ret [vI 2,vI x8] H K (fun _=>resT (by kernel_rfl) (resT (by kernel_rfl) resN)) (fun _=>by kernel_rfl)
 rw [c13] at H
 refine qg 2 [(59,.agg [vS a0]),(60,vI x8)] H fun _ H=>?_
 refine qb hr (fun x h s=>F140_R  _ _ x h) H fun x14 hr fr H=>qg 2 [(52,vB x14)] H fun _ H=>qe ?_
 rcases csplit hr with ⟨c15,hr⟩|⟨c15,hr⟩
 ·refine qT H c15 (sr (qg 3 [(4,vI 0),(5,vI a1)] H fun _ H=>qe (W_ret ?_)))
  cases hr
  exact e_ret [vI 0,vI a1] H K (fun _=>resT (by kernel_rfl) (resT (by kernel_rfl) resN)) (fun _=>by kernel_rfl)
 refine qF H c15 (W_skip (sr (qg 3 [(4,vI 2),(5,vI x8)] H fun _ H=>qe (W_ret ?_))))
 cases hr
 exact e_ret [vI 2,vI x8] H K (fun _=>resT (by kernel_rfl) (resT (by kernel_rfl) resN)) (fun _=>by kernel_rfl)
def F55 (n:Nat) (a0:ByteArray):Option ((List Token) × Int × Int) :=
 bif decide (4000 < (a0.size:Int)) then
  (some (([]:List Token),(2:Int),(0:Int)))
 else
  ((iter (σ:=(List Token) × Int) (ρ:=((List Token) × Int × Int)) (fun s3=>(F86 n a0 s3.2).bind fun x4 =>
   bif x4 == (a0.size:Int) then
    (some (.inr (s3.1,(0:Int),(0:Int))))
   else
    (bif (s3.1.length:Int) == 1500 then
     (some (.inr (([]:List Token),(2:Int),x4)))
    else
     ((F87 n a0 x4).bind fun x7 =>
     bif x7.1 == 0 then
      (some (.inr (([]:List Token),(10:Int),x4)))
     else
      ((subS a0 x4 x7.2).bind fun x9 =>
      (appL 32 s3.1 ([(Token.mk x7.1 x9 x4)]:List Token)).bind fun x10 =>
      some (.inl (x10,x7.2)))))) n (([]:List Token),(0:Int))).bind fun r12 =>
  some (r12.1,r12.2.1,r12.2.2))
theorem F55_R (n:Nat) (a0:ByteArray) (r:(List Token) × Int × Int) (hr:F55 n a0 = some r) {st:St}:R Tryz.prog AN 55 [vS a0] st (.ret (.tuple [vL tToken r.1 .shut,vI r.2.1,vI r.2.2])) st:=by
 unfold F55 at hr
 refine R_pureX [vS a0] [(0,vS a0)] Tryz.func55 rfl (by kernel_rfl) rfl fun fr st H K=>sr (qg 3 [] H fun _ H=>qe (W_seq (W_seq (W_reg (qg 3 [(12,vB (decide (4000 < (a0.size:Int))))] H fun _ H=>qe ?_)))))
 rcases csplit hr with ⟨c1,hr⟩|⟨c1,hr⟩
 ·refine qT H c1 (sr (qg 3 [(2,vL tToken ([]:List Token) .nil),(3,vI 2),(4,vI 0)] H fun _ H=>qe (W_ret ?_)))
  cases hr
  exact e_ret [vL tToken ([]:List Token) .nil,vI 2,vI 0] H K (fun _=>resT (by kernel_rfl) (resT (by kernel_rfl) (resT (by kernel_rfl) resN))) (fun _=>by simp only [strip,stripL,stripL_ET,Option.bind_some,Option.map_some,oneOf] <;> rfl)
 refine qF H c1 (W_skip (sr (qg 2 [(14,.agg [vS a0])] H fun _ H=>?_)))
 refine qal 116 [vS (bs [])] H K fun id2 st K fr H=>?_
 refine qst 116 0 (.agg [vS a0]) [vS a0] 0 H K rfl fun st K fr H=>qe (sr (qg 1 [(6,vL tToken ([]:List Token) .nil)] H fun _ H=>qe (sr (qg 1 [(7,vI 0)] H fun _ H=>qe (W_block ?_)))))
 obtain ⟨r12,hr12,hr⟩:=obind hr
 refine W_iter hr12 (fun (s3:(List Token) × Int) fr st=>∃ (s3sp0:Spare),Rd fr [(0,vS a0),(5,.ptr id2 0),(6,vL tToken s3.1 s3sp0),(7,vI s3.2)]∧HL st [.own s3sp0,.obj id2 (.cells 116 [vS a0])]) (fun (r12:((List Token) × Int × Int)) e fr st=>e = .ret∧∃ (r12sp0:Spare),Rd fr [(2,vL tToken r12.1 r12sp0),(3,vI r12.2.1),(4,vI r12.2.2)]∧HL st []) ⟨.nil,H.tq,((K.keep [true]).nilo)⟩ ?_ ?_
 ·intro s3 fr st r hi hr
  obtain ⟨s3sp0,H,K⟩:=hi
  refine W_block (sr ?_)
  refine qld 116 0 (.agg [vS a0]) 1 H K rfl fun _ H=>qg 1 [(16,vI s3.2)] H fun _ H=>?_
  refine qb hr (fun x h s=>F86_R n _ _ x h) H fun x4 hr fr H=>qg 1 [(7,vI x4)] H fun _ H=>qe (W_seq (W_seq (W_reg (qg 4 [(21,vB (x4 == (a0.size:Int)))] H fun _ H=>qe ?_))))
  rcases csplit hr with ⟨c5,hr⟩|⟨c5,hr⟩
  ·refine qT H c5 (sr (qg 4 [(2,vL tToken s3.1 s3sp0),(3,vI 0),(4,vI 0)] H fun _ H=>qe (W_ret ?_)))
   cases hr
   exact ⟨by simp,⟨rfl,s3sp0,H.tq,K.keep [false,false]⟩⟩
  refine qF H c5 (W_skip (W_seq (W_seq (W_reg (qg 1 [(23,vL tToken s3.1 s3sp0)] H fun _ H=>?_)))))
  refine qln tToken 56 s3.1 s3sp0 H fun _ H=>qg 1 [(25,vB ((s3.1.length:Int) == 1500))] H fun _ H=>qe ?_
  rcases csplit hr with ⟨c6,hr⟩|⟨c6,hr⟩
  ·refine qT H c6 (sr (qg 4 [(2,vL tToken ([]:List Token) .nil),(3,vI 2),(4,vI x4)] H fun _ H=>qe (W_ret ?_)))
   cases hr
   exact ⟨by simp,⟨rfl,.nil,H.tq,K.keep [false,false]⟩⟩
  refine qF H c6 (W_skip (sr ?_))
  refine qld 116 0 (.agg [vS a0]) 1 H K rfl fun _ H=>qg 1 [(29,vI x4)] H fun _ H=>?_
  refine qb hr (fun x h s=>F87_R n _ _ x h) H fun x7 hr fr H=>qg 5 [(8,vI x7.1),(9,vI x7.2)] H fun _ H=>qe (W_seq (W_seq (W_reg (qg 2 [(34,vB (x7.1 == 0))] H fun _ H=>qe ?_))))
  rcases csplit hr with ⟨c8,hr⟩|⟨c8,hr⟩
  ·refine qT H c8 (sr (qg 4 [(2,vL tToken ([]:List Token) .nil),(3,vI 10),(4,vI x4)] H fun _ H=>qe (W_ret ?_)))
   cases hr
   exact ⟨by simp,⟨rfl,.nil,H.tq,K.keep [false,false]⟩⟩
  refine qF H c8 (W_skip (sr (qg 5 [(36,vL tToken s3.1 s3sp0),(37,vI x7.1),(38,vS a0),(39,vI x4),(40,vI x7.2)] H fun _ H=>?_)))
  obtain ⟨x9,hx9,hr⟩:=obind hr
  refine qv (.slice 9 (vS a0) (some (vI x4)) (some (vI x7.2))) H (run_subS (by kernel_rfl) hx9) fun _ H=>qg 2 [(43,.agg [vI x7.1,vS x9,vI x4])] H fun _ H=>?_
  refine qbs tToken 56 ([(Token.mk x7.1 x9 x4)]:List Token) H fun _ H=>?_
  refine qapp tToken 32 56 56 .full hr 0 H K rfl fun x10 hr sp11 st K fr H=>qg 1 [(6,vL tToken x10 sp11)] H fun _ H=>qe (W_reg (qg 2 [(7,vI x7.2)] H fun _ H=>qe ?_))
  cases hr
  exact ⟨rfl,⟨sp11,H.tq,K.keep [true,true]⟩⟩
 rintro e fr st ⟨rfl,r12sp0,H,K⟩
 cases hr
 exact e_ret [vL tToken r12.1 r12sp0,vI r12.2.1,vI r12.2.2] H K (fun _=>resT (by kernel_rfl) (resT (by kernel_rfl) (resT (by kernel_rfl) resN))) (fun _=>by simp only [strip,stripL,stripL_ET,Option.bind_some,Option.map_some,oneOf] <;> rfl)
def F91 (s:RS):Option Int :=
 bif decide (s.next < (s.toks.length:Int)) then
  ((idxL s.toks s.next).bind fun x2 =>
  some x2.pos)
 else
  (some s.fin)
theorem F91_R (s:RS) (r:Int) (hr:F91 s = some r) {st:St} {rs:List Res} {i0:Nat} {p:Spare} (K:HL st (.rd i0 87 p (rdC s p) :: rs)):R Tryz.prog AN 91 [.ptr i0 0] st (.ret (vI r)) st:=by
 unfold F91 at hr
 refine R_lookX [(0,.ptr i0 0)] Tryz.func91 rfl rfl fun _ H=>sr (qg 1 [] H fun _ H=>qe (W_seq (W_seq ?_)))
 refine W_drw (qg 3 [(5,.ptr i0 1)] H fun _ H=>?_)
 refine qldR 3 1 (vI s.next) 0 H K rfl fun _ H=>qg 3 [(9,.ptr i0 0)] H fun _ H=>?_
 refine qldR 56 0 (vL tToken s.toks .shut) 0 H K rfl fun _ H=>?_
 refine qln tToken 56 s.toks .shut H fun _ H=>qg 1 [(12,vB (decide (s.next < (s.toks.length:Int))))] H fun _ H=>qe (qd ?_)
 rcases csplit hr with ⟨c1,hr⟩|⟨c1,hr⟩
 rotate_left
 ·refine qF H c1 (W_skip (sr (qg 3 [(26,.ptr i0 2)] H fun _ H=>?_)))
  refine qldR 3 2 (vI s.fin) 0 H K rfl fun _ H=>qg 1 [(2,vI s.fin)] H fun _ H=>qe (W_ret ?_)
  cases hr
  exact e_retL [vI s.fin] H K (fun _=>resT (by kernel_rfl) resN)
 refine qT H c1 (W_seq (W_drw (qg 3 [(15,.ptr i0 0)] H fun _ H=>?_)))
 refine qldR 56 0 (vL tToken s.toks .shut) 0 H K rfl fun _ H=>qg 3 [(19,.ptr i0 1)] H fun _ H=>?_
 refine qldR 3 1 (vI s.next) 0 H K rfl fun _ H=>?_
 refine qix tToken 56 .shut hr H fun x2 hr hx2 fr H=>qg 3 [(2,vI x2.pos)] H fun _ H=>qe (qd (W_ret ?_))
 cases hr
 exact e_retL [vI x2.pos] H K (fun _=>resT (by kernel_rfl) resN)
def F101 (s:RS):Option ByteArray :=
 bif decide (s.next < (s.toks.length:Int)) then
  ((idxL s.toks s.next).bind fun x2 =>
  some x2.text)
 else
  (some (bs []))
theorem F101_R (s:RS) (r:ByteArray) (hr:F101 s = some r) {st:St} {rs:List Res} {i0:Nat} {p:Spare} (K:HL st (.rd i0 87 p (rdC s p) :: rs)):R Tryz.prog AN 101 [.ptr i0 0] st (.ret (vS r)) st:=by
 unfold F101 at hr
 refine R_lookX [(0,.ptr i0 0)] Tryz.func101 rfl rfl fun _ H=>sr (qg 1 [] H fun _ H=>qe (W_seq (W_seq ?_)))
 refine W_drw (qg 3 [(5,.ptr i0 1)] H fun _ H=>?_)
 refine qldR 3 1 (vI s.next) 0 H K rfl fun _ H=>qg 3 [(9,.ptr i0 0)] H fun _ H=>?_
 refine qldR 56 0 (vL tToken s.toks .shut) 0 H K rfl fun _ H=>?_
 refine qln tToken 56 s.toks .shut H fun _ H=>qg 1 [(12,vB (decide (s.next < (s.toks.length:Int))))] H fun _ H=>qe (qd ?_)
 rcases csplit hr with ⟨c1,hr⟩|⟨c1,hr⟩
 rotate_left
 ·refine qF H c1 (W_skip (sr (qg 1 [(2,vS (bs []))] H fun _ H=>qe (W_ret ?_))))
  cases hr
  exact e_retL [vS (bs [])] H K (fun _=>resT (by kernel_rfl) resN)
 refine qT H c1 (W_seq (W_drw (qg 3 [(15,.ptr i0 0)] H fun _ H=>?_)))
 refine qldR 56 0 (vL tToken s.toks .shut) 0 H K rfl fun _ H=>qg 3 [(19,.ptr i0 1)] H fun _ H=>?_
 refine qldR 3 1 (vI s.next) 0 H K rfl fun _ H=>?_
 refine qix tToken 56 .shut hr H fun x2 hr hx2 fr H=>qg 3 [(2,vS x2.text)] H fun _ H=>qe (qd (W_ret ?_))
 cases hr
 exact e_retL [vS x2.text] H K (fun _=>resT (by kernel_rfl) resN)
def F68 (s:RS):Option ((Unit ⊕ Bad) × RS) :=
 bif decide (s.next < (s.toks.length:Int)) then
  ((F91 s).bind fun x2 =>
  some (.inr ((20:Int),x2),s))
 else
  (some (.inr ((21:Int),s.fin),s))
theorem F68_R (s:RS) (r:Unit ⊕ Bad) (s2:RS) (hr:F68 s = some (r,s2)) {st:St} {rs:List Res} {i0:Nat} {p:Spare} (K:HL st (.rd i0 87 p (rdC s p) :: rs)):∃ (q:Spare) (st':St),R Tryz.prog AN 68 [.ptr i0 0] st (gotE encW (fun _=>.tuple []) r) st'∧HL st' (.rd i0 87 q (rdC s2 q) :: rs):=by
 unfold F68 at hr
 refine R_panX (ew:=encW) (enc:=fun v (q:Spare)=>.tuple []) (post:=fun s (q:Spare)=>.rd i0 87 q (rdC s q) :: rs) [(0,.ptr i0 0)] Tryz.func68 rfl rfl fun fr Q H hp hq=>W_seq (W_seq ?_)
 refine W_drw (qg 3 [(4,.ptr i0 1)] H fun _ H=>?_)
 refine qldR 3 1 (vI s.next) 0 H K rfl fun _ H=>qg 3 [(8,.ptr i0 0)] H fun _ H=>?_
 refine qldR 56 0 (vL tToken s.toks .shut) 0 H K rfl fun _ H=>?_
 refine qln tToken 56 s.toks .shut H fun _ H=>qg 1 [(11,vB (decide (s.next < (s.toks.length:Int))))] H fun _ H=>qe (qd ?_)
 rcases csplit hr with ⟨c1,hr⟩|⟨c1,hr⟩
 ·refine qT H c1 (W_reg (qg 1 [(12,.ptr i0 0)] H fun _ H=>?_))
  refine ql hr (fun x h=>F91_R  _ x h K) H fun x2 hr fr H=>qg 2 [(15,.iface 95 (.agg [vI 20,vI x2]))] H fun _ H=>?_
  exact qpan H (hp _ _ (sj hr).symm p _ _ K)
 refine qF H c1 (W_skip (W_reg (qg 3 [(18,.ptr i0 2)] H fun _ H=>?_)))
 refine qldR 3 2 (vI s.fin) 0 H K rfl fun _ H=>qg 2 [(21,.iface 95 (.agg [vI 21,vI s.fin]))] H fun _ H=>?_
 exact qpan H (hp _ _ (sj hr).symm p _ _ K)
def F88 (a0:ByteArray) (s:RS):Option ((Bool ⊕ Bad) × RS) :=
 pbind (bif decide (s.next < (s.toks.length:Int)) then
   ((F101 s).bind fun x2 =>
   some (.inl (strEq x2 a0),s))
  else
   (some (.inl false,s)):Option (((Bool) ⊕ Bad) × RS)) fun j3 j3s =>
 bif j3 then
  (some (.inl true,(j3s.setNext (w64 (j3s.next + 1)))))
 else
  (some (.inl false,j3s))
theorem F88_R (a0:ByteArray) (s:RS) (r:Bool ⊕ Bad) (s2:RS) (hr:F88 a0 s = some (r,s2)) {st:St} {rs:List Res} {i0:Nat} {p:Spare} (K:HL st (.rd i0 87 p (rdC s p) :: rs)):∃ (q:Spare) (st':St),R Tryz.prog AN 88 [.ptr i0 0,vS a0] st (gotE encW (fun v=>vB v) r) st'∧HL st' (.rd i0 87 q (rdC s2 q) :: rs):=by
 unfold F88 at hr
 refine R_panX (ew:=encW) (enc:=fun v (q:Spare)=>vB v) (post:=fun s (q:Spare)=>.rd i0 87 q (rdC s q) :: rs) [(0,.ptr i0 0),(1,vS a0)] Tryz.func88 rfl rfl fun fr Q H hp hq=>sr (qg 1 [] H fun _ H=>qe (W_seq (W_seq ?_)))
 refine W_viaP (fun j3 j3s e fr st=>e = .normal∧∃ (j3q:Spare),Rd fr [(0,.ptr i0 0),(20,vB j3)]∧HL st (.rd i0 87 j3q (rdC j3s j3q) :: rs)) hr hp ?_ ?_
 ·intro y Q hr hp hq
  refine W_drw (qg 3 [(7,.ptr i0 1)] H fun _ H=>?_)
  refine qldR 3 1 (vI s.next) 0 H K rfl fun _ H=>qg 3 [(11,.ptr i0 0)] H fun _ H=>?_
  refine qldR 56 0 (vL tToken s.toks .shut) 0 H K rfl fun _ H=>?_
  refine qln tToken 56 s.toks .shut H fun _ H=>qg 2 [(15,vB (decide (s.next < (s.toks.length:Int))))] H fun _ H=>?_
  rcases csplit hr with ⟨c1,hr⟩|⟨c1,hr⟩
  rotate_left
  ·rw [c1] at H
   refine qg 5 [(20,vB false)] H fun _ H=>qe (qd ?_)
   exact hq _ _ (sj hr).symm _ _ _ ⟨rfl,p,H.tq,K⟩
  rw [c1] at H
  refine qg 1 [(16,.ptr i0 0)] H fun _ H=>?_
  refine ql hr (fun x h=>F101_R  _ x h K) H fun x2 hr fr H=>qg 3 [(20,vB (strEq x2 a0))] H fun _ H=>qe (qd ?_)
  exact hq _ _ (sj hr).symm _ _ _ ⟨rfl,p,H.tq,K⟩
 intro j3 j3s hr
 rintro e fr st ⟨rfl,j3q,H,K⟩
 rcases csplit hr with ⟨c4,hr⟩|⟨c4,hr⟩
 rotate_left
 ·refine qF H c4 (W_skip (sr (qg 1 [(4,vB false)] H fun _ H=>qe (W_ret ?_))))
  exact hq _ _ (sj hr).symm j3q _ _ _ (e_retV [vB false] H K (fun _=>resT (by kernel_rfl) resN) K)
 refine qT H c4 (sr (qg 3 [(21,.ptr i0 0),(23,.ptr i0 1)] H fun _ H=>?_))
 refine qldR 3 1 (vI j3s.next) 0 H K rfl fun _ H=>qg 3 [(25,vI (w64 (j3s.next + 1))),(27,.ptr i0 1)] H fun _ H=>?_
 refine qstR 3 1 (vI (w64 (j3s.next + 1))) (rdC (j3s.setNext (w64 (j3s.next + 1))) j3q) 0 H K rfl fun st K fr H=>qe (sr (qg 1 [(4,vB true)] H fun _ H=>qe (W_ret ?_)))
 exact hq _ _ (sj hr).symm j3q _ _ _ (e_retV [vB true] H K (fun _=>resT (by kernel_rfl) resN) K)
def F93 (a0:ByteArray) (s:RS):Option ((Unit ⊕ Bad) × RS) :=
 pbind (F88 a0 s) fun x1 s3 =>
 bif !x1 then
  (pbind (F68 s3) fun _ s7 =>
  some (.inl (),s7))
 else
  (some (.inl (),s3))
theorem F93_R (a0:ByteArray) (s:RS) (r:Unit ⊕ Bad) (s2:RS) (hr:F93 a0 s = some (r,s2)) {st:St} {rs:List Res} {i0:Nat} {p:Spare} (K:HL st (.rd i0 87 p (rdC s p) :: rs)):∃ (q:Spare) (st':St),R Tryz.prog AN 93 [.ptr i0 0,vS a0] st (gotE encW (fun _=>.tuple []) r) st'∧HL st' (.rd i0 87 q (rdC s2 q) :: rs):=by
 unfold F93 at hr
 refine R_panX (ew:=encW) (enc:=fun v (q:Spare)=>.tuple []) (post:=fun s (q:Spare)=>.rd i0 87 q (rdC s q) :: rs) [(0,.ptr i0 0),(1,vS a0)] Tryz.func93 rfl rfl fun fr Q H hp hq=>sr (qg 2 [(4,.ptr i0 0),(5,vS a0)] H fun _ H=>?_)
 refine qp [] [] hr (fun a s h=>F88_R  _ _ a s h K) K H (fun e s h q st K=>hp e s h q _ _ K) fun x1 s3 hr sp2 st K fr H=>qg 1 [(7,vB !x1)] H fun _ H=>qe ?_
 rcases csplit hr with ⟨c4,hr⟩|⟨c4,hr⟩
 rotate_left
 ·refine qF H c4 (W_skip ?_)
  exact hq _ _ (sj hr).symm sp2 _ _ _ (e_normalV [] H K (fun _=>resN) K)
 refine qT H c4 (W_reg (qg 1 [(8,.ptr i0 0)] H fun _ H=>?_))
 refine qp [] [] hr (fun a s h=>F68_R  _ a s h K) K H (fun e s h q st K=>hp e s h q _ _ K) fun x5 s7 hr sp6 st K fr H=>qe ?_
 exact hq _ _ (sj hr).symm sp6 _ _ _ (e_normalV [] H K (fun _=>resN) K)
end Go.Proofs.YtbecjgckobhmpaaGreatDoor
end
section
namespace Go.Proofs.YtbecjgckobhmpaaGreatDoor
open Go Go.AM Go.Proofs
set_option maxRecDepth 100000
set_option maxHeartbeats 4000000
def F168 (s:RS):Option Int :=
 bif decide (s.next < (s.toks.length:Int)) then
  ((idxL s.toks s.next).bind fun x2 =>
  some x2.kind)
 else
  (some (0:Int))
theorem F168_R (s:RS) (r:Int) (hr:F168 s = some r) {st:St} {rs:List Res} {i0:Nat} {p:Spare} (K:HL st (.rd i0 87 p (rdC s p) :: rs)):R Tryz.prog AN 168 [.ptr i0 0] st (.ret (vI r)) st:=by
 unfold F168 at hr
 refine R_lookX [(0,.ptr i0 0)] Tryz.func168 rfl rfl fun _ H=>sr (qg 1 [] H fun _ H=>qe (W_seq (W_seq ?_)))
 refine W_drw (qg 3 [(5,.ptr i0 1)] H fun _ H=>?_)
 refine qldR 3 1 (vI s.next) 0 H K rfl fun _ H=>qg 3 [(9,.ptr i0 0)] H fun _ H=>?_
 refine qldR 56 0 (vL tToken s.toks .shut) 0 H K rfl fun _ H=>?_
 refine qln tToken 56 s.toks .shut H fun _ H=>qg 1 [(12,vB (decide (s.next < (s.toks.length:Int))))] H fun _ H=>qe (qd ?_)
 rcases csplit hr with ⟨c1,hr⟩|⟨c1,hr⟩
 rotate_left
 ·refine qF H c1 (W_skip (sr (qg 1 [(2,vI 0)] H fun _ H=>qe (W_ret ?_))))
  cases hr
  exact e_retL [vI 0] H K (fun _=>resT (by kernel_rfl) resN)
 refine qT H c1 (W_seq (W_drw (qg 3 [(15,.ptr i0 0)] H fun _ H=>?_)))
 refine qldR 56 0 (vL tToken s.toks .shut) 0 H K rfl fun _ H=>qg 3 [(19,.ptr i0 1)] H fun _ H=>?_
 refine qldR 3 1 (vI s.next) 0 H K rfl fun _ H=>?_
 refine qix tToken 56 .shut hr H fun x2 hr hx2 fr H=>qg 3 [(2,vI x2.kind)] H fun _ H=>qe (qd (W_ret ?_))
 cases hr
 exact e_retL [vI x2.kind] H K (fun _=>resT (by kernel_rfl) resN)
def F103 (s:RS):Option ((Int ⊕ Bad) × RS) :=
 pbind ((F168 s).bind fun x1 =>
  bif x1 != 2 then
   (pbind (F68 s) fun _ s5 =>
   some (.inl (),s5))
  else
   (some (.inl (),s)):Option (((Unit) ⊕ Bad) × RS)) fun _ j6s =>
 (F101 j6s).bind fun x7 =>
 (atoiF x7).bind fun x8 =>
 some (.inl x8,(j6s.setNext (w64 (j6s.next + 1))))
theorem F103_R (s:RS) (r:Int ⊕ Bad) (s2:RS) (hr:F103 s = some (r,s2)) {st:St} {rs:List Res} {i0:Nat} {p:Spare} (K:HL st (.rd i0 87 p (rdC s p) :: rs)):∃ (q:Spare) (st':St),R Tryz.prog AN 103 [.ptr i0 0] st (gotE encW (fun v=>vI v) r) st'∧HL st' (.rd i0 87 q (rdC s2 q) :: rs):=by
 unfold F103 at hr
 refine R_panX (ew:=encW) (enc:=fun v (q:Spare)=>vI v) (post:=fun s (q:Spare)=>.rd i0 87 q (rdC s q) :: rs) [(0,.ptr i0 0)] Tryz.func103 rfl rfl fun fr Q H hp hq=>sr (qg 1 [] H fun _ H=>qe (W_seq ?_))
 refine W_viaP (fun j6 j6s e fr st=>e = .normal∧∃ (j6q:Spare),Rd fr [(0,.ptr i0 0)]∧HL st (.rd i0 87 j6q (rdC j6s j6q) :: rs)) hr hp ?_ ?_
 ·intro y Q hr hp hq
  refine sr (qg 1 [(5,.ptr i0 0)] H fun _ H=>?_)
  refine ql hr (fun x h=>F168_R  _ x h K) H fun x1 hr fr H=>qg 1 [(7,vB (x1 != 2))] H fun _ H=>qe ?_
  rcases csplit hr with ⟨c2,hr⟩|⟨c2,hr⟩
  rotate_left
  ·refine qF H c2 (W_skip ?_)
   exact hq _ _ (sj hr).symm _ _ _ ⟨rfl,p,H.tq,K⟩
  refine qT H c2 (W_reg (qg 1 [(8,.ptr i0 0)] H fun _ H=>?_))
  refine qp [] [] hr (fun a s h=>F68_R  _ a s h K) K H (fun e s h q st K=>hp e s h q _ _ K) fun x3 s5 hr sp4 st K fr H=>qe ?_
  exact hq _ _ (sj hr).symm _ _ _ ⟨rfl,sp4,H.tq,K⟩
 intro j6 j6s hr
 rintro e fr st ⟨rfl,j6q,H,K⟩
 refine sr (qg 1 [(11,.ptr i0 0)] H fun _ H=>?_)
 refine ql hr (fun x h=>F101_R  _ x h K) H fun x7 hr fr H=>?_
 refine qb hr (fun x h s=>atoi_R _ x h) H fun x8 hr fr H=>qg 5 [(3,vI x8),(4,.sc .nilIface)] H fun _ H=>qe (W_seq (W_seq (W_reg (qg 2 [(17,vB false)] H fun _ H=>qe (qF H rfl (W_skip (sr (qg 3 [(20,.ptr i0 0),(22,.ptr i0 1)] H fun _ H=>?_))))))))
 refine qldR 3 1 (vI j6s.next) 0 H K rfl fun _ H=>qg 3 [(24,vI (w64 (j6s.next + 1))),(26,.ptr i0 1)] H fun _ H=>?_
 refine qstR 3 1 (vI (w64 (j6s.next + 1))) (rdC (j6s.setNext (w64 (j6s.next + 1))) j6q) 0 H K rfl fun st K fr H=>qe (sr (qg 2 [(2,vI x8)] H fun _ H=>qe (W_ret ?_)))
 exact hq _ _ (sj hr).symm j6q _ _ _ (e_retV [vI x8] H K (fun _=>resT (by kernel_rfl) resN) K)
def F153 (s:RS):Option ((Node ⊕ Bad) × RS) :=
 (F91 s).bind fun x2 =>
 pbind (F103 s) fun x3 s5 =>
 some (.inl (Node.mk 1 (bs []) (bs []) x3 0 0 false ([]:List Node) x2),s5)
theorem F153_R (s:RS) (r:Node ⊕ Bad) (s2:RS) (hr:F153 s = some (r,s2)) {st:St} {rs:List Res} {i0:Nat} {p:Spare} (K:HL st (.rd i0 87 p (rdC s p) :: rs)):∃ (q:Spare) (st':St),R Tryz.prog AN 153 [.ptr i0 0] st (gotE encW (fun v=>aN v) r) st'∧HL st' (.rd i0 87 q (rdC s2 q) :: rs):=by
 unfold F153 at hr
 refine R_panX (ew:=encW) (enc:=fun v (q:Spare)=>aN v) (post:=fun s (q:Spare)=>.rd i0 87 q (rdC s q) :: rs) [(0,.ptr i0 0)] Tryz.func153 rfl rfl fun fr Q H hp hq=>sr ?_
 refine qal 24 zL H K fun id1 st K fr H=>qe (sr (qg 1 [(4,.ptr i0 0)] H fun _ H=>?_))
 refine ql hr (fun x h=>F91_R  _ x h (K.front 1 rfl)) H fun x2 hr fr H=>qg 1 [(3,vI x2)] H fun _ H=>qe (sr (qg 1 [(6,.ptr i0 0)] H fun _ H=>?_))
 refine qp [] [] hr (fun a s h=>F103_R  _ a s h (K.front 1 rfl)) K H (fun e s h q st K=>hp e s h q _ _ (K.keep [true,false])) fun x3 s5 hr sp4 st K fr H=>qg 2 [(9,.agg [vI 1,vS (bs []),vS (bs []),vI x3,vI 0,vI 0,vB false,vL tNode ([]:List Node) .nil,vI x2])] H fun _ H=>?_
 refine qst 24 0 (.agg [vI 1,vS (bs []),vS (bs []),vI x3,vI 0,vI 0,vB false,vL tNode ([]:List Node) .nil,vI x2]) [vI 1,vS (bs []),vS (bs []),vI x3,vI 0,vI 0,vB false,vL tNode ([]:List Node) .nil,vI x2] 1 H K rfl fun st K fr H=>qe (W_ret ?_)
 exact hq _ _ (sj hr).symm sp4 _ _ _ (e_retV [.agg [vI 1,vS (bs []),vS (bs []),vI x3,vI 0,vI 0,vB false,vL tNode ([]:List Node) .shut,vI x2]] H K (fun _=>resC id1 0 24 [vI 1,vS (bs []),vS (bs []),vI x3,vI 0,vI 0,vB false,vL tNode ([]:List Node) .nil,vI x2] 1 (by kernel_rfl) rfl (by kernel_rfl) resN) ((K).keep [true,false]))
def F143 (s:RS):Option Bool :=
 (F168 s).bind fun x1 =>
 bif x1 == 1 then
  ((F101 s).bind fun x3 =>
  some (!(isKey x3)))
 else
  (some false)
theorem F143_R (s:RS) (r:Bool) (hr:F143 s = some r) {st:St} {rs:List Res} {i0:Nat} {p:Spare} (K:HL st (.rd i0 87 p (rdC s p) :: rs)):R Tryz.prog AN 143 [.ptr i0 0] st (.ret (vB r)) st:=by
 unfold F143 at hr
 refine R_lookX [(0,.ptr i0 0)] Tryz.func143 rfl rfl fun _ H=>sr (qg 1 [] H fun _ H=>qe (W_seq (W_drw (qg 1 [(3,.ptr i0 0)] H fun _ H=>?_))))
 refine ql hr (fun x h=>F168_R  _ x h K) H fun x1 hr fr H=>qg 2 [(6,vB (x1 == 1))] H fun _ H=>?_
 rcases csplit hr with ⟨c2,hr⟩|⟨c2,hr⟩
 rotate_left
 ·rw [c2] at H
  refine qg 10 [(2,vB false)] H fun _ H=>qe (qd (W_ret ?_))
  cases hr
  exact e_retL [vB false] H K (fun _=>resT (by kernel_rfl) resN)
 rw [c2] at H
 refine qg 3 [(9,.ptr i0 4)] H fun _ H=>?_
 refine qldR 85 4 keysV 0 H K rfl fun _ H=>qg 1 [(11,.ptr i0 0)] H fun _ H=>?_
 refine ql hr (fun x h=>F101_R  _ x h K) H fun x3 hr fr H=>?_
 refine qv (.lookup 85 keysV (vS x3)) H (run_key) fun _ H=>qg 3 [(2,vB (!(isKey x3)))] H fun _ H=>qe (qd (W_ret ?_))
 cases hr
 exact e_retL [vB (!(isKey x3))] H K (fun _=>resT (by kernel_rfl) resN)
def F92 (s:RS):Option ((ByteArray ⊕ Bad) × RS) :=
 pbind ((F143 s).bind fun x1 =>
  bif !x1 then
   (pbind (F68 s) fun _ s5 =>
   some (.inl (),s5))
  else
   (some (.inl (),s)):Option (((Unit) ⊕ Bad) × RS)) fun _ j6s =>
 (idxL ((j6s.setNext (w64 (j6s.next + 1))).toks) (w64 (((j6s.setNext (w64 (j6s.next + 1))).next) - 1))).bind fun x7 =>
 some (.inl x7.text,(j6s.setNext (w64 (j6s.next + 1))))
theorem F92_R (s:RS) (r:ByteArray ⊕ Bad) (s2:RS) (hr:F92 s = some (r,s2)) {st:St} {rs:List Res} {i0:Nat} {p:Spare} (K:HL st (.rd i0 87 p (rdC s p) :: rs)):∃ (q:Spare) (st':St),R Tryz.prog AN 92 [.ptr i0 0] st (gotE encW (fun v=>vS v) r) st'∧HL st' (.rd i0 87 q (rdC s2 q) :: rs):=by
 unfold F92 at hr
 refine R_panX (ew:=encW) (enc:=fun v (q:Spare)=>vS v) (post:=fun s (q:Spare)=>.rd i0 87 q (rdC s q) :: rs) [(0,.ptr i0 0)] Tryz.func92 rfl rfl fun fr Q H hp hq=>sr (qg 1 [] H fun _ H=>qe (W_seq ?_))
 refine W_viaP (fun j6 j6s e fr st=>e = .normal∧∃ (j6q:Spare),Rd fr [(0,.ptr i0 0)]∧HL st (.rd i0 87 j6q (rdC j6s j6q) :: rs)) hr hp ?_ ?_
 ·intro y Q hr hp hq
  refine sr (qg 1 [(3,.ptr i0 0)] H fun _ H=>?_)
  refine ql hr (fun x h=>F143_R  _ x h K) H fun x1 hr fr H=>qg 1 [(5,vB !x1)] H fun _ H=>qe ?_
  rcases csplit hr with ⟨c2,hr⟩|⟨c2,hr⟩
  rotate_left
  ·refine qF H c2 (W_skip ?_)
   exact hq _ _ (sj hr).symm _ _ _ ⟨rfl,p,H.tq,K⟩
  refine qT H c2 (W_reg (qg 1 [(6,.ptr i0 0)] H fun _ H=>?_))
  refine qp [] [] hr (fun a s h=>F68_R  _ a s h K) K H (fun e s h q st K=>hp e s h q _ _ K) fun x3 s5 hr sp4 st K fr H=>qe ?_
  exact hq _ _ (sj hr).symm _ _ _ ⟨rfl,sp4,H.tq,K⟩
 intro j6 j6s hr
 rintro e fr st ⟨rfl,j6q,H,K⟩
 refine sr (qg 3 [(8,.ptr i0 0),(10,.ptr i0 1)] H fun _ H=>?_)
 refine qldR 3 1 (vI j6s.next) 0 H K rfl fun _ H=>qg 3 [(12,vI (w64 (j6s.next + 1))),(14,.ptr i0 1)] H fun _ H=>?_
 refine qstR 3 1 (vI (w64 (j6s.next + 1))) (rdC (j6s.setNext (w64 (j6s.next + 1))) j6q) 0 H K rfl fun st K fr H=>qe (W_seq (W_drw (qg 3 [(17,.ptr i0 0)] H fun _ H=>?_)))
 refine qldR 56 0 (vL tToken ((j6s.setNext (w64 (j6s.next + 1))).toks) .shut) 0 H K rfl fun _ H=>qg 3 [(21,.ptr i0 1)] H fun _ H=>?_
 refine qldR 3 1 (vI ((j6s.setNext (w64 (j6s.next + 1))).next)) 0 H K rfl fun _ H=>qg 1 [(23,vI (w64 (((j6s.setNext (w64 (j6s.next + 1))).next) - 1)))] H fun _ H=>?_
 refine qix tToken 56 .shut hr H fun x7 hr hx7 fr H=>qg 3 [(2,vS x7.text)] H fun _ H=>qe (qd (W_ret ?_))
 exact hq _ _ (sj hr).symm j6q _ _ _ (e_retV [vS x7.text] H K (fun _=>resT (by kernel_rfl) resN) K)
def F152 (n:Nat) (s:RS):Option ((ByteArray ⊕ Bad) × RS) :=
 pbind (F92 s) fun x1 s3 =>
 pbind (iterP (σ:=ByteArray × Int) (ρ:=ByteArray) (ε:=Bad) (S:=RS) (fun s4 s4s=>bif decide (s4.2 < 2) then
   (pbind (F88 (bs [46]) s4s) fun x6 s8 =>
   bif !x6 then
    (some (.inl (.inr s4.1),s8))
   else
    (pbind (F92 s8) fun x10 s12 =>
    (catS (bs [46]) x10).bind fun x13 =>
    (catS s4.1 x13).bind fun x14 =>
    some (.inl (.inl (x14,w64 (s4.2 + 1))),s12)))
  else
   (some (.inl (.inr s4.1),s4s))) n (x1,(0:Int)) s3) fun r15 r15s =>
 some (.inl r15,r15s)
theorem F152_R (n:Nat) (s:RS) (r:ByteArray ⊕ Bad) (s2:RS) (hr:F152 n s = some (r,s2)) {st:St} {rs:List Res} {i0:Nat} {p:Spare} (K:HL st (.rd i0 87 p (rdC s p) :: rs)):∃ (q:Spare) (st':St),R Tryz.prog AN 152 [.ptr i0 0] st (gotE encW (fun v=>vS v) r) st'∧HL st' (.rd i0 87 q (rdC s2 q) :: rs):=by
 unfold F152 at hr
 refine R_panX (ew:=encW) (enc:=fun v (q:Spare)=>vS v) (post:=fun s (q:Spare)=>.rd i0 87 q (rdC s q) :: rs) [(0,.ptr i0 0)] Tryz.func152 rfl rfl fun fr Q H hp hq=>sr (qg 1 [] H fun _ H=>qe (sr (qg 1 [(4,.ptr i0 0)] H fun _ H=>?_)))
 refine qp [] [] hr (fun a s h=>F92_R  _ a s h K) K H (fun e s h q st K=>hp e s h q _ _ K) fun x1 s3 hr sp2 st K fr H=>qg 1 [(3,vS x1)] H fun _ H=>qe (W_seq (W_seq (W_reg (qg 1 [(6,vI 0)] H fun _ H=>qe (W_block ?_)))))
 refine W_iterP hr hp (fun (s4:ByteArray × Int) s4s fr st=>∃ (s4q:Spare),Rd fr [(0,.ptr i0 0),(3,vS s4.1),(6,vI s4.2)]∧HL st (.rd i0 87 s4q (rdC s4s s4q) :: rs)) (fun (r15:ByteArray) r15s e fr st=>e = .exit 0∧∃ (r15q:Spare),Rd fr [(3,vS r15)]∧HL st (.rd i0 87 r15q (rdC r15s r15q) :: rs)) ⟨sp2,H.tq,K⟩ (by rintro _ s fr st ⟨h,_⟩ <;> cases h) ?_ ?_
 ·rintro s4 s4s fr st y Q ⟨s4q,H,K⟩ hr hp hq
  refine sr (qg 1 [(7,vB (decide (s4.2 < 2)))] H fun _ H=>qe (W_seq ?_))
  rcases csplit hr with ⟨c5,hr⟩|⟨c5,hr⟩
  rotate_left
  ·refine qF H c5 ?_
   refine W_exit ?_
   exact hq _ _ (sj hr).symm _ _ _ ⟨rfl,s4q,H.tq,K⟩
  refine qT H c5 (W_skip (W_seq (W_block (W_seq (W_seq (W_reg (qg 1 [(8,.ptr i0 0)] H fun _ H=>?_)))))))
  refine qp [] [] hr (fun a s h=>F88_R  _ _ a s h K) K H (fun e s h q st K=>hp e s h q _ _ K) fun x6 s8 hr sp7 st K fr H=>qg 1 [(10,vB !x6)] H fun _ H=>qe ?_
  rcases csplit hr with ⟨c9,hr⟩|⟨c9,hr⟩
  ·refine qT H c9 ?_
   refine W_exit ?_
   exact hq _ _ (sj hr).symm _ _ _ ⟨rfl,sp7,H.tq,K⟩
  refine qF H c9 (W_skip (W_reg (qg 2 [(11,vS s4.1),(12,.ptr i0 0)] H fun _ H=>?_)))
  refine qp [] [] hr (fun a s h=>F92_R  _ a s h K) K H (fun e s h q st K=>hp e s h q _ _ K) fun x10 s12 hr sp11 st K fr H=>?_
  obtain ⟨x13,hx13,hr⟩:=obind hr
  refine qv (.bin .add 9 (.const (.string (bs [46]))) (.tmp 13) (vS (bs [46])) (vS x10)) H (run_cat hx13) fun _ H=>?_
  obtain ⟨x14,hx14,hr⟩:=obind hr
  refine qv (.bin .add 9 (.tmp 11) (.tmp 14) (vS s4.1) (vS x13)) H (run_cat hx14) fun _ H=>qg 1 [(3,vS x14)] H fun _ H=>qe (W_reg (qg 2 [(6,vI (w64 (s4.2 + 1)))] H fun _ H=>qe ?_))
  exact hq _ _ (sj hr).symm _ _ _ ⟨rfl,sp11,H.tq,K⟩
 intro r15 r15s hr
 rintro e fr st ⟨rfl,r15q,H,K⟩
 refine sr (qg 2 [(2,vS r15)] H fun _ H=>qe (W_ret ?_))
 exact hq _ _ (sj hr).symm r15q _ _ _ (e_retV [vS r15] H K (fun _=>resT (by kernel_rfl) resN) K)
def F156 (a0:ByteArray):Option Int :=
 bif strEq a0 (bs [61,61,62]) then
  (some (2:Int))
 else
  (bif strEq a0 (bs [124,124]) then
   (some (3:Int))
  else
   (bif strEq a0 (bs [38,38]) then
    (some (4:Int))
   else
    ((bif strEq a0 (bs [61,61]) then
      (some (strEq a0 (bs [61,61])))
     else
      (bif strEq a0 (bs [33,61]) then
       (some (strEq a0 (bs [33,61])))
      else
       (bif strEq a0 (bs [60]) then
        (some (strEq a0 (bs [60])))
       else
        (some (strEq a0 (bs [60,61]))))):Option (Bool)).bind fun j7 =>
    bif j7 then
     (some (5:Int))
    else
     (bif strEq a0 (bs [124]) then
      (some (6:Int))
     else
      (bif strEq a0 (bs [94]) then
       (some (7:Int))
      else
       (bif strEq a0 (bs [38]) then
        (some (8:Int))
       else
        ((bif strEq a0 (bs [43]) then
          (some (strEq a0 (bs [43])))
         else
          (some (strEq a0 (bs [45]))):Option (Bool)).bind fun j13 =>
        bif j13 then
         (some (9:Int))
        else
         (bif strEq a0 (bs [42]) then
          (some (10:Int))
         else
          (some (0:Int))))))))))
theorem F156_R (a0:ByteArray) (r:Int) (hr:F156 a0 = some r) {st:St}:R Tryz.prog AN 156 [vS a0] st (.ret (vI r)) st:=by
 unfold F156 at hr
 refine R_pureX [vS a0] [(0,vS a0)] Tryz.func156 rfl (by kernel_rfl) rfl fun fr st H K=>sr (qg 1 [] H fun _ H=>qe (W_seq (W_seq (W_reg (qg 1 [(3,vS a0)] H fun _ H=>qe (W_block (sr (qg 2 [(4,vB (strEq a0 (bs [61,61,62])))] H fun _ H=>qe ?_))))))))
 rcases csplit hr with ⟨c1,hr⟩|⟨c1,hr⟩
 ·refine qT H c1 (sr (qg 1 [(2,vI 2)] H fun _ H=>qe (W_ret ?_)))
  cases hr
  exact qr [vI 2] H K
 refine qF H c1 (sr (qg 2 [(6,vB (strEq a0 (bs [124,124])))] H fun _ H=>qe ?_))
 rcases csplit hr with ⟨c2,hr⟩|⟨c2,hr⟩
 ·refine qT H c2 (sr (qg 1 [(2,vI 3)] H fun _ H=>qe (W_ret ?_)))
  cases hr
  exact qr [vI 3] H K
 refine qF H c2 (sr (qg 2 [(8,vB (strEq a0 (bs [38,38])))] H fun _ H=>qe ?_))
 rcases csplit hr with ⟨c3,hr⟩|⟨c3,hr⟩
 ·refine qT H c3 (sr (qg 1 [(2,vI 4)] H fun _ H=>qe (W_ret ?_)))
  cases hr
  exact qr [vI 4] H K
 refine qF H c3 (W_seq ?_)
 obtain ⟨j7,hj7,hr⟩:=obind hr
 refine W_via (fun e fr st=>e = .normal∧Rd fr [(3,vS a0),(10,vB j7)]∧HL st []) ?_ ?_
 ·replace hr:=hj7
  refine sr (qg 2 [(10,vB (strEq a0 (bs [61,61])))] H fun _ H=>qe ?_)
  rcases csplit hr with ⟨c4,hr⟩|⟨c4,hr⟩
  ·refine qT H c4 (W_skip ?_)
   cases hr
   exact ⟨rfl,H.tq,K.keep []⟩
  refine qF H c4 (sr (qg 2 [(10,vB (strEq a0 (bs [33,61])))] H fun _ H=>qe ?_))
  rcases csplit hr with ⟨c5,hr⟩|⟨c5,hr⟩
  ·refine qT H c5 (W_skip ?_)
   cases hr
   exact ⟨rfl,H.tq,K.keep []⟩
  refine qF H c5 (sr (qg 2 [(10,vB (strEq a0 (bs [60])))] H fun _ H=>qe ?_))
  rcases csplit hr with ⟨c6,hr⟩|⟨c6,hr⟩
  ·refine qT H c6 (W_skip ?_)
   cases hr
   exact ⟨rfl,H.tq,K.keep []⟩
  refine qF H c6 (W_reg (qg 2 [(10,vB (strEq a0 (bs [60,61])))] H fun _ H=>qe ?_))
  cases hr
  exact ⟨rfl,H.tq,K.keep []⟩
 rintro e fr st ⟨rfl,H,K⟩
 rcases csplit hr with ⟨c8,hr⟩|⟨c8,hr⟩
 ·refine qT H c8 (sr (qg 1 [(2,vI 5)] H fun _ H=>qe (W_ret ?_)))
  cases hr
  exact qr [vI 5] H K
 refine qF H c8 (sr (qg 2 [(15,vB (strEq a0 (bs [124])))] H fun _ H=>qe ?_))
 rcases csplit hr with ⟨c9,hr⟩|⟨c9,hr⟩
 ·refine qT H c9 (sr (qg 1 [(2,vI 6)] H fun _ H=>qe (W_ret ?_)))
  cases hr
  exact qr [vI 6] H K
 refine qF H c9 (sr (qg 2 [(17,vB (strEq a0 (bs [94])))] H fun _ H=>qe ?_))
 rcases csplit hr with ⟨c10,hr⟩|⟨c10,hr⟩
 ·refine qT H c10 (sr (qg 1 [(2,vI 7)] H fun _ H=>qe (W_ret ?_)))
  cases hr
  exact qr [vI 7] H K
 refine qF H c10 (sr (qg 2 [(19,vB (strEq a0 (bs [38])))] H fun _ H=>qe ?_))
 rcases csplit hr with ⟨c11,hr⟩|⟨c11,hr⟩
 ·refine qT H c11 (sr (qg 1 [(2,vI 8)] H fun _ H=>qe (W_ret ?_)))
  cases hr
  exact qr [vI 8] H K
 refine qF H c11 (W_seq ?_)
 obtain ⟨j13,hj13,hr⟩:=obind hr
 refine W_via (fun e fr st=>e = .normal∧Rd fr [(3,vS a0),(21,vB j13)]∧HL st []) ?_ ?_
 ·replace hr:=hj13
  refine sr (qg 2 [(21,vB (strEq a0 (bs [43])))] H fun _ H=>qe ?_)
  rcases csplit hr with ⟨c12,hr⟩|⟨c12,hr⟩
  ·refine qT H c12 (W_skip ?_)
   cases hr
   exact ⟨rfl,H.tq,K.keep []⟩
  refine qF H c12 (W_reg (qg 2 [(21,vB (strEq a0 (bs [45])))] H fun _ H=>qe ?_))
  cases hr
  exact ⟨rfl,H.tq,K.keep []⟩
 rintro e fr st ⟨rfl,H,K⟩
 rcases csplit hr with ⟨c14,hr⟩|⟨c14,hr⟩
 ·refine qT H c14 (sr (qg 1 [(2,vI 9)] H fun _ H=>qe (W_ret ?_)))
  cases hr
  exact qr [vI 9] H K
 refine qF H c14 (sr (qg 2 [(24,vB (strEq a0 (bs [42])))] H fun _ H=>qe ?_))
 rcases csplit hr with ⟨c15,hr⟩|⟨c15,hr⟩
 ·refine qT H c15 (sr (qg 1 [(2,vI 10)] H fun _ H=>qe (W_ret ?_)))
  cases hr
  exact qr [vI 10] H K
 refine qF H c15 (W_skip (sr (qg 1 [(2,vI 0)] H fun _ H=>qe (W_ret ?_))))
 cases hr
 exact qr [vI 0] H K
end Go.Proofs.YtbecjgckobhmpaaGreatDoor
end
section
namespace Go.Proofs.YtbecjgckobhmpaaGreatDoor
open Go Go.AM Go.Proofs
set_option maxRecDepth 100000
set_option maxHeartbeats 4000000
def F223_step (_:RS→Option ((Node ⊕ Bad) × RS)) (_:RS→Option ((Node ⊕ Bad) × RS)) (_:Int→RS→Option ((Node ⊕ Bad) × RS)) (_:RS→Option ((Node ⊕ Bad) × RS)) (F67:RS→Option ((Node ⊕ Bad) × RS)) (n:Nat) (s:RS):Option ((Node ⊕ Bad) × RS) :=
 (F91 s).bind fun x2 =>
 pbind (F152 n s) fun x4 s6 =>
 pbind (F88 (bs [91]) s6) fun x7 s9 =>
 bif x7 then
  (pbind (F67 s9) fun x11 s13 =>
  pbind (F93 (bs [93]) s13) fun _ s16 =>
  some (.inl (Node.mk 2 x4 (bs []) 0 0 0 false ([x11]:List Node) x2),s16))
 else
  (some (.inl (Node.mk 2 x4 (bs []) 0 0 0 false ([]:List Node) x2),s9))
def F199_step (F223:RS→Option ((Node ⊕ Bad) × RS)) (F199:RS→Option ((Node ⊕ Bad) × RS)) (_:Int→RS→Option ((Node ⊕ Bad) × RS)) (_:RS→Option ((Node ⊕ Bad) × RS)) (F67:RS→Option ((Node ⊕ Bad) × RS)) (_:Nat) (s:RS):Option ((Node ⊕ Bad) × RS) :=
 (F91 s).bind fun x2 =>
 pbind (F88 (bs [33]) s) fun x3 s5 =>
 bif x3 then
  (pbind (F199 s5) fun x7 s9 =>
  some (.inl (Node.mk 4 (bs []) (bs []) 0 0 0 false ([x7]:List Node) x2),s9))
 else
  ((F168 s5).bind fun x10 =>
  bif x10 == 2 then
   (pbind (F153 s5) fun x12 s14 =>
   some (.inl x12,s14))
  else
   (pbind (F88 (bs [111,108,100]) s5) fun x15 s17 =>
   bif x15 then
    (pbind (F93 (bs [40]) s17) fun _ s21 =>
    pbind (F223 s21) fun x22 s24 =>
    pbind (F93 (bs [41]) s24) fun _ s28 =>
    some (.inl (Node.mk 3 (bs []) (bs []) 0 0 0 false ([x22]:List Node) x2),s28))
   else
    (pbind (F88 (bs [40]) s17) fun x29 s31 =>
    bif x29 then
     (pbind (F67 s31) fun x33 s35 =>
     pbind (F93 (bs [41]) s35) fun _ s39 =>
     some (.inl x33,s39))
    else
     (pbind (F223 s31) fun x40 s42 =>
     some (.inl x40,s42)))))
def F167_step (_:RS→Option ((Node ⊕ Bad) × RS)) (F199:RS→Option ((Node ⊕ Bad) × RS)) (F167:Int→RS→Option ((Node ⊕ Bad) × RS)) (_:RS→Option ((Node ⊕ Bad) × RS)) (_:RS→Option ((Node ⊕ Bad) × RS)) (n:Nat) (a0:Int) (s:RS):Option ((Node ⊕ Bad) × RS) :=
 pbind (F199 s) fun x2 s4 =>
 pbind (iterP (σ:=Int × Node) (ρ:=Node) (ε:=Bad) (S:=RS) (fun s6 s6s=>(F101 s6s).bind fun x7 =>
  (F91 s6s).bind fun x8 =>
  (F156 x7).bind fun x9 =>
  bif ((x9 == 0) || (decide (x9 < a0))) || (decide (s6.1 < x9)) then
   (some (.inl (.inr s6.2),s6s))
  else
   (pbind (bif x9 == 2 then
     (pbind (F167 x9 (s6s.setNext (w64 (s6s.next + 1)))) fun x13 s15 =>
     some (.inl (w64 (x9 - 1),x13),s15))
    else
     (bif x9 == 5 then
      (pbind (F167 (w64 (x9 + 1)) (s6s.setNext (w64 (s6s.next + 1)))) fun x17 s19 =>
      some (.inl (w64 (x9 - 1),x17),s19))
     else
      (pbind (F167 (w64 (x9 + 1)) (s6s.setNext (w64 (s6s.next + 1)))) fun x20 s22 =>
      some (.inl (x9,x20),s22))):Option ((((Int × Node)) ⊕ Bad) × RS)) fun j23 j23s =>
   some (.inl (.inl (j23.1,(Node.mk 5 x7 (bs []) 0 0 0 false ([s6.2,j23.2]:List Node) x8))),j23s))) n ((10:Int),x2) s4) fun r24 r24s =>
 some (.inl r24,r24s)
def F102_step (_:RS→Option ((Node ⊕ Bad) × RS)) (_:RS→Option ((Node ⊕ Bad) × RS)) (F167:Int→RS→Option ((Node ⊕ Bad) × RS)) (F102:RS→Option ((Node ⊕ Bad) × RS)) (_:RS→Option ((Node ⊕ Bad) × RS)) (_:Nat) (s:RS):Option ((Node ⊕ Bad) × RS) :=
 pbind (F167 (2:Int) s) fun x2 s4 =>
 (F91 s4).bind fun x6 =>
 pbind (F88 (bs [63]) s4) fun x7 s9 =>
 bif !x7 then
  (some (.inl x2,s9))
 else
  (pbind (F102 s9) fun x11 s13 =>
  pbind (F93 (bs [58]) s13) fun _ s17 =>
  pbind (F102 s17) fun x18 s20 =>
  some (.inl (Node.mk 6 (bs []) (bs []) 0 0 0 false ([x2,x11,x18]:List Node) x6),s20))
def F67_step (_:RS→Option ((Node ⊕ Bad) × RS)) (_:RS→Option ((Node ⊕ Bad) × RS)) (_:Int→RS→Option ((Node ⊕ Bad) × RS)) (F102:RS→Option ((Node ⊕ Bad) × RS)) (F67:RS→Option ((Node ⊕ Bad) × RS)) (_:Nat) (s:RS):Option ((Node ⊕ Bad) × RS) :=
 pbind ((F101 s).bind fun x2 =>
  bif strEq x2 (bs [97,108,108]) then
   (some (.inl (.inl (7:Int)),s))
  else
   (bif strEq x2 (bs [115,111,109,101]) then
    (some (.inl (.inl (8:Int)),s))
   else
    (pbind (F102 s) fun x5 s7 =>
    some (.inl (.inr x5),s7))):Option (((Int ⊕ Node) ⊕ Bad) × RS)) fun j8 j8s=>match j8 with
 | .inl j8a=>(F91 j8s).bind fun x9 =>
  pbind (F92 (j8s.setNext (w64 (j8s.next + 1)))) fun x11 s13 =>
  pbind (F93 (bs [60]) s13) fun _ s16 =>
  pbind (F103 s16) fun x17 s19 =>
  pbind (F93 (bs [58]) s19) fun _ s22 =>
  pbind (F67 s22) fun x23 s25 =>
  some (.inl (Node.mk j8a x11 (bs []) x17 0 0 false ([x23]:List Node) x9),s25)
 | .inr j8b=>some (.inl j8b,j8s)
mutual
def F223:Nat→RS→Option ((Node ⊕ Bad) × RS)
 | 0,_=>none
 | n + 1,s=>F223_step (F223 n) (F199 n) (F167 n) (F102 n) (F67 n) n s
def F199:Nat→RS→Option ((Node ⊕ Bad) × RS)
 | 0,_=>none
 | n + 1,s=>F199_step (F223 n) (F199 n) (F167 n) (F102 n) (F67 n) n s
def F167:Nat→Int→RS→Option ((Node ⊕ Bad) × RS)
 | 0,_,_=>none
 | n + 1,a0,s=>F167_step (F223 n) (F199 n) (F167 n) (F102 n) (F67 n) n a0 s
def F102:Nat→RS→Option ((Node ⊕ Bad) × RS)
 | 0,_=>none
 | n + 1,s=>F102_step (F223 n) (F199 n) (F167 n) (F102 n) (F67 n) n s
def F67:Nat→RS→Option ((Node ⊕ Bad) × RS)
 | 0,_=>none
 | n + 1,s=>F67_step (F223 n) (F199 n) (F167 n) (F102 n) (F67 n) n s
end
theorem F223_RR (n:Nat):(∀ (s:RS) (r:Node ⊕ Bad) (s2:RS),F223 n s = some (r,s2)→∀ {st:St} {rs:List Res} {i0:Nat} {p:Spare} (_:HL st (.rd i0 87 p (rdC s p) :: rs)),∃ (q:Spare) (st':St),R Tryz.prog AN 223 [.ptr i0 0] st (gotE encW (fun v=>aN v) r) st'∧HL st' (.rd i0 87 q (rdC s2 q) :: rs))∧(∀ (s:RS) (r:Node ⊕ Bad) (s2:RS),F199 n s = some (r,s2)→∀ {st:St} {rs:List Res} {i0:Nat} {p:Spare} (_:HL st (.rd i0 87 p (rdC s p) :: rs)),∃ (q:Spare) (st':St),R Tryz.prog AN 199 [.ptr i0 0] st (gotE encW (fun v=>aN v) r) st'∧HL st' (.rd i0 87 q (rdC s2 q) :: rs))∧(∀ (a0:Int) (s:RS) (r:Node ⊕ Bad) (s2:RS),F167 n a0 s = some (r,s2)→∀ {st:St} {rs:List Res} {i0:Nat} {p:Spare} (_:HL st (.rd i0 87 p (rdC s p) :: rs)),∃ (q:Spare) (st':St),R Tryz.prog AN 167 [.ptr i0 0,vI a0] st (gotE encW (fun v=>aN v) r) st'∧HL st' (.rd i0 87 q (rdC s2 q) :: rs))∧(∀ (s:RS) (r:Node ⊕ Bad) (s2:RS),F102 n s = some (r,s2)→∀ {st:St} {rs:List Res} {i0:Nat} {p:Spare} (_:HL st (.rd i0 87 p (rdC s p) :: rs)),∃ (q:Spare) (st':St),R Tryz.prog AN 102 [.ptr i0 0] st (gotE encW (fun v=>aN v) r) st'∧HL st' (.rd i0 87 q (rdC s2 q) :: rs))∧(∀ (s:RS) (r:Node ⊕ Bad) (s2:RS),F67 n s = some (r,s2)→∀ {st:St} {rs:List Res} {i0:Nat} {p:Spare} (_:HL st (.rd i0 87 p (rdC s p) :: rs)),∃ (q:Spare) (st':St),R Tryz.prog AN 67 [.ptr i0 0] st (gotE encW (fun v=>aN v) r) st'∧HL st' (.rd i0 87 q (rdC s2 q) :: rs)):=by
 induction n with
 | zero=>exact ⟨by intros; contradiction,by intros; contradiction,by intros; contradiction,by intros; contradiction,by intros; contradiction⟩
 | succ n ih =>
  obtain ⟨ih_F223,ih_F199,ih_F167,ih_F102,ih_F67⟩:=ih
  refine ⟨?_,?_,?_,?_,?_⟩
  ·intro s r s2 hr st rs i0 p K
   change F223_step (F223 n) (F199 n) (F167 n) (F102 n) (F67 n) n s = some (r,s2) at hr
   unfold F223_step at hr
   refine R_panX (ew:=encW) (enc:=fun v (q:Spare)=>aN v) (post:=fun s (q:Spare)=>.rd i0 87 q (rdC s q) :: rs) [(0,.ptr i0 0)] Tryz.func223 rfl rfl fun fr Q H hp hq=>sr ?_
   refine qal 24 zL H K fun id1 st K fr H=>qe (sr (qg 1 [(4,.ptr i0 0)] H fun _ H=>?_))
   refine ql hr (fun x h=>F91_R  _ x h (K.front 1 rfl)) H fun x2 hr fr H=>qg 1 [(6,.agg [vI 2,vS (bs []),vS (bs []),vI 0,vI 0,vI 0,vB false,vL tNode ([]:List Node) .nil,vI x2])] H fun _ H=>?_
   refine qal 24 zL H K fun id3 st K fr H=>?_
   refine qst 24 0 (.agg [vI 2,vS (bs []),vS (bs []),vI 0,vI 0,vI 0,vB false,vL tNode ([]:List Node) .nil,vI x2]) [vI 2,vS (bs []),vS (bs []),vI 0,vI 0,vI 0,vB false,vL tNode ([]:List Node) .nil,vI x2] 0 H K rfl fun st K fr H=>qe (sr (qg 1 [(7,.ptr i0 0)] H fun _ H=>?_))
   refine qp [] [] hr (fun a s h=>F152_R n _ a s h (K.front 2 rfl)) K H (fun e s h q st K=>hp e s h q _ _ (K.keep [true,false,false])) fun x4 s6 hr sp5 st K fr H=>qg 1 [(9,.ptr id3 1)] H fun _ H=>?_
   refine qst 9 1 (vS x4) [vI 2,vS x4,vS (bs []),vI 0,vI 0,vI 0,vB false,vL tNode ([]:List Node) .nil,vI x2] 1 H K rfl fun st K fr H=>qe (W_seq (W_seq (W_reg (qg 1 [(10,.ptr i0 0)] H fun _ H=>?_))))
   refine qp [] [] hr (fun a s h=>F88_R  _ _ a s h K) K H (fun e s h q st K=>hp e s h q _ _ (K.keep [true,false,false])) fun x7 s9 hr sp8 st K fr H=>qe ?_
   rcases csplit hr with ⟨c10,hr⟩|⟨c10,hr⟩
   rotate_left
   ·refine qF H c10 (W_skip (sr ?_))
    refine qld 24 0 (.agg [vI 2,vS x4,vS (bs []),vI 0,vI 0,vI 0,vB false,vL tNode ([]:List Node) .shut,vI x2]) 1 H K rfl fun _ H=>?_
    refine qst 24 0 (.agg [vI 2,vS x4,vS (bs []),vI 0,vI 0,vI 0,vB false,vL tNode ([]:List Node) .shut,vI x2]) [vI 2,vS x4,vS (bs []),vI 0,vI 0,vI 0,vB false,vL tNode ([]:List Node) .shut,vI x2] 2 H K rfl fun st K fr H=>qe (W_ret ?_)
    exact hq _ _ (sj hr).symm sp8 _ _ _ (e_retV [.agg [vI 2,vS x4,vS (bs []),vI 0,vI 0,vI 0,vB false,vL tNode ([]:List Node) .shut,vI x2]] H K (fun _=>resC id1 0 24 [vI 2,vS x4,vS (bs []),vI 0,vI 0,vI 0,vB false,vL tNode ([]:List Node) .shut,vI x2] 2 (by kernel_rfl) rfl (by kernel_rfl) resN) ((K).keep [true,false,false]))
   refine qT H c10 (sr (qg 1 [(12,.ptr i0 0)] H fun _ H=>?_))
   refine qp [] [] hr (fun a s h=>ih_F67 _ a s h K) K H (fun e s h q st K=>hp e s h q _ _ (K.keep [true,false,false])) fun x11 s13 hr sp12 st K fr H=>?_
   refine qv (.buildSlice 22 1 [(0,aN x11)]) H (run_bslice (v:=vL tNode ([x11]:List Node) .full) (v0:=.slice [aN x11] .full) (by kernel_rfl) (by simp only [List.map,vL,tNode_e,eNode_eq,cNode] <;> rfl)) fun _ H=>qg 1 [(15,.ptr id3 7)] H fun _ H=>?_
   refine qst 22 7 (vL tNode ([x11]:List Node) .full) [vI 2,vS x4,vS (bs []),vI 0,vI 0,vI 0,vB false,vL tNode ([x11]:List Node) .full,vI x2] 1 H K rfl fun st K fr H=>qe (W_reg (qg 1 [(16,.ptr i0 0)] H fun _ H=>?_))
   refine qp [] [] hr (fun a s h=>F93_R  _ _ a s h K) K H (fun e s h q st K=>hp e s h q _ _ (K.keep [true,false,false])) fun x14 s16 hr sp15 st K fr H=>qe (sr ?_)
   refine qld 24 0 (.agg [vI 2,vS x4,vS (bs []),vI 0,vI 0,vI 0,vB false,vL tNode ([x11]:List Node) .shut,vI x2]) 1 H K rfl fun _ H=>?_
   refine qst 24 0 (.agg [vI 2,vS x4,vS (bs []),vI 0,vI 0,vI 0,vB false,vL tNode ([x11]:List Node) .shut,vI x2]) [vI 2,vS x4,vS (bs []),vI 0,vI 0,vI 0,vB false,vL tNode ([x11]:List Node) .shut,vI x2] 2 H K rfl fun st K fr H=>qe (W_ret ?_)
   exact hq _ _ (sj hr).symm sp15 _ _ _ (e_retV [.agg [vI 2,vS x4,vS (bs []),vI 0,vI 0,vI 0,vB false,vL tNode ([x11]:List Node) .shut,vI x2]] H K (fun _=>resC id1 0 24 [vI 2,vS x4,vS (bs []),vI 0,vI 0,vI 0,vB false,vL tNode ([x11]:List Node) .shut,vI x2] 2 (by kernel_rfl) rfl (by kernel_rfl) resN) ((K).keep [true,false,false]))
  ·intro s r s2 hr st rs i0 p K
   change F199_step (F223 n) (F199 n) (F167 n) (F102 n) (F67 n) n s = some (r,s2) at hr
   unfold F199_step at hr
   refine R_panX (ew:=encW) (enc:=fun v (q:Spare)=>aN v) (post:=fun s (q:Spare)=>.rd i0 87 q (rdC s q) :: rs) [(0,.ptr i0 0)] Tryz.func199 rfl rfl fun fr Q H hp hq=>sr ?_
   refine qal 24 zL H K fun id1 st K fr H=>qe (sr (qg 1 [(6,.ptr i0 0)] H fun _ H=>?_))
   refine ql hr (fun x h=>F91_R  _ x h (K.front 1 rfl)) H fun x2 hr fr H=>qg 1 [(3,vI x2)] H fun _ H=>qe (W_seq (W_block (sr (qg 1 [(9,.ptr i0 0)] H fun _ H=>?_))))
   refine qp [] [] hr (fun a s h=>F88_R  _ _ a s h (K.front 1 rfl)) K H (fun e s h q st K=>hp e s h q _ _ (K.keep [true,false])) fun x3 s5 hr sp4 st K fr H=>qg 1 [(8,vB x3)] H fun _ H=>qe ?_
   rcases csplit hr with ⟨c6,hr⟩|⟨c6,hr⟩
   ·refine qT H c6 (sr (qg 1 [(11,.ptr i0 0)] H fun _ H=>?_))
    refine qp [] [] hr (fun a s h=>ih_F199 _ a s h K) K H (fun e s h q st K=>hp e s h q _ _ (K.keep [true,false])) fun x7 s9 hr sp8 st K fr H=>?_
    refine qv (.buildSlice 22 1 [(0,aN x7)]) H (run_bslice (v:=vL tNode ([x7]:List Node) .full) (v0:=.slice [aN x7] .full) (by kernel_rfl) (by simp only [List.map,vL,tNode_e,eNode_eq,cNode] <;> rfl)) fun _ H=>qg 2 [(15,.agg [vI 4,vS (bs []),vS (bs []),vI 0,vI 0,vI 0,vB false,vL tNode ([x7]:List Node) .shut,vI x2])] H fun _ H=>?_
    refine qst 24 0 (.agg [vI 4,vS (bs []),vS (bs []),vI 0,vI 0,vI 0,vB false,vL tNode ([x7]:List Node) .shut,vI x2]) [vI 4,vS (bs []),vS (bs []),vI 0,vI 0,vI 0,vB false,vL tNode ([x7]:List Node) .shut,vI x2] 1 H K rfl fun st K fr H=>qe (W_ret ?_)
    exact hq _ _ (sj hr).symm sp8 _ _ _ (e_retV [.agg [vI 4,vS (bs []),vS (bs []),vI 0,vI 0,vI 0,vB false,vL tNode ([x7]:List Node) .shut,vI x2]] H K (fun _=>resC id1 0 24 [vI 4,vS (bs []),vS (bs []),vI 0,vI 0,vI 0,vB false,vL tNode ([x7]:List Node) .shut,vI x2] 1 (by kernel_rfl) rfl (by kernel_rfl) resN) ((K).keep [true,false]))
   refine qF H c6 (sr (qg 1 [(17,.ptr i0 0)] H fun _ H=>?_))
   refine ql hr (fun x h=>F168_R  _ x h K) H fun x10 hr fr H=>qg 2 [(16,vB (x10 == 2))] H fun _ H=>qe ?_
   rcases csplit hr with ⟨c11,hr⟩|⟨c11,hr⟩
   ·refine qT H c11 (sr (qg 1 [(20,.ptr i0 0)] H fun _ H=>?_))
    refine qp [] [] hr (fun a s h=>F153_R  _ a s h K) K H (fun e s h q st K=>hp e s h q _ _ (K.keep [true,false])) fun x12 s14 hr sp13 st K fr H=>?_
    refine qst 24 0 (aN x12) [vI x12.kind,vS x12.name,vS x12.other,vI x12.n,vI x12.len,vI x12.init,vB x12.ghost,vL tNode x12.kids .shut,vI x12.pos] 1 H K rfl fun st K fr H=>qe (W_ret ?_)
    exact hq _ _ (sj hr).symm sp13 _ _ _ (e_retV [aN x12] H K (fun _=>resC id1 0 24 [vI x12.kind,vS x12.name,vS x12.other,vI x12.n,vI x12.len,vI x12.init,vB x12.ghost,vL tNode x12.kids .shut,vI x12.pos] 1 (by kernel_rfl) rfl (by kernel_rfl) resN) ((K).keep [true,false]))
   refine qF H c11 (sr (qg 1 [(23,.ptr i0 0)] H fun _ H=>?_))
   refine qp [] [] hr (fun a s h=>F88_R  _ _ a s h K) K H (fun e s h q st K=>hp e s h q _ _ (K.keep [true,false])) fun x15 s17 hr sp16 st K fr H=>qg 1 [(22,vB x15)] H fun _ H=>qe ?_
   rcases csplit hr with ⟨c18,hr⟩|⟨c18,hr⟩
   ·refine qT H c18 (sr (qg 1 [(25,.ptr i0 0)] H fun _ H=>?_))
    refine qp [] [] hr (fun a s h=>F93_R  _ _ a s h K) K H (fun e s h q st K=>hp e s h q _ _ (K.keep [true,false])) fun x19 s21 hr sp20 st K fr H=>qe (sr (qg 1 [(27,.ptr i0 0)] H fun _ H=>?_))
    refine qp [] [] hr (fun a s h=>ih_F223 _ a s h K) K H (fun e s h q st K=>hp e s h q _ _ (K.keep [true,false])) fun x22 s24 hr sp23 st K fr H=>?_
    refine qv (.buildSlice 22 1 [(0,aN x22)]) H (run_bslice (v:=vL tNode ([x22]:List Node) .full) (v0:=.slice [aN x22] .full) (by kernel_rfl) (by simp only [List.map,vL,tNode_e,eNode_eq,cNode] <;> rfl)) fun _ H=>qg 2 [(31,.agg [vI 3,vS (bs []),vS (bs []),vI 0,vI 0,vI 0,vB false,vL tNode ([x22]:List Node) .shut,vI x2])] H fun _ H=>?_
    refine qal 24 zL H K fun id25 st K fr H=>?_
    refine qst 24 0 (.agg [vI 3,vS (bs []),vS (bs []),vI 0,vI 0,vI 0,vB false,vL tNode ([x22]:List Node) .shut,vI x2]) [vI 3,vS (bs []),vS (bs []),vI 0,vI 0,vI 0,vB false,vL tNode ([x22]:List Node) .shut,vI x2] 0 H K rfl fun st K fr H=>qe (sr (qg 1 [(32,.ptr i0 0)] H fun _ H=>?_))
    refine qp [] [] hr (fun a s h=>F93_R  _ _ a s h (K.front 1 rfl)) K H (fun e s h q st K=>hp e s h q _ _ (K.keep [true,false,false])) fun x26 s28 hr sp27 st K fr H=>qe (sr ?_)
    refine qld 24 0 (.agg [vI 3,vS (bs []),vS (bs []),vI 0,vI 0,vI 0,vB false,vL tNode ([x22]:List Node) .shut,vI x2]) 1 H K rfl fun _ H=>?_
    refine qst 24 0 (.agg [vI 3,vS (bs []),vS (bs []),vI 0,vI 0,vI 0,vB false,vL tNode ([x22]:List Node) .shut,vI x2]) [vI 3,vS (bs []),vS (bs []),vI 0,vI 0,vI 0,vB false,vL tNode ([x22]:List Node) .shut,vI x2] 2 H K rfl fun st K fr H=>qe (W_ret ?_)
    exact hq _ _ (sj hr).symm sp27 _ _ _ (e_retV [.agg [vI 3,vS (bs []),vS (bs []),vI 0,vI 0,vI 0,vB false,vL tNode ([x22]:List Node) .shut,vI x2]] H K (fun _=>resC id1 0 24 [vI 3,vS (bs []),vS (bs []),vI 0,vI 0,vI 0,vB false,vL tNode ([x22]:List Node) .shut,vI x2] 2 (by kernel_rfl) rfl (by kernel_rfl) resN) ((K).keep [true,false,false]))
   refine qF H c18 (sr (qg 1 [(36,.ptr i0 0)] H fun _ H=>?_))
   refine qp [] [] hr (fun a s h=>F88_R  _ _ a s h K) K H (fun e s h q st K=>hp e s h q _ _ (K.keep [true,false])) fun x29 s31 hr sp30 st K fr H=>qg 1 [(35,vB x29)] H fun _ H=>qe ?_
   rcases csplit hr with ⟨c32,hr⟩|⟨c32,hr⟩
   rotate_left
   ·refine qF H c32 (W_skip (sr (qg 1 [(43,.ptr i0 0)] H fun _ H=>?_)))
    refine qp [] [] hr (fun a s h=>ih_F223 _ a s h K) K H (fun e s h q st K=>hp e s h q _ _ (K.keep [true,false])) fun x40 s42 hr sp41 st K fr H=>?_
    refine qst 24 0 (aN x40) [vI x40.kind,vS x40.name,vS x40.other,vI x40.n,vI x40.len,vI x40.init,vB x40.ghost,vL tNode x40.kids .shut,vI x40.pos] 1 H K rfl fun st K fr H=>qe (W_ret ?_)
    exact hq _ _ (sj hr).symm sp41 _ _ _ (e_retV [aN x40] H K (fun _=>resC id1 0 24 [vI x40.kind,vS x40.name,vS x40.other,vI x40.n,vI x40.len,vI x40.init,vB x40.ghost,vL tNode x40.kids .shut,vI x40.pos] 1 (by kernel_rfl) rfl (by kernel_rfl) resN) ((K).keep [true,false]))
   refine qT H c32 (sr (qg 1 [(38,.ptr i0 0)] H fun _ H=>?_))
   refine qp [] [] hr (fun a s h=>ih_F67 _ a s h K) K H (fun e s h q st K=>hp e s h q _ _ (K.keep [true,false])) fun x33 s35 hr sp34 st K fr H=>?_
   refine qal 24 zL H K fun id36 st K fr H=>?_
   refine qst 24 0 (aN x33) [vI x33.kind,vS x33.name,vS x33.other,vI x33.n,vI x33.len,vI x33.init,vB x33.ghost,vL tNode x33.kids .shut,vI x33.pos] 0 H K rfl fun st K fr H=>qe (sr (qg 1 [(40,.ptr i0 0)] H fun _ H=>?_))
   refine qp [] [] hr (fun a s h=>F93_R  _ _ a s h (K.front 1 rfl)) K H (fun e s h q st K=>hp e s h q _ _ (K.keep [true,false,false])) fun x37 s39 hr sp38 st K fr H=>qe (sr ?_)
   refine qld 24 0 (aN x33) 1 H K rfl fun _ H=>?_
   refine qst 24 0 (aN x33) [vI x33.kind,vS x33.name,vS x33.other,vI x33.n,vI x33.len,vI x33.init,vB x33.ghost,vL tNode x33.kids .shut,vI x33.pos] 2 H K rfl fun st K fr H=>qe (W_ret ?_)
   exact hq _ _ (sj hr).symm sp38 _ _ _ (e_retV [aN x33] H K (fun _=>resC id1 0 24 [vI x33.kind,vS x33.name,vS x33.other,vI x33.n,vI x33.len,vI x33.init,vB x33.ghost,vL tNode x33.kids .shut,vI x33.pos] 2 (by kernel_rfl) rfl (by kernel_rfl) resN) ((K).keep [true,false,false]))
  ·intro a0 s r s2 hr st rs i0 p K
   change F167_step (F223 n) (F199 n) (F167 n) (F102 n) (F67 n) n a0 s = some (r,s2) at hr
   unfold F167_step at hr
   refine R_panX (ew:=encW) (enc:=fun v (q:Spare)=>aN v) (post:=fun s (q:Spare)=>.rd i0 87 q (rdC s q) :: rs) [(0,.ptr i0 0),(1,vI a0)] Tryz.func167 rfl rfl fun fr Q H hp hq=>sr ?_
   refine qal 24 zL H K fun id1 st K fr H=>qe (sr (qg 1 [(11,.ptr i0 0)] H fun _ H=>?_))
   refine qp [] [] hr (fun a s h=>ih_F199 _ a s h (K.front 1 rfl)) K H (fun e s h q st K=>hp e s h q _ _ (K.keep [true,false])) fun x2 s4 hr sp3 st K fr H=>?_
   refine qal 24 zL H K fun id5 st K fr H=>?_
   refine qst 24 0 (aN x2) [vI x2.kind,vS x2.name,vS x2.other,vI x2.n,vI x2.len,vI x2.init,vB x2.ghost,vL tNode x2.kids .shut,vI x2.pos] 0 H K rfl fun st K fr H=>qe (sr (qg 1 [(6,vI 10)] H fun _ H=>qe (W_block ?_)))
   refine W_iterP hr hp (fun (s6:Int × Node) s6s fr st=>∃ (s6q:Spare),Rd fr [(0,.ptr i0 0),(1,vI a0),(4,.ptr id1 0),(5,.ptr id5 0),(6,vI s6.1)]∧HL st (.obj id5 (.cells 24 [vI s6.2.kind,vS s6.2.name,vS s6.2.other,vI s6.2.n,vI s6.2.len,vI s6.2.init,vB s6.2.ghost,vL tNode s6.2.kids .shut,vI s6.2.pos]) :: .rd i0 87 s6q (rdC s6s s6q) :: .obj id1 (.cells 24 zL) :: rs)) (fun (r24:Node) r24s e fr st=>e = .ret∧∃ (r24q:Spare),Rd fr [(4,.ptr id1 0)]∧HL st (.rd i0 87 r24q (rdC r24s r24q) :: .obj id1 (.cells 24 [vI r24.kind,vS r24.name,vS r24.other,vI r24.n,vI r24.len,vI r24.init,vB r24.ghost,vL tNode r24.kids .shut,vI r24.pos]) :: rs)) ⟨sp3,H.tq,K⟩ (by rintro _ s fr st ⟨h,_⟩ <;> cases h) ?_ ?_
   ·rintro s6 s6s fr st y Q ⟨s6q,H,K⟩ hr hp hq
    refine W_block (sr (qg 1 [(13,.ptr i0 0)] H fun _ H=>?_))
    refine ql hr (fun x h=>F101_R  _ x h (K.front 1 rfl)) H fun x7 hr fr H=>qg 1 [(15,.ptr i0 0)] H fun _ H=>?_
    refine ql hr (fun x h=>F91_R  _ x h (K.front 1 rfl)) H fun x8 hr fr H=>qg 2 [(7,vS x7),(8,vI x8)] H fun _ H=>qe (sr (qg 1 [(17,vS x7)] H fun _ H=>?_))
    refine qb hr (fun x h s=>F156_R  _ x h) H fun x9 hr fr H=>qg 1 [(9,vI x9)] H fun _ H=>qe (W_seq (W_seq (W_reg (qg 3 [(21,vB (x9 == 0))] H fun _ H=>qg 4 [(25,vB ((x9 == 0) || (decide (x9 < a0))))] H (hs:=by intro _ _; generalize (x9 == 0) = b0; cases b0 <;> kernel_rfl) fun _ H=>qg 1 [(26,vB ((x9 == 0) || (decide (x9 < a0))))] H fun _ H=>qg 4 [(30,vB (((x9 == 0) || (decide (x9 < a0))) || (decide (s6.1 < x9))))] H (hs:=by intro _ _; generalize ((x9 == 0) || (decide (x9 < a0))) = b0; cases b0 <;> kernel_rfl) fun _ H=>qe ?_))))
    rcases csplit hr with ⟨c10,hr⟩|⟨c10,hr⟩
    ·refine qT H c10 (sr ?_)
     refine qld 24 0 (aN s6.2) 0 H K rfl fun _ H=>?_
     refine qst 24 0 (aN s6.2) [vI s6.2.kind,vS s6.2.name,vS s6.2.other,vI s6.2.n,vI s6.2.len,vI s6.2.init,vB s6.2.ghost,vL tNode s6.2.kids .shut,vI s6.2.pos] 2 H K rfl fun st K fr H=>qe (W_ret ?_)
     exact hq _ _ (sj hr).symm _ _ _ ⟨rfl,s6q,H.tq,K.keep [false,true,true]⟩
    refine qF H c10 (W_skip (sr (qg 3 [(32,.ptr i0 0),(34,.ptr i0 1)] H fun _ H=>?_)))
    refine qldR 3 1 (vI s6s.next) 1 H K rfl fun _ H=>qg 3 [(36,vI (w64 (s6s.next + 1))),(38,.ptr i0 1)] H fun _ H=>?_
    refine qstR 3 1 (vI (w64 (s6s.next + 1))) (rdC (s6s.setNext (w64 (s6s.next + 1))) s6q) 1 H K rfl fun st K fr H=>qe (sr ?_)
    refine qal 24 zL H K fun id11 st K fr H=>qe (W_seq ?_)
    refine W_viaP (fun j23 j23s e fr st=>e = .normal∧∃ (j23q:Spare),Rd fr [(0,.ptr i0 0),(1,vI a0),(4,.ptr id1 0),(5,.ptr id5 0),(6,vI j23.1),(7,vS x7),(8,vI x8),(10,.ptr id11 0)]∧HL st (.rd i0 87 j23q (rdC j23s j23q) :: .obj id11 (.cells 24 [vI j23.2.kind,vS j23.2.name,vS j23.2.other,vI j23.2.n,vI j23.2.len,vI j23.2.init,vB j23.2.ghost,vL tNode j23.2.kids .shut,vI j23.2.pos]) :: .obj id5 (.cells 24 [vI s6.2.kind,vS s6.2.name,vS s6.2.other,vI s6.2.n,vI s6.2.len,vI s6.2.init,vB s6.2.ghost,vL tNode s6.2.kids .shut,vI s6.2.pos]) :: .obj id1 (.cells 24 zL) :: rs)) hr hp ?_ ?_
    ·intro y Q hr hp hq
     refine sr (qg 1 [(39,vI x9)] H fun _ H=>qe (W_block (sr (qg 2 [(45,vB (x9 == 2))] H fun _ H=>qe ?_))))
     rcases csplit hr with ⟨c12,hr⟩|⟨c12,hr⟩
     ·refine qT H c12 (W_reg (qg 2 [(47,.ptr i0 0),(48,vI x9)] H fun _ H=>?_))
      refine qp [] [] hr (fun a s h=>ih_F167 _ _ a s h (K.front 2 rfl)) K H (fun e s h q st K=>hp e s h q _ _ (K.keep [true,false,false,false])) fun x13 s15 hr sp14 st K fr H=>qg 2 [(51,vI (w64 (x9 - 1)))] H fun _ H=>?_
      refine qst 24 0 (aN x13) [vI x13.kind,vS x13.name,vS x13.other,vI x13.n,vI x13.len,vI x13.init,vB x13.ghost,vL tNode x13.kids .shut,vI x13.pos] 1 H K rfl fun st K fr H=>qg 1 [(6,vI (w64 (x9 - 1)))] H fun _ H=>qe ?_
      exact hq _ _ (sj hr).symm _ _ _ ⟨rfl,sp14,H.tq,K⟩
     refine qF H c12 (sr (qg 2 [(52,vB (x9 == 5))] H fun _ H=>qe ?_))
     rcases csplit hr with ⟨c16,hr⟩|⟨c16,hr⟩
     ·refine qT H c16 (W_reg (qg 3 [(54,.ptr i0 0),(56,vI (w64 (x9 + 1)))] H fun _ H=>?_))
      refine qp [] [] hr (fun a s h=>ih_F167 _ _ a s h (K.front 2 rfl)) K H (fun e s h q st K=>hp e s h q _ _ (K.keep [true,false,false,false])) fun x17 s19 hr sp18 st K fr H=>qg 2 [(59,vI (w64 (x9 - 1)))] H fun _ H=>?_
      refine qst 24 0 (aN x17) [vI x17.kind,vS x17.name,vS x17.other,vI x17.n,vI x17.len,vI x17.init,vB x17.ghost,vL tNode x17.kids .shut,vI x17.pos] 1 H K rfl fun st K fr H=>qg 1 [(6,vI (w64 (x9 - 1)))] H fun _ H=>qe ?_
      exact hq _ _ (sj hr).symm _ _ _ ⟨rfl,sp18,H.tq,K⟩
     refine qF H c16 (W_reg (qg 3 [(40,.ptr i0 0),(42,vI (w64 (x9 + 1)))] H fun _ H=>?_))
     refine qp [] [] hr (fun a s h=>ih_F167 _ _ a s h (K.front 2 rfl)) K H (fun e s h q st K=>hp e s h q _ _ (K.keep [true,false,false,false])) fun x20 s22 hr sp21 st K fr H=>qg 1 [(44,vI x9)] H fun _ H=>?_
     refine qst 24 0 (aN x20) [vI x20.kind,vS x20.name,vS x20.other,vI x20.n,vI x20.len,vI x20.init,vB x20.ghost,vL tNode x20.kids .shut,vI x20.pos] 1 H K rfl fun st K fr H=>qg 1 [(6,vI x9)] H fun _ H=>qe ?_
     exact hq _ _ (sj hr).symm _ _ _ ⟨rfl,sp21,H.tq,K⟩
    intro j23 j23s hr
    rintro e fr st ⟨rfl,j23q,H,K⟩
    refine W_reg (qg 1 [(60,vS x7)] H fun _ H=>?_)
    refine qld 24 0 (aN s6.2) 2 H K rfl fun _ H=>?_
    refine qld 24 0 (aN j23.2) 1 H K rfl fun _ H=>?_
    refine qv (.buildSlice 22 2 [(0,aN s6.2),(1,aN j23.2)]) H (run_bslice (v:=vL tNode ([s6.2,j23.2]:List Node) .full) (v0:=.slice [aN s6.2,aN j23.2] .full) (by kernel_rfl) (by simp only [List.map,vL,tNode_e,eNode_eq,cNode] <;> rfl)) fun _ H=>qg 2 [(65,.agg [vI 5,vS x7,vS (bs []),vI 0,vI 0,vI 0,vB false,vL tNode ([s6.2,j23.2]:List Node) .shut,vI x8])] H fun _ H=>?_
    refine qst 24 0 (.agg [vI 5,vS x7,vS (bs []),vI 0,vI 0,vI 0,vB false,vL tNode ([s6.2,j23.2]:List Node) .shut,vI x8]) [vI 5,vS x7,vS (bs []),vI 0,vI 0,vI 0,vB false,vL tNode ([s6.2,j23.2]:List Node) .shut,vI x8] 2 H K rfl fun st K fr H=>qe ?_
    exact hq _ _ (sj hr).symm _ _ _ ⟨rfl,j23q,H.tq,((((((K.keep [true,false,true,true]).front 2 rfl)).front 1 rfl)).front 2 rfl)⟩
   intro r24 r24s hr
   rintro e fr st ⟨rfl,r24q,H,K⟩
   exact hq _ _ (sj hr).symm r24q _ _ _ (e_retV [aN r24] H K (fun _=>resC id1 0 24 [vI r24.kind,vS r24.name,vS r24.other,vI r24.n,vI r24.len,vI r24.init,vB r24.ghost,vL tNode r24.kids .shut,vI r24.pos] 1 (by kernel_rfl) rfl (by kernel_rfl) resN) ((K).keep [true,false]))
  ·intro s r s2 hr st rs i0 p K
   change F102_step (F223 n) (F199 n) (F167 n) (F102 n) (F67 n) n s = some (r,s2) at hr
   unfold F102_step at hr
   refine R_panX (ew:=encW) (enc:=fun v (q:Spare)=>aN v) (post:=fun s (q:Spare)=>.rd i0 87 q (rdC s q) :: rs) [(0,.ptr i0 0)] Tryz.func102 rfl rfl fun fr Q H hp hq=>sr ?_
   refine qal 24 zL H K fun id1 st K fr H=>qe (sr (qg 1 [(6,.ptr i0 0)] H fun _ H=>?_))
   refine qp [] [] hr (fun a s h=>ih_F167 _ _ a s h (K.front 1 rfl)) K H (fun e s h q st K=>hp e s h q _ _ (K.keep [true,false])) fun x2 s4 hr sp3 st K fr H=>?_
   refine qal 24 zL H K fun id5 st K fr H=>?_
   refine qst 24 0 (aN x2) [vI x2.kind,vS x2.name,vS x2.other,vI x2.n,vI x2.len,vI x2.init,vB x2.ghost,vL tNode x2.kids .shut,vI x2.pos] 0 H K rfl fun st K fr H=>qe (sr (qg 1 [(8,.ptr i0 0)] H fun _ H=>?_))
   refine ql hr (fun x h=>F91_R  _ x h (K.front 1 rfl)) H fun x6 hr fr H=>qg 1 [(4,vI x6)] H fun _ H=>qe (W_seq (W_seq (W_reg (qg 1 [(10,.ptr i0 0)] H fun _ H=>?_))))
   refine qp [] [] hr (fun a s h=>F88_R  _ _ a s h (K.front 1 rfl)) K H (fun e s h q st K=>hp e s h q _ _ (K.keep [true,false,false])) fun x7 s9 hr sp8 st K fr H=>qg 1 [(12,vB !x7)] H fun _ H=>qe ?_
   rcases csplit hr with ⟨c10,hr⟩|⟨c10,hr⟩
   ·refine qT H c10 (sr ?_)
    refine qld 24 0 (aN x2) 1 H K rfl fun _ H=>?_
    refine qst 24 0 (aN x2) [vI x2.kind,vS x2.name,vS x2.other,vI x2.n,vI x2.len,vI x2.init,vB x2.ghost,vL tNode x2.kids .shut,vI x2.pos] 2 H K rfl fun st K fr H=>qe (W_ret ?_)
    exact hq _ _ (sj hr).symm sp8 _ _ _ (e_retV [aN x2] H K (fun _=>resC id1 0 24 [vI x2.kind,vS x2.name,vS x2.other,vI x2.n,vI x2.len,vI x2.init,vB x2.ghost,vL tNode x2.kids .shut,vI x2.pos] 2 (by kernel_rfl) rfl (by kernel_rfl) resN) ((K).keep [true,false,false]))
   refine qF H c10 (W_skip (sr (qg 1 [(14,.ptr i0 0)] H fun _ H=>?_)))
   refine qp [] [] hr (fun a s h=>ih_F102 _ a s h K) K H (fun e s h q st K=>hp e s h q _ _ (K.keep [true,false,false])) fun x11 s13 hr sp12 st K fr H=>?_
   refine qal 24 zL H K fun id14 st K fr H=>?_
   refine qst 24 0 (aN x11) [vI x11.kind,vS x11.name,vS x11.other,vI x11.n,vI x11.len,vI x11.init,vB x11.ghost,vL tNode x11.kids .shut,vI x11.pos] 0 H K rfl fun st K fr H=>qe (sr (qg 1 [(16,.ptr i0 0)] H fun _ H=>?_))
   refine qp [] [] hr (fun a s h=>F93_R  _ _ a s h (K.front 1 rfl)) K H (fun e s h q st K=>hp e s h q _ _ (K.keep [true,false,false,false])) fun x15 s17 hr sp16 st K fr H=>qe (W_seq (W_drw ?_))
   refine qld 24 0 (aN x2) 2 H K rfl fun _ H=>?_
   refine qld 24 0 (aN x11) 1 H K rfl fun _ H=>qg 1 [(20,.ptr i0 0)] H fun _ H=>?_
   refine qp [1,2,3] [1,2,3] hr (fun a s h=>ih_F102 _ a s h K) K H (fun e s h q st K=>qdP K [.look (some 2),.look (some 1),0] (hp e s h q _ _ (K.keep [true,false,false,false]))) fun x18 s20 hr sp19 st K fr H=>?_
   refine qv (.buildSlice 22 3 [(0,aN x2),(1,aN x11),(2,aN x18)]) H (run_bslice (v:=vL tNode ([x2,x11,x18]:List Node) .full) (v0:=.slice [aN x2,aN x11,aN x18] .full) (by kernel_rfl) (by simp only [List.map,vL,tNode_e,eNode_eq,cNode] <;> rfl)) fun _ H=>qg 2 [(24,.agg [vI 6,vS (bs []),vS (bs []),vI 0,vI 0,vI 0,vB false,vL tNode ([x2,x11,x18]:List Node) .shut,vI x6])] H fun _ H=>?_
   refine qst 24 0 (.agg [vI 6,vS (bs []),vS (bs []),vI 0,vI 0,vI 0,vB false,vL tNode ([x2,x11,x18]:List Node) .shut,vI x6]) [vI 6,vS (bs []),vS (bs []),vI 0,vI 0,vI 0,vB false,vL tNode ([x2,x11,x18]:List Node) .shut,vI x6] 3 H K rfl fun st K fr H=>qe (qdI K [.look (some 2),.look (some 1),0,.keep [1,2,3],0,0,0,.put 3] (W_ret ?_))
   exact hq _ _ (sj hr).symm sp19 _ _ _ (e_retV [.agg [vI 6,vS (bs []),vS (bs []),vI 0,vI 0,vI 0,vB false,vL tNode ([x2,x11,x18]:List Node) .shut,vI x6]] H K (fun _=>resC id1 0 24 [vI 6,vS (bs []),vS (bs []),vI 0,vI 0,vI 0,vB false,vL tNode ([x2,x11,x18]:List Node) .shut,vI x6] 3 (by kernel_rfl) rfl (by kernel_rfl) resN) ((K).keep [true,false,false,false]))
  ·intro s r s2 hr st rs i0 p K
   change F67_step (F223 n) (F199 n) (F167 n) (F102 n) (F67 n) n s = some (r,s2) at hr
   unfold F67_step at hr
   refine R_panX (ew:=encW) (enc:=fun v (q:Spare)=>aN v) (post:=fun s (q:Spare)=>.rd i0 87 q (rdC s q) :: rs) [(0,.ptr i0 0)] Tryz.func67 rfl rfl fun fr Q H hp hq=>sr ?_
   refine qal 24 zL H K fun id1 st K fr H=>qe (sr (qg 1 [] H fun _ H=>qe (W_seq ?_)))
   refine W_viaP (fun j8 j8s e fr st=>match j8 with | .inl j8a=>(e = .normal∧∃ (j8aq:Spare),Rd fr [(0,.ptr i0 0),(2,.ptr id1 0),(3,vI j8a)]∧HL st (.obj id1 (.cells 24 zL) :: .rd i0 87 j8aq (rdC j8s j8aq) :: rs)) | .inr j8b=>(e = .ret∧∃ (j8bq:Spare),Rd fr [(2,.ptr id1 0)]∧HL st (.rd i0 87 j8bq (rdC j8s j8bq) :: .obj id1 (.cells 24 [vI j8b.kind,vS j8b.name,vS j8b.other,vI j8b.n,vI j8b.len,vI j8b.init,vB j8b.ghost,vL tNode j8b.kids .shut,vI j8b.pos]) :: rs))) hr hp ?_ ?_
   ·intro y Q hr hp hq
    refine sr (qg 1 [(5,.ptr i0 0)] H fun _ H=>?_)
    refine ql hr (fun x h=>F101_R  _ x h (K.front 1 rfl)) H fun x2 hr fr H=>qe (W_block (sr (qg 2 [(9,vB (strEq x2 (bs [97,108,108])))] H fun _ H=>qe ?_)))
    rcases csplit hr with ⟨c3,hr⟩|⟨c3,hr⟩
    ·refine qT H c3 (W_reg (qg 1 [(3,vI 7)] H fun _ H=>qe ?_))
     exact hq _ _ (sj hr).symm _ _ _ ⟨rfl,p,H.tq,K⟩
    refine qF H c3 (sr (qg 2 [(11,vB (strEq x2 (bs [115,111,109,101])))] H fun _ H=>qe ?_))
    rcases csplit hr with ⟨c4,hr⟩|⟨c4,hr⟩
    ·refine qT H c4 (W_reg (qg 1 [(3,vI 8)] H fun _ H=>qe ?_))
     exact hq _ _ (sj hr).symm _ _ _ ⟨rfl,p,H.tq,K⟩
    refine qF H c4 (sr (qg 1 [(7,.ptr i0 0)] H fun _ H=>?_))
    refine qp [] [] hr (fun a s h=>ih_F102 _ a s h (K.front 1 rfl)) K H (fun e s h q st K=>hp e s h q _ _ (K.keep [true,false])) fun x5 s7 hr sp6 st K fr H=>?_
    refine qst 24 0 (aN x5) [vI x5.kind,vS x5.name,vS x5.other,vI x5.n,vI x5.len,vI x5.init,vB x5.ghost,vL tNode x5.kids .shut,vI x5.pos] 1 H K rfl fun st K fr H=>qe (W_ret ?_)
    exact hq _ _ (sj hr).symm _ _ _ ⟨rfl,sp6,H.tq,K⟩
   intro j8 j8s hr
   rcases j8 with j8a | j8b
   ·rintro e fr st ⟨rfl,j8aq,H,K⟩
    refine sr (qg 2 [(13,vI j8a),(14,.ptr i0 0)] H fun _ H=>?_)
    refine ql hr (fun x h=>F91_R  _ x h (K.front 1 rfl)) H fun x9 hr fr H=>qg 1 [(16,.agg [vI j8a,vS (bs []),vS (bs []),vI 0,vI 0,vI 0,vB false,vL tNode ([]:List Node) .nil,vI x9])] H fun _ H=>?_
    refine qal 24 zL H K fun id10 st K fr H=>?_
    refine qst 24 0 (.agg [vI j8a,vS (bs []),vS (bs []),vI 0,vI 0,vI 0,vB false,vL tNode ([]:List Node) .nil,vI x9]) [vI j8a,vS (bs []),vS (bs []),vI 0,vI 0,vI 0,vB false,vL tNode ([]:List Node) .nil,vI x9] 0 H K rfl fun st K fr H=>qe (sr (qg 3 [(17,.ptr i0 0),(19,.ptr i0 1)] H fun _ H=>?_))
    refine qldR 3 1 (vI j8s.next) 2 H K rfl fun _ H=>qg 3 [(21,vI (w64 (j8s.next + 1))),(23,.ptr i0 1)] H fun _ H=>?_
    refine qstR 3 1 (vI (w64 (j8s.next + 1))) (rdC (j8s.setNext (w64 (j8s.next + 1))) j8aq) 2 H K rfl fun st K fr H=>qe (sr (qg 1 [(24,.ptr i0 0)] H fun _ H=>?_))
    refine qp [] [] hr (fun a s h=>F92_R  _ a s h (K.front 2 rfl)) K H (fun e s h q st K=>hp e s h q _ _ (K.keep [true,false,false])) fun x11 s13 hr sp12 st K fr H=>qg 1 [(26,.ptr id10 1)] H fun _ H=>?_
    refine qst 9 1 (vS x11) [vI j8a,vS x11,vS (bs []),vI 0,vI 0,vI 0,vB false,vL tNode ([]:List Node) .nil,vI x9] 1 H K rfl fun st K fr H=>qe (sr (qg 1 [(27,.ptr i0 0)] H fun _ H=>?_))
    refine qp [] [] hr (fun a s h=>F93_R  _ _ a s h K) K H (fun e s h q st K=>hp e s h q _ _ (K.keep [true,false,false])) fun x14 s16 hr sp15 st K fr H=>qe (sr (qg 1 [(29,.ptr i0 0)] H fun _ H=>?_))
    refine qp [] [] hr (fun a s h=>F103_R  _ a s h K) K H (fun e s h q st K=>hp e s h q _ _ (K.keep [true,false,false])) fun x17 s19 hr sp18 st K fr H=>qg 1 [(31,.ptr id10 3)] H fun _ H=>?_
    refine qst 3 3 (vI x17) [vI j8a,vS x11,vS (bs []),vI x17,vI 0,vI 0,vB false,vL tNode ([]:List Node) .nil,vI x9] 1 H K rfl fun st K fr H=>qe (sr (qg 1 [(32,.ptr i0 0)] H fun _ H=>?_))
    refine qp [] [] hr (fun a s h=>F93_R  _ _ a s h K) K H (fun e s h q st K=>hp e s h q _ _ (K.keep [true,false,false])) fun x20 s22 hr sp21 st K fr H=>qe (sr (qg 1 [(34,.ptr i0 0)] H fun _ H=>?_))
    refine qp [] [] hr (fun a s h=>ih_F67 _ a s h K) K H (fun e s h q st K=>hp e s h q _ _ (K.keep [true,false,false])) fun x23 s25 hr sp24 st K fr H=>?_
    refine qv (.buildSlice 22 1 [(0,aN x23)]) H (run_bslice (v:=vL tNode ([x23]:List Node) .full) (v0:=.slice [aN x23] .full) (by kernel_rfl) (by simp only [List.map,vL,tNode_e,eNode_eq,cNode] <;> rfl)) fun _ H=>qg 1 [(37,.ptr id10 7)] H fun _ H=>?_
    refine qst 22 7 (vL tNode ([x23]:List Node) .full) [vI j8a,vS x11,vS (bs []),vI x17,vI 0,vI 0,vB false,vL tNode ([x23]:List Node) .full,vI x9] 1 H K rfl fun st K fr H=>qe (sr ?_)
    refine qld 24 0 (.agg [vI j8a,vS x11,vS (bs []),vI x17,vI 0,vI 0,vB false,vL tNode ([x23]:List Node) .shut,vI x9]) 1 H K rfl fun _ H=>?_
    refine qst 24 0 (.agg [vI j8a,vS x11,vS (bs []),vI x17,vI 0,vI 0,vB false,vL tNode ([x23]:List Node) .shut,vI x9]) [vI j8a,vS x11,vS (bs []),vI x17,vI 0,vI 0,vB false,vL tNode ([x23]:List Node) .shut,vI x9] 2 H K rfl fun st K fr H=>qe (W_ret ?_)
    exact hq _ _ (sj hr).symm sp24 _ _ _ (e_retV [.agg [vI j8a,vS x11,vS (bs []),vI x17,vI 0,vI 0,vB false,vL tNode ([x23]:List Node) .shut,vI x9]] H K (fun _=>resC id1 0 24 [vI j8a,vS x11,vS (bs []),vI x17,vI 0,vI 0,vB false,vL tNode ([x23]:List Node) .shut,vI x9] 2 (by kernel_rfl) rfl (by kernel_rfl) resN) ((K).keep [true,false,false]))
   rintro e fr st ⟨rfl,j8bq,H,K⟩
   exact hq _ _ (sj hr).symm j8bq _ _ _ (e_retV [aN j8b] H K (fun _=>resC id1 0 24 [vI j8b.kind,vS j8b.name,vS j8b.other,vI j8b.n,vI j8b.len,vI j8b.init,vB j8b.ghost,vL tNode j8b.kids .shut,vI j8b.pos] 1 (by kernel_rfl) rfl (by kernel_rfl) resN) ((K).keep [true,false]))
theorem F67_R (n:Nat) (s:RS) (r:Node ⊕ Bad) (s2:RS) (hr:F67 n s = some (r,s2)) {st:St} {rs:List Res} {i0:Nat} {p:Spare} (K:HL st (.rd i0 87 p (rdC s p) :: rs)):∃ (q:Spare) (st':St),R Tryz.prog AN 67 [.ptr i0 0] st (gotE encW (fun v=>aN v) r) st'∧HL st' (.rd i0 87 q (rdC s2 q) :: rs):=(F223_RR n).2.2.2.2 s r s2 hr K
def F66 (n:Nat) (s:RS):Option ((Node ⊕ Bad) × RS) :=
 pbind (F67 n s) fun x2 s4 =>
 bif decide (s4.next < (s4.toks.length:Int)) then
  (pbind (F68 s4) fun _ s9 =>
  some (.inl x2,s9))
 else
  (some (.inl x2,s4))
theorem F66_R (n:Nat) (s:RS) (r:Node ⊕ Bad) (s2:RS) (hr:F66 n s = some (r,s2)) {st:St} {rs:List Res} {i0 e0:Nat} {p:Spare} (K:HL st (.rd i0 87 p (rdC s p) :: .obj e0 (.cells 81 [.ptr i0 0]) :: rs)):∃ (q:Spare) (st':St),R Tryz.prog AN 66 [.ptr e0 0] st (gotE encW (fun v=>aN v) r) st'∧HL st' (.rd i0 87 q (rdC s2 q) :: .obj e0 (.cells 81 [.ptr i0 0]) :: rs):=by
 unfold F66 at hr
 refine R_panX (ew:=encW) (enc:=fun v (q:Spare)=>aN v) (post:=fun s (q:Spare)=>.rd i0 87 q (rdC s q) :: .obj e0 (.cells 81 [.ptr i0 0]) :: rs) [(0,.ptr e0 0)] Tryz.func66 rfl rfl fun fr Q H hp hq=>sr ?_
 refine qal 24 zL H K fun id1 st K fr H=>qe (sr ?_)
 refine qld 81 0 (.ptr i0 0) 2 H K rfl fun _ H=>?_
 refine qp [] [] hr (fun a s h=>F67_R n _ a s h (K.front 1 rfl)) K H (fun e s h q st K=>hp e s h q _ _ (K.keep [true,false,true])) fun x2 s4 hr sp3 st K fr H=>?_
 refine qal 24 zL H K fun id5 st K fr H=>?_
 refine qst 24 0 (aN x2) [vI x2.kind,vS x2.name,vS x2.other,vI x2.n,vI x2.len,vI x2.init,vB x2.ghost,vL tNode x2.kids .shut,vI x2.pos] 0 H K rfl fun st K fr H=>qe (W_seq (W_seq ?_))
 refine W_drw ?_
 refine qld 81 0 (.ptr i0 0) 3 H K rfl fun _ H=>qg 2 [(7,.ptr i0 1)] H fun _ H=>?_
 refine qldR 3 1 (vI s4.next) 1 H K rfl fun _ H=>?_
 refine qld 81 0 (.ptr i0 0) 3 H K rfl fun _ H=>qg 2 [(11,.ptr i0 0)] H fun _ H=>?_
 refine qldR 56 0 (vL tToken s4.toks .shut) 1 H K rfl fun _ H=>?_
 refine qln tToken 56 s4.toks .shut H fun _ H=>qg 1 [(14,vB (decide (s4.next < (s4.toks.length:Int))))] H fun _ H=>qe (qd ?_)
 rcases csplit hr with ⟨c6,hr⟩|⟨c6,hr⟩
 rotate_left
 ·refine qF H c6 (W_skip (sr ?_))
  refine qld 24 0 (aN x2) 0 H K rfl fun _ H=>?_
  refine qst 24 0 (aN x2) [vI x2.kind,vS x2.name,vS x2.other,vI x2.n,vI x2.len,vI x2.init,vB x2.ghost,vL tNode x2.kids .shut,vI x2.pos] 2 H K rfl fun st K fr H=>qe (W_ret ?_)
  exact hq _ _ (sj hr).symm sp3 _ _ _ (e_retV [aN x2] H K (fun _=>resC id1 0 24 [vI x2.kind,vS x2.name,vS x2.other,vI x2.n,vI x2.len,vI x2.init,vB x2.ghost,vL tNode x2.kids .shut,vI x2.pos] 2 (by kernel_rfl) rfl (by kernel_rfl) resN) ((((K).keep [false,true,false,true]).front 1 rfl).front 1 rfl))
 refine qT H c6 (W_reg ?_)
 refine qld 81 0 (.ptr i0 0) 3 H K rfl fun _ H=>?_
 refine qp [] [] hr (fun a s h=>F68_R  _ a s h (K.front 1 rfl)) K H (fun e s h q st K=>hp e s h q _ _ (K.keep [true,false,false,true])) fun x7 s9 hr sp8 st K fr H=>qe (sr ?_)
 refine qld 24 0 (aN x2) 1 H K rfl fun _ H=>?_
 refine qst 24 0 (aN x2) [vI x2.kind,vS x2.name,vS x2.other,vI x2.n,vI x2.len,vI x2.init,vB x2.ghost,vL tNode x2.kids .shut,vI x2.pos] 2 H K rfl fun st K fr H=>qe (W_ret ?_)
 exact hq _ _ (sj hr).symm sp8 _ _ _ (e_retV [aN x2] H K (fun _=>resC id1 0 24 [vI x2.kind,vS x2.name,vS x2.other,vI x2.n,vI x2.len,vI x2.init,vB x2.ghost,vL tNode x2.kids .shut,vI x2.pos] 2 (by kernel_rfl) rfl (by kernel_rfl) resN) ((((K).keep [true,false,false,true]).front 1 rfl).front 1 rfl))
def F96_step (F96:Node→Int→Int→Option (Bool × Int)) (n:Nat) (a0:Node) (a1:Int) (a2:Int):Option (Bool × Int) :=
 bif (decide (1500 < (w64 (a2 + 1)))) || (decide (40 < a1)) then
  (some (false,w64 (a2 + 1)))
 else
  ((iter (σ:=Int × Int) (ρ:=Int ⊕ Int) (fun s2=>bif decide (s2.1 < (a0.kids.length:Int)) then
    ((idxL a0.kids s2.1).bind fun x4 =>
    (F96 x4 (w64 (a1 + 1)) s2.2).bind fun x5 =>
    bif !x5.1 then
     (some (.inr (.inl x5.2)))
    else
     (some (.inl (w64 (s2.1 + 1),x5.2))))
   else
    (some (.inr (.inr s2.2)))) n ((0:Int),w64 (a2 + 1))).bind fun r7=>match r7 with
  | .inl r7a=>some (false,r7a)
  | .inr r7b=>some (true,r7b))
def F96:Nat→Node→Int→Int→Option (Bool × Int)
 | 0,_,_,_=>none
 | n + 1,a0,a1,a2=>F96_step (F96 n) n a0 a1 a2
theorem F96_RR (n:Nat):(∀ (a0:Node) (a1:Int) (a2:Int) (r:Bool × Int),F96 n a0 a1 a2 = some r→∀ {st:St} {rs:List Res} {i0 i1:Nat} {p0:Spare} (_:HL st (.obj i0 (.cells 3 [vI a2]) :: .obj i1 (.cells 124 [.fn 96 [] [.ptr i0 0,.ptr i1 0]]) :: rs)),RG Tryz.prog AN 96 [.cptr (cNode p0 a0) 0,vI a1,.ptr i0 0,.ptr i1 0] st (.ret (vB r.1)) fun (_:Unit)=>(.obj i0 (.cells 3 [vI r.2]) :: .obj i1 (.cells 124 [.fn 96 [] [.ptr i0 0,.ptr i1 0]]) :: rs)):=by
 induction n with
 | zero=>(intros; contradiction)
 | succ n ih =>
  have ih_F96:=@ih; clear ih
  intro a0 a1 a2 r hr st rs i0 i1 p0 K
  change F96_step (F96 n) n a0 a1 a2 = some r at hr
  unfold F96_step at hr
  refine R_heapX [(0,.cptr (cNode p0 a0) 0),(1,vI a1),(2,.ptr i0 0),(3,.ptr i1 0)] Tryz.func96 rfl rfl fun _ H=>sr (qg 1 [] H fun _ H=>qe (sr ?_))
  refine qld 3 0 (vI a2) 0 H K rfl fun _ H=>qg 1 [(9,vI (w64 (a2 + 1)))] H fun _ H=>?_
  refine qst 3 0 (vI (w64 (a2 + 1))) [vI (w64 (a2 + 1))] 0 H K rfl fun st K fr H=>qe (W_seq (W_seq (W_reg ?_)))
  refine qld 3 0 (vI (w64 (a2 + 1))) 0 H K rfl fun _ H=>qg 2 [(12,vB (decide (1500 < (w64 (a2 + 1)))))] H fun _ H=>qg 3 [(15,vB ((decide (1500 < (w64 (a2 + 1)))) || (decide (40 < a1))))] H (hs:=by intro _ _; generalize (decide (1500 < (w64 (a2 + 1)))) = b0; cases b0 <;> kernel_rfl) fun _ H=>qe ?_
  rcases csplit hr with ⟨c1,hr⟩|⟨c1,hr⟩
  ·refine qT H c1 (sr (qg 1 [(6,vB false)] H fun _ H=>qe (W_ret ?_)))
   cases hr
   exact e_retH [vB false] H K (fun _=>resT (by kernel_rfl) resN) rfl () (K.keep [true,true])
  refine qF H c1 (W_skip (W_seq (W_seq (W_reg (qg 4 [(19,vL tNode a0.kids p0)] H fun _ H=>?_)))))
  refine qln tNode 22 a0.kids p0 H fun _ H=>qg 1 [(21,vI 0)] H fun _ H=>qe (W_block ?_)
  obtain ⟨r7,hr7,hr⟩:=obind hr
  refine W_iter hr7 (fun (s2:Int × Int) fr st=>Rd fr [(0,.cptr (cNode p0 a0) 0),(1,vI a1),(3,.ptr i1 0),(20,vI (a0.kids.length:Int)),(21,vI s2.1)]∧HL st (.obj i0 (.cells 3 [vI s2.2]) :: .obj i1 (.cells 124 [.fn 96 [] [.ptr i0 0,.ptr i1 0]]) :: rs)) (fun (r7:Int ⊕ Int) e fr st=>match r7 with | .inl r7a=>(e = .ret∧Rd fr [(6,vB false)]∧HL st (.obj i0 (.cells 3 [vI r7a]) :: .obj i1 (.cells 124 [.fn 96 [] [.ptr i0 0,.ptr i1 0]]) :: rs)) | .inr r7b=>(e = .exit 0∧Rd fr []∧HL st (.obj i0 (.cells 3 [vI r7b]) :: .obj i1 (.cells 124 [.fn 96 [] [.ptr i0 0,.ptr i1 0]]) :: rs))) ⟨H.tq,K.keep [true,true]⟩ ?_ ?_
  ·intro s2 fr st r hi hr
   obtain ⟨H,K⟩:=hi
   refine sr (qg 1 [(22,vB (decide (s2.1 < (a0.kids.length:Int))))] H fun _ H=>qe (W_seq ?_))
   rcases csplit hr with ⟨c3,hr⟩|⟨c3,hr⟩
   rotate_left
   ·refine qF H c3 ?_
    refine W_exit ?_
    cases hr
    exact ⟨by simp,⟨rfl,H.tq,K.keep [true,true]⟩⟩
   refine qT H c3 (W_skip (W_seq (W_block (sr (qg 2 [(7,vI s2.1)] H fun _ H=>qe (W_seq (W_drw ?_)))))))
   refine qld 124 0 (.fn 96 [] [.ptr i0 0,.ptr i1 0]) 1 H K rfl fun _ H=>qg 5 [(28,vL tNode a0.kids p0),(29,vI s2.1)] H fun _ H=>?_
   refine qix tNode 22 p0 hr H fun x4 hr hx4 fr H=>qg 2 [(32,vI (w64 (a1 + 1)))] H fun _ H=>?_
   refine qib [] [] hr (fun x h=>ih_F96 _ _ _ x h (i0:=i0) (i1:=i1) (p0:=.shut) ((K.front 1 rfl).front 1 rfl)) K H fun x5 hr _ st K fr H=>qg 1 [(34,vB !x5.1)] H fun _ H=>qe (qd ?_)
   rcases csplit hr with ⟨c6,hr⟩|⟨c6,hr⟩
   ·refine qT H c6 (sr (qg 1 [(6,vB false)] H fun _ H=>qe (W_ret ?_)))
    cases hr
    exact ⟨by simp,⟨rfl,H.tq,K.keep [true,true]⟩⟩
   refine qF H c6 (W_skip (W_reg (qg 2 [(21,vI (w64 (s2.1 + 1)))] H fun _ H=>qe ?_)))
   cases hr
   exact ⟨rfl,⟨H.tq,K.keep [true,true]⟩⟩
  rcases r7 with r7a | r7b
  ·rintro e fr st ⟨rfl,H,K⟩
   cases hr
   exact e_retH [vB false] H K (fun _=>resT (by kernel_rfl) resN) rfl () (K.keep [true,true])
  rintro e fr st ⟨rfl,H,K⟩
  refine sr (qg 1 [(6,vB true)] H fun _ H=>qe (W_ret ?_))
  cases hr
  exact e_retH [vB true] H K (fun _=>resT (by kernel_rfl) resN) rfl () (K.keep [true,true])
theorem F96_R (n:Nat) (a0:Node) (a1:Int) (a2:Int) (r:Bool × Int) (hr:F96 n a0 a1 a2 = some r) {st:St} {rs:List Res} {i0 i1:Nat} {p0:Spare} (K:HL st (.obj i0 (.cells 3 [vI a2]) :: .obj i1 (.cells 124 [.fn 96 [] [.ptr i0 0,.ptr i1 0]]) :: rs)):RG Tryz.prog AN 96 [.cptr (cNode p0 a0) 0,vI a1,.ptr i0 0,.ptr i1 0] st (.ret (vB r.1)) fun (_:Unit)=>(.obj i0 (.cells 3 [vI r.2]) :: .obj i1 (.cells 124 [.fn 96 [] [.ptr i0 0,.ptr i1 0]]) :: rs):=(F96_RR n) a0 a1 a2 r hr K
def F59 (n:Nat) (a0:Node):Option Bool :=
 (F96 n a0 (1:Int) (0:Int)).bind fun x3 =>
 some x3.1
theorem F59_R (n:Nat) (a0:Node) (r:Bool) (hr:F59 n a0 = some r) {st:St} {p0:Spare}:R Tryz.prog AN 59 [.agg (cNode p0 a0)] st (.ret (vB r)) st:=by
 unfold F59 at hr
 refine R_pureX [aN a0] [(0,aN a0)] Tryz.func59 rfl (by simp only [strip,stripL,stripL_cNode,Option.bind_some,Option.map_some]) rfl fun fr st H K=>sr (qg 2 [(1,cN a0 0)] H fun _ H=>qe (sr ?_))
 refine qal 3 [vI 0] H K fun id1 st K fr H=>?_
 refine qst 3 0 (vI 0) [vI 0] 0 H K rfl fun st K fr H=>qe (sr ?_)
 refine qal 124 [.sc .nilFunc] H K fun id2 st K fr H=>qe (sr (qg 1 [(5,.fn 96 [] [.ptr id1 0,.ptr id2 0])] H fun _ H=>?_))
 refine qst 124 0 (.fn 96 [] [.ptr id1 0,.ptr id2 0]) [.fn 96 [] [.ptr id1 0,.ptr id2 0]] 0 H K rfl fun st K fr H=>qe (sr ?_)
 refine qld 124 0 (.fn 96 [] [.ptr id1 0,.ptr id2 0]) 0 H K rfl fun _ H=>?_
 refine qib [] [] hr (fun x h=>F96_R n _ _ _ x h (i0:=id1) (i1:=id2) (p0:=.shut) ((K.front 0 rfl).front 1 rfl)) K H fun x3 hr _ st K fr H=>qg 1 [(2,vB x3.1)] H fun _ H=>qe (W_ret ?_)
 cases hr
 exact qr [vB x3.1] H K
end Go.Proofs.YtbecjgckobhmpaaGreatDoor
end
section
namespace Go.Proofs.YtbecjgckobhmpaaGreatDoor
open Go Go.AM Go.Proofs
set_option maxRecDepth 100000
set_option maxHeartbeats 4000000
def F29 (n:Nat) (a0:ByteArray):Option (Node × (List Diag)) :=
 (F55 n a0).bind fun x2 =>
 bif x2.2.1 != 0 then
  (some ((Node.mk 0 (bs []) (bs []) 0 0 0 false ([]:List Node) 0),([(Diag.mk x2.2.1 x2.2.2)]:List Diag)))
 else
  ((guardF (F66 n (RS.mk x2.1 0 (a0.size:Int) 0 []))).bind fun x6 =>
  bif x6.1.2.1 != 0 then
   (some ((Node.mk 0 (bs []) (bs []) 0 0 0 false ([]:List Node) 0),([(Diag.mk x6.1.2.1 x6.1.2.2)]:List Diag)))
  else
   ((F59 n x6.1.1).bind fun x11 =>
   bif !x11 then
    (some ((Node.mk 0 (bs []) (bs []) 0 0 0 false ([]:List Node) 0),([(Diag.mk 2 0)]:List Diag)))
   else
    (some (x6.1.1,([]:List Diag)))))
theorem F29_R (n:Nat) (a0:ByteArray) (r:Node × (List Diag)) (hr:F29 n a0 = some r) {st:St}:R Tryz.prog AN 29 [vS a0] st (.ret (.tuple [aN r.1,vL tDiag r.2 .shut])) st:=by
 unfold F29 at hr
 refine R_pureX [vS a0] [(0,vS a0)] Tryz.func29 rfl (by kernel_rfl) rfl fun fr st H K=>sr ?_
 refine qal 24 zL H K fun id1 st K fr H=>qg 1 [] H fun _ H=>qe (sr (qg 1 [(11,vS a0)] H fun _ H=>?_))
 refine qb hr (fun x h s=>F55_R n _ x h) H fun x2 hr fr H=>qg 7 [(4,vL tToken x2.1 .shut),(5,vI x2.2.1),(6,vI x2.2.2)] H fun _ H=>qe (W_seq (W_seq (W_reg (qg 2 [(17,vB (x2.2.1 != 0))] H fun _ H=>qe ?_))))
 rcases csplit hr with ⟨c3,hr⟩|⟨c3,hr⟩
 ·refine qT H c3 (sr (qg 4 [(18,.agg zL),(21,.agg [vI x2.2.1,vI x2.2.2])] H fun _ H=>?_))
  refine qbs tDiag 37 ([(Diag.mk x2.2.1 x2.2.2)]:List Diag) H fun _ H=>?_
  refine qst 24 0 (.agg zL) zL 0 H K rfl fun st K fr H=>qg 1 [(3,vL tDiag ([(Diag.mk x2.2.1 x2.2.2)]:List Diag) .full)] H fun _ H=>qe (W_ret ?_)
  cases hr
  exact e_ret [.agg [vI 0,vS (bs []),vS (bs []),vI 0,vI 0,vI 0,vB false,vL tNode ([]:List Node) .shut,vI 0],vL tDiag ([(Diag.mk x2.2.1 x2.2.2)]:List Diag) .full] H K (fun _=>resC id1 0 24 zL 0 (by kernel_rfl) rfl (by kernel_rfl) (resT (by kernel_rfl) resN)) (fun _=>by simp only [strip,stripL,stripL_ET,Option.bind_some,Option.map_some,oneOf] <;> rfl)
 refine qF H c3 (W_skip (sr (qg 2 [(23,vS a0),(24,vL tToken x2.1 .shut)] H fun _ H=>?_)))
 refine qq (newReader_R x2.1 a0 K) H fun id4 st K fr H=>?_
 refine qal 81 [.sc (.pointer none)] H K fun id5 st K fr H=>?_
 refine qst 81 0 (.ptr id4 0) [.ptr id4 0] 0 H K rfl fun st K fr H=>qe (sr ?_)
 refine qld 81 0 (.ptr id4 0) 0 H K rfl fun _ H=>qg 1 [(28,.fn 66 [] [.ptr id5 0])] H fun _ H=>?_
 refine qqb hr (fun x h=>guarded_R (g:=66) (first:=[]) (cap:=[.ptr id5 0]) h ((K.front 0 rfl).front 1 rfl) (fun a s hy st1 pre K=>by obtain ⟨q,st2,hR,K⟩:=F66_R n _ a s hy K.mid; exact ⟨q,st2,hR,K.unmid⟩)) H fun x6 hr sp7 st K fr H=>qg 3 [(30,aN x6.1.1),(31,.agg [vI x6.1.2.1,vI x6.1.2.2])] H fun _ H=>?_
 refine qal 24 zL H K fun id8 st K fr H=>?_
 refine qal 95 [vI 0,vI 0] H K fun id9 st K fr H=>?_
 refine qst 24 0 (aN x6.1.1) [vI x6.1.1.kind,vS x6.1.1.name,vS x6.1.1.other,vI x6.1.1.n,vI x6.1.1.len,vI x6.1.1.init,vB x6.1.1.ghost,vL tNode x6.1.1.kids .shut,vI x6.1.1.pos] 1 H K rfl fun st K fr H=>?_
 refine qst 95 0 (.agg [vI x6.1.2.1,vI x6.1.2.2]) [vI x6.1.2.1,vI x6.1.2.2] 0 H K rfl fun st K fr H=>qe (W_seq (W_seq (W_reg (qg 1 [(32,.ptr id9 0)] H fun _ H=>?_))))
 refine qld 27 0 (vI x6.1.2.1) 0 H K rfl fun _ H=>qg 1 [(34,vB (x6.1.2.1 != 0))] H fun _ H=>qe ?_
 rcases csplit hr with ⟨c10,hr⟩|⟨c10,hr⟩
 ·refine qT H c10 (W_seq (W_drw (qg 2 [(35,.agg zL),(36,.ptr id9 0)] H fun _ H=>?_)))
  refine qld 27 0 (vI x6.1.2.1) 0 H K rfl fun _ H=>qg 1 [(38,.ptr id9 1)] H fun _ H=>?_
  refine qld 3 1 (vI x6.1.2.2) 0 H K rfl fun _ H=>qg 1 [(40,.agg [vI x6.1.2.1,vI x6.1.2.2])] H fun _ H=>?_
  refine qbs tDiag 37 ([(Diag.mk x6.1.2.1 x6.1.2.2)]:List Diag) H fun _ H=>?_
  refine qst 24 0 (.agg zL) zL 4 H K rfl fun st K fr H=>qg 1 [(3,vL tDiag ([(Diag.mk x6.1.2.1 x6.1.2.2)]:List Diag) .full)] H fun _ H=>qe (qdI K [0,0,.look (some 0),0,.look (some 0),0,0,.put 4,0] (W_ret ?_))
  cases hr
  exact e_ret [.agg [vI 0,vS (bs []),vS (bs []),vI 0,vI 0,vI 0,vB false,vL tNode ([]:List Node) .shut,vI 0],vL tDiag ([(Diag.mk x6.1.2.1 x6.1.2.2)]:List Diag) .full] H K (fun _=>resC id1 0 24 zL 4 (by kernel_rfl) rfl (by kernel_rfl) (resT (by kernel_rfl) resN)) (fun _=>by simp only [strip,stripL,stripL_ET,Option.bind_some,Option.map_some,oneOf] <;> rfl)
 refine qF H c10 (W_skip (W_seq (W_seq (W_reg ?_))))
 refine qld 24 0 (aN x6.1.1) 1 H K rfl fun _ H=>?_
 refine qb hr (fun x h s=>F59_R n _ x h (p0:=.shut)) H fun x11 hr fr H=>qg 1 [(44,vB !x11)] H fun _ H=>qe ?_
 rcases csplit hr with ⟨c12,hr⟩|⟨c12,hr⟩
 ·refine qT H c12 (sr (qg 2 [(45,.agg zL),(46,.agg [vI 2,vI 0])] H fun _ H=>?_))
  refine qbs tDiag 37 ([(Diag.mk 2 0)]:List Diag) H fun _ H=>?_
  refine qst 24 0 (.agg zL) zL 4 H K rfl fun st K fr H=>qg 1 [(3,vL tDiag ([(Diag.mk 2 0)]:List Diag) .full)] H fun _ H=>qe (W_ret ?_)
  cases hr
  exact e_ret [.agg [vI 0,vS (bs []),vS (bs []),vI 0,vI 0,vI 0,vB false,vL tNode ([]:List Node) .shut,vI 0],vL tDiag ([(Diag.mk 2 0)]:List Diag) .full] H K (fun _=>resC id1 0 24 zL 4 (by kernel_rfl) rfl (by kernel_rfl) (resT (by kernel_rfl) resN)) (fun _=>by simp only [strip,stripL,stripL_ET,Option.bind_some,Option.map_some,oneOf] <;> rfl)
 refine qF H c12 (W_skip (sr ?_))
 refine qld 24 0 (aN x6.1.1) 1 H K rfl fun _ H=>?_
 refine qst 24 0 (aN x6.1.1) [vI x6.1.1.kind,vS x6.1.1.name,vS x6.1.1.other,vI x6.1.1.n,vI x6.1.1.len,vI x6.1.1.init,vB x6.1.1.ghost,vL tNode x6.1.1.kids .shut,vI x6.1.1.pos] 4 H K rfl fun st K fr H=>qg 1 [(3,vL tDiag ([]:List Diag) .nil)] H fun _ H=>qe (W_ret ?_)
 cases hr
 exact e_ret [aN x6.1.1,vL tDiag ([]:List Diag) .nil] H K (fun _=>resC id1 0 24 [vI x6.1.1.kind,vS x6.1.1.name,vS x6.1.1.other,vI x6.1.1.n,vI x6.1.1.len,vI x6.1.1.init,vB x6.1.1.ghost,vL tNode x6.1.1.kids .shut,vI x6.1.1.pos] 4 (by kernel_rfl) rfl (by kernel_rfl) (resT (by kernel_rfl) resN)) (fun _=>by simp only [strip,stripL,stripL_cNode,stripL_ET,Option.bind_some,Option.map_some,oneOf] <;> rfl)
def F30_step (F30:Node→Node→Option Bool) (n:Nat) (a0:Node) (a1:Node):Option Bool :=
 bif (((((((a0.kind != a1.kind) || (!(strEq a0.name a1.name))) || (!(strEq a0.other a1.other))) || (a0.n != a1.n)) || (a0.len != a1.len)) || (a0.init != a1.init)) || (!(a0.ghost == a1.ghost))) || (a0.pos != a1.pos) then
  (some false)
 else
  (bif (a0.kids.length:Int) != (a1.kids.length:Int) then
   (some false)
  else
   ((iter (σ:=Int) (ρ:=Unit ⊕ Unit) (fun s3=>bif decide (s3 < (a0.kids.length:Int)) then
     ((idxL a0.kids s3).bind fun x5 =>
     (idxL a1.kids s3).bind fun x6 =>
     (F30 x5 x6).bind fun x7 =>
     bif !x7 then
      (some (.inr (.inl ())))
     else
      (some (.inl (w64 (s3 + 1)))))
    else
     (some (.inr (.inr ())))) n (0:Int)).bind fun r9=>match r9 with
   | .inl _=>some false
   | .inr _=>some true))
def F30:Nat→Node→Node→Option Bool
 | 0,_,_=>none
 | n + 1,a0,a1=>F30_step (F30 n) n a0 a1
theorem F30_RR (n:Nat):(∀ (a0:Node) (a1:Node) (r:Bool),F30 n a0 a1 = some r→∀ {st:St} {p0 p1:Spare},R Tryz.prog AN 30 [.agg (cNode p0 a0),.agg (cNode p1 a1)] st (.ret (vB r)) st):=by
 induction n with
 | zero=>(intros; contradiction)
 | succ n ih =>
  have ih_F30:=@ih; clear ih
  intro a0 a1 r hr st p0 p1
  change F30_step (F30 n) n a0 a1 = some r at hr
  unfold F30_step at hr
  refine R_pureX [aN a0,aN a1] [(0,aN a0),(1,aN a1)] Tryz.func30 rfl (by simp only [strip,stripL,stripL_cNode,Option.bind_some,Option.map_some]) rfl fun fr st H K=>sr (qg 3 [(2,cN a0 0),(3,cN a1 0)] H fun _ H=>qe (W_seq (W_seq (W_reg (qg 6 [(11,vB (a0.kind != a1.kind))] H fun _ H=>qg 6 [(17,vB ((a0.kind != a1.kind) || (!(strEq a0.name a1.name))))] H (hs:=by intro _ _; generalize (a0.kind != a1.kind) = b0; cases b0 <;> kernel_rfl) fun _ H=>qg 1 [(18,vB ((a0.kind != a1.kind) || (!(strEq a0.name a1.name))))] H fun _ H=>qg 6 [(24,vB (((a0.kind != a1.kind) || (!(strEq a0.name a1.name))) || (!(strEq a0.other a1.other))))] H (hs:=by intro _ _; generalize ((a0.kind != a1.kind) || (!(strEq a0.name a1.name))) = b0; cases b0 <;> kernel_rfl) fun _ H=>qg 1 [(25,vB (((a0.kind != a1.kind) || (!(strEq a0.name a1.name))) || (!(strEq a0.other a1.other))))] H fun _ H=>qg 6 [(31,vB ((((a0.kind != a1.kind) || (!(strEq a0.name a1.name))) || (!(strEq a0.other a1.other))) || (a0.n != a1.n)))] H (hs:=by intro _ _; generalize (((a0.kind != a1.kind) || (!(strEq a0.name a1.name))) || (!(strEq a0.other a1.other))) = b0; cases b0 <;> kernel_rfl) fun _ H=>qg 1 [(32,vB ((((a0.kind != a1.kind) || (!(strEq a0.name a1.name))) || (!(strEq a0.other a1.other))) || (a0.n != a1.n)))] H fun _ H=>qg 6 [(38,vB (((((a0.kind != a1.kind) || (!(strEq a0.name a1.name))) || (!(strEq a0.other a1.other))) || (a0.n != a1.n)) || (a0.len != a1.len)))] H (hs:=by intro _ _; generalize ((((a0.kind != a1.kind) || (!(strEq a0.name a1.name))) || (!(strEq a0.other a1.other))) || (a0.n != a1.n)) = b0; cases b0 <;> kernel_rfl) fun _ H=>qg 1 [(39,vB (((((a0.kind != a1.kind) || (!(strEq a0.name a1.name))) || (!(strEq a0.other a1.other))) || (a0.n != a1.n)) || (a0.len != a1.len)))] H fun _ H=>qg 6 [(45,vB ((((((a0.kind != a1.kind) || (!(strEq a0.name a1.name))) || (!(strEq a0.other a1.other))) || (a0.n != a1.n)) || (a0.len != a1.len)) || (a0.init != a1.init)))] H (hs:=by intro _ _; generalize (((((a0.kind != a1.kind) || (!(strEq a0.name a1.name))) || (!(strEq a0.other a1.other))) || (a0.n != a1.n)) || (a0.len != a1.len)) = b0; cases b0 <;> kernel_rfl) fun _ H=>qg 1 [(46,vB ((((((a0.kind != a1.kind) || (!(strEq a0.name a1.name))) || (!(strEq a0.other a1.other))) || (a0.n != a1.n)) || (a0.len != a1.len)) || (a0.init != a1.init)))] H fun _ H=>qg 6 [(52,vB (((((((a0.kind != a1.kind) || (!(strEq a0.name a1.name))) || (!(strEq a0.other a1.other))) || (a0.n != a1.n)) || (a0.len != a1.len)) || (a0.init != a1.init)) || (!(a0.ghost == a1.ghost))))] H (hs:=by intro _ _; generalize ((((((a0.kind != a1.kind) || (!(strEq a0.name a1.name))) || (!(strEq a0.other a1.other))) || (a0.n != a1.n)) || (a0.len != a1.len)) || (a0.init != a1.init)) = b0; cases b0 <;> kernel_rfl) fun _ H=>qg 1 [(53,vB (((((((a0.kind != a1.kind) || (!(strEq a0.name a1.name))) || (!(strEq a0.other a1.other))) || (a0.n != a1.n)) || (a0.len != a1.len)) || (a0.init != a1.init)) || (!(a0.ghost == a1.ghost))))] H fun _ H=>qg 6 [(59,vB ((((((((a0.kind != a1.kind) || (!(strEq a0.name a1.name))) || (!(strEq a0.other a1.other))) || (a0.n != a1.n)) || (a0.len != a1.len)) || (a0.init != a1.init)) || (!(a0.ghost == a1.ghost))) || (a0.pos != a1.pos)))] H (hs:=by intro _ _; generalize (((((((a0.kind != a1.kind) || (!(strEq a0.name a1.name))) || (!(strEq a0.other a1.other))) || (a0.n != a1.n)) || (a0.len != a1.len)) || (a0.init != a1.init)) || (!(a0.ghost == a1.ghost))) = b0; cases b0 <;> kernel_rfl) fun _ H=>qg 1 [(60,vB ((((((((a0.kind != a1.kind) || (!(strEq a0.name a1.name))) || (!(strEq a0.other a1.other))) || (a0.n != a1.n)) || (a0.len != a1.len)) || (a0.init != a1.init)) || (!(a0.ghost == a1.ghost))) || (a0.pos != a1.pos)))] H fun _ H=>?_)))))
  rcases csplit hr with ⟨c1,hr⟩|⟨c1,hr⟩
  ·rw [c1] at H
   refine qg 8 [(68,vB true)] H fun _ H=>qe (qT H rfl (sr (qg 1 [(4,vB false)] H fun _ H=>qe (W_ret ?_))))
   cases hr
   exact qr [vB false] H K
  rw [c1] at H
  refine qg 2 [(62,vL tNode a0.kids .shut)] H fun _ H=>?_
  refine qln tNode 22 a0.kids .shut H fun _ H=>qg 2 [(65,vL tNode a1.kids .shut)] H fun _ H=>?_
  refine qln tNode 22 a1.kids .shut H fun _ H=>qg 2 [(68,vB ((a0.kids.length:Int) != (a1.kids.length:Int)))] H fun _ H=>qe ?_
  rcases csplit hr with ⟨c2,hr⟩|⟨c2,hr⟩
  ·refine qT H c2 (sr (qg 1 [(4,vB false)] H fun _ H=>qe (W_ret ?_)))
   cases hr
   exact qr [vB false] H K
  refine qF H c2 (W_skip (W_seq (W_seq (W_reg (qg 1 [(5,vI 0)] H fun _ H=>qe (W_block ?_))))))
  obtain ⟨r9,hr9,hr⟩:=obind hr
  refine W_iter hr9 (fun (s3:Int) fr st=>Rd fr [(2,cN a0 0),(3,cN a1 0),(5,vI s3)]∧HL st []) (fun (r9:Unit ⊕ Unit) e fr st=>match r9 with | .inl r9a=>(e = .ret∧Rd fr [(4,vB false)]∧HL st []) | .inr r9b=>(e = .exit 0∧Rd fr []∧HL st [])) ⟨H.tq,K.keep []⟩ ?_ ?_
  ·intro s3 fr st r hi hr
   obtain ⟨H,K⟩:=hi
   refine W_seq (W_seq (W_reg (qg 3 [(69,vI s3),(71,vL tNode a0.kids .shut)] H fun _ H=>?_)))
   refine qln tNode 22 a0.kids .shut H fun _ H=>qg 1 [(73,vB (decide (s3 < (a0.kids.length:Int))))] H fun _ H=>qe ?_
   rcases csplit hr with ⟨c4,hr⟩|⟨c4,hr⟩
   rotate_left
   ·refine qF H c4 ?_
    refine W_exit ?_
    cases hr
    exact ⟨by simp,⟨rfl,H.tq,K.keep []⟩⟩
   refine qT H c4 (W_skip (W_seq (W_block (W_seq (W_drw (qg 3 [(77,vL tNode a0.kids .shut),(78,vI s3)] H fun _ H=>?_))))))
   refine qix tNode 22 .shut hr H fun x5 hr hx5 fr H=>qg 4 [(80,aN x5),(82,vL tNode a1.kids .shut),(83,vI s3)] H fun _ H=>?_
   refine qix tNode 22 .shut hr H fun x6 hr hx6 fr H=>qg 1 [(85,aN x6)] H fun _ H=>?_
   refine qb hr (fun x h s=>ih_F30 _ _ x h (p0:=.shut) (p1:=.shut)) H fun x7 hr fr H=>qg 1 [(87,vB !x7)] H fun _ H=>qe (qd ?_)
   rcases csplit hr with ⟨c8,hr⟩|⟨c8,hr⟩
   ·refine qT H c8 (sr (qg 1 [(4,vB false)] H fun _ H=>qe (W_ret ?_)))
    cases hr
    exact ⟨by simp,⟨rfl,H.tq,K.keep []⟩⟩
   refine qF H c8 (W_skip (W_reg (qg 3 [(5,vI (w64 (s3 + 1)))] H fun _ H=>qe ?_)))
   cases hr
   exact ⟨rfl,⟨H.tq,K.keep []⟩⟩
  rcases r9 with r9a | r9b
  ·rintro e fr st ⟨rfl,H,K⟩
   cases hr
   exact qr [vB false] H K
  rintro e fr st ⟨rfl,H,K⟩
  refine sr (qg 1 [(4,vB true)] H fun _ H=>qe (W_ret ?_))
  cases hr
  exact qr [vB true] H K
theorem F30_R (n:Nat) (a0:Node) (a1:Node) (r:Bool) (hr:F30 n a0 a1 = some r) {st:St} {p0 p1:Spare}:R Tryz.prog AN 30 [.agg (cNode p0 a0),.agg (cNode p1 a1)] st (.ret (vB r)) st:=(F30_RR n) a0 a1 r hr
def F89 (a0:Int) (a1:Int) (s:RS):Option ((Unit ⊕ Bad) × RS) :=
 pbind (bif decide (20≤(s.diags.length:Int)) then
   (some (.inl (.inl ()),s))
  else
   (bif decide (0 < (s.diags.length:Int)) then
    ((idxL s.diags (w64 ((s.diags.length:Int) - 1))).bind fun x3 =>
    bif x3.pos == a1 then
     (some (.inl (.inl ()),s))
    else
     (some (.inl (.inr ()),s)))
   else
    (some (.inl (.inr ()),s))):Option (((Unit ⊕ Unit) ⊕ Bad) × RS)) fun j5 j5s=>match j5 with
 | .inl _=>some (.inl (),j5s)
 | .inr _=>(appL 16 j5s.diags ([(Diag.mk a0 a1)]:List Diag)).bind fun x6 =>
  some (.inl (),(j5s.setDiags x6))
def F90 (n:Nat) (a0:Bool) (s:RS):Option ((Unit ⊕ Bad) × RS) :=
 pbind (iterP (σ:=Int) (ρ:=Unit ⊕ Unit) (ε:=Bad) (S:=RS) (fun s1 s1s=>bif decide (s1s.next < (s1s.toks.length:Int)) then
   ((F101 s1s).bind fun x3 =>
   bif strEq x3 (bs [59]) then
    (bif s1 == 0 then
     (some (.inl (.inr (.inl ())),(s1s.setNext (w64 (s1s.next + 1)))))
    else
     (some (.inl (.inl s1),(s1s.setNext (w64 (s1s.next + 1))))))
   else
    (bif strEq x3 (bs [123]) then
     (some (.inl (.inl (w64 (s1 + 1))),(s1s.setNext (w64 (s1s.next + 1)))))
    else
     (bif strEq x3 (bs [125]) then
      (bif (s1 == 0) && a0 then
       (some (.inl (.inr (.inl ())),s1s))
      else
       (bif s1 == 0 then
        (some (.inl (.inr (.inl ())),(s1s.setNext (w64 (s1s.next + 1)))))
       else
        (bif (w64 (s1 - 1)) == 0 then
         (pbind (F88 (bs [59]) (s1s.setNext (w64 (s1s.next + 1)))) fun _ s13 =>
         some (.inl (.inr (.inl ())),s13))
        else
         (some (.inl (.inl (w64 (s1 - 1))),(s1s.setNext (w64 (s1s.next + 1))))))))
     else
      (some (.inl (.inl s1),(s1s.setNext (w64 (s1s.next + 1))))))))
  else
   (some (.inl (.inr (.inr ())),s1s))) n s.inner (s.setInner (0:Int))) fun r14 r14s=>match r14 with
 | .inl _=>some (.inl (),r14s)
 | .inr _=>some (.inl (),r14s)
def F193 (a0:Node) (s:RS):Option ((Node ⊕ Bad) × RS) :=
 pbind (F92 s) fun x3 s5 =>
 pbind (F93 (bs [58]) s5) fun _ s8 =>
 pbind (F103 s8) fun x9 s11 =>
 some (.inl (Node.mk a0.kind x3 a0.other x9 a0.len a0.init a0.ghost a0.kids a0.pos),s11)
end Go.Proofs.YtbecjgckobhmpaaGreatDoor
end
section
namespace Go.Proofs.YtbecjgckobhmpaaGreatDoor
open Go Go.AM Go.Proofs
set_option maxRecDepth 100000
set_option maxHeartbeats 4000000
def F220 (n:Nat) (s:RS):Option ((((List Node)) ⊕ Bad) × RS) :=
 pbind (F223 n s) fun x1 s3 =>
 pbind (F93 (bs [58,61]) s3) fun _ s7 =>
 pbind (F67 n s7) fun x8 s10 =>
 some (.inl ([x1,x8]:List Node),s10)
def F149_3 (n:Nat) (a0:ByteArray) (s:RS):Option ((((List Node)) ⊕ Bad) × RS) :=
 pbind (F88 a0 s) fun x1 s3 =>
 bif x1 then
  (some (.inl ([]:List Node),s3))
 else
  (pbind (F220 n s3) fun x5 s7 =>
  pbind (iterP (σ:=(List Node)) (ρ:=((List Node))) (ε:=Bad) (S:=RS) (fun s9 s9s=>pbind (F88 (bs [44]) s9s) fun x10 s12 =>
   bif x10 then
    (pbind (F220 n s12) fun x14 s16 =>
    (appL 104 s9 x14).bind fun x18 =>
    some (.inl (.inl x18),s16))
   else
    (some (.inl (.inr s9),s12))) n x5 s7) fun r20 r20s =>
  pbind (F93 a0 r20s) fun _ s23 =>
  some (.inl r20,s23))
def F218 (n:Nat) (a0:Int) (s:RS):Option ((((List Node)) ⊕ Bad) × RS) :=
 pbind (F93 (bs [123]) s) fun _ s3 =>
 pbind (F149_3 n (bs [125]) (s3.setInner (1:Int))) fun x4 s6 =>
 pbind (F88 (bs [119,104,101,110]) (s6.setInner (0:Int))) fun x9 s11 =>
 bif x9 then
  (pbind (F67 n s11) fun x13 s15 =>
  (appL 104 ([x13]:List Node) x4).bind fun x16 =>
  some (.inl x16,s15))
 else
  ((appL 104 ([(Node.mk 63 (bs []) (bs []) 0 0 0 false ([]:List Node) a0)]:List Node) x4).bind fun x18 =>
  some (.inl x18,s11))
def F146_1 (n:Nat) (s:RS):Option ((((List Node)) ⊕ Bad) × RS) :=
 pbind (F220 n s) fun x1 s3 =>
 pbind (iterP (σ:=(List Node)) (ρ:=((List Node))) (ε:=Bad) (S:=RS) (fun s5 s5s=>pbind (F88 (bs [44]) s5s) fun x6 s8 =>
  bif x6 then
   (pbind (F220 n s8) fun x10 s12 =>
   (appL 104 s5 x10).bind fun x14 =>
   some (.inl (.inl x14),s12))
  else
   (some (.inl (.inr s5),s8))) n x1 s3) fun r16 r16s =>
 some (.inl r16,r16s)
def F221 (n:Nat) (s:RS):Option ((((List Node)) ⊕ Bad) × RS) :=
 pbind (F88 (bs [119,105,116,104]) s) fun x1 s3 =>
 bif !x1 then
  (some (.inl ([]:List Node),s3))
 else
  (pbind (F146_1 n s3) fun x5 s7 =>
  some (.inl x5,s7))
def F219 (n:Nat) (s:RS):Option ((((List Node)) ⊕ Bad) × RS) :=
 pbind (F223 n s) fun x1 s3 =>
 pbind (F93 (bs [44]) s3) fun _ s6 =>
 pbind (F67 n s6) fun x7 s9 =>
 (appL 104 ([x1]:List Node) ([x7]:List Node)).bind fun x10 =>
 pbind (F93 (bs [44]) s9) fun _ s14 =>
 pbind (F67 n s14) fun x15 s17 =>
 (appL 104 x10 ([x15]:List Node)).bind fun x18 =>
 pbind (F93 (bs [105,110,116,111]) s17) fun _ s22 =>
 pbind (F223 n s22) fun x23 s25 =>
 (appL 104 x18 ([x23]:List Node)).bind fun x26 =>
 pbind (F221 n s25) fun x28 s30 =>
 (appL 104 x26 x28).bind fun x31 =>
 some (.inl x31,s30)
def F194_1 (n:Nat) (s:RS):Option ((((List Node)) ⊕ Bad) × RS) :=
 pbind (F67 n s) fun x1 s3 =>
 some (.inl ([x1]:List Node),s3)
def F149_2 (n:Nat) (a0:ByteArray) (s:RS):Option ((((List Node)) ⊕ Bad) × RS) :=
 pbind (F88 a0 s) fun x1 s3 =>
 bif x1 then
  (some (.inl ([]:List Node),s3))
 else
  (pbind (F194_1 n s3) fun x5 s7 =>
  pbind (iterP (σ:=(List Node)) (ρ:=((List Node))) (ε:=Bad) (S:=RS) (fun s9 s9s=>pbind (F88 (bs [44]) s9s) fun x10 s12 =>
   bif x10 then
    (pbind (F194_1 n s12) fun x14 s16 =>
    (appL 104 s9 x14).bind fun x18 =>
    some (.inl (.inl x18),s16))
   else
    (some (.inl (.inr s9),s12))) n x5 s7) fun r20 r20s =>
  pbind (F93 a0 r20s) fun _ s23 =>
  some (.inl r20,s23))
end Go.Proofs.YtbecjgckobhmpaaGreatDoor
end
section
namespace Go.Proofs.YtbecjgckobhmpaaGreatDoor
open Go Go.AM Go.Proofs
set_option maxRecDepth 100000
set_option maxHeartbeats 4000000
def F217_step (_:Node→RS→Option ((Node ⊕ Bad) × RS)) (_:Node→RS→Option ((Node ⊕ Bad) × RS)) (_:RS→Option ((Node ⊕ Bad) × RS)) (_:Bool→RS→Option ((((List Node)) ⊕ Bad) × RS)) (F151:RS→Option ((Node ⊕ Bad) × RS)) (n:Nat) (a0:Node) (s:RS):Option ((Node ⊕ Bad) × RS) :=
 pbind (F67 n s) fun x3 s5 =>
 pbind (pbind (F88 (bs [118,97,114,105,97,110,116]) s5) fun x8 s10 =>
  bif x8 then
   (pbind (F67 n s10) fun x12 s14 =>
   some (.inl x12,s14))
  else
   (some (.inl (Node.mk 63 (bs []) (bs []) 0 0 0 false ([]:List Node) a0.pos),s10)):Option (((Node) ⊕ Bad) × RS)) fun j15 j15s =>
 pbind (F151 j15s) fun x16 s18 =>
 some (.inl (Node.mk 32 a0.name a0.other a0.n a0.len a0.init a0.ghost ([x3,j15,x16]:List Node) a0.pos),s18)
def F216_step (_:Node→RS→Option ((Node ⊕ Bad) × RS)) (_:Node→RS→Option ((Node ⊕ Bad) × RS)) (_:RS→Option ((Node ⊕ Bad) × RS)) (_:Bool→RS→Option ((((List Node)) ⊕ Bad) × RS)) (F151:RS→Option ((Node ⊕ Bad) × RS)) (n:Nat) (a0:Node) (s:RS):Option ((Node ⊕ Bad) × RS) :=
 pbind (F67 n s) fun x3 s5 =>
 pbind (F151 s5) fun x7 s9 =>
 pbind (pbind (F88 (bs [101,108,115,101]) s9) fun x12 s14 =>
  bif x12 then
   (pbind (F151 s14) fun x16 s18 =>
   some (.inl x16,s18))
  else
   (some (.inl (Node.mk 34 (bs []) (bs []) 0 0 0 false ([]:List Node) a0.pos),s14)):Option (((Node) ⊕ Bad) × RS)) fun j19 j19s =>
 some (.inl (Node.mk 31 a0.name a0.other a0.n a0.len a0.init a0.ghost ([x3,x7,j19]:List Node) a0.pos),j19s)
def F195_step (F217:Node→RS→Option ((Node ⊕ Bad) × RS)) (F216:Node→RS→Option ((Node ⊕ Bad) × RS)) (_:RS→Option ((Node ⊕ Bad) × RS)) (_:Bool→RS→Option ((((List Node)) ⊕ Bad) × RS)) (_:RS→Option ((Node ⊕ Bad) × RS)) (n:Nat) (s:RS):Option ((Node ⊕ Bad) × RS) :=
 (F91 s).bind fun x2 =>
 pbind (F88 (bs [105,102]) s) fun x4 s6 =>
 bif x4 then
  (pbind (F216 (Node.mk 0 (bs []) (bs []) 0 0 0 false ([]:List Node) x2) s6) fun x8 s10 =>
  some (.inl x8,s10))
 else
  (pbind (F88 (bs [119,104,105,108,101]) s6) fun x11 s13 =>
  bif x11 then
   (pbind (F217 (Node.mk 0 (bs []) (bs []) 0 0 0 false ([]:List Node) x2) s13) fun x15 s17 =>
   some (.inl x15,s17))
  else
   (pbind (F88 (bs [97,115,115,101,114,116]) s13) fun x18 s20 =>
   bif x18 then
    (pbind (F67 n s20) fun x22 s24 =>
    pbind (F93 (bs [59]) s24) fun _ s130 =>
    some (.inl (Node.mk 20 (bs []) (bs []) 0 0 0 false ([x22]:List Node) x2),s130))
   else
    (pbind (F88 (bs [97,119,97,105,116]) s20) fun x25 s27 =>
    bif x25 then
     (pbind (F67 n s27) fun x29 s31 =>
     pbind (F93 (bs [59]) s31) fun _ s133 =>
     some (.inl (Node.mk 29 (bs []) (bs []) 0 0 0 false ([x29]:List Node) x2),s133))
    else
     (pbind (F88 (bs [102,101,110,99,101]) s27) fun x32 s34 =>
     bif x32 then
      (pbind (F93 (bs [59]) s34) fun _ s136 =>
      some (.inl (Node.mk 26 (bs []) (bs []) 0 0 0 false ([]:List Node) x2),s136))
     else
      (pbind (F88 (bs [115,107,105,112]) s34) fun x36 s38 =>
      bif x36 then
       (pbind (F93 (bs [59]) s38) fun _ s139 =>
       some (.inl (Node.mk 30 (bs []) (bs []) 0 0 0 false ([]:List Node) x2),s139))
      else
       (pbind (F88 (bs [97,116,111,109,105,99]) s38) fun x40 s42 =>
       bif x40 then
        (pbind (F218 n x2 s42) fun x44 s46 =>
        pbind (F93 (bs [59]) s46) fun _ s142 =>
        some (.inl (Node.mk 22 (bs []) (bs []) 0 0 0 false x44 x2),s142))
       else
        (pbind (F88 (bs [99,97,115]) s42) fun x47 s49 =>
        bif x47 then
         (pbind (F219 n s49) fun x51 s53 =>
         pbind (F93 (bs [59]) s53) fun _ s145 =>
         some (.inl (Node.mk 23 (bs []) (bs []) 0 0 0 false x51 x2),s145))
        else
         (pbind (F88 (bs [97,99,113,117,105,114,101]) s49) fun x54 s56 =>
         bif x54 then
          (pbind (F152 n s56) fun x58 s60 =>
          pbind (F93 (bs [59]) s60) fun _ s148 =>
          some (.inl (Node.mk 24 x58 (bs []) 0 0 0 false ([]:List Node) x2),s148))
         else
          (pbind (F88 (bs [102,114,101,101]) s56) fun x61 s63 =>
          bif x61 then
           (pbind (F152 n s63) fun x65 s67 =>
           pbind (F93 (bs [59]) s67) fun _ s151 =>
           some (.inl (Node.mk 25 x65 (bs []) 0 0 0 false ([]:List Node) x2),s151))
          else
           (pbind (F88 (bs [115,112,97,119,110]) s63) fun x68 s70 =>
           bif x68 then
            (pbind (F92 s70) fun x72 s74 =>
            pbind (F93 (bs [59]) s74) fun _ s154 =>
            some (.inl (Node.mk 27 x72 (bs []) 0 0 0 false ([]:List Node) x2),s154))
           else
            (pbind (F88 (bs [106,111,105,110]) s70) fun x75 s77 =>
            bif x75 then
             (pbind (F92 s77) fun x79 s81 =>
             pbind (F93 (bs [59]) s81) fun _ s157 =>
             some (.inl (Node.mk 28 x79 (bs []) 0 0 0 false ([]:List Node) x2),s157))
            else
             (pbind (F88 (bs [99,97,108,108]) s77) fun x82 s84 =>
             bif x82 then
              (pbind (F152 n s84) fun x86 s88 =>
              pbind (F93 (bs [40]) s88) fun _ s91 =>
              pbind (F149_2 n (bs [41]) s91) fun x92 s94 =>
              pbind (F93 (bs [59]) s94) fun _ s160 =>
              some (.inl (Node.mk 33 x86 (bs []) 0 0 0 false x92 x2),s160))
             else
              (pbind (F88 (bs [103,104,111,115,116]) s84) fun x96 s98 =>
              bif x96 then
               (pbind (F93 (bs [108,111,99,97,108]) s98) fun _ s102 =>
               pbind (F193 (Node.mk 35 (bs []) (bs []) 0 0 0 true ([]:List Node) x2) s102) fun x103 s105 =>
               pbind (F93 (bs [59]) s105) fun _ s163 =>
               some (.inl x103,s163))
              else
               (pbind (F88 (bs [108,111,99,97,108]) s98) fun x106 s108 =>
               bif x106 then
                (pbind (F193 (Node.mk 35 (bs []) (bs []) 0 0 0 false ([]:List Node) x2) s108) fun x110 s112 =>
                pbind (F93 (bs [59]) s112) fun _ s166 =>
                some (.inl x110,s166))
               else
                (pbind (pbind (F88 (bs [114,101,108,101,97,115,101]) s108) fun x113 s115 =>
                 bif x113 then
                  (some (.inl (Node.mk 21 (bs []) (bs []) 1 0 0 false ([]:List Node) x2),s115))
                 else
                  (some (.inl (Node.mk 21 (bs []) (bs []) 0 0 0 false ([]:List Node) x2),s115)):Option (((Node) ⊕ Bad) × RS)) fun j117 j117s =>
                pbind (F220 n j117s) fun x118 s120 =>
                pbind (F221 n s120) fun x122 s124 =>
                (appL 104 x118 x122).bind fun x125 =>
                pbind (F93 (bs [59]) s124) fun _ s169 =>
                some (.inl (Node.mk j117.kind j117.name j117.other j117.n j117.len j117.init j117.ghost x125 j117.pos),s169))))))))))))))))
def F57_3_step (_:Node→RS→Option ((Node ⊕ Bad) × RS)) (_:Node→RS→Option ((Node ⊕ Bad) × RS)) (F195:RS→Option ((Node ⊕ Bad) × RS)) (_:Bool→RS→Option ((((List Node)) ⊕ Bad) × RS)) (_:RS→Option ((Node ⊕ Bad) × RS)) (n:Nat) (a0:Bool) (s:RS):Option ((((List Node)) ⊕ Bad) × RS) :=
 pbind (iterP (σ:=(List Node)) (ρ:=((List Node))) (ε:=Bad) (S:=RS) (fun s1 s1s=>bif s1s.next == (s1s.toks.length:Int) then
   (bif a0 then
    (pbind (F68 s1s) fun _ s6 =>
    some (.inl (.inr s1),s6))
   else
    (some (.inl (.inr s1),s1s)))
  else
   (pbind (bif a0 then
     (pbind (F88 (bs [125]) s1s) fun x8 s10 =>
     bif x8 then
      (some (.inl (.inl ()),s10))
     else
      (some (.inl (.inr ()),s10)))
    else
     (some (.inl (.inr ()),s1s)):Option (((Unit ⊕ Unit) ⊕ Bad) × RS)) fun j12 j12s=>match j12 with
   | .inl _=>some (.inl (.inr s1),j12s)
   | .inr _=>(guardF (F195 j12s)).bind fun x13 =>
    bif x13.1.2.1 == 0 then
     ((appL 104 s1 ([x13.1.1]:List Node)).bind fun x18 =>
     some (.inl (.inl x18),x13.2))
    else
     (pbind (F89 x13.1.2.1 x13.1.2.2 x13.2) fun _ s22 =>
     pbind (F90 n a0 s22) fun _ s25 =>
     some (.inl (.inl s1),s25)))) n ([]:List Node) s) fun r26 r26s =>
 some (.inl r26,r26s)
def F151_step (_:Node→RS→Option ((Node ⊕ Bad) × RS)) (_:Node→RS→Option ((Node ⊕ Bad) × RS)) (_:RS→Option ((Node ⊕ Bad) × RS)) (F57_3:Bool→RS→Option ((((List Node)) ⊕ Bad) × RS)) (_:RS→Option ((Node ⊕ Bad) × RS)) (_:Nat) (s:RS):Option ((Node ⊕ Bad) × RS) :=
 (F91 s).bind fun x2 =>
 pbind (F93 (bs [123]) s) fun _ s6 =>
 pbind (F57_3 true s6) fun x7 s9 =>
 some (.inl (Node.mk 34 (bs []) (bs []) 0 0 0 false x7 x2),s9)
mutual
def F217:Nat→Node→RS→Option ((Node ⊕ Bad) × RS)
 | 0,_,_=>none
 | n + 1,a0,s=>F217_step (F217 n) (F216 n) (F195 n) (F57_3 n) (F151 n) n a0 s
def F216:Nat→Node→RS→Option ((Node ⊕ Bad) × RS)
 | 0,_,_=>none
 | n + 1,a0,s=>F216_step (F217 n) (F216 n) (F195 n) (F57_3 n) (F151 n) n a0 s
def F195:Nat→RS→Option ((Node ⊕ Bad) × RS)
 | 0,_=>none
 | n + 1,s=>F195_step (F217 n) (F216 n) (F195 n) (F57_3 n) (F151 n) n s
def F57_3:Nat→Bool→RS→Option ((((List Node)) ⊕ Bad) × RS)
 | 0,_,_=>none
 | n + 1,a0,s=>F57_3_step (F217 n) (F216 n) (F195 n) (F57_3 n) (F151 n) n a0 s
def F151:Nat→RS→Option ((Node ⊕ Bad) × RS)
 | 0,_=>none
 | n + 1,s=>F151_step (F217 n) (F216 n) (F195 n) (F57_3 n) (F151 n) n s
end
end Go.Proofs.YtbecjgckobhmpaaGreatDoor
end
section
namespace Go.Proofs.YtbecjgckobhmpaaGreatDoor
open Go Go.AM Go.Proofs
set_option maxRecDepth 100000
set_option maxHeartbeats 4000000
end Go.Proofs.YtbecjgckobhmpaaGreatDoor
end
section
namespace Go.Proofs.YtbecjgckobhmpaaGreatDoor
open Go Go.AM Go.Proofs
set_option maxRecDepth 100000
set_option maxHeartbeats 4000000
def F62 (a0:Node):Option Bool :=
 some ((decide (1≤a0.kind)) && (decide (a0.kind≤8)))
theorem F62_R (a0:Node) (r:Bool) (hr:F62 a0 = some r) {st:St} {p0:Spare}:R Tryz.prog AN 62 [.agg (cNode p0 a0)] st (.ret (vB r)) st:=by
 unfold F62 at hr
 refine R_pureX [aN a0] [(0,aN a0)] Tryz.func62 rfl (by simp only [strip,stripL,stripL_cNode,Option.bind_some,Option.map_some]) rfl fun fr st H K=>sr (qg 2 [(1,cN a0 0)] H fun _ H=>qe (sr (qg 4 [(6,vB (decide (1≤a0.kind)))] H fun _ H=>qg 4 [(10,vB ((decide (1≤a0.kind)) && (decide (a0.kind≤8))))] H (hs:=by intro _ _; generalize (decide (1≤a0.kind)) = b0; cases b0 <;> kernel_rfl) fun _ H=>qg 1 [(2,vB ((decide (1≤a0.kind)) && (decide (a0.kind≤8))))] H fun _ H=>qe (W_ret ?_))))
 cases hr
 exact qr [vB ((decide (1≤a0.kind)) && (decide (a0.kind≤8)))] H K
def F154 (a0:Int):Option Bool :=
 some ((decide (0≤a0)) && (decide (a0≤999999999)))
theorem F154_R (a0:Int) (r:Bool) (hr:F154 a0 = some r) {st:St}:R Tryz.prog AN 154 [vI a0] st (.ret (vB r)) st:=by
 unfold F154 at hr
 refine R_pureX [vI a0] [(0,vI a0)] Tryz.func154 rfl (by kernel_rfl) rfl fun fr st H K=>sr (qg 1 [] H fun _ H=>qe (sr (qg 3 [(5,vB (decide (0≤a0)))] H fun _ H=>qg 3 [(8,vB ((decide (0≤a0)) && (decide (a0≤999999999))))] H (hs:=by intro _ _; generalize (decide (0≤a0)) = b0; cases b0 <;> kernel_rfl) fun _ H=>qg 1 [(2,vB ((decide (0≤a0)) && (decide (a0≤999999999))))] H fun _ H=>qe (W_ret ?_))))
 cases hr
 exact qr [vB ((decide (0≤a0)) && (decide (a0≤999999999)))] H K
def F157 (n:Nat) (a0:ByteArray):Option Bool :=
 bif (decide ((a0.size:Int) < 1)) || (decide (16 < (a0.size:Int))) then
  (some false)
 else
  (bif isKey a0 then
   (some false)
  else
   ((iter (σ:=Int) (ρ:=Unit ⊕ Unit) (fun s3=>bif decide (s3 < (a0.size:Int)) then
     ((idxS a0 s3).bind fun x5 =>
     bif (!(((decide (65≤x5)) && (decide (x5≤90))) || ((decide (97≤x5)) && (decide (x5≤122))))) && ((s3 == 0) || ((x5 != 95) && ((decide (x5 < 48)) || (decide (57 < x5))))) then
      (some (.inr (.inl ())))
     else
      (some (.inl (w64 (s3 + 1)))))
    else
     (some (.inr (.inr ())))) n (0:Int)).bind fun r13=>match r13 with
   | .inl _=>some false
   | .inr _=>some true))
theorem F157_R (n:Nat) (a0:ByteArray) (r:Bool) (hr:F157 n a0 = some r) {st:St}:R Tryz.prog AN 157 [.agg [keysV],vS a0] st (.ret (vB r)) st:=by
 unfold F157 at hr
 refine R_pureX [.agg [keysV],vS a0] [(0,.agg [keysV]),(1,vS a0)] Tryz.func157 rfl (by kernel_rfl) rfl fun fr st H K=>sr (qg 2 [(2,.cptr ([keysV]) 0)] H fun _ H=>qe (W_seq (W_seq (W_reg (qg 4 [(11,vB (decide ((a0.size:Int) < 1)))] H fun _ H=>qg 4 [(15,vB ((decide ((a0.size:Int) < 1)) || (decide (16 < (a0.size:Int)))))] H (hs:=by intro _ _; generalize (decide ((a0.size:Int) < 1)) = b0; cases b0 <;> kernel_rfl) fun _ H=>qg 1 [(16,vB ((decide ((a0.size:Int) < 1)) || (decide (16 < (a0.size:Int)))))] H fun _ H=>?_)))))
 rcases csplit hr with ⟨c1,hr⟩|⟨c1,hr⟩
 ·rw [c1] at H
  refine qg 5 [(21,vB true)] H fun _ H=>qe (qT H rfl (sr (qg 1 [(4,vB false)] H fun _ H=>qe (W_ret ?_))))
  cases hr
  exact qr [vB false] H K
 rw [c1] at H
 refine qg 3 [(18,keysV),(19,vS a0)] H fun _ H=>?_
 refine qv (.lookup 85 keysV (vS a0)) H (run_key) fun _ H=>qg 1 [(21,vB (isKey a0))] H fun _ H=>qe ?_
 rcases csplit hr with ⟨c2,hr⟩|⟨c2,hr⟩
 ·refine qT H c2 (sr (qg 1 [(4,vB false)] H fun _ H=>qe (W_ret ?_)))
  cases hr
  exact qr [vB false] H K
 refine qF H c2 (W_skip (W_seq (W_seq (W_reg (qg 3 [(23,vI (a0.size:Int)),(24,vI 0)] H fun _ H=>qe (W_block ?_))))))
 obtain ⟨r13,hr13,hr⟩:=obind hr
 refine W_iter hr13 (fun (s3:Int) fr st=>Rd fr [(1,vS a0),(23,vI (a0.size:Int)),(24,vI s3)]∧HL st []) (fun (r13:Unit ⊕ Unit) e fr st=>match r13 with | .inl r13a=>(e = .ret∧Rd fr [(4,vB false)]∧HL st []) | .inr r13b=>(e = .exit 0∧Rd fr []∧HL st [])) ⟨H.tq,K.keep []⟩ ?_ ?_
 ·intro s3 fr st r hi hr
  obtain ⟨H,K⟩:=hi
  refine sr (qg 1 [(25,vB (decide (s3 < (a0.size:Int))))] H fun _ H=>qe (W_seq ?_))
  rcases csplit hr with ⟨c4,hr⟩|⟨c4,hr⟩
  rotate_left
  ·refine qF H c4 ?_
   refine W_exit ?_
   cases hr
   exact ⟨by simp,⟨rfl,H.tq,K.keep []⟩⟩
  refine qT H c4 (W_skip (W_seq (W_block (sr (qg 2 [(5,vI s3)] H fun _ H=>qe (sr (qg 2 [(27,vS a0),(28,vI s3)] H fun _ H=>?_)))))))
  obtain ⟨x5,hx5,hr⟩:=obind hr
  refine qv (.index 9 (vS a0) (vI s3)) H (run_idxS (by kernel_rfl) hx5) fun _ H=>qg 1 [(6,vU x5)] H fun _ H=>qe (sr (qg 3 [(32,vB (decide (65≤x5)))] H fun _ H=>qg 3 [(35,vB ((decide (65≤x5)) && (decide (x5≤90))))] H (hs:=by intro _ _; generalize (decide (65≤x5)) = b0; cases b0 <;> kernel_rfl) fun _ H=>qg 1 [(36,vB ((decide (65≤x5)) && (decide (x5≤90))))] H fun _ H=>?_))
  refine qseg 7 [(43,vB (((decide (65≤x5)) && (decide (x5≤90))) || ((decide (97≤x5)) && (decide (x5≤122)))))] H ?_ ?_
  ·cases hg6:((decide (65≤x5)) && (decide (x5≤90)))
   ·rw [hg6] at H
    refine seg_go 4 3 [(39,vB (decide (97≤x5)))] H fun _ H=>?_
    cases hg7:(decide (97≤x5))
    ·rw [hg7] at H
     refine seg_go 0 4 [(43,vB false)] H fun _ H=>?_
     exact seg_end (by (try simp only [hg6,hg7]); exact H.tq)
    ·rw [hg7] at H
     refine seg_go 0 4 [(43,vB (decide (x5≤122)))] H fun _ H=>?_
     exact seg_end (by (try simp only [hg6,hg7]); exact H.tq)
   ·rw [hg6] at H
    refine seg_go 0 7 [(43,vB true)] H fun _ H=>?_
    exact seg_end (by (try simp only [hg6]); exact H.tq)
  intro fr H
  refine qg 1 [(7,vB (((decide (65≤x5)) && (decide (x5≤90))) || ((decide (97≤x5)) && (decide (x5≤122)))))] H fun _ H=>qe (sr (qg 3 [(46,vB (!(((decide (65≤x5)) && (decide (x5≤90))) || ((decide (97≤x5)) && (decide (x5≤122))))))] H fun _ H=>?_))
  refine qseg 15 [(61,vB ((!(((decide (65≤x5)) && (decide (x5≤90))) || ((decide (97≤x5)) && (decide (x5≤122))))) && ((s3 == 0) || ((x5 != 95) && ((decide (x5 < 48)) || (decide (57 < x5)))))))] H ?_ ?_
  ·cases hg8:(!(((decide (65≤x5)) && (decide (x5≤90))) || ((decide (97≤x5)) && (decide (x5≤122)))))
   ·rw [hg8] at H
    refine seg_go 0 15 [(61,vB false)] H fun _ H=>?_
    exact seg_end (by (try simp only [hg8]); exact H.tq)
   ·rw [hg8] at H
    refine seg_go 12 3 [(49,vB (s3 == 0))] H fun _ H=>?_
    cases hg9:(s3 == 0)
    ·rw [hg9] at H
     refine seg_go 9 3 [(52,vB (x5 != 95))] H fun _ H=>?_
     cases hg10:(x5 != 95)
     ·rw [hg10] at H
      refine seg_go 0 9 [(61,vB false)] H fun _ H=>?_
      exact seg_end (by (try simp only [hg8,hg9,hg10]); exact H.tq)
     ·rw [hg10] at H
      refine seg_go 6 3 [(55,vB (decide (x5 < 48)))] H fun _ H=>?_
      cases hg11:(decide (x5 < 48))
      ·rw [hg11] at H
       refine seg_go 0 6 [(61,vB (decide (57 < x5)))] H fun _ H=>?_
       exact seg_end (by (try simp only [hg8,hg9,hg10,hg11]); exact H.tq)
      ·rw [hg11] at H
       refine seg_go 0 6 [(61,vB true)] H fun _ H=>?_
       exact seg_end (by (try simp only [hg8,hg9,hg10,hg11]); exact H.tq)
    ·rw [hg9] at H
     refine seg_go 0 12 [(61,vB true)] H fun _ H=>?_
     exact seg_end (by (try simp only [hg8,hg9]); exact H.tq)
  intro fr H
  refine qe ?_
  rcases csplit hr with ⟨c12,hr⟩|⟨c12,hr⟩
  ·refine qT H c12 (sr (qg 1 [(4,vB false)] H fun _ H=>qe (W_ret ?_)))
   cases hr
   exact ⟨by simp,⟨rfl,H.tq,K.keep []⟩⟩
  refine qF H c12 (W_skip (W_reg (qg 2 [(24,vI (w64 (s3 + 1)))] H fun _ H=>qe ?_)))
  cases hr
  exact ⟨rfl,⟨H.tq,K.keep []⟩⟩
 rcases r13 with r13a | r13b
 ·rintro e fr st ⟨rfl,H,K⟩
  cases hr
  exact qr [vB false] H K
 rintro e fr st ⟨rfl,H,K⟩
 refine sr (qg 1 [(4,vB true)] H fun _ H=>qe (W_ret ?_))
 cases hr
 exact qr [vB true] H K
def F222 (a0:ByteArray) (a1:ByteArray):Option (ByteArray × ByteArray × Bool) :=
 (index1F a0 a1).bind fun x1 =>
 bif decide (0≤x1) then
  ((subS a0 0 x1).bind fun x3 =>
  (subS a0 (w64 (x1 + (a1.size:Int))) (a0.size:Int)).bind fun x4 =>
  some (x3,x4,true))
 else
  (some (a0,(bs []),false))
theorem F222_R (a0:ByteArray) (a1:ByteArray) (r:ByteArray × ByteArray × Bool) (hr:F222 a0 a1 = some r) {st:St}:R Tryz.prog AN 222 [vS a0,vS a1] st (.ret (.tuple [vS r.1,vS r.2.1,vB r.2.2])) st:=by
 unfold F222 at hr
 refine R_pureX [vS a0,vS a1] [(0,vS a0),(1,vS a1)] Tryz.func222 rfl (by kernel_rfl) rfl fun fr st H K=>sr (qg 3 [] H fun _ H=>qe (W_seq (W_seq (W_reg (qg 2 [(8,vS a0),(9,vS a1)] H fun _ H=>?_)))))
 refine qb hr (fun x h s=>index1_R _ _ x h) H fun x1 hr fr H=>qg 1 [(7,vI x1)] H fun _ H=>qe (sr (qg 2 [(12,vB (decide (0≤x1)))] H fun _ H=>qe ?_))
 rcases csplit hr with ⟨c2,hr⟩|⟨c2,hr⟩
 rotate_left
 ·refine qF H c2 (W_skip (sr (qg 4 [(4,vS a0),(5,vS (bs [])),(6,vB false)] H fun _ H=>qe (W_ret ?_))))
  cases hr
  exact e_ret [vS a0,vS (bs []),vB false] H K (fun _=>resT (by kernel_rfl) (resT (by kernel_rfl) (resT (by kernel_rfl) resN))) (fun _=>by kernel_rfl)
 refine qT H c2 (W_seq (W_drw (qg 2 [(13,vS a0),(14,vI x1)] H fun _ H=>?_)))
 obtain ⟨x3,hx3,hr⟩:=obind hr
 refine qv (.slice 9 (vS a0) none (some (vI x1))) H (run_subS_hi (by kernel_rfl) hx3) fun _ H=>qg 5 [(16,vS a0),(20,vI (w64 (x1 + (a1.size:Int))))] H fun _ H=>?_
 obtain ⟨x4,hx4,hr⟩:=obind hr
 refine qv (.slice 9 (vS a0) (some (vI (w64 (x1 + (a1.size:Int))))) none) H (run_subS_lo (by kernel_rfl) hx4) fun _ H=>qg 3 [(4,vS x3),(5,vS x4),(6,vB true)] H fun _ H=>qe (qd (W_ret ?_))
 cases hr
 exact e_ret [vS x3,vS x4,vB true] H K (fun _=>resT (by kernel_rfl) (resT (by kernel_rfl) (resT (by kernel_rfl) resN))) (fun _=>by kernel_rfl)
def F196 (a0:ByteArray) (a1:ByteArray):Option (ByteArray × ByteArray × Bool) :=
 (F222 a0 a1).bind fun x1 =>
 some (x1.1,x1.2.1,x1.2.2)
theorem F196_R (a0:ByteArray) (a1:ByteArray) (r:ByteArray × ByteArray × Bool) (hr:F196 a0 a1 = some r) {st:St}:R Tryz.prog AN 196 [vS a0,vS a1] st (.ret (.tuple [vS r.1,vS r.2.1,vB r.2.2])) st:=by
 unfold F196 at hr
 refine R_pureX [vS a0,vS a1] [(0,vS a0),(1,vS a1)] Tryz.func196 rfl (by kernel_rfl) rfl fun fr st H K=>sr (qg 3 [] H fun _ H=>qe (sr (qg 2 [(7,vS a0),(8,vS a1)] H fun _ H=>?_)))
 refine qb hr (fun x h s=>F222_R  _ _ x h) H fun x1 hr fr H=>qg 6 [(4,vS x1.1),(5,vS x1.2.1),(6,vB x1.2.2)] H fun _ H=>qe (W_ret ?_)
 cases hr
 exact e_ret [vS x1.1,vS x1.2.1,vB x1.2.2] H K (fun _=>resT (by kernel_rfl) (resT (by kernel_rfl) (resT (by kernel_rfl) resN))) (fun _=>by kernel_rfl)
def F155 (n:Nat) (a0:ByteArray):Option Bool :=
 (iter (σ:=ByteArray × Int) (ρ:=Bool ⊕ Unit) (fun s1=>bif decide (s1.2 < 3) then
   ((F196 s1.1 (bs [46])).bind fun x3 =>
   (F157 n x3.1).bind fun x4 =>
   bif !x4 then
    (some (.inr (.inl false)))
   else
    (bif !x3.2.2 then
     (some (.inr (.inl true)))
    else
     (some (.inl (x3.2.1,w64 (s1.2 + 1))))))
  else
   (some (.inr (.inr ())))) n (a0,(0:Int))).bind fun r7=>match r7 with
 | .inl r7a=>some r7a
 | .inr _=>some false
theorem F155_R (n:Nat) (a0:ByteArray) (r:Bool) (hr:F155 n a0 = some r) {st:St}:R Tryz.prog AN 155 [.agg [keysV],vS a0] st (.ret (vB r)) st:=by
 unfold F155 at hr
 refine R_pureX [.agg [keysV],vS a0] [(0,.agg [keysV]),(1,vS a0)] Tryz.func155 rfl (by kernel_rfl) rfl fun fr st H K=>sr (qg 2 [(2,.cptr ([keysV]) 0)] H fun _ H=>qe (W_seq (W_seq (W_reg (qg 1 [(8,vI 0)] H fun _ H=>qe (W_block ?_))))))
 obtain ⟨r7,hr7,hr⟩:=obind hr
 refine W_iter hr7 (fun (s1:ByteArray × Int) fr st=>Rd fr [(1,vS s1.1),(2,.cptr ([keysV]) 0),(8,vI s1.2)]∧HL st []) (fun (r7:Bool ⊕ Unit) e fr st=>match r7 with | .inl r7a=>(e = .ret∧Rd fr [(4,vB r7a)]∧HL st []) | .inr r7b=>(e = .exit 0∧Rd fr []∧HL st [])) ⟨H.tq,K.keep []⟩ ?_ ?_
 ·intro s1 fr st r hi hr
  obtain ⟨H,K⟩:=hi
  refine sr (qg 1 [(9,vB (decide (s1.2 < 3)))] H fun _ H=>qe (W_seq ?_))
  rcases csplit hr with ⟨c2,hr⟩|⟨c2,hr⟩
  rotate_left
  ·refine qF H c2 ?_
   refine W_exit ?_
   cases hr
   exact ⟨by simp,⟨rfl,H.tq,K.keep []⟩⟩
  refine qT H c2 (W_skip (W_seq (W_block (sr (qg 1 [(11,vS s1.1)] H fun _ H=>?_)))))
  refine qb hr (fun x h s=>F196_R  _ _ x h) H fun x3 hr fr H=>qg 7 [(5,vS x3.1),(6,vS x3.2.1),(7,vB x3.2.2)] H fun _ H=>qe (W_seq (W_seq (W_reg (qg 2 [(16,.agg [keysV]),(17,vS x3.1)] H fun _ H=>?_))))
  refine qb hr (fun x h s=>F157_R n _ x h) H fun x4 hr fr H=>qg 1 [(19,vB !x4)] H fun _ H=>qe ?_
  rcases csplit hr with ⟨c5,hr⟩|⟨c5,hr⟩
  ·refine qT H c5 (sr (qg 1 [(4,vB false)] H fun _ H=>qe (W_ret ?_)))
   cases hr
   exact ⟨by simp,⟨rfl,H.tq,K.keep []⟩⟩
  refine qF H c5 (W_skip (W_seq (W_seq (W_reg (qg 2 [(21,vB !x3.2.2)] H fun _ H=>qe ?_)))))
  rcases csplit hr with ⟨c6,hr⟩|⟨c6,hr⟩
  ·refine qT H c6 (sr (qg 1 [(4,vB true)] H fun _ H=>qe (W_ret ?_)))
   cases hr
   exact ⟨by simp,⟨rfl,H.tq,K.keep []⟩⟩
  refine qF H c6 (W_skip (W_reg (qg 2 [(1,vS x3.2.1)] H fun _ H=>qe (W_reg (qg 2 [(8,vI (w64 (s1.2 + 1)))] H fun _ H=>qe ?_)))))
  cases hr
  exact ⟨rfl,⟨H.tq,K.keep []⟩⟩
 rcases r7 with r7a | r7b
 ·rintro e fr st ⟨rfl,H,K⟩
  obtain rfl:=Option.some.inj hr
  exact qr [vB r7a] H K
 rintro e fr st ⟨rfl,H,K⟩
 refine sr (qg 1 [(4,vB false)] H fun _ H=>qe (W_ret ?_))
 cases hr
 exact qr [vB false] H K
end Go.Proofs.YtbecjgckobhmpaaGreatDoor
end
section
namespace Go.Proofs.YtbecjgckobhmpaaGreatDoor
open Go Go.AM Go.Proofs
set_option maxRecDepth 100000
set_option maxHeartbeats 4000000
def F97 (n:Nat) (a0:Node):Option Bool :=
 (bif a0.kind == 1 then
   ((F154 a0.n).bind fun x3 =>
   some (x3,(Node.mk a0.kind (bs []) (bs []) a0.n 0 0 false ([]:List Node) 0)))
  else
   ((bif a0.kind == 2 then
     (some (a0.kind == 2))
    else
     (bif a0.kind == 24 then
      (some (a0.kind == 24))
     else
      (bif a0.kind == 25 then
       (some (a0.kind == 25))
      else
       (some (a0.kind == 33)))):Option (Bool)).bind fun j7 =>
   bif j7 then
    ((F155 n a0.name).bind fun x9 =>
    some (x9,(Node.mk a0.kind a0.name (bs []) 0 0 0 false ([]:List Node) 0)))
   else
    (bif a0.kind == 5 then
     ((F156 a0.name).bind fun x11 =>
     some ((x11 != 0),(Node.mk a0.kind a0.name (bs []) 0 0 0 false ([]:List Node) 0)))
    else
     ((bif a0.kind == 7 then
       (some (a0.kind == 7))
      else
       (bif a0.kind == 8 then
        (some (a0.kind == 8))
       else
        (bif a0.kind == 58 then
         (some (a0.kind == 58))
        else
         (some (a0.kind == 52)))):Option (Bool)).bind fun j15 =>
     bif j15 then
      ((F157 n a0.name).bind fun x17 =>
      bif x17 then
       ((F154 a0.n).bind fun x19 =>
       some (x19,(Node.mk a0.kind a0.name (bs []) a0.n 0 0 false ([]:List Node) 0)))
      else
       (some (false,(Node.mk a0.kind a0.name (bs []) a0.n 0 0 false ([]:List Node) 0))))
     else
      (bif a0.kind == 35 then
       ((F157 n a0.name).bind fun x21 =>
       bif x21 then
        ((F154 a0.n).bind fun x23 =>
        some (x23,(Node.mk a0.kind a0.name (bs []) a0.n 0 0 a0.ghost ([]:List Node) 0)))
       else
        (some (false,(Node.mk a0.kind a0.name (bs []) a0.n 0 0 a0.ghost ([]:List Node) 0))))
      else
       (bif a0.kind == 21 then
        (some (((a0.n == 0) || (a0.n == 1)),(Node.mk a0.kind (bs []) (bs []) a0.n 0 0 false ([]:List Node) 0)))
       else
        ((bif a0.kind == 27 then
          (some (a0.kind == 27))
         else
          (bif a0.kind == 28 then
           (some (a0.kind == 28))
          else
           (bif a0.kind == 51 then
            (some (a0.kind == 51))
           else
            (some (a0.kind == 53)))):Option (Bool)).bind fun j28 =>
        bif j28 then
         ((F157 n a0.name).bind fun x30 =>
         some (x30,(Node.mk a0.kind a0.name (bs []) 0 0 0 false ([]:List Node) 0)))
        else
         (bif a0.kind == 50 then
          ((F157 n a0.name).bind fun x32 =>
          bif x32 then
           ((F154 a0.n).bind fun x34 =>
           bif x34 then
            ((F154 a0.len).bind fun x36 =>
            bif x36 then
             ((F154 a0.init).bind fun x38 =>
             bif x38 then
              (bif strEq a0.other (bs []) then
               (some (true,(Node.mk a0.kind a0.name a0.other a0.n a0.len a0.init a0.ghost ([]:List Node) 0)))
              else
               (bif a0.n == 0 then
                ((F157 n a0.other).bind fun x42 =>
                some (x42,(Node.mk a0.kind a0.name a0.other a0.n a0.len a0.init a0.ghost ([]:List Node) 0)))
               else
                (some (false,(Node.mk a0.kind a0.name a0.other a0.n a0.len a0.init a0.ghost ([]:List Node) 0)))))
             else
              (some (false,(Node.mk a0.kind a0.name a0.other a0.n a0.len a0.init a0.ghost ([]:List Node) 0))))
            else
             (some (false,(Node.mk a0.kind a0.name a0.other a0.n a0.len a0.init a0.ghost ([]:List Node) 0))))
           else
            (some (false,(Node.mk a0.kind a0.name a0.other a0.n a0.len a0.init a0.ghost ([]:List Node) 0))))
          else
           (some (false,(Node.mk a0.kind a0.name a0.other a0.n a0.len a0.init a0.ghost ([]:List Node) 0))))
         else
          (bif a0.kind == 57 then
           ((F157 n a0.name).bind fun x44 =>
           bif x44 then
            (bif strEq a0.other (bs []) then
             (some (true,(Node.mk a0.kind a0.name a0.other 0 0 0 false ([]:List Node) 0)))
            else
             ((F157 n a0.other).bind fun x47 =>
             some (x47,(Node.mk a0.kind a0.name a0.other 0 0 0 false ([]:List Node) 0))))
           else
            (some (false,(Node.mk a0.kind a0.name a0.other 0 0 0 false ([]:List Node) 0))))
          else
           (bif a0.kind == 60 then
            ((F157 n a0.name).bind fun x49 =>
            bif x49 then
             ((F157 n a0.other).bind fun x51 =>
             some (x51,(Node.mk a0.kind a0.name a0.other 0 0 0 false ([]:List Node) 0)))
            else
             (some (false,(Node.mk a0.kind a0.name a0.other 0 0 0 false ([]:List Node) 0))))
           else
            (bif a0.kind == 61 then
             ((F157 n a0.name).bind fun x53 =>
             bif x53 then
              ((F155 n a0.other).bind fun x55 =>
              some ((x55 && ((a0.n == 0) || (a0.n == 1))),(Node.mk a0.kind a0.name a0.other a0.n 0 0 false ([]:List Node) 0)))
             else
              (some (false,(Node.mk a0.kind a0.name a0.other a0.n 0 0 false ([]:List Node) 0))))
            else
             (some (true,(Node.mk a0.kind (bs []) (bs []) 0 0 0 false ([]:List Node) 0))))))))))))):Option ((Bool × Node))).bind fun j58 =>
 bif j58.1 then
  (bif strEq a0.name j58.2.name then
   (bif strEq a0.other j58.2.other then
    (bif a0.n == j58.2.n then
     (bif a0.len == j58.2.len then
      (bif a0.init == j58.2.init then
       (some (a0.ghost == j58.2.ghost))
      else
       (some false))
     else
      (some false))
    else
     (some false))
   else
    (some false))
  else
   (some false))
 else
  (some false)
theorem F97_R (n:Nat) (a0:Node) (r:Bool) (hr:F97 n a0 = some r) {st:St} {p0:Spare}:R Tryz.prog AN 97 [.agg [keysV],.agg (cNode p0 a0)] st (.ret (vB r)) st:=by
 unfold F97 at hr
 refine R_pureX [.agg [keysV],aN a0] [(0,.agg [keysV]),(1,aN a0)] Tryz.func97 rfl (by simp only [strip,stripL,strip_keysV,stripL_cNode,Option.bind_some,Option.map_some]) rfl fun fr st H K=>sr (qg 3 [(2,.cptr ([keysV]) 0),(3,cN a0 0)] H fun _ H=>qe (sr (qg 3 [(9,.agg [vI a0.kind,vS (bs []),vS (bs []),vI 0,vI 0,vI 0,vB false,vL tNode ([]:List Node) .nil,vI 0])] H fun _ H=>?_)))
 refine qal 24 zL H K fun id1 st K fr H=>?_
 refine qst 24 0 (.agg [vI a0.kind,vS (bs []),vS (bs []),vI 0,vI 0,vI 0,vB false,vL tNode ([]:List Node) .nil,vI 0]) [vI a0.kind,vS (bs []),vS (bs []),vI 0,vI 0,vI 0,vB false,vL tNode ([]:List Node) .nil,vI 0] 0 H K rfl fun st K fr H=>qe (sr (qg 1 [(6,vB true)] H fun _ H=>qe (W_seq ?_)))
 obtain ⟨j58,hj58,hr⟩:=obind hr
 refine W_via (fun e fr st=>e = .normal∧Rd fr [(3,cN a0 0),(5,.ptr id1 0),(6,vB j58.1)]∧HL st [.obj id1 (.cells 24 [vI j58.2.kind,vS j58.2.name,vS j58.2.other,vI j58.2.n,vI j58.2.len,vI j58.2.init,vB j58.2.ghost,vL tNode j58.2.kids .nil,vI j58.2.pos])]) ?_ ?_
 ·replace hr:=hj58
  refine sr (qg 2 [(11,vI a0.kind)] H fun _ H=>qe (W_block (sr (qg 2 [(12,vB (a0.kind == 1))] H fun _ H=>qe ?_))))
  rcases csplit hr with ⟨c2,hr⟩|⟨c2,hr⟩
  ·refine qT H c2 ?_
   refine W_drw (qg 4 [(15,vI a0.n),(17,vI a0.n)] H fun _ H=>?_)
   refine qb hr (fun x h s=>F154_R  _ x h) H fun x3 hr fr H=>qg 1 [(19,.ptr id1 3)] H fun _ H=>?_
   refine qst 3 3 (vI a0.n) [vI a0.kind,vS (bs []),vS (bs []),vI a0.n,vI 0,vI 0,vB false,vL tNode ([]:List Node) .nil,vI 0] 0 H K rfl fun st K fr H=>qg 1 [(6,vB x3)] H fun _ H=>qe (qdI K [0,0,0,0,0,0,.put 0,0] ?_)
   cases hr
   exact ⟨rfl,H.tq,K.keep [true]⟩
  refine qF H c2 (W_seq ?_)
  obtain ⟨j7,hj7,hr⟩:=obind hr
  refine W_via (fun e fr st=>e = .normal∧Rd fr [(2,.cptr ([keysV]) 0),(3,cN a0 0),(5,.ptr id1 0),(6,vB true),(11,vI a0.kind),(20,vB j7)]∧HL st [.obj id1 (.cells 24 [vI a0.kind,vS (bs []),vS (bs []),vI 0,vI 0,vI 0,vB false,vL tNode ([]:List Node) .nil,vI 0])]) ?_ ?_
  ·replace hr:=hj7
   refine sr (qg 2 [(20,vB (a0.kind == 2))] H fun _ H=>qe ?_)
   rcases csplit hr with ⟨c4,hr⟩|⟨c4,hr⟩
   ·refine qT H c4 (W_skip ?_)
    cases hr
    exact ⟨rfl,H.tq,K.keep [true]⟩
   refine qF H c4 (sr (qg 2 [(20,vB (a0.kind == 24))] H fun _ H=>qe ?_))
   rcases csplit hr with ⟨c5,hr⟩|⟨c5,hr⟩
   ·refine qT H c5 (W_skip ?_)
    cases hr
    exact ⟨rfl,H.tq,K.keep [true]⟩
   refine qF H c5 (sr (qg 2 [(20,vB (a0.kind == 25))] H fun _ H=>qe ?_))
   rcases csplit hr with ⟨c6,hr⟩|⟨c6,hr⟩
   ·refine qT H c6 (W_skip ?_)
    cases hr
    exact ⟨rfl,H.tq,K.keep [true]⟩
   refine qF H c6 (W_reg (qg 2 [(20,vB (a0.kind == 33))] H fun _ H=>qe ?_))
   cases hr
   exact ⟨rfl,H.tq,K.keep [true]⟩
  rintro e fr st ⟨rfl,H,K⟩
  rcases csplit hr with ⟨c8,hr⟩|⟨c8,hr⟩
  ·refine qT H c8 ?_
   refine W_drw (qg 5 [(26,vS a0.name),(27,.agg [keysV]),(29,vS a0.name)] H fun _ H=>?_)
   refine qb hr (fun x h s=>F155_R n _ x h) H fun x9 hr fr H=>qg 1 [(31,.ptr id1 1)] H fun _ H=>?_
   refine qst 9 1 (vS a0.name) [vI a0.kind,vS a0.name,vS (bs []),vI 0,vI 0,vI 0,vB false,vL tNode ([]:List Node) .nil,vI 0] 0 H K rfl fun st K fr H=>qg 1 [(6,vB x9)] H fun _ H=>qe (qdI K [0,0,0,0,0,0,0,.put 0,0] ?_)
   cases hr
   exact ⟨rfl,H.tq,K.keep [true]⟩
  refine qF H c8 (sr (qg 2 [(32,vB (a0.kind == 5))] H fun _ H=>qe ?_))
  rcases csplit hr with ⟨c10,hr⟩|⟨c10,hr⟩
  ·refine qT H c10 ?_
   refine W_drw (qg 4 [(35,vS a0.name),(37,vS a0.name)] H fun _ H=>?_)
   refine qb hr (fun x h s=>F156_R  _ x h) H fun x11 hr fr H=>qg 2 [(39,vB (x11 != 0)),(40,.ptr id1 1)] H fun _ H=>?_
   refine qst 9 1 (vS a0.name) [vI a0.kind,vS a0.name,vS (bs []),vI 0,vI 0,vI 0,vB false,vL tNode ([]:List Node) .nil,vI 0] 0 H K rfl fun st K fr H=>qg 1 [(6,vB (x11 != 0))] H fun _ H=>qe (qdI K [0,0,0,0,0,0,0,.put 0,0] ?_)
   cases hr
   exact ⟨rfl,H.tq,K.keep [true]⟩
  refine qF H c10 (W_seq ?_)
  obtain ⟨j15,hj15,hr⟩:=obind hr
  refine W_via (fun e fr st=>e = .normal∧Rd fr [(2,.cptr ([keysV]) 0),(3,cN a0 0),(5,.ptr id1 0),(6,vB true),(11,vI a0.kind),(41,vB j15)]∧HL st [.obj id1 (.cells 24 [vI a0.kind,vS (bs []),vS (bs []),vI 0,vI 0,vI 0,vB false,vL tNode ([]:List Node) .nil,vI 0])]) ?_ ?_
  ·replace hr:=hj15
   refine sr (qg 2 [(41,vB (a0.kind == 7))] H fun _ H=>qe ?_)
   rcases csplit hr with ⟨c12,hr⟩|⟨c12,hr⟩
   ·refine qT H c12 (W_skip ?_)
    cases hr
    exact ⟨rfl,H.tq,K.keep [true]⟩
   refine qF H c12 (sr (qg 2 [(41,vB (a0.kind == 8))] H fun _ H=>qe ?_))
   rcases csplit hr with ⟨c13,hr⟩|⟨c13,hr⟩
   ·refine qT H c13 (W_skip ?_)
    cases hr
    exact ⟨rfl,H.tq,K.keep [true]⟩
   refine qF H c13 (sr (qg 2 [(41,vB (a0.kind == 58))] H fun _ H=>qe ?_))
   rcases csplit hr with ⟨c14,hr⟩|⟨c14,hr⟩
   ·refine qT H c14 (W_skip ?_)
    cases hr
    exact ⟨rfl,H.tq,K.keep [true]⟩
   refine qF H c14 (W_reg (qg 2 [(41,vB (a0.kind == 52))] H fun _ H=>qe ?_))
   cases hr
   exact ⟨rfl,H.tq,K.keep [true]⟩
  rintro e fr st ⟨rfl,H,K⟩
  rcases csplit hr with ⟨c16,hr⟩|⟨c16,hr⟩
  ·refine qT H c16 ?_
   refine W_drw (qg 7 [(47,vS a0.name),(49,vI a0.n),(50,.agg [keysV]),(52,vS a0.name)] H fun _ H=>?_)
   refine qb hr (fun x h s=>F157_R n _ x h) H fun x17 hr fr H=>qg 1 [(54,vB x17)] H fun _ H=>?_
   rcases csplit hr with ⟨c18,hr⟩|⟨c18,hr⟩
   rotate_left
   ·rw [c18] at H
    refine qg 5 [(58,vB false),(59,.ptr id1 1)] H fun _ H=>?_
    refine qst 9 1 (vS a0.name) [vI a0.kind,vS a0.name,vS (bs []),vI 0,vI 0,vI 0,vB false,vL tNode ([]:List Node) .nil,vI 0] 0 H K rfl fun st K fr H=>qg 1 [(60,.ptr id1 3)] H fun _ H=>?_
    refine qst 3 3 (vI a0.n) [vI a0.kind,vS a0.name,vS (bs []),vI a0.n,vI 0,vI 0,vB false,vL tNode ([]:List Node) .nil,vI 0] 0 H K rfl fun st K fr H=>qg 1 [(6,vB false)] H fun _ H=>qe (qdI K [0,0,0,0,0,0,0,0,0,0,0,0,0,0,.put 0,0,.put 0,0] ?_)
    cases hr
    exact ⟨rfl,H.tq,K.keep [true]⟩
   rw [c18] at H
   refine qg 2 [(56,vI a0.n)] H fun _ H=>?_
   refine qb hr (fun x h s=>F154_R  _ x h) H fun x19 hr fr H=>qg 2 [(58,vB x19),(59,.ptr id1 1)] H fun _ H=>?_
   refine qst 9 1 (vS a0.name) [vI a0.kind,vS a0.name,vS (bs []),vI 0,vI 0,vI 0,vB false,vL tNode ([]:List Node) .nil,vI 0] 0 H K rfl fun st K fr H=>qg 1 [(60,.ptr id1 3)] H fun _ H=>?_
   refine qst 3 3 (vI a0.n) [vI a0.kind,vS a0.name,vS (bs []),vI a0.n,vI 0,vI 0,vB false,vL tNode ([]:List Node) .nil,vI 0] 0 H K rfl fun st K fr H=>qg 1 [(6,vB x19)] H fun _ H=>qe (qdI K [0,0,0,0,0,0,0,0,0,0,0,0,0,0,.put 0,0,.put 0,0] ?_)
   cases hr
   exact ⟨rfl,H.tq,K.keep [true]⟩
  refine qF H c16 (sr (qg 2 [(61,vB (a0.kind == 35))] H fun _ H=>qe ?_))
  rcases csplit hr with ⟨c20,hr⟩|⟨c20,hr⟩
  ·refine qT H c20 ?_
   refine W_drw (qg 9 [(64,vS a0.name),(66,vI a0.n),(68,vB a0.ghost),(69,.agg [keysV]),(71,vS a0.name)] H fun _ H=>?_)
   refine qb hr (fun x h s=>F157_R n _ x h) H fun x21 hr fr H=>qg 1 [(73,vB x21)] H fun _ H=>?_
   rcases csplit hr with ⟨c22,hr⟩|⟨c22,hr⟩
   rotate_left
   ·rw [c22] at H
    refine qg 5 [(77,vB false),(78,.ptr id1 1)] H fun _ H=>?_
    refine qst 9 1 (vS a0.name) [vI a0.kind,vS a0.name,vS (bs []),vI 0,vI 0,vI 0,vB false,vL tNode ([]:List Node) .nil,vI 0] 0 H K rfl fun st K fr H=>qg 1 [(79,.ptr id1 3)] H fun _ H=>?_
    refine qst 3 3 (vI a0.n) [vI a0.kind,vS a0.name,vS (bs []),vI a0.n,vI 0,vI 0,vB false,vL tNode ([]:List Node) .nil,vI 0] 0 H K rfl fun st K fr H=>qg 1 [(80,.ptr id1 6)] H fun _ H=>?_
    refine qst 4 6 (vB a0.ghost) [vI a0.kind,vS a0.name,vS (bs []),vI a0.n,vI 0,vI 0,vB a0.ghost,vL tNode ([]:List Node) .nil,vI 0] 0 H K rfl fun st K fr H=>qg 1 [(6,vB false)] H fun _ H=>qe (qdI K [0,0,0,0,0,0,0,0,0,0,0,0,0,0,0,0,.put 0,0,.put 0,0,.put 0,0] ?_)
    cases hr
    exact ⟨rfl,H.tq,K.keep [true]⟩
   rw [c22] at H
   refine qg 2 [(75,vI a0.n)] H fun _ H=>?_
   refine qb hr (fun x h s=>F154_R  _ x h) H fun x23 hr fr H=>qg 2 [(77,vB x23),(78,.ptr id1 1)] H fun _ H=>?_
   refine qst 9 1 (vS a0.name) [vI a0.kind,vS a0.name,vS (bs []),vI 0,vI 0,vI 0,vB false,vL tNode ([]:List Node) .nil,vI 0] 0 H K rfl fun st K fr H=>qg 1 [(79,.ptr id1 3)] H fun _ H=>?_
   refine qst 3 3 (vI a0.n) [vI a0.kind,vS a0.name,vS (bs []),vI a0.n,vI 0,vI 0,vB false,vL tNode ([]:List Node) .nil,vI 0] 0 H K rfl fun st K fr H=>qg 1 [(80,.ptr id1 6)] H fun _ H=>?_
   refine qst 4 6 (vB a0.ghost) [vI a0.kind,vS a0.name,vS (bs []),vI a0.n,vI 0,vI 0,vB a0.ghost,vL tNode ([]:List Node) .nil,vI 0] 0 H K rfl fun st K fr H=>qg 1 [(6,vB x23)] H fun _ H=>qe (qdI K [0,0,0,0,0,0,0,0,0,0,0,0,0,0,0,0,.put 0,0,.put 0,0,.put 0,0] ?_)
   cases hr
   exact ⟨rfl,H.tq,K.keep [true]⟩
  refine qF H c20 (sr (qg 2 [(81,vB (a0.kind == 21))] H fun _ H=>qe ?_))
  rcases csplit hr with ⟨c24,hr⟩|⟨c24,hr⟩
  ·refine qT H c24 ?_
   refine W_drw (qg 6 [(84,vI a0.n),(88,vB (a0.n == 0))] H fun _ H=>qg 4 [(92,vB ((a0.n == 0) || (a0.n == 1)))] H (hs:=by intro _ _; generalize (a0.n == 0) = b0; cases b0 <;> kernel_rfl) fun _ H=>qg 1 [(93,.ptr id1 3)] H fun _ H=>?_)
   refine qst 3 3 (vI a0.n) [vI a0.kind,vS (bs []),vS (bs []),vI a0.n,vI 0,vI 0,vB false,vL tNode ([]:List Node) .nil,vI 0] 0 H K rfl fun st K fr H=>qg 1 [(6,vB ((a0.n == 0) || (a0.n == 1)))] H fun _ H=>qe (qdI K [0,0,0,0,0,0,0,0,0,0,0,.put 0,0] ?_)
   cases hr
   exact ⟨rfl,H.tq,K.keep [true]⟩
  refine qF H c24 (W_seq ?_)
  obtain ⟨j28,hj28,hr⟩:=obind hr
  refine W_via (fun e fr st=>e = .normal∧Rd fr [(2,.cptr ([keysV]) 0),(3,cN a0 0),(5,.ptr id1 0),(6,vB true),(11,vI a0.kind),(94,vB j28)]∧HL st [.obj id1 (.cells 24 [vI a0.kind,vS (bs []),vS (bs []),vI 0,vI 0,vI 0,vB false,vL tNode ([]:List Node) .nil,vI 0])]) ?_ ?_
  ·replace hr:=hj28
   refine sr (qg 2 [(94,vB (a0.kind == 27))] H fun _ H=>qe ?_)
   rcases csplit hr with ⟨c25,hr⟩|⟨c25,hr⟩
   ·refine qT H c25 (W_skip ?_)
    cases hr
    exact ⟨rfl,H.tq,K.keep [true]⟩
   refine qF H c25 (sr (qg 2 [(94,vB (a0.kind == 28))] H fun _ H=>qe ?_))
   rcases csplit hr with ⟨c26,hr⟩|⟨c26,hr⟩
   ·refine qT H c26 (W_skip ?_)
    cases hr
    exact ⟨rfl,H.tq,K.keep [true]⟩
   refine qF H c26 (sr (qg 2 [(94,vB (a0.kind == 51))] H fun _ H=>qe ?_))
   rcases csplit hr with ⟨c27,hr⟩|⟨c27,hr⟩
   ·refine qT H c27 (W_skip ?_)
    cases hr
    exact ⟨rfl,H.tq,K.keep [true]⟩
   refine qF H c27 (W_reg (qg 2 [(94,vB (a0.kind == 53))] H fun _ H=>qe ?_))
   cases hr
   exact ⟨rfl,H.tq,K.keep [true]⟩
  rintro e fr st ⟨rfl,H,K⟩
  rcases csplit hr with ⟨c29,hr⟩|⟨c29,hr⟩
  ·refine qT H c29 ?_
   refine W_drw (qg 5 [(100,vS a0.name),(101,.agg [keysV]),(103,vS a0.name)] H fun _ H=>?_)
   refine qb hr (fun x h s=>F157_R n _ x h) H fun x30 hr fr H=>qg 1 [(105,.ptr id1 1)] H fun _ H=>?_
   refine qst 9 1 (vS a0.name) [vI a0.kind,vS a0.name,vS (bs []),vI 0,vI 0,vI 0,vB false,vL tNode ([]:List Node) .nil,vI 0] 0 H K rfl fun st K fr H=>qg 1 [(6,vB x30)] H fun _ H=>qe (qdI K [0,0,0,0,0,0,0,.put 0,0] ?_)
   cases hr
   exact ⟨rfl,H.tq,K.keep [true]⟩
  refine qF H c29 (sr (qg 2 [(106,vB (a0.kind == 50))] H fun _ H=>qe ?_))
  rcases csplit hr with ⟨c31,hr⟩|⟨c31,hr⟩
  ·refine qT H c31 (W_seq (W_drw (qg 13 [(109,vS a0.name),(111,vI a0.n),(113,vS a0.other),(115,vI a0.len),(117,vI a0.init),(119,vB a0.ghost),(120,.ptr id1 1)] H fun _ H=>?_)))
   refine qst 9 1 (vS a0.name) [vI a0.kind,vS a0.name,vS (bs []),vI 0,vI 0,vI 0,vB false,vL tNode ([]:List Node) .nil,vI 0] 0 H K rfl fun st K fr H=>qg 1 [(121,.ptr id1 3)] H fun _ H=>?_
   refine qst 3 3 (vI a0.n) [vI a0.kind,vS a0.name,vS (bs []),vI a0.n,vI 0,vI 0,vB false,vL tNode ([]:List Node) .nil,vI 0] 0 H K rfl fun st K fr H=>qg 1 [(122,.ptr id1 2)] H fun _ H=>?_
   refine qst 9 2 (vS a0.other) [vI a0.kind,vS a0.name,vS a0.other,vI a0.n,vI 0,vI 0,vB false,vL tNode ([]:List Node) .nil,vI 0] 0 H K rfl fun st K fr H=>qg 1 [(123,.ptr id1 4)] H fun _ H=>?_
   refine qst 3 4 (vI a0.len) [vI a0.kind,vS a0.name,vS a0.other,vI a0.n,vI a0.len,vI 0,vB false,vL tNode ([]:List Node) .nil,vI 0] 0 H K rfl fun st K fr H=>qg 1 [(124,.ptr id1 5)] H fun _ H=>?_
   refine qst 3 5 (vI a0.init) [vI a0.kind,vS a0.name,vS a0.other,vI a0.n,vI a0.len,vI a0.init,vB false,vL tNode ([]:List Node) .nil,vI 0] 0 H K rfl fun st K fr H=>qg 1 [(125,.ptr id1 6)] H fun _ H=>?_
   refine qst 4 6 (vB a0.ghost) [vI a0.kind,vS a0.name,vS a0.other,vI a0.n,vI a0.len,vI a0.init,vB a0.ghost,vL tNode ([]:List Node) .nil,vI 0] 0 H K rfl fun st K fr H=>qe (qdI K [0,0,0,0,0,0,0,0,0,0,0,0,0,.put 0,0,.put 0,0,.put 0,0,.put 0,0,.put 0,0,.put 0] (W_reg (qg 3 [(126,.agg [keysV]),(128,vS a0.name)] H fun _ H=>?_)))
   refine qb hr (fun x h s=>F157_R n _ x h) H fun x32 hr fr H=>qg 1 [(130,vB x32)] H fun _ H=>?_
   rcases csplit hr with ⟨c33,hr⟩|⟨c33,hr⟩
   rotate_left
   ·rw [c33] at H
    refine qg 31 [(6,vB false)] H fun _ H=>qe ?_
    cases hr
    exact ⟨rfl,H.tq,K.keep [true]⟩
   rw [c33] at H
   refine qg 2 [(132,vI a0.n)] H fun _ H=>?_
   refine qb hr (fun x h s=>F154_R  _ x h) H fun x34 hr fr H=>qg 2 [(135,vB x34)] H fun _ H=>?_
   rcases csplit hr with ⟨c35,hr⟩|⟨c35,hr⟩
   rotate_left
   ·rw [c35] at H
    refine qg 26 [(6,vB false)] H fun _ H=>qe ?_
    cases hr
    exact ⟨rfl,H.tq,K.keep [true]⟩
   rw [c35] at H
   refine qg 2 [(137,vI a0.len)] H fun _ H=>?_
   refine qb hr (fun x h s=>F154_R  _ x h) H fun x36 hr fr H=>qg 2 [(140,vB x36)] H fun _ H=>?_
   rcases csplit hr with ⟨c37,hr⟩|⟨c37,hr⟩
   rotate_left
   ·rw [c37] at H
    refine qg 21 [(6,vB false)] H fun _ H=>qe ?_
    cases hr
    exact ⟨rfl,H.tq,K.keep [true]⟩
   rw [c37] at H
   refine qg 2 [(142,vI a0.init)] H fun _ H=>?_
   refine qb hr (fun x h s=>F154_R  _ x h) H fun x38 hr fr H=>qg 2 [(145,vB x38)] H fun _ H=>?_
   rcases csplit hr with ⟨c39,hr⟩|⟨c39,hr⟩
   rotate_left
   ·rw [c39] at H
    refine qg 16 [(6,vB false)] H fun _ H=>qe ?_
    cases hr
    exact ⟨rfl,H.tq,K.keep [true]⟩
   rw [c39] at H
   refine qg 4 [(149,vB (strEq a0.other (bs [])))] H fun _ H=>?_
   rcases csplit hr with ⟨c40,hr⟩|⟨c40,hr⟩
   ·rw [c40] at H
    refine qg 12 [(6,vB true)] H fun _ H=>qe ?_
    cases hr
    exact ⟨rfl,H.tq,K.keep [true]⟩
   rw [c40] at H
   refine qg 4 [(153,vB (a0.n == 0))] H fun _ H=>?_
   rcases csplit hr with ⟨c41,hr⟩|⟨c41,hr⟩
   rotate_left
   ·rw [c41] at H
    refine qg 8 [(6,vB false)] H fun _ H=>qe ?_
    cases hr
    exact ⟨rfl,H.tq,K.keep [true]⟩
   rw [c41] at H
   refine qg 3 [(154,.agg [keysV]),(156,vS a0.other)] H fun _ H=>?_
   refine qb hr (fun x h s=>F157_R n _ x h) H fun x42 hr fr H=>qg 4 [(6,vB x42)] H fun _ H=>qe ?_
   cases hr
   exact ⟨rfl,H.tq,K.keep [true]⟩
  refine qF H c31 (sr (qg 2 [(161,vB (a0.kind == 57))] H fun _ H=>qe ?_))
  rcases csplit hr with ⟨c43,hr⟩|⟨c43,hr⟩
  ·refine qT H c43 ?_
   refine W_drw (qg 7 [(164,vS a0.name),(166,vS a0.other),(167,.agg [keysV]),(169,vS a0.name)] H fun _ H=>?_)
   refine qb hr (fun x h s=>F157_R n _ x h) H fun x44 hr fr H=>qg 1 [(171,vB x44)] H fun _ H=>?_
   rcases csplit hr with ⟨c45,hr⟩|⟨c45,hr⟩
   rotate_left
   ·rw [c45] at H
    refine qg 11 [(181,vB false),(182,.ptr id1 1)] H fun _ H=>?_
    refine qst 9 1 (vS a0.name) [vI a0.kind,vS a0.name,vS (bs []),vI 0,vI 0,vI 0,vB false,vL tNode ([]:List Node) .nil,vI 0] 0 H K rfl fun st K fr H=>qg 1 [(183,.ptr id1 2)] H fun _ H=>?_
    refine qst 9 2 (vS a0.other) [vI a0.kind,vS a0.name,vS a0.other,vI 0,vI 0,vI 0,vB false,vL tNode ([]:List Node) .nil,vI 0] 0 H K rfl fun st K fr H=>qg 1 [(6,vB false)] H fun _ H=>qe (qdI K [0,0,0,0,0,0,0,0,0,0,0,0,0,0,0,0,0,0,0,0,.put 0,0,.put 0,0] ?_)
    cases hr
    exact ⟨rfl,H.tq,K.keep [true]⟩
   rw [c45] at H
   refine qg 4 [(175,vB (strEq a0.other (bs [])))] H fun _ H=>?_
   rcases csplit hr with ⟨c46,hr⟩|⟨c46,hr⟩
   ·rw [c46] at H
    refine qg 7 [(181,vB true),(182,.ptr id1 1)] H fun _ H=>?_
    refine qst 9 1 (vS a0.name) [vI a0.kind,vS a0.name,vS (bs []),vI 0,vI 0,vI 0,vB false,vL tNode ([]:List Node) .nil,vI 0] 0 H K rfl fun st K fr H=>qg 1 [(183,.ptr id1 2)] H fun _ H=>?_
    refine qst 9 2 (vS a0.other) [vI a0.kind,vS a0.name,vS a0.other,vI 0,vI 0,vI 0,vB false,vL tNode ([]:List Node) .nil,vI 0] 0 H K rfl fun st K fr H=>qg 1 [(6,vB true)] H fun _ H=>qe (qdI K [0,0,0,0,0,0,0,0,0,0,0,0,0,0,0,0,0,0,0,0,.put 0,0,.put 0,0] ?_)
    cases hr
    exact ⟨rfl,H.tq,K.keep [true]⟩
   rw [c46] at H
   refine qg 3 [(176,.agg [keysV]),(178,vS a0.other)] H fun _ H=>?_
   refine qb hr (fun x h s=>F157_R n _ x h) H fun x47 hr fr H=>qg 3 [(181,vB x47),(182,.ptr id1 1)] H fun _ H=>?_
   refine qst 9 1 (vS a0.name) [vI a0.kind,vS a0.name,vS (bs []),vI 0,vI 0,vI 0,vB false,vL tNode ([]:List Node) .nil,vI 0] 0 H K rfl fun st K fr H=>qg 1 [(183,.ptr id1 2)] H fun _ H=>?_
   refine qst 9 2 (vS a0.other) [vI a0.kind,vS a0.name,vS a0.other,vI 0,vI 0,vI 0,vB false,vL tNode ([]:List Node) .nil,vI 0] 0 H K rfl fun st K fr H=>qg 1 [(6,vB x47)] H fun _ H=>qe (qdI K [0,0,0,0,0,0,0,0,0,0,0,0,0,0,0,0,0,0,0,0,.put 0,0,.put 0,0] ?_)
   cases hr
   exact ⟨rfl,H.tq,K.keep [true]⟩
  refine qF H c43 (sr (qg 2 [(184,vB (a0.kind == 60))] H fun _ H=>qe ?_))
  rcases csplit hr with ⟨c48,hr⟩|⟨c48,hr⟩
  ·refine qT H c48 ?_
   refine W_drw (qg 7 [(187,vS a0.name),(189,vS a0.other),(190,.agg [keysV]),(192,vS a0.name)] H fun _ H=>?_)
   refine qb hr (fun x h s=>F157_R n _ x h) H fun x49 hr fr H=>qg 1 [(194,vB x49)] H fun _ H=>?_
   rcases csplit hr with ⟨c50,hr⟩|⟨c50,hr⟩
   rotate_left
   ·rw [c50] at H
    refine qg 6 [(199,vB false),(200,.ptr id1 1)] H fun _ H=>?_
    refine qst 9 1 (vS a0.name) [vI a0.kind,vS a0.name,vS (bs []),vI 0,vI 0,vI 0,vB false,vL tNode ([]:List Node) .nil,vI 0] 0 H K rfl fun st K fr H=>qg 1 [(201,.ptr id1 2)] H fun _ H=>?_
    refine qst 9 2 (vS a0.other) [vI a0.kind,vS a0.name,vS a0.other,vI 0,vI 0,vI 0,vB false,vL tNode ([]:List Node) .nil,vI 0] 0 H K rfl fun st K fr H=>qg 1 [(6,vB false)] H fun _ H=>qe (qdI K [0,0,0,0,0,0,0,0,0,0,0,0,0,0,0,.put 0,0,.put 0,0] ?_)
    cases hr
    exact ⟨rfl,H.tq,K.keep [true]⟩
   rw [c50] at H
   refine qg 3 [(195,.agg [keysV]),(197,vS a0.other)] H fun _ H=>?_
   refine qb hr (fun x h s=>F157_R n _ x h) H fun x51 hr fr H=>qg 2 [(199,vB x51),(200,.ptr id1 1)] H fun _ H=>?_
   refine qst 9 1 (vS a0.name) [vI a0.kind,vS a0.name,vS (bs []),vI 0,vI 0,vI 0,vB false,vL tNode ([]:List Node) .nil,vI 0] 0 H K rfl fun st K fr H=>qg 1 [(201,.ptr id1 2)] H fun _ H=>?_
   refine qst 9 2 (vS a0.other) [vI a0.kind,vS a0.name,vS a0.other,vI 0,vI 0,vI 0,vB false,vL tNode ([]:List Node) .nil,vI 0] 0 H K rfl fun st K fr H=>qg 1 [(6,vB x51)] H fun _ H=>qe (qdI K [0,0,0,0,0,0,0,0,0,0,0,0,0,0,0,.put 0,0,.put 0,0] ?_)
   cases hr
   exact ⟨rfl,H.tq,K.keep [true]⟩
  refine qF H c48 (sr (qg 2 [(202,vB (a0.kind == 61))] H fun _ H=>qe ?_))
  rcases csplit hr with ⟨c52,hr⟩|⟨c52,hr⟩
  rotate_left
  ·refine qF H c52 (W_skip ?_)
   cases hr
   exact ⟨rfl,H.tq,K.keep [true]⟩
  refine qT H c52 (W_seq (W_drw (qg 7 [(205,vS a0.name),(207,vS a0.other),(209,vI a0.n),(210,.ptr id1 1)] H fun _ H=>?_)))
  refine qst 9 1 (vS a0.name) [vI a0.kind,vS a0.name,vS (bs []),vI 0,vI 0,vI 0,vB false,vL tNode ([]:List Node) .nil,vI 0] 0 H K rfl fun st K fr H=>qg 1 [(211,.ptr id1 2)] H fun _ H=>?_
  refine qst 9 2 (vS a0.other) [vI a0.kind,vS a0.name,vS a0.other,vI 0,vI 0,vI 0,vB false,vL tNode ([]:List Node) .nil,vI 0] 0 H K rfl fun st K fr H=>qg 1 [(212,.ptr id1 3)] H fun _ H=>?_
  refine qst 3 3 (vI a0.n) [vI a0.kind,vS a0.name,vS a0.other,vI a0.n,vI 0,vI 0,vB false,vL tNode ([]:List Node) .nil,vI 0] 0 H K rfl fun st K fr H=>qe (qdI K [0,0,0,0,0,0,0,.put 0,0,.put 0,0,.put 0] (W_reg (qg 3 [(213,.agg [keysV]),(215,vS a0.name)] H fun _ H=>?_)))
  refine qb hr (fun x h s=>F157_R n _ x h) H fun x53 hr fr H=>qg 1 [(217,vB x53)] H fun _ H=>?_
  rcases csplit hr with ⟨c54,hr⟩|⟨c54,hr⟩
  rotate_left
  ·rw [c54] at H
   refine qg 16 [(6,vB false)] H fun _ H=>qe ?_
   cases hr
   exact ⟨rfl,H.tq,K.keep [true]⟩
  rw [c54] at H
  refine qg 3 [(218,.agg [keysV]),(220,vS a0.other)] H fun _ H=>?_
  refine qb hr (fun x h s=>F155_R n _ x h) H fun x55 hr fr H=>qg 2 [(223,vB x55)] H fun _ H=>?_
  refine qseg 9 [(232,vB (x55 && ((a0.n == 0) || (a0.n == 1))))] H ?_ ?_
  ·cases hg56:x55
   ·rw [hg56] at H
    refine seg_go 0 9 [(232,vB false)] H fun _ H=>?_
    exact seg_end (by (try simp only [hg56]); exact H.tq)
   ·rw [hg56] at H
    refine seg_go 5 4 [(227,vB (a0.n == 0))] H fun _ H=>?_
    cases hg57:(a0.n == 0)
    ·rw [hg57] at H
     refine seg_go 0 5 [(232,vB (a0.n == 1))] H fun _ H=>?_
     exact seg_end (by (try simp only [hg56,hg57]); exact H.tq)
    ·rw [hg57] at H
     refine seg_go 0 5 [(232,vB true)] H fun _ H=>?_
     exact seg_end (by (try simp only [hg56,hg57]); exact H.tq)
  intro fr H
  refine qg 1 [(6,vB (x55 && ((a0.n == 0) || (a0.n == 1))))] H fun _ H=>qe ?_
  cases hr
  exact ⟨rfl,H.tq,K.keep [true]⟩
 rintro e fr st ⟨rfl,H,K⟩
 refine sr (qg 2 [(234,vB j58.1)] H fun _ H=>?_)
 rcases csplit hr with ⟨c59,hr⟩|⟨c59,hr⟩
 rotate_left
 ·rw [c59] at H
  refine qg 42 [(4,vB false)] H fun _ H=>qe (W_ret ?_)
  cases hr
  exact qr [vB false] H K
 rw [c59] at H
 refine qg 3 [(236,vS a0.name),(237,.ptr id1 1)] H fun _ H=>?_
 refine qld 9 1 (vS j58.2.name) 0 H K rfl fun _ H=>qg 3 [(241,vB (strEq a0.name j58.2.name))] H fun _ H=>?_
 rcases csplit hr with ⟨c60,hr⟩|⟨c60,hr⟩
 rotate_left
 ·rw [c60] at H
  refine qg 35 [(4,vB false)] H fun _ H=>qe (W_ret ?_)
  cases hr
  exact qr [vB false] H K
 rw [c60] at H
 refine qg 3 [(243,vS a0.other),(244,.ptr id1 2)] H fun _ H=>?_
 refine qld 9 2 (vS j58.2.other) 0 H K rfl fun _ H=>qg 3 [(248,vB (strEq a0.other j58.2.other))] H fun _ H=>?_
 rcases csplit hr with ⟨c61,hr⟩|⟨c61,hr⟩
 rotate_left
 ·rw [c61] at H
  refine qg 28 [(4,vB false)] H fun _ H=>qe (W_ret ?_)
  cases hr
  exact qr [vB false] H K
 rw [c61] at H
 refine qg 3 [(250,vI a0.n),(251,.ptr id1 3)] H fun _ H=>?_
 refine qld 3 3 (vI j58.2.n) 0 H K rfl fun _ H=>qg 3 [(255,vB (a0.n == j58.2.n))] H fun _ H=>?_
 rcases csplit hr with ⟨c62,hr⟩|⟨c62,hr⟩
 rotate_left
 ·rw [c62] at H
  refine qg 21 [(4,vB false)] H fun _ H=>qe (W_ret ?_)
  cases hr
  exact qr [vB false] H K
 rw [c62] at H
 refine qg 3 [(257,vI a0.len),(258,.ptr id1 4)] H fun _ H=>?_
 refine qld 3 4 (vI j58.2.len) 0 H K rfl fun _ H=>qg 3 [(262,vB (a0.len == j58.2.len))] H fun _ H=>?_
 rcases csplit hr with ⟨c63,hr⟩|⟨c63,hr⟩
 rotate_left
 ·rw [c63] at H
  refine qg 14 [(4,vB false)] H fun _ H=>qe (W_ret ?_)
  cases hr
  exact qr [vB false] H K
 rw [c63] at H
 refine qg 3 [(264,vI a0.init),(265,.ptr id1 5)] H fun _ H=>?_
 refine qld 3 5 (vI j58.2.init) 0 H K rfl fun _ H=>qg 3 [(269,vB (a0.init == j58.2.init))] H fun _ H=>?_
 rcases csplit hr with ⟨c64,hr⟩|⟨c64,hr⟩
 rotate_left
 ·rw [c64] at H
  refine qg 7 [(4,vB false)] H fun _ H=>qe (W_ret ?_)
  cases hr
  exact qr [vB false] H K
 rw [c64] at H
 refine qg 3 [(271,vB a0.ghost),(272,.ptr id1 6)] H fun _ H=>?_
 refine qld 4 6 (vB j58.2.ghost) 0 H K rfl fun _ H=>qg 3 [(4,vB (a0.ghost == j58.2.ghost))] H fun _ H=>qe (W_ret ?_)
 cases hr
 exact qr [vB (a0.ghost == j58.2.ghost)] H K
def F158 (n:Nat) (a0:List Node) (a1:List Pred):Option Bool :=
 bif (a0.length:Int) != (a1.length:Int) then
  (some false)
 else
  ((iter (σ:=Int) (ρ:=Unit ⊕ Unit) (fun s2=>bif decide (s2 < (a0.length:Int)) then
    ((idxL a0 s2).bind fun x4 =>
    (idxL a1 s2).bind fun x6 =>
    (x6.p x4).bind fun x7 =>
    bif !x7 then
     (some (.inr (.inl ())))
    else
     (some (.inl (w64 (s2 + 1)))))
   else
    (some (.inr (.inr ())))) n (0:Int)).bind fun r9=>match r9 with
  | .inl _=>some false
  | .inr _=>some true)
theorem F158_R (n:Nat) (a0:List Node) (a1:List Pred) (r:Bool) (hr:F158 n a0 a1 = some r) {st:St} {p0 p1:Spare}:R Tryz.prog AN 158 [vL tNode a0 p0,vL tPred a1 p1] st (.ret (vB r)) st:=by
 unfold F158 at hr
 refine R_pureX [vL tNode a0 .shut,vL tPred a1 .shut] [(0,vL tNode a0 .shut),(1,vL tPred a1 .shut)] Tryz.func158 rfl (by simp only [strip,stripL,stripL_ET,Option.bind_some,Option.map_some]) rfl fun fr st H K=>sr (qg 1 [] H fun _ H=>qe (W_seq (W_seq (W_reg (qg 1 [(7,vL tNode a0 .shut)] H fun _ H=>?_)))))
 refine qln tNode 22 a0 .shut H fun _ H=>qg 1 [(9,vL tPred a1 .shut)] H fun _ H=>?_
 refine qln tPred 167 a1 .shut H fun _ H=>qg 1 [(11,vB ((a0.length:Int) != (a1.length:Int)))] H fun _ H=>qe ?_
 rcases csplit hr with ⟨c1,hr⟩|⟨c1,hr⟩
 ·refine qT H c1 (sr (qg 1 [(4,vB false)] H fun _ H=>qe (W_ret ?_)))
  cases hr
  exact qr [vB false] H K
 refine qF H c1 (W_skip (W_seq (W_seq (W_reg (qg 1 [(12,vL tNode a0 .shut)] H fun _ H=>?_)))))
 refine qln tNode 22 a0 .shut H fun _ H=>qg 1 [(14,vI 0)] H fun _ H=>qe (W_block ?_)
 obtain ⟨r9,hr9,hr⟩:=obind hr
 refine W_iter hr9 (fun (s2:Int) fr st=>Rd fr [(1,vL tPred a1 .shut),(12,vL tNode a0 .shut),(13,vI (a0.length:Int)),(14,vI s2)]∧HL st []) (fun (r9:Unit ⊕ Unit) e fr st=>match r9 with | .inl r9a=>(e = .ret∧Rd fr [(4,vB false)]∧HL st []) | .inr r9b=>(e = .exit 0∧Rd fr []∧HL st [])) ⟨H.tq,K.keep []⟩ ?_ ?_
 ·intro s2 fr st r hi hr
  obtain ⟨H,K⟩:=hi
  refine sr (qg 1 [(15,vB (decide (s2 < (a0.length:Int))))] H fun _ H=>qe (W_seq ?_))
  rcases csplit hr with ⟨c3,hr⟩|⟨c3,hr⟩
  rotate_left
  ·refine qF H c3 ?_
   refine W_exit ?_
   cases hr
   exact ⟨by simp,⟨rfl,H.tq,K.keep []⟩⟩
  refine qT H c3 (W_skip (W_seq (W_block (sr (qg 1 [(16,vI s2)] H fun _ H=>?_)))))
  refine qix tNode 22 .shut hr H fun x4 hr hx4 fr H=>qg 1 [(18,aN x4)] H fun _ H=>?_
  refine qal 24 zL H K fun id5 st K fr H=>qg 1 [(5,vI s2)] H fun _ H=>?_
  refine qst 24 0 (aN x4) [vI x4.kind,vS x4.name,vS x4.other,vI x4.n,vI x4.len,vI x4.init,vB x4.ghost,vL tNode x4.kids .shut,vI x4.pos] 0 H K rfl fun st K fr H=>qe (W_seq (W_drw (qg 2 [(19,vL tPred a1 .shut),(20,vI s2)] H fun _ H=>?_)))
  refine qix tPred 167 .shut hr H fun x6 hr hx6 fr H=>qg 1 [(22,.fn x6.g x6.a x6.b)] H fun _ H=>?_
  refine qld 24 0 (aN x4) 0 H K rfl fun _ H=>?_
  refine qb hr (fun x h s=>x6.ok _ x s .shut h) H fun x7 hr fr H=>qg 1 [(25,vB !x7)] H fun _ H=>qe (qd ?_)
  rcases csplit hr with ⟨c8,hr⟩|⟨c8,hr⟩
  ·refine qT H c8 (sr (qg 1 [(4,vB false)] H fun _ H=>qe (W_ret ?_)))
   cases hr
   exact ⟨by simp,⟨rfl,H.tq,K.keep [false]⟩⟩
  refine qF H c8 (W_skip (W_reg (qg 2 [(14,vI (w64 (s2 + 1)))] H fun _ H=>qe ?_)))
  cases hr
  exact ⟨rfl,⟨H.tq,K.keep [false]⟩⟩
 rcases r9 with r9a | r9b
 ·rintro e fr st ⟨rfl,H,K⟩
  cases hr
  exact qr [vB false] H K
 rintro e fr st ⟨rfl,H,K⟩
 refine sr (qg 1 [(4,vB true)] H fun _ H=>qe (W_ret ?_))
 cases hr
 exact qr [vB true] H K
def F197 (a0:Node) (a1:Int):Option Bool :=
 some (a0.kind == a1)
theorem F197_R (a0:Node) (a1:Int) (r:Bool) (hr:F197 a0 a1 = some r) {st:St} {p0:Spare}:R Tryz.prog AN 197 [.agg (cNode p0 a0),.cptr ([vI a1]) 0] st (.ret (vB r)) st:=by
 unfold F197 at hr
 refine R_pureX [aN a0,.cptr ([vI a1]) 0] [(0,aN a0),(1,.cptr ([vI a1]) 0)] Tryz.func197 rfl (by simp only [strip,stripL,stripL_cNode,Option.bind_some,Option.map_some]) rfl fun fr st H K=>sr (qg 2 [(2,cN a0 0)] H fun _ H=>qe (sr (qg 5 [(3,vB (a0.kind == a1))] H fun _ H=>qe (W_ret ?_))))
 cases hr
 exact qr [vB (a0.kind == a1)] H K
def F160 (n:Nat) (a0:List Node):Option Bool :=
 (iter (σ:=Int) (ρ:=Unit ⊕ Unit) (fun s1=>bif decide (s1 < (a0.length:Int)) then
   ((idxL a0 s1).bind fun x3 =>
   (F62 x3).bind fun x5 =>
   bif !x5 then
    (some (.inr (.inl ())))
   else
    (bif (Int.tmod s1 2) == 0 then
     (bif x3.kind != 2 then
      (some (.inr (.inl ())))
     else
      (some (.inl (w64 (s1 + 1)))))
    else
     (some (.inl (w64 (s1 + 1))))))
  else
   (some (.inr (.inr ())))) n (0:Int)).bind fun r9=>match r9 with
 | .inl _=>some false
 | .inr _=>some ((Int.tmod (a0.length:Int) 2) == 0)
theorem F160_R (n:Nat) (a0:List Node) (r:Bool) (hr:F160 n a0 = some r) {st:St} {p0:Spare}:R Tryz.prog AN 160 [vL tNode a0 p0] st (.ret (vB r)) st:=by
 unfold F160 at hr
 refine R_pureX [vL tNode a0 .shut] [(0,vL tNode a0 .shut)] Tryz.func160 rfl (by simp only [strip,stripL,stripL_ET,Option.bind_some,Option.map_some]) rfl fun fr st H K=>sr (qg 1 [] H fun _ H=>qe (W_seq (W_seq (W_reg (qg 1 [(5,vL tNode a0 .shut)] H fun _ H=>?_)))))
 refine qln tNode 22 a0 .shut H fun _ H=>qg 1 [(7,vI 0)] H fun _ H=>qe (W_block ?_)
 obtain ⟨r9,hr9,hr⟩:=obind hr
 refine W_iter hr9 (fun (s1:Int) fr st=>Rd fr [(0,vL tNode a0 .shut),(5,vL tNode a0 .shut),(6,vI (a0.length:Int)),(7,vI s1)]∧HL st []) (fun (r9:Unit ⊕ Unit) e fr st=>match r9 with | .inl r9a=>(e = .ret∧Rd fr [(2,vB false)]∧HL st []) | .inr r9b=>(e = .exit 0∧Rd fr [(0,vL tNode a0 .shut)]∧HL st [])) ⟨H.tq,K.keep []⟩ ?_ ?_
 ·intro s1 fr st r hi hr
  obtain ⟨H,K⟩:=hi
  refine sr (qg 1 [(8,vB (decide (s1 < (a0.length:Int))))] H fun _ H=>qe (W_seq ?_))
  rcases csplit hr with ⟨c2,hr⟩|⟨c2,hr⟩
  rotate_left
  ·refine qF H c2 ?_
   refine W_exit ?_
   cases hr
   exact ⟨by simp,⟨rfl,H.tq,K.keep []⟩⟩
  refine qT H c2 (W_skip (W_seq (W_block (sr (qg 1 [(9,vI s1)] H fun _ H=>?_)))))
  refine qix tNode 22 .shut hr H fun x3 hr hx3 fr H=>qg 1 [(11,aN x3)] H fun _ H=>?_
  refine qal 24 zL H K fun id4 st K fr H=>qg 1 [(3,vI s1)] H fun _ H=>?_
  refine qst 24 0 (aN x3) [vI x3.kind,vS x3.name,vS x3.other,vI x3.n,vI x3.len,vI x3.init,vB x3.ghost,vL tNode x3.kids .shut,vI x3.pos] 0 H K rfl fun st K fr H=>qe (sr ?_)
  refine qld 24 0 (aN x3) 0 H K rfl fun _ H=>?_
  refine qb hr (fun x h s=>F62_R  _ x h (p0:=.shut)) H fun x5 hr fr H=>qg 2 [(15,vB !x5)] H fun _ H=>?_
  rcases csplit hr with ⟨c6,hr⟩|⟨c6,hr⟩
  ·rw [c6] at H
   refine qg 9 [(24,vB true)] H fun _ H=>qe (qT H rfl (sr (qg 1 [(2,vB false)] H fun _ H=>qe (W_ret ?_))))
   cases hr
   exact ⟨by simp,⟨rfl,H.tq,K.keep [false]⟩⟩
  rw [c6] at H
  refine qg 4 [(19,vB ((Int.tmod s1 2) == 0))] H fun _ H=>?_
  rcases csplit hr with ⟨c7,hr⟩|⟨c7,hr⟩
  rotate_left
  ·rw [c7] at H
   refine qg 5 [(24,vB false)] H fun _ H=>qe (qF H rfl (W_skip (W_reg (qg 2 [(7,vI (w64 (s1 + 1)))] H fun _ H=>qe ?_))))
   cases hr
   exact ⟨rfl,⟨H.tq,K.keep [false]⟩⟩
  rw [c7] at H
  refine qg 1 [(20,.ptr id4 0)] H fun _ H=>?_
  refine qld 3 0 (vI x3.kind) 0 H K rfl fun _ H=>qg 3 [(24,vB (x3.kind != 2))] H fun _ H=>qe ?_
  rcases csplit hr with ⟨c8,hr⟩|⟨c8,hr⟩
  ·refine qT H c8 (sr (qg 1 [(2,vB false)] H fun _ H=>qe (W_ret ?_)))
   cases hr
   exact ⟨by simp,⟨rfl,H.tq,K.keep [false]⟩⟩
  refine qF H c8 (W_skip (W_reg (qg 2 [(7,vI (w64 (s1 + 1)))] H fun _ H=>qe ?_)))
  cases hr
  exact ⟨rfl,⟨H.tq,K.keep [false]⟩⟩
 rcases r9 with r9a | r9b
 ·rintro e fr st ⟨rfl,H,K⟩
  cases hr
  exact qr [vB false] H K
 rintro e fr st ⟨rfl,H,K⟩
 refine sr (qg 1 [(26,vL tNode a0 .shut)] H fun _ H=>?_)
 refine qln tNode 22 a0 .shut H fun _ H=>qg 3 [(2,vB ((Int.tmod (a0.length:Int) 2) == 0))] H fun _ H=>qe (W_ret ?_)
 cases hr
 exact qr [vB ((Int.tmod (a0.length:Int) 2) == 0)] H K
def F161 (a0:Node):Option Bool :=
 some (a0.kind == 63)
theorem F161_R (a0:Node) (r:Bool) (hr:F161 a0 = some r) {st:St} {p0:Spare}:R Tryz.prog AN 161 [.agg (cNode p0 a0)] st (.ret (vB r)) st:=by
 unfold F161 at hr
 refine R_pureX [aN a0] [(0,aN a0)] Tryz.func161 rfl (by simp only [strip,stripL,stripL_cNode,Option.bind_some,Option.map_some]) rfl fun fr st H K=>sr (qg 2 [(1,cN a0 0)] H fun _ H=>qe (sr (qg 4 [(2,vB (a0.kind == 63))] H fun _ H=>qe (W_ret ?_))))
 cases hr
 exact qr [vB (a0.kind == 63)] H K
def F198 (a0:Node):Option Bool :=
 (F62 a0).bind fun x1 =>
 bif x1 then
  (some true)
 else
  ((F161 a0).bind fun x3 =>
  some x3)
theorem F198_R (a0:Node) (r:Bool) (hr:F198 a0 = some r) {st:St} {p0:Spare}:R Tryz.prog AN 198 [.agg (cNode p0 a0),.cptr ([.fn 62 [] []]) 0,.cptr ([.fn 161 [] []]) 0] st (.ret (vB r)) st:=by
 unfold F198 at hr
 refine R_pureX [aN a0,.cptr ([.fn 62 [] []]) 0,.cptr ([.fn 161 [] []]) 0] [(0,aN a0),(1,.cptr ([.fn 62 [] []]) 0),(2,.cptr ([.fn 161 [] []]) 0)] Tryz.func198 rfl (by simp only [strip,stripL,stripL_cNode,Option.bind_some,Option.map_some]) rfl fun fr st H K=>sr (qg 2 [(3,cN a0 0)] H fun _ H=>qe (sr (qg 2 [(5,.fn 62 [] []),(6,aN a0)] H fun _ H=>?_)))
 refine qb hr (fun x h s=>F62_R  _ x h (p0:=.shut)) H fun x1 hr fr H=>qg 1 [(8,vB x1)] H fun _ H=>?_
 rcases csplit hr with ⟨c2,hr⟩|⟨c2,hr⟩
 ·rw [c2] at H
  refine qg 5 [(4,vB true)] H fun _ H=>qe (W_ret ?_)
  cases hr
  exact qr [vB true] H K
 rw [c2] at H
 refine qg 2 [(9,.fn 161 [] []),(10,aN a0)] H fun _ H=>?_
 refine qb hr (fun x h s=>F161_R  _ x h (p0:=.shut)) H fun x3 hr fr H=>qg 2 [(4,vB x3)] H fun _ H=>qe (W_ret ?_)
 obtain rfl:=Option.some.inj hr
 exact qr [vB x3] H K
def F99_1 (n:Nat) (a0:List Node):Option Bool :=
 (iter (σ:=Int) (ρ:=Unit ⊕ Unit) (fun s1=>bif decide (s1 < (a0.length:Int)) then
   ((idxL a0 s1).bind fun x3 =>
   (F62 x3).bind fun x5 =>
   bif !x5 then
    (some (.inr (.inl ())))
   else
    (some (.inl (w64 (s1 + 1)))))
  else
   (some (.inr (.inr ())))) n (0:Int)).bind fun r7=>match r7 with
 | .inl _=>some false
 | .inr _=>some true
theorem F99_1_R (n:Nat) (a0:List Node) (r:Bool) (hr:F99_1 n a0 = some r) {st:St} {p0:Spare}:R Tryz.prog AN 99 [vL tNode a0 p0,.fn 62 [] []] st (.ret (vB r)) st:=by
 unfold F99_1 at hr
 refine R_pureX [vL tNode a0 .shut,.fn 62 [] []] [(0,vL tNode a0 .shut),(1,.fn 62 [] [])] Tryz.func99 rfl (by simp only [strip,stripL,stripL_ET,Option.bind_some,Option.map_some]) rfl fun fr st H K=>sr (qg 1 [] H fun _ H=>qe (W_seq (W_seq (W_reg (qg 1 [(7,vL tNode a0 .shut)] H fun _ H=>?_)))))
 refine qln tNode 22 a0 .shut H fun _ H=>qg 1 [(9,vI 0)] H fun _ H=>qe (W_block ?_)
 obtain ⟨r7,hr7,hr⟩:=obind hr
 refine W_iter hr7 (fun (s1:Int) fr st=>Rd fr [(1,.fn 62 [] []),(7,vL tNode a0 .shut),(8,vI (a0.length:Int)),(9,vI s1)]∧HL st []) (fun (r7:Unit ⊕ Unit) e fr st=>match r7 with | .inl r7a=>(e = .ret∧Rd fr [(4,vB false)]∧HL st []) | .inr r7b=>(e = .exit 0∧Rd fr []∧HL st [])) ⟨H.tq,K.keep []⟩ ?_ ?_
 ·intro s1 fr st r hi hr
  obtain ⟨H,K⟩:=hi
  refine sr (qg 1 [(10,vB (decide (s1 < (a0.length:Int))))] H fun _ H=>qe (W_seq ?_))
  rcases csplit hr with ⟨c2,hr⟩|⟨c2,hr⟩
  rotate_left
  ·refine qF H c2 ?_
   refine W_exit ?_
   cases hr
   exact ⟨by simp,⟨rfl,H.tq,K.keep []⟩⟩
  refine qT H c2 (W_skip (W_seq (W_block (sr ?_))))
  refine qix tNode 22 .shut hr H fun x3 hr hx3 fr H=>qg 1 [(12,aN x3)] H fun _ H=>?_
  refine qal 24 zL H K fun id4 st K fr H=>?_
  refine qst 24 0 (aN x3) [vI x3.kind,vS x3.name,vS x3.other,vI x3.n,vI x3.len,vI x3.init,vB x3.ghost,vL tNode x3.kids .shut,vI x3.pos] 0 H K rfl fun st K fr H=>qe (sr (qg 1 [(13,.fn 62 [] [])] H fun _ H=>?_))
  refine qld 24 0 (aN x3) 0 H K rfl fun _ H=>?_
  refine qb hr (fun x h s=>F62_R  _ x h (p0:=.shut)) H fun x5 hr fr H=>qg 1 [(16,vB !x5)] H fun _ H=>qe ?_
  rcases csplit hr with ⟨c6,hr⟩|⟨c6,hr⟩
  ·refine qT H c6 (sr (qg 1 [(4,vB false)] H fun _ H=>qe (W_ret ?_)))
   cases hr
   exact ⟨by simp,⟨rfl,H.tq,K.keep [false]⟩⟩
  refine qF H c6 (W_skip (W_reg (qg 2 [(9,vI (w64 (s1 + 1)))] H fun _ H=>qe ?_)))
  cases hr
  exact ⟨rfl,⟨H.tq,K.keep [false]⟩⟩
 rcases r7 with r7a | r7b
 ·rintro e fr st ⟨rfl,H,K⟩
  cases hr
  exact qr [vB false] H K
 rintro e fr st ⟨rfl,H,K⟩
 refine sr (qg 1 [(4,vB true)] H fun _ H=>qe (W_ret ?_))
 cases hr
 exact qr [vB true] H K
def F163 (a0:Node):Option Bool :=
 some (((decide (20≤a0.kind)) && (decide (a0.kind≤35))) && (a0.kind != 34))
theorem F163_R (a0:Node) (r:Bool) (hr:F163 a0 = some r) {st:St} {p0:Spare}:R Tryz.prog AN 163 [.agg (cNode p0 a0)] st (.ret (vB r)) st:=by
 unfold F163 at hr
 refine R_pureX [aN a0] [(0,aN a0)] Tryz.func163 rfl (by simp only [strip,stripL,stripL_cNode,Option.bind_some,Option.map_some]) rfl fun fr st H K=>sr (qg 2 [(1,cN a0 0)] H fun _ H=>qe (sr (qg 4 [(6,vB (decide (20≤a0.kind)))] H fun _ H=>qg 4 [(10,vB ((decide (20≤a0.kind)) && (decide (a0.kind≤35))))] H (hs:=by intro _ _; generalize (decide (20≤a0.kind)) = b0; cases b0 <;> kernel_rfl) fun _ H=>qg 1 [(11,vB ((decide (20≤a0.kind)) && (decide (a0.kind≤35))))] H fun _ H=>qg 4 [(15,vB (((decide (20≤a0.kind)) && (decide (a0.kind≤35))) && (a0.kind != 34)))] H (hs:=by intro _ _; generalize ((decide (20≤a0.kind)) && (decide (a0.kind≤35))) = b0; cases b0 <;> kernel_rfl) fun _ H=>qg 1 [(2,vB (((decide (20≤a0.kind)) && (decide (a0.kind≤35))) && (a0.kind != 34)))] H fun _ H=>qe (W_ret ?_))))
 cases hr
 exact qr [vB (((decide (20≤a0.kind)) && (decide (a0.kind≤35))) && (a0.kind != 34))] H K
def F99_2 (n:Nat) (a0:List Node):Option Bool :=
 (iter (σ:=Int) (ρ:=Unit ⊕ Unit) (fun s1=>bif decide (s1 < (a0.length:Int)) then
   ((idxL a0 s1).bind fun x3 =>
   (F163 x3).bind fun x5 =>
   bif !x5 then
    (some (.inr (.inl ())))
   else
    (some (.inl (w64 (s1 + 1)))))
  else
   (some (.inr (.inr ())))) n (0:Int)).bind fun r7=>match r7 with
 | .inl _=>some false
 | .inr _=>some true
theorem F99_2_R (n:Nat) (a0:List Node) (r:Bool) (hr:F99_2 n a0 = some r) {st:St} {p0:Spare}:R Tryz.prog AN 99 [vL tNode a0 p0,.fn 163 [] []] st (.ret (vB r)) st:=by
 unfold F99_2 at hr
 refine R_pureX [vL tNode a0 .shut,.fn 163 [] []] [(0,vL tNode a0 .shut),(1,.fn 163 [] [])] Tryz.func99 rfl (by simp only [strip,stripL,stripL_ET,Option.bind_some,Option.map_some]) rfl fun fr st H K=>sr (qg 1 [] H fun _ H=>qe (W_seq (W_seq (W_reg (qg 1 [(7,vL tNode a0 .shut)] H fun _ H=>?_)))))
 refine qln tNode 22 a0 .shut H fun _ H=>qg 1 [(9,vI 0)] H fun _ H=>qe (W_block ?_)
 obtain ⟨r7,hr7,hr⟩:=obind hr
 refine W_iter hr7 (fun (s1:Int) fr st=>Rd fr [(1,.fn 163 [] []),(7,vL tNode a0 .shut),(8,vI (a0.length:Int)),(9,vI s1)]∧HL st []) (fun (r7:Unit ⊕ Unit) e fr st=>match r7 with | .inl r7a=>(e = .ret∧Rd fr [(4,vB false)]∧HL st []) | .inr r7b=>(e = .exit 0∧Rd fr []∧HL st [])) ⟨H.tq,K.keep []⟩ ?_ ?_
 ·intro s1 fr st r hi hr
  obtain ⟨H,K⟩:=hi
  refine sr (qg 1 [(10,vB (decide (s1 < (a0.length:Int))))] H fun _ H=>qe (W_seq ?_))
  rcases csplit hr with ⟨c2,hr⟩|⟨c2,hr⟩
  rotate_left
  ·refine qF H c2 ?_
   refine W_exit ?_
   cases hr
   exact ⟨by simp,⟨rfl,H.tq,K.keep []⟩⟩
  refine qT H c2 (W_skip (W_seq (W_block (sr ?_))))
  refine qix tNode 22 .shut hr H fun x3 hr hx3 fr H=>qg 1 [(12,aN x3)] H fun _ H=>?_
  refine qal 24 zL H K fun id4 st K fr H=>?_
  refine qst 24 0 (aN x3) [vI x3.kind,vS x3.name,vS x3.other,vI x3.n,vI x3.len,vI x3.init,vB x3.ghost,vL tNode x3.kids .shut,vI x3.pos] 0 H K rfl fun st K fr H=>qe (sr (qg 1 [(13,.fn 163 [] [])] H fun _ H=>?_))
  refine qld 24 0 (aN x3) 0 H K rfl fun _ H=>?_
  refine qb hr (fun x h s=>F163_R  _ x h (p0:=.shut)) H fun x5 hr fr H=>qg 1 [(16,vB !x5)] H fun _ H=>qe ?_
  rcases csplit hr with ⟨c6,hr⟩|⟨c6,hr⟩
  ·refine qT H c6 (sr (qg 1 [(4,vB false)] H fun _ H=>qe (W_ret ?_)))
   cases hr
   exact ⟨by simp,⟨rfl,H.tq,K.keep [false]⟩⟩
  refine qF H c6 (W_skip (W_reg (qg 2 [(9,vI (w64 (s1 + 1)))] H fun _ H=>qe ?_)))
  cases hr
  exact ⟨rfl,⟨H.tq,K.keep [false]⟩⟩
 rcases r7 with r7a | r7b
 ·rintro e fr st ⟨rfl,H,K⟩
  cases hr
  exact qr [vB false] H K
 rintro e fr st ⟨rfl,H,K⟩
 refine sr (qg 1 [(4,vB true)] H fun _ H=>qe (W_ret ?_))
 cases hr
 exact qr [vB true] H K
end Go.Proofs.YtbecjgckobhmpaaGreatDoor
end
section
namespace Go.Proofs.YtbecjgckobhmpaaGreatDoor
open Go Go.AM Go.Proofs
set_option maxRecDepth 100000
set_option maxHeartbeats 4000000
def F99_3 (n:Nat) (a0:List Node) (a1:Int):Option Bool :=
 (iter (σ:=Int) (ρ:=Unit ⊕ Unit) (fun s1=>bif decide (s1 < (a0.length:Int)) then
   ((idxL a0 s1).bind fun x3 =>
   (F197 x3 a1).bind fun x5 =>
   bif !x5 then
    (some (.inr (.inl ())))
   else
    (some (.inl (w64 (s1 + 1)))))
  else
   (some (.inr (.inr ())))) n (0:Int)).bind fun r7=>match r7 with
 | .inl _=>some false
 | .inr _=>some true
theorem F99_3_R (n:Nat) (a0:List Node) (a1:Int) (r:Bool) (hr:F99_3 n a0 a1 = some r) {st:St} {p0:Spare}:R Tryz.prog AN 99 [vL tNode a0 p0,.fn 197 [] [.cptr ([vI a1]) 0]] st (.ret (vB r)) st:=by
 unfold F99_3 at hr
 refine R_pureX [vL tNode a0 .shut,.fn 197 [] [.cptr ([vI a1]) 0]] [(0,vL tNode a0 .shut),(1,.fn 197 [] [.cptr ([vI a1]) 0])] Tryz.func99 rfl (by simp only [strip,stripL,stripL_ET,Option.bind_some,Option.map_some]) rfl fun fr st H K=>sr (qg 1 [] H fun _ H=>qe (W_seq (W_seq (W_reg (qg 1 [(7,vL tNode a0 .shut)] H fun _ H=>?_)))))
 refine qln tNode 22 a0 .shut H fun _ H=>qg 1 [(9,vI 0)] H fun _ H=>qe (W_block ?_)
 obtain ⟨r7,hr7,hr⟩:=obind hr
 refine W_iter hr7 (fun (s1:Int) fr st=>Rd fr [(1,.fn 197 [] [.cptr ([vI a1]) 0]),(7,vL tNode a0 .shut),(8,vI (a0.length:Int)),(9,vI s1)]∧HL st []) (fun (r7:Unit ⊕ Unit) e fr st=>match r7 with | .inl r7a=>(e = .ret∧Rd fr [(4,vB false)]∧HL st []) | .inr r7b=>(e = .exit 0∧Rd fr []∧HL st [])) ⟨H.tq,K.keep []⟩ ?_ ?_
 ·intro s1 fr st r hi hr
  obtain ⟨H,K⟩:=hi
  refine sr (qg 1 [(10,vB (decide (s1 < (a0.length:Int))))] H fun _ H=>qe (W_seq ?_))
  rcases csplit hr with ⟨c2,hr⟩|⟨c2,hr⟩
  rotate_left
  ·refine qF H c2 ?_
   refine W_exit ?_
   cases hr
   exact ⟨by simp,⟨rfl,H.tq,K.keep []⟩⟩
  refine qT H c2 (W_skip (W_seq (W_block (sr ?_))))
  refine qix tNode 22 .shut hr H fun x3 hr hx3 fr H=>qg 1 [(12,aN x3)] H fun _ H=>?_
  refine qal 24 zL H K fun id4 st K fr H=>?_
  refine qst 24 0 (aN x3) [vI x3.kind,vS x3.name,vS x3.other,vI x3.n,vI x3.len,vI x3.init,vB x3.ghost,vL tNode x3.kids .shut,vI x3.pos] 0 H K rfl fun st K fr H=>qe (sr (qg 1 [(13,.fn 197 [] [.cptr ([vI a1]) 0])] H fun _ H=>?_))
  refine qld 24 0 (aN x3) 0 H K rfl fun _ H=>?_
  refine qb hr (fun x h s=>F197_R  _ _ x h (p0:=.shut)) H fun x5 hr fr H=>qg 1 [(16,vB !x5)] H fun _ H=>qe ?_
  rcases csplit hr with ⟨c6,hr⟩|⟨c6,hr⟩
  ·refine qT H c6 (sr (qg 1 [(4,vB false)] H fun _ H=>qe (W_ret ?_)))
   cases hr
   exact ⟨by simp,⟨rfl,H.tq,K.keep [false]⟩⟩
  refine qF H c6 (W_skip (W_reg (qg 2 [(9,vI (w64 (s1 + 1)))] H fun _ H=>qe ?_)))
  cases hr
  exact ⟨rfl,⟨H.tq,K.keep [false]⟩⟩
 rcases r7 with r7a | r7b
 ·rintro e fr st ⟨rfl,H,K⟩
  cases hr
  exact qr [vB false] H K
 rintro e fr st ⟨rfl,H,K⟩
 refine sr (qg 1 [(4,vB true)] H fun _ H=>qe (W_ret ?_))
 cases hr
 exact qr [vB true] H K
def F164 (a0:Node):Option Bool :=
 bif a0.kind == 2 then
  (some ((a0.kids.length:Int) == 0))
 else
  (some false)
theorem F164_R (a0:Node) (r:Bool) (hr:F164 a0 = some r) {st:St} {p0:Spare}:R Tryz.prog AN 164 [.agg (cNode p0 a0)] st (.ret (vB r)) st:=by
 unfold F164 at hr
 refine R_pureX [aN a0] [(0,aN a0)] Tryz.func164 rfl (by simp only [strip,stripL,stripL_cNode,Option.bind_some,Option.map_some]) rfl fun fr st H K=>sr (qg 2 [(1,cN a0 0)] H fun _ H=>qe (sr (qg 4 [(6,vB (a0.kind == 2))] H fun _ H=>?_)))
 rcases csplit hr with ⟨c1,hr⟩|⟨c1,hr⟩
 rotate_left
 ·rw [c1] at H
  refine qg 6 [(2,vB false)] H fun _ H=>qe (W_ret ?_)
  cases hr
  exact qr [vB false] H K
 rw [c1] at H
 refine qg 2 [(8,vL tNode a0.kids .shut)] H fun _ H=>?_
 refine qln tNode 22 a0.kids .shut H fun _ H=>qg 3 [(2,vB ((a0.kids.length:Int) == 0))] H fun _ H=>qe (W_ret ?_)
 cases hr
 exact qr [vB ((a0.kids.length:Int) == 0)] H K
def F99_4 (n:Nat) (a0:List Node):Option Bool :=
 (iter (σ:=Int) (ρ:=Unit ⊕ Unit) (fun s1=>bif decide (s1 < (a0.length:Int)) then
   ((idxL a0 s1).bind fun x3 =>
   (F164 x3).bind fun x5 =>
   bif !x5 then
    (some (.inr (.inl ())))
   else
    (some (.inl (w64 (s1 + 1)))))
  else
   (some (.inr (.inr ())))) n (0:Int)).bind fun r7=>match r7 with
 | .inl _=>some false
 | .inr _=>some true
theorem F99_4_R (n:Nat) (a0:List Node) (r:Bool) (hr:F99_4 n a0 = some r) {st:St} {p0:Spare}:R Tryz.prog AN 99 [vL tNode a0 p0,.fn 164 [] []] st (.ret (vB r)) st:=by
 unfold F99_4 at hr
 refine R_pureX [vL tNode a0 .shut,.fn 164 [] []] [(0,vL tNode a0 .shut),(1,.fn 164 [] [])] Tryz.func99 rfl (by simp only [strip,stripL,stripL_ET,Option.bind_some,Option.map_some]) rfl fun fr st H K=>sr (qg 1 [] H fun _ H=>qe (W_seq (W_seq (W_reg (qg 1 [(7,vL tNode a0 .shut)] H fun _ H=>?_)))))
 refine qln tNode 22 a0 .shut H fun _ H=>qg 1 [(9,vI 0)] H fun _ H=>qe (W_block ?_)
 obtain ⟨r7,hr7,hr⟩:=obind hr
 refine W_iter hr7 (fun (s1:Int) fr st=>Rd fr [(1,.fn 164 [] []),(7,vL tNode a0 .shut),(8,vI (a0.length:Int)),(9,vI s1)]∧HL st []) (fun (r7:Unit ⊕ Unit) e fr st=>match r7 with | .inl r7a=>(e = .ret∧Rd fr [(4,vB false)]∧HL st []) | .inr r7b=>(e = .exit 0∧Rd fr []∧HL st [])) ⟨H.tq,K.keep []⟩ ?_ ?_
 ·intro s1 fr st r hi hr
  obtain ⟨H,K⟩:=hi
  refine sr (qg 1 [(10,vB (decide (s1 < (a0.length:Int))))] H fun _ H=>qe (W_seq ?_))
  rcases csplit hr with ⟨c2,hr⟩|⟨c2,hr⟩
  rotate_left
  ·refine qF H c2 ?_
   refine W_exit ?_
   cases hr
   exact ⟨by simp,⟨rfl,H.tq,K.keep []⟩⟩
  refine qT H c2 (W_skip (W_seq (W_block (sr ?_))))
  refine qix tNode 22 .shut hr H fun x3 hr hx3 fr H=>qg 1 [(12,aN x3)] H fun _ H=>?_
  refine qal 24 zL H K fun id4 st K fr H=>?_
  refine qst 24 0 (aN x3) [vI x3.kind,vS x3.name,vS x3.other,vI x3.n,vI x3.len,vI x3.init,vB x3.ghost,vL tNode x3.kids .shut,vI x3.pos] 0 H K rfl fun st K fr H=>qe (sr (qg 1 [(13,.fn 164 [] [])] H fun _ H=>?_))
  refine qld 24 0 (aN x3) 0 H K rfl fun _ H=>?_
  refine qb hr (fun x h s=>F164_R  _ x h (p0:=.shut)) H fun x5 hr fr H=>qg 1 [(16,vB !x5)] H fun _ H=>qe ?_
  rcases csplit hr with ⟨c6,hr⟩|⟨c6,hr⟩
  ·refine qT H c6 (sr (qg 1 [(4,vB false)] H fun _ H=>qe (W_ret ?_)))
   cases hr
   exact ⟨by simp,⟨rfl,H.tq,K.keep [false]⟩⟩
  refine qF H c6 (W_skip (W_reg (qg 2 [(9,vI (w64 (s1 + 1)))] H fun _ H=>qe ?_)))
  cases hr
  exact ⟨rfl,⟨H.tq,K.keep [false]⟩⟩
 rcases r7 with r7a | r7b
 ·rintro e fr st ⟨rfl,H,K⟩
  cases hr
  exact qr [vB false] H K
 rintro e fr st ⟨rfl,H,K⟩
 refine sr (qg 1 [(4,vB true)] H fun _ H=>qe (W_ret ?_))
 cases hr
 exact qr [vB true] H K
def F165 (a0:Node):Option Bool :=
 bif a0.kind == 51 then
  (bif a0.kind == 51 then
   (some true)
  else
   (some false))
 else
  (bif a0.kind == 50 then
   (bif a0.kind == 50 then
    (some true)
   else
    (some false))
  else
   (bif a0.kind == 53 then
    (bif a0.kind == 53 then
     (some true)
    else
     (some false))
   else
    (bif a0.kind == 54 then
     (bif a0.kind == 54 then
      (some true)
     else
      (some false))
    else
     (bif a0.kind == 55 then
      (bif a0.kind == 55 then
       (some true)
      else
       (some false))
     else
      (bif a0.kind == 56 then
       (bif a0.kind == 56 then
        (some true)
       else
        (some false))
      else
       (bif a0.kind == 57 then
        (some true)
       else
        (some false)))))))
theorem F165_R (a0:Node) (r:Bool) (hr:F165 a0 = some r) {st:St} {p0:Spare}:R Tryz.prog AN 165 [.agg (cNode p0 a0)] st (.ret (vB r)) st:=by
 unfold F165 at hr
 refine R_pureX [aN a0] [(0,aN a0)] Tryz.func165 rfl (by simp only [strip,stripL,stripL_cNode,Option.bind_some,Option.map_some]) rfl fun fr st H K=>sr (qg 2 [(1,cN a0 0)] H fun _ H=>qe (W_seq (W_seq (W_reg (qg 2 [(4,vI a0.kind)] H fun _ H=>qe (W_block (W_seq (W_seq (W_reg (qg 2 [(5,vB (a0.kind == 51))] H fun _ H=>qe ?_))))))))))
 rcases csplit hr with ⟨c1,hr⟩|⟨c1,hr⟩
 ·refine qT H c1 (W_skip ?_)
  rcases csplit hr with ⟨c7,hr⟩|⟨c7,hr⟩
  ·refine qT H c7 (sr (qg 1 [(2,vB true)] H fun _ H=>qe (W_ret ?_)))
   cases hr
   exact qr [vB true] H K
  refine qF H c7 (W_skip (sr (qg 1 [(2,vB false)] H fun _ H=>qe (W_ret ?_))))
  cases hr
  exact qr [vB false] H K
 refine qF H c1 (sr (qg 2 [(5,vB (a0.kind == 50))] H fun _ H=>qe ?_))
 rcases csplit hr with ⟨c2,hr⟩|⟨c2,hr⟩
 ·refine qT H c2 (W_skip ?_)
  rcases csplit hr with ⟨c8,hr⟩|⟨c8,hr⟩
  ·refine qT H c8 (sr (qg 1 [(2,vB true)] H fun _ H=>qe (W_ret ?_)))
   cases hr
   exact qr [vB true] H K
  refine qF H c8 (W_skip (sr (qg 1 [(2,vB false)] H fun _ H=>qe (W_ret ?_))))
  cases hr
  exact qr [vB false] H K
 refine qF H c2 (sr (qg 2 [(5,vB (a0.kind == 53))] H fun _ H=>qe ?_))
 rcases csplit hr with ⟨c3,hr⟩|⟨c3,hr⟩
 ·refine qT H c3 (W_skip ?_)
  rcases csplit hr with ⟨c9,hr⟩|⟨c9,hr⟩
  ·refine qT H c9 (sr (qg 1 [(2,vB true)] H fun _ H=>qe (W_ret ?_)))
   cases hr
   exact qr [vB true] H K
  refine qF H c9 (W_skip (sr (qg 1 [(2,vB false)] H fun _ H=>qe (W_ret ?_))))
  cases hr
  exact qr [vB false] H K
 refine qF H c3 (sr (qg 2 [(5,vB (a0.kind == 54))] H fun _ H=>qe ?_))
 rcases csplit hr with ⟨c4,hr⟩|⟨c4,hr⟩
 ·refine qT H c4 (W_skip ?_)
  rcases csplit hr with ⟨c10,hr⟩|⟨c10,hr⟩
  ·refine qT H c10 (sr (qg 1 [(2,vB true)] H fun _ H=>qe (W_ret ?_)))
   cases hr
   exact qr [vB true] H K
  refine qF H c10 (W_skip (sr (qg 1 [(2,vB false)] H fun _ H=>qe (W_ret ?_))))
  cases hr
  exact qr [vB false] H K
 refine qF H c4 (sr (qg 2 [(5,vB (a0.kind == 55))] H fun _ H=>qe ?_))
 rcases csplit hr with ⟨c5,hr⟩|⟨c5,hr⟩
 ·refine qT H c5 (W_skip ?_)
  rcases csplit hr with ⟨c11,hr⟩|⟨c11,hr⟩
  ·refine qT H c11 (sr (qg 1 [(2,vB true)] H fun _ H=>qe (W_ret ?_)))
   cases hr
   exact qr [vB true] H K
  refine qF H c11 (W_skip (sr (qg 1 [(2,vB false)] H fun _ H=>qe (W_ret ?_))))
  cases hr
  exact qr [vB false] H K
 refine qF H c5 (sr (qg 2 [(5,vB (a0.kind == 56))] H fun _ H=>qe ?_))
 rcases csplit hr with ⟨c6,hr⟩|⟨c6,hr⟩
 ·refine qT H c6 (W_skip ?_)
  rcases csplit hr with ⟨c12,hr⟩|⟨c12,hr⟩
  ·refine qT H c12 (sr (qg 1 [(2,vB true)] H fun _ H=>qe (W_ret ?_)))
   cases hr
   exact qr [vB true] H K
  refine qF H c12 (W_skip (sr (qg 1 [(2,vB false)] H fun _ H=>qe (W_ret ?_))))
  cases hr
  exact qr [vB false] H K
 refine qF H c6 (W_reg (qg 2 [(5,vB (a0.kind == 57))] H fun _ H=>qe ?_))
 rcases csplit hr with ⟨c13,hr⟩|⟨c13,hr⟩
 ·refine qT H c13 (sr (qg 1 [(2,vB true)] H fun _ H=>qe (W_ret ?_)))
  cases hr
  exact qr [vB true] H K
 refine qF H c13 (W_skip (sr (qg 1 [(2,vB false)] H fun _ H=>qe (W_ret ?_))))
 cases hr
 exact qr [vB false] H K
def F99_5 (n:Nat) (a0:List Node):Option Bool :=
 (iter (σ:=Int) (ρ:=Unit ⊕ Unit) (fun s1=>bif decide (s1 < (a0.length:Int)) then
   ((idxL a0 s1).bind fun x3 =>
   (F165 x3).bind fun x5 =>
   bif !x5 then
    (some (.inr (.inl ())))
   else
    (some (.inl (w64 (s1 + 1)))))
  else
   (some (.inr (.inr ())))) n (0:Int)).bind fun r7=>match r7 with
 | .inl _=>some false
 | .inr _=>some true
theorem F99_5_R (n:Nat) (a0:List Node) (r:Bool) (hr:F99_5 n a0 = some r) {st:St} {p0:Spare}:R Tryz.prog AN 99 [vL tNode a0 p0,.fn 165 [] []] st (.ret (vB r)) st:=by
 unfold F99_5 at hr
 refine R_pureX [vL tNode a0 .shut,.fn 165 [] []] [(0,vL tNode a0 .shut),(1,.fn 165 [] [])] Tryz.func99 rfl (by simp only [strip,stripL,stripL_ET,Option.bind_some,Option.map_some]) rfl fun fr st H K=>sr (qg 1 [] H fun _ H=>qe (W_seq (W_seq (W_reg (qg 1 [(7,vL tNode a0 .shut)] H fun _ H=>?_)))))
 refine qln tNode 22 a0 .shut H fun _ H=>qg 1 [(9,vI 0)] H fun _ H=>qe (W_block ?_)
 obtain ⟨r7,hr7,hr⟩:=obind hr
 refine W_iter hr7 (fun (s1:Int) fr st=>Rd fr [(1,.fn 165 [] []),(7,vL tNode a0 .shut),(8,vI (a0.length:Int)),(9,vI s1)]∧HL st []) (fun (r7:Unit ⊕ Unit) e fr st=>match r7 with | .inl r7a=>(e = .ret∧Rd fr [(4,vB false)]∧HL st []) | .inr r7b=>(e = .exit 0∧Rd fr []∧HL st [])) ⟨H.tq,K.keep []⟩ ?_ ?_
 ·intro s1 fr st r hi hr
  obtain ⟨H,K⟩:=hi
  refine sr (qg 1 [(10,vB (decide (s1 < (a0.length:Int))))] H fun _ H=>qe (W_seq ?_))
  rcases csplit hr with ⟨c2,hr⟩|⟨c2,hr⟩
  rotate_left
  ·refine qF H c2 ?_
   refine W_exit ?_
   cases hr
   exact ⟨by simp,⟨rfl,H.tq,K.keep []⟩⟩
  refine qT H c2 (W_skip (W_seq (W_block (sr ?_))))
  refine qix tNode 22 .shut hr H fun x3 hr hx3 fr H=>qg 1 [(12,aN x3)] H fun _ H=>?_
  refine qal 24 zL H K fun id4 st K fr H=>?_
  refine qst 24 0 (aN x3) [vI x3.kind,vS x3.name,vS x3.other,vI x3.n,vI x3.len,vI x3.init,vB x3.ghost,vL tNode x3.kids .shut,vI x3.pos] 0 H K rfl fun st K fr H=>qe (sr (qg 1 [(13,.fn 165 [] [])] H fun _ H=>?_))
  refine qld 24 0 (aN x3) 0 H K rfl fun _ H=>?_
  refine qb hr (fun x h s=>F165_R  _ x h (p0:=.shut)) H fun x5 hr fr H=>qg 1 [(16,vB !x5)] H fun _ H=>qe ?_
  rcases csplit hr with ⟨c6,hr⟩|⟨c6,hr⟩
  ·refine qT H c6 (sr (qg 1 [(4,vB false)] H fun _ H=>qe (W_ret ?_)))
   cases hr
   exact ⟨by simp,⟨rfl,H.tq,K.keep [false]⟩⟩
  refine qF H c6 (W_skip (W_reg (qg 2 [(9,vI (w64 (s1 + 1)))] H fun _ H=>qe ?_)))
  cases hr
  exact ⟨rfl,⟨H.tq,K.keep [false]⟩⟩
 rcases r7 with r7a | r7b
 ·rintro e fr st ⟨rfl,H,K⟩
  cases hr
  exact qr [vB false] H K
 rintro e fr st ⟨rfl,H,K⟩
 refine sr (qg 1 [(4,vB true)] H fun _ H=>qe (W_ret ?_))
 cases hr
 exact qr [vB true] H K
def F166 (a0:Node):Option Bool :=
 some ((a0.kind == 60) || (a0.kind == 61))
theorem F166_R (a0:Node) (r:Bool) (hr:F166 a0 = some r) {st:St} {p0:Spare}:R Tryz.prog AN 166 [.agg (cNode p0 a0)] st (.ret (vB r)) st:=by
 unfold F166 at hr
 refine R_pureX [aN a0] [(0,aN a0)] Tryz.func166 rfl (by simp only [strip,stripL,stripL_cNode,Option.bind_some,Option.map_some]) rfl fun fr st H K=>sr (qg 2 [(1,cN a0 0)] H fun _ H=>qe (sr (qg 4 [(6,vB (a0.kind == 60))] H fun _ H=>qg 4 [(10,vB ((a0.kind == 60) || (a0.kind == 61)))] H (hs:=by intro _ _; generalize (a0.kind == 60) = b0; cases b0 <;> kernel_rfl) fun _ H=>qg 1 [(2,vB ((a0.kind == 60) || (a0.kind == 61)))] H fun _ H=>qe (W_ret ?_))))
 cases hr
 exact qr [vB ((a0.kind == 60) || (a0.kind == 61))] H K
def F99_6 (n:Nat) (a0:List Node):Option Bool :=
 (iter (σ:=Int) (ρ:=Unit ⊕ Unit) (fun s1=>bif decide (s1 < (a0.length:Int)) then
   ((idxL a0 s1).bind fun x3 =>
   (F166 x3).bind fun x5 =>
   bif !x5 then
    (some (.inr (.inl ())))
   else
    (some (.inl (w64 (s1 + 1)))))
  else
   (some (.inr (.inr ())))) n (0:Int)).bind fun r7=>match r7 with
 | .inl _=>some false
 | .inr _=>some true
theorem F99_6_R (n:Nat) (a0:List Node) (r:Bool) (hr:F99_6 n a0 = some r) {st:St} {p0:Spare}:R Tryz.prog AN 99 [vL tNode a0 p0,.fn 166 [] []] st (.ret (vB r)) st:=by
 unfold F99_6 at hr
 refine R_pureX [vL tNode a0 .shut,.fn 166 [] []] [(0,vL tNode a0 .shut),(1,.fn 166 [] [])] Tryz.func99 rfl (by simp only [strip,stripL,stripL_ET,Option.bind_some,Option.map_some]) rfl fun fr st H K=>sr (qg 1 [] H fun _ H=>qe (W_seq (W_seq (W_reg (qg 1 [(7,vL tNode a0 .shut)] H fun _ H=>?_)))))
 refine qln tNode 22 a0 .shut H fun _ H=>qg 1 [(9,vI 0)] H fun _ H=>qe (W_block ?_)
 obtain ⟨r7,hr7,hr⟩:=obind hr
 refine W_iter hr7 (fun (s1:Int) fr st=>Rd fr [(1,.fn 166 [] []),(7,vL tNode a0 .shut),(8,vI (a0.length:Int)),(9,vI s1)]∧HL st []) (fun (r7:Unit ⊕ Unit) e fr st=>match r7 with | .inl r7a=>(e = .ret∧Rd fr [(4,vB false)]∧HL st []) | .inr r7b=>(e = .exit 0∧Rd fr []∧HL st [])) ⟨H.tq,K.keep []⟩ ?_ ?_
 ·intro s1 fr st r hi hr
  obtain ⟨H,K⟩:=hi
  refine sr (qg 1 [(10,vB (decide (s1 < (a0.length:Int))))] H fun _ H=>qe (W_seq ?_))
  rcases csplit hr with ⟨c2,hr⟩|⟨c2,hr⟩
  rotate_left
  ·refine qF H c2 ?_
   refine W_exit ?_
   cases hr
   exact ⟨by simp,⟨rfl,H.tq,K.keep []⟩⟩
  refine qT H c2 (W_skip (W_seq (W_block (sr ?_))))
  refine qix tNode 22 .shut hr H fun x3 hr hx3 fr H=>qg 1 [(12,aN x3)] H fun _ H=>?_
  refine qal 24 zL H K fun id4 st K fr H=>?_
  refine qst 24 0 (aN x3) [vI x3.kind,vS x3.name,vS x3.other,vI x3.n,vI x3.len,vI x3.init,vB x3.ghost,vL tNode x3.kids .shut,vI x3.pos] 0 H K rfl fun st K fr H=>qe (sr (qg 1 [(13,.fn 166 [] [])] H fun _ H=>?_))
  refine qld 24 0 (aN x3) 0 H K rfl fun _ H=>?_
  refine qb hr (fun x h s=>F166_R  _ x h (p0:=.shut)) H fun x5 hr fr H=>qg 1 [(16,vB !x5)] H fun _ H=>qe ?_
  rcases csplit hr with ⟨c6,hr⟩|⟨c6,hr⟩
  ·refine qT H c6 (sr (qg 1 [(4,vB false)] H fun _ H=>qe (W_ret ?_)))
   cases hr
   exact ⟨by simp,⟨rfl,H.tq,K.keep [false]⟩⟩
  refine qF H c6 (W_skip (W_reg (qg 2 [(9,vI (w64 (s1 + 1)))] H fun _ H=>qe ?_)))
  cases hr
  exact ⟨rfl,⟨H.tq,K.keep [false]⟩⟩
 rcases r7 with r7a | r7b
 ·rintro e fr st ⟨rfl,H,K⟩
  cases hr
  exact qr [vB false] H K
 rintro e fr st ⟨rfl,H,K⟩
 refine sr (qg 1 [(4,vB true)] H fun _ H=>qe (W_ret ?_))
 cases hr
 exact qr [vB true] H K
end Go.Proofs.YtbecjgckobhmpaaGreatDoor
end
