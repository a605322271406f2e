/-
  Proved here: a part of what the claim needs (texts YS YR YRG YQ1 YQ2 YQ3 YQ4 YQ5 of the prover's own).
-/
import Derived.Test.YtbecjgckobhmpaaGreatDoorRE03
import Derived.Tactics
import Derived.Tactics2
import Derived.Defers
import Derived.Recover
section
namespace Go.Proofs.YtbecjgckobhmpaaGreatDoor
open Go Go.AM Go.Proofs
set_option maxRecDepth 100000
theorem idxL_nat {α:Type} {l:List α} {i:Int} {x:α} (h:idxL l i = some x):∃ n:Nat,i = n∧l[n]? = some x:=by
 unfold idxL at h
 split at h
 ·exact ⟨i.toNat,by omega,h⟩
 ·cases h
theorem run_arr1 {P:Program} {st:St} {t e len:Nat} {k:IntKind} (hu:P.underlying t = some (.array len e)) (hs:size? P e = some 1) (ha:isAgg? P e = some false) {cs:List AV} {n:Nat} {v:AV} (hn:n < len) (h:cs[n]? = some v) :
  Vw.run P st (.index t (.agg cs) (.sc (.int k (n:Int)))) = some (v,st):=by
 have h1:0≤(n:Int)∧(n:Int) < len:=by omega
 simp only [Vw.run,same,indexA,hu,hs,loadC,ha,if_pos h1,Int.toNat_natCast,Nat.mul_one,h,Option.map_some]
theorem run_sym {st:St} {i:Int} {x:ByteArray} (h:idxL symTab i = some x):Vw.run Tryz.prog st (.index 164 (.agg symCells) (vI i)) = some (vS x,st):=by
 obtain ⟨n,rfl,h2⟩:=idxL_nat h
 have hn:n < 27:=(List.getElem?_eq_some_iff.1 h2).1
 exact run_arr1 (len:=27) (e:=9) (by kernel_rfl) (by kernel_rfl) (by kernel_rfl) hn (by simp [symCells,h2])
def keyNames:List (List UInt8):=[[109,111,100,117,108,101],[111,119,110,101,114],[114,101,99,111,114,100],[115,104,97,114,101,100],[103,104,111,115,116],[108,111,99,107],[105,110,118,97,114,105,97,110,116],[114,101,108,121],[103,117,97,114,97,110,116,101,101],[102,114,97,109,101],[112,114,111,99],[108,111,99,107,101,100],[108,111,99,97,108],[97,115,115,101,114,116],[114,101,108,101,97,115,101],[119,105,116,104],[97,116,111,109,105,99],[119,104,101,110],[99,97,115],[105,110,116,111],[97,99,113,117,105,114,101],[102,114,101,101],[102,101,110,99,101],[115,112,97,119,110],[106,111,105,110],[97,119,97,105,116],[115,107,105,112],[105,102],[101,108,115,101],[119,104,105,108,101],[118,97,114,105,97,110,116],[99,97,108,108],[116,104,114,101,97,100],[97,115,108,101,101,112],[111,108,100],[97,108,108],[115,111,109,101]]
def keysV:AV:=.cmap (keyNames.map bs) (keyNames.map fun _=>.sc (.bool true))
def isKey (s:ByteArray):Bool:=keyNames.any (s.data.toList == ·)
theorem strip_keysV (st:St):strip st keysV = some keysV:=rfl
theorem keyWords_R {st:St}:R Tryz.prog AN 63 [] st (.ret keysV) st:=R_closed AN_mixed 120 [] Tryz.func63 rfl rfl
theorem beq_bs (s:ByteArray) (l:List UInt8):(s == bs l) = (s.data.toList == l):=by
 show (s.data == (⟨l⟩:Array UInt8)) = _
 cases s
 rename_i d
 cases d
 simp
theorem run_key {st:St} {k:ByteArray}:Vw.run Tryz.prog st (.lookup 85 keysV (vS k)) = some (vB (isKey k),st):=by
 have hm:strMap Tryz.prog 85 = some 4:=by kernel_rfl
 have hz:zeroA Tryz.prog 4 = some (.sc (.bool false)):=by kernel_rfl
 simp only [Vw.run,same,keysV,lookupA,hm]
 have hk:isKey k = ((keyNames.map bs).findIdx? (k == ·)).isSome:=by
  rw [List.findIdx?_isSome]
  simp [isKey,List.any_map,Function.comp_def,beq_bs]
 rw [hk]
 split
 ·rename_i i hi
  have hlt:i < keyNames.length:=by
   have:=(List.findIdx?_eq_some_iff_getElem.1 hi).1
   simpa using this
  rw [hi]
  simp [hlt]
 ·rename_i hi
  simp [hi,hz]
theorem sj {α:Type} {a b:α} (h:some a = some b):a = b:=Option.some.inj h
theorem cl159_R (k:Int) {st:St}:R Tryz.prog AN 159 [vI k] st (.ret (.fn 197 [] [.cptr [vI k] 0])) st:=R_still AN_mixed 20 Tryz.func159 rfl
theorem cl162_R (g:FuncId) (a b:List AV) (h:FuncId) (c d:List AV) {st:St}:R Tryz.prog AN 162 [.fn g a b,.fn h c d] st (.ret (.fn 198 [] [.cptr [.fn g a b] 0,.cptr [.fn h c d] 0])) st:=R_still AN_mixed 20 Tryz.func162 rfl
def stripLeafF (x:Node):Option Node :=
 match x.kids with
 | []=>some ⟨x.kind,x.name,x.other,x.n,x.len,x.init,x.ghost,[],0⟩
 | _=>none
theorem stripLeaf_R (x r:Node) (h:stripLeafF x = some r) {sp:Spare} {st:St}:R Tryz.prog AN 46 [.agg (cNode sp x)] st (.ret (aN r)) st:=by
 obtain ⟨k,nm,o,n,l,i,g,ks,p⟩:=x
 cases ks with
 | nil =>
  simp only [stripLeafF,Option.some.injEq] at h
  subst h
  exact R_closed AN_mixed 60 [aN ⟨k,nm,o,n,l,i,g,[],p⟩] Tryz.func46 rfl rfl
 | cons a b=>simp [stripLeafF] at h
def diagEq (x y:Diag):Bool:=x.err == y.err && x.pos == y.pos
def diagFields : Array Field := #[⟨"Err", 27, 0, false, "", "", 0⟩, ⟨"At", 3, 1, false, "", "", 8⟩]
theorem und42:Tryz.prog.underlying 42 = some (.struct diagFields):=by kernel_rfl
theorem und27:Tryz.prog.underlying 27 = some (.int .i64):=by kernel_rfl
theorem und3:Tryz.prog.underlying 3 = some (.int .i64):=by kernel_rfl
theorem pure_equal_int (d:Nat) (t:TypeId) (k:IntKind) (a b:Int) (h:Tryz.prog.underlying t = some (.int k)):pureRun Tryz.prog (Op.equalIn (d + 1) t (.int .i64 a) (.int .i64 b)) = some (a == b):=by
 unfold Op.equalIn
 simp [pureRun_bind',underlying_run h,pureRun_pure]
theorem pure_part (t:TypeId) (cs:Array Value) (i:Nat) (v:Value) (h:cs[i]? = some v) (ha:isAgg? Tryz.prog t = some false):pureRun Tryz.prog (part t cs i) = some v:=by
 unfold part
 have ha':pureRun Tryz.prog (isAgg t) = some false:=ha
 simp [pureRun_bind',ha',h,pureRun_pure]
theorem pure_equal_diag (a b c d:Int):pureRun Tryz.prog (Op.equal 42 (.agg #[.int .i64 a,.int .i64 b]) (.agg #[.int .i64 c,.int .i64 d])) = some (a == c && b == d):=by
 have hst:Tryz.prog.stoodInHeld 42 = false:=by kernel_rfl
 have a27:isAgg? Tryz.prog 27 = some false:=by kernel_rfl
 have a3:isAgg? Tryz.prog 3 = some false:=by kernel_rfl
 have e1:pureRun Tryz.prog (Op.equalIn 9999 27 (.int .i64 a) (.int .i64 c)) = some (a == c):=pure_equal_int 9998 27 .i64 a c und27
 have e2:pureRun Tryz.prog (Op.equalIn 9999 3 (.int .i64 b) (.int .i64 d)) = some (b == d):=pure_equal_int 9998 3 .i64 b d und3
 have p1:pureRun Tryz.prog (part 27 #[.int .i64 a,.int .i64 b] 0) = some (.int .i64 a):=pure_part 27 #[.int .i64 a,.int .i64 b] 0 _ rfl a27
 have p2:pureRun Tryz.prog (part 27 #[.int .i64 c,.int .i64 d] 0) = some (.int .i64 c):=pure_part 27 #[.int .i64 c,.int .i64 d] 0 _ rfl a27
 have p3:pureRun Tryz.prog (part 3 #[.int .i64 a,.int .i64 b] 1) = some (.int .i64 b):=pure_part 3 #[.int .i64 a,.int .i64 b] 1 _ rfl a3
 have p4:pureRun Tryz.prog (part 3 #[.int .i64 c,.int .i64 d] 1) = some (.int .i64 d):=pure_part 3 #[.int .i64 c,.int .i64 d] 1 _ rfl a3
 unfold Op.equal Op.maxDepth Op.equalIn
 simp only [pureRun_bind',underlying_run und42,Option.bind_some,pureRun_program,hst,Bool.false_eq_true,if_false,diagFields,← Array.forIn_toList,List.forIn_cons,List.forIn_nil]
 cases h1:a == c <;> cases h2:b == d <;> simp [pureRun_bind',pureRun_pure,p1,p2,p3,p4,e1,e2,h1,h2]
theorem pure_guard_diag (p q:Operand) (op:BinOp) (a b c d:Int):pureRun Tryz.prog (eqGuard op 42 p q (.agg #[.int .i64 a,.int .i64 b]) (.agg #[.int .i64 c,.int .i64 d])) = some ():=by
 have hst:Tryz.prog.eqGuardType Tryz.prog.depth 42 = false:=by kernel_rfl
 unfold eqGuard
 cases op <;> simp [pureRun_bind',pureRun_program,pureRun_pure,hst]
theorem run_diag_neq (x y:Diag) {p q:Operand} {st:St}:Vw.run Tryz.prog st (.bin .neq 42 p q (.agg (cDiag x)) (.agg (cDiag y))) = some (vB (!(diagEq x y)),st):=by
 simp only [Vw.run,same,binA,cDiag,scalA,AV.conc,concL,Option.map_some,pureRun_bind',pure_guard_diag,Option.bind_some,binOp,pure_equal_diag,pureRun_pure,ofConst,scal,diagEq]
end Go.Proofs.YtbecjgckobhmpaaGreatDoor
end
section
namespace Go.Proofs.YtbecjgckobhmpaaGreatDoor
open Go Go.AM Go.Proofs
set_option maxRecDepth 100000
structure RS where
 toks:List Token
 next:Int
 fin:Int
 inner:Int
 diags:List Diag
def RS.setNext (s:RS) (n:Int):RS:=⟨s.toks,n,s.fin,s.inner,s.diags⟩
def RS.setInner (s:RS) (n:Int):RS:=⟨s.toks,s.next,s.fin,n,s.diags⟩
def RS.setDiags (s:RS) (d:List Diag):RS:=⟨s.toks,s.next,s.fin,s.inner,d⟩
def rdC (s:RS) (sp:Spare):List AV:=[.slice (s.toks.map tToken.e) .shut,vI s.next,vI s.fin,vI s.inner,keysV,.slice (s.diags.map tDiag.e) sp]
abbrev Bad:=Int × Int
def encW (b:Bad):AV:=.iface 95 (.agg [vI b.1,vI b.2])
def nopan {α:Type} (m:Option ((α ⊕ Bad) × RS)):Option (α × RS) :=
 match m with
 | some (.inl v,s)=>some (v,s)
 | _=>none
theorem nopan_eq {α:Type} {m:Option ((α ⊕ Bad) × RS)} {x:α × RS} (h:nopan m = some x):m = some (.inl x.1,x.2):=by
 unfold nopan at h
 split at h
 ·simp only [Option.some.injEq] at h; subst h; rfl
 ·cases h
def guardF (m:Option ((Node ⊕ Bad) × RS)):Option ((Node × Int × Int) × RS) :=
 match m with
 | some (.inl v,s)=>some ((v,0,0),s)
 | some (.inr e,s)=>some ((⟨0,bs [],bs [],0,0,0,false,[],0⟩,e.1,e.2),s)
 | none=>none
theorem rd_split {st:St} {rs:List Res} {id:Nat} {T:TypeId} {sp:Spare} {cs:List AV} (K:HL st (.rd id T sp cs :: rs)):HL st (.own sp :: .obj id (.cells T cs) :: rs):=by
 have h:=K.2 (.rd id T sp cs) (by simp)
 refine ⟨?_,fun r hr=>?_⟩
 ·have h1:=K.1
  simp only [List.flatMap_cons,Res.ids] at h1 ⊢
  refine h1.perm ?_
  rw [← List.append_assoc]
  exact List.Perm.append_right _ (by simpa using (List.perm_append_comm (l₁:=[id]) (l₂:=spIds sp)))
 ·simp only [List.mem_cons] at hr
  rcases hr with rfl | rfl | hr
  ·exact h.2
  ·exact h.1
  ·exact K.2 r (by simp [hr])
theorem rd_join {st:St} {rs:List Res} {id:Nat} {T:TypeId} {sp:Spare} {cs:List AV} (K:HL st (.own sp :: .obj id (.cells T cs) :: rs)):HL st (.rd id T sp cs :: rs):=by
 refine ⟨?_,fun r hr=>?_⟩
 ·have h1:=K.1
  simp only [List.flatMap_cons,Res.ids] at h1 ⊢
  refine h1.perm ?_
  rw [← List.append_assoc]
  exact List.Perm.append_right _ (by simp)
 ·simp only [List.mem_cons] at hr
  rcases hr with rfl | hr
  ·exact ⟨K.2 (.obj id (.cells T cs)) (by simp),K.2 (.own sp) (by simp)⟩
  ·exact K.2 r (by simp [hr])
theorem _root_.Go.AM.HL.mid {st:St} {a b:Res} {pre rs:List Res} (K:HL st (a :: (pre ++ b :: rs))):HL st (a :: b :: (pre ++ rs)):=K.perm (List.Perm.cons a List.perm_middle)
theorem _root_.Go.AM.HL.unmid {st:St} {a b:Res} {pre rs:List Res} (K:HL st (a :: b :: (pre ++ rs))):HL st (a :: (pre ++ b :: rs)):=K.perm (List.Perm.cons a List.perm_middle.symm)
theorem newReader_R (toks:List Token) (t:ByteArray) {st:St} {rs:List Res} (K:HL st rs) :
  ∃ (id:Nat) (st':St),R Tryz.prog AN 56 [vS t,.slice (toks.map tToken.e) .shut] st (.ret (.ptr id 0)) st'∧HL st' (.rd id 87 .nil (rdC ⟨toks,0,(t.size:Int),0,[]⟩ .nil) :: rs):=by
 obtain ⟨got,st',hR,id,rfl,K⟩:=R_bodyG (P:=Tryz.prog) (A:=AN) (args:=[vS t,.slice (toks.map tToken.e) .shut]) (st:=st) (Post:=fun got st'=>∃ id,got = .ret (.ptr id 0)∧HL st' (.rd id 87 .nil (rdC ⟨toks,0,(t.size:Int),0,[]⟩ .nil) :: rs)) Tryz.func56 rfl (by kernel_rfl) (by
  have H:Rd (frame0 [vS t,.slice (toks.map tToken.e) .shut]) [(0,vS t),(1,.slice (toks.map tToken.e) .shut)]:=⟨rfl,rfl,trivial⟩
  refine W_seq (W_reg ?_)
  refine qg 1 [] H fun fr H=>?_
  refine qe ?_
  refine W_seq (W_reg ?_)
  refine qg 3 [(5,.slice (toks.map tToken.e) .shut),(7,vI (t.size:Int))] H fun fr H=>?_
  refine qc (fun s=>keyWords_R) H fun fr H=>?_
  refine qg 1 [(9,.agg [.slice (toks.map tToken.e) .shut,vI 0,vI (t.size:Int),vI 0,keysV,.slice [] .nil])] H fun fr H=>?_
  refine qbx 87 (.agg [.slice (toks.map tToken.e) .shut,vI 0,vI (t.size:Int),vI 0,keysV,.slice [] .nil]) [.slice (toks.map tToken.e) .shut,vI 0,vI (t.size:Int),vI 0,keysV,.slice [] .nil] H K fun id st K fr H=>?_
  refine qg 1 [(4,.ptr id 0)] H fun fr H=>?_
  refine qe ?_
  refine W_ret ?_
  have h1:ResL Tryz.prog (.obj id (.cells 87 [.slice (toks.map tToken.e) .shut,vI 0,vI (t.size:Int),vI 0,keysV,.slice [] .nil]) :: rs) fr Tryz.f56.results.toList [.ptr id 0]:=by
   refine resT ?_ resN
   rw [H.1]
   rfl
  exact ⟨_,results_one (P:=Tryz.prog) (ResL_ok K _ _ h1),id,rfl,rd_join K.nilo⟩)
 exact ⟨id,st',hR,K⟩
theorem one_R (g:FuncId) (a b:List AV) {st:St}:R Tryz.prog AN 147 [.fn g a b] st (.ret (.fn 194 [] [.cptr [.fn g a b] 0])) st:=R_still AN_mixed 20 Tryz.func147 rfl
end Go.Proofs.YtbecjgckobhmpaaGreatDoor
end
section
namespace Go.Proofs.YtbecjgckobhmpaaGreatDoor
open Go Go.AM Go.Proofs
set_option maxRecDepth 100000
def zNc:List AV:=[vI 0,vS (bs []),vS (bs []),vI 0,vI 0,vI 0,vB false,.slice [] .nil,vI 0]
def zBc:List AV:=[vI 0,vI 0]
def frC (id1 id2:Nat) (v:AV):Fr:=put (put (frame0 [.ptr id1 0,.ptr id2 0]) (some 5) v) (some 2) v
theorem frC_Rd (id1 id2:Nat) (v:AV):Rd (frC id1 id2 v) [(0,.ptr id1 0),(1,.ptr id2 0),(2,v)]:=⟨rfl,rfl,rfl,trivial⟩
theorem rest_idle {r0 c:Code} (hb:Tryz.f100.body = some (.seq r0 c)) (id1 id2:Nat) (st:St):W Tryz.prog AN 100 c (frC id1 id2 (.sc .nilIface)) st fun e _ st'=>e = .normal∧st' = st:=by
 cases (show some (Code.seq _ _) = some (.seq r0 c) from hb)
 have H:=frC_Rd id1 id2 (.sc .nilIface)
 refine W_seq (W_reg ?_)
 refine qg 2 [(7,vB false)] H fun fr H=>?_
 refine qe ?_
 refine qF H rfl ?_
 exact W_skip ⟨rfl,rfl⟩
theorem rest_catch {r0 c:Code} (hb:Tryz.f100.body = some (.seq r0 c)) {st:St} {rs:List Res} {id1 id2:Nat} (b:Bad) (K:HL st (.obj id2 (.cells 95 zBc) :: .obj id1 (.cells 24 zNc) :: rs)) :
  W Tryz.prog AN 100 c (frC id1 id2 (encW b)) st fun e _ st'=>e = .normal∧HL st' (.obj id2 (.cells 95 [vI b.1,vI b.2]) :: .obj id1 (.cells 24 zNc) :: rs):=by
 cases (show some (Code.seq _ _) = some (.seq r0 c) from hb)
 have H:=frC_Rd id1 id2 (encW b)
 refine W_seq (W_reg ?_)
 refine qg 2 [(7,vB true)] H fun fr H=>?_
 refine qe ?_
 refine qT H rfl ?_
 refine W_seq (W_reg ?_)
 refine qg 5 [(11,.agg [vI b.1,vI b.2]),(12,vB true)] H fun fr H=>?_
 refine qal 95 [vI 0,vI 0] H K fun id3 st K fr H=>?_
 refine qst 95 0 (.agg [vI b.1,vI b.2]) [vI b.1,vI b.2] 0 H K rfl fun st K fr H=>?_
 refine qg 1 [(4,vB true)] H fun fr H=>?_
 refine qe ?_
 refine W_seq (W_seq (W_reg ?_))
 refine qg 2 [(14,vB false)] H fun fr H=>?_
 refine qe ?_
 refine qF H rfl ?_
 refine W_skip ?_
 refine W_drw ?_
 refine qg 1 [(16,.agg zNc)] H fun fr H=>?_
 refine qld 95 0 (.agg [vI b.1,vI b.2]) 0 H K rfl fun fr H=>?_
 refine qst 24 0 (.agg zNc) zNc 2 H K rfl fun st K fr H=>?_
 refine qst 95 0 (.agg [vI b.1,vI b.2]) [vI b.1,vI b.2] 1 H K rfl fun st K fr H=>?_
 refine qe (qdI K [0,.look (some 0),.put 2,.put 1] ?_)
 exact ⟨rfl,(K.keep [false]).cv⟩
def recs (u u':FrameMode) (cv:Value):Prop:=∀ (c₀:Frame) (cs:List Frame),c₀.mode = u →
 (recoverD (c₀ :: cs) = some (cv,{ c₀ with mode:=u' } :: cs))∨(recoverD (c₀ :: cs) = none∧cv = .nilIface∧u' = u)
theorem clo_100 {c:Code} {y0 y1:TypeId} {p0 p1:String} {a0 a1:Array Edge} (hb:Tryz.f100.body = some (.seq (.region 0 #[⟨some 5,.call ⟨.builtin .recover,#[],#[]⟩,y0,p0,a0,none⟩,⟨some 2,.assign (.tmp 5),y1,p1,a1,none⟩] false) c)) {st stF:St} {fr':Fr} {id1 id2:Nat} {v:AV} (hd:dstOk 18 c = true)
  (hsim:Sim Tryz.prog AN c (frC id1 id2 v) st (.normal,fr',stF)) {u u':FrameMode} {G:Gh} {w:World} (hs:Sok G w st) (hg:GlobOk AN G w) {p q cv:Value} (hp:V G w (.ptr id1 0) p) (hq:V G w (.ptr id2 0) q) (hv:V G w v cv) (hrec:recs u u' cv) :
  CallsD Tryz.prog 100 #[p,q] u w fun e u2 w'=>e = .returned (.tuple #[])∧u2 = u'∧∃ G',Ext G w st G' w' stF∧Sok G' w' stF:=by
 refine callsD_of_wpS Tryz.func100 hb fun c₀ cs hu=>?_
 have hf0:Fits G w (frame0 [.ptr id1 0,.ptr id2 0]) { tmps:=⟨[p,q]⟩ ++ Array.replicate (18 - (⟨[p,q]⟩:Array Value).size) undef,defers:=[] } 18:=fits0 (VL.cons hp (VL.cons hq VL.nil)) (by simp)
 have hf1:=(hf0.put (d:=some 5) (by simp) hv).put (d:=some 2) (by simp) hv
 apply wpS_seq
 apply wpS_region
 have fin:∀ cs' act,cs' = { c₀ with mode:=u' } :: cs→act = (Act.put (Act.put { tmps:=⟨[p,q]⟩ ++ Array.replicate (18 - (⟨[p,q]⟩:Array Value).size) undef,defers:=[] } (some 5) cv) (some 2) cv)→Code.wpS Tryz.prog c (bodyPostS Tryz.prog Tryz.f100 c₀ cs fun e u2 w'=>e = .returned (.tuple #[])∧u2 = u'∧∃ G',Ext G w st G' w' stF∧Sok G' w' stF) act cs' w:=fun cs' act hcs hact=>by
  subst hact
  refine wpS_of_wp (hsim 18 hd G w _ _ hf1 hg hs ?_)
  intro ex a' w' hpost
  obtain ⟨rfl,G',hx,hs',hf',hdef⟩:=hpost.fits
  exact ⟨hdef,u',hcs,.tuple #[],by simp [results,Tryz.results100],rfl,rfl,G',hx,hs'⟩
 show wpOpsS _ _ _ [0,1] _ _ _
 rcases hrec c₀ cs hu with h1 | ⟨h1,rfl,rfl⟩
 ·simp [wpOpsS,go_sem,h1,Exit.thenS,Tryz.ntmps100]
  exact fin _ _ rfl (by simp [Act.put])
 ·simp [wpOpsS,go_sem,h1,Exit.thenS,Tryz.ntmps100]
  exact fin _ _ (by rw [← hu]) (by simp [Act.put])
theorem recs_idle:recs .returning .returning .nilIface:=fun c₀ cs h=>.inr ⟨by simp [recoverD,h],rfl,rfl⟩
theorem recs_catch (c:Value):recs (.panicking (entry c)) (.panicking [{ v:=c,recovered:=true }]) c:=fun c₀ cs h=>.inl (by simp [recoverD,h,entry])
section
variable {g:FuncId} {first cap:List AV} {i0:Nat} {p:Spare} {s:RS} {st:St} {rs:List Res}
theorem g65_0 {r0 c:Code} (hb:Tryz.f65.body = some (.seq r0 c)) (K:HL st (.rd i0 87 p (rdC s p) :: rs)) :
  W Tryz.prog AN 65 r0 (frame0 [.ptr i0 0,.fn g first cap]) st fun e fr st'=>e = .normal∧∃ id1 id2,Rd fr [(0,.ptr i0 0),(1,.fn g first cap),(4,.ptr id1 0),(5,.ptr id2 0)]∧HL st' (.obj id2 (.cells 95 zBc) :: .obj id1 (.cells 24 zNc) :: .rd i0 87 p (rdC s p) :: rs):=by
 cases (show some (Code.seq _ _) = some (.seq r0 c) from hb)
 have H:Rd (frame0 [.ptr i0 0,.fn g first cap]) [(0,.ptr i0 0),(1,.fn g first cap)]:=⟨rfl,rfl,trivial⟩
 refine W_reg ?_
 refine qal 24 zNc H K fun id1 st K fr H=>?_
 refine qal 95 zBc H K fun id2 st K fr H=>?_
 refine qe ?_
 exact ⟨rfl,id1,id2,H.tq,K⟩
def frG (fr:Fr) (id1 id2:Nat):Fr:=put (put fr (some 6) (.fn 100 [] [.ptr id1 0,.ptr id2 0])) none (.tuple [])
theorem frG_Rd {fr:Fr} {id1 id2:Nat} (H:Rd fr [(0,.ptr i0 0),(1,.fn g first cap),(4,.ptr id1 0),(5,.ptr id2 0)]):Rd (frG fr id1 id2) [(1,.fn g first cap),(4,.ptr id1 0),(5,.ptr id2 0)]:=by
 obtain ⟨_,h1,h4,h5,_⟩:=H
 exact ⟨h1,h4,h5,trivial⟩
theorem g65_2 {r0 r1 r2 c:Code} (hb:Tryz.f65.body = some (.seq r0 (.seq r1 (.seq r2 c)))) {fr:Fr} {id1 id2:Nat} {v:Node} {q:Spare} {s':RS} {st2:St} (H:Rd fr [(1,.fn g first cap),(4,.ptr id1 0),(5,.ptr id2 0)])
  (hR:R Tryz.prog AN g (first ++ [] ++ cap) st (.ret (aN v)) st2) (K:HL st2 (.rd i0 87 q (rdC s' q) :: .obj id2 (.cells 95 zBc) :: .obj id1 (.cells 24 zNc) :: rs)) :
  W Tryz.prog AN 65 r2 fr st fun e fr st'=>e = .normal∧Rd fr [(4,.ptr id1 0),(5,.ptr id2 0)]∧HL st' (.rd i0 87 q (rdC s' q) :: .obj id2 (.cells 95 zBc) :: .obj id1 (.cells 24 (cNode .shut v)) :: rs):=by
 cases (show some (Code.seq _ (Code.seq _ (Code.seq _ _))) = some (.seq r0 (.seq r1 (.seq r2 c))) from hb)
 refine W_reg ?_
 refine qg 1 [(7,.fn g first cap)] H fun fr H=>?_
 refine qq (τ:=Unit) (v:=fun _=>aN v) (post:=fun _=>.rd i0 87 q (rdC s' q) :: .obj id2 (.cells 95 zBc) :: .obj id1 (.cells 24 zNc) :: rs) ⟨(),st2,hR,K⟩ H fun _ st K fr H=>?_
 refine qg 1 [(9,.agg zBc)] H fun fr H=>?_
 refine qst 24 0 (aN v) (cNode .shut v) 2 H K rfl fun st K fr H=>?_
 refine qst 95 0 (.agg zBc) zBc 1 H K rfl fun st K fr H=>?_
 refine qe ?_
 exact ⟨rfl,H.tq,K⟩
theorem g65_r {fr:Fr} {id1 id2:Nat} {n b:List AV} {rs:List Res} (H:Rd fr [(4,.ptr id1 0),(5,.ptr id2 0)]) (K:HL st rs) (h1:.obj id1 (.cells 24 n) ∈ rs) (h2:.obj id2 (.cells 95 b) ∈ rs) {vn vb:AV} (hn:(loadC Tryz.prog 24 n 0).map weakA = some vn) (hb:(loadC Tryz.prog 95 b 0).map weakA = some vb) :
  resultsA Tryz.prog Tryz.f65 st fr = some (.tuple [vn,vb]) :=
 results_one (P:=Tryz.prog) (vs:=[vn,vb]) (ResL_ok K _ _ (show ResL Tryz.prog rs fr [.cell 4 24,.cell 5 95] [vn,vb] from ⟨⟨id1,0,24,n,H.1,h1,hn⟩,⟨id2,0,95,b,H.2.1,h2,hb⟩,trivial⟩))
end
theorem body100:∃ (c:Code) (y0 y1:TypeId) (p0 p1:String) (a0 a1:Array Edge),Tryz.f100.body = some (.seq (.region 0 #[⟨some 5,.call ⟨.builtin .recover,#[],#[]⟩,y0,p0,a0,none⟩,⟨some 2,.assign (.tmp 5),y1,p1,a1,none⟩] false) c)∧dstOk 18 c = true :=
 ⟨_,_,_,_,_,_,_,rfl,by kernel_rfl⟩
theorem enters100:Go.AM.Enters Tryz.prog 100:=Go.AM.enters_of Tryz.func100 rfl (k:=0) (by kernel_rfl)
theorem g65_end {st stE stF:St} {fr:Fr} {v:AV} {id1 id2:Nat} {frF:Fr} {n b:List AV} {rs:List Res} {vn vb:AV} {c:Code} (hb:∃ (y0 y1:TypeId) (p0 p1:String) (a0 a1:Array Edge),Tryz.f100.body = some (.seq (.region 0 #[⟨some 5,.call ⟨.builtin .recover,#[],#[]⟩,y0,p0,a0,none⟩,⟨some 2,.assign (.tmp 5),y1,p1,a1,none⟩] false) c)) (hd:dstOk 18 c = true)
  (hsim:Sim Tryz.prog AN c (frC id1 id2 v) stE (.normal,frF,stF)) {u u':FrameMode} (hu:u≠.run) (hset:settle u' = .returning) {G G0:Gh} {w w0:World} (hx0:Ext G0 w0 st G w stE) (hs:Sok G w stE) (hg:GlobOk AN G w)
  {a:Act} (hf:Fits G w fr a 10) {l2:List Value} (hl:VL G w [.ptr id1 0,.ptr id2 0] l2) {cv:Value} (hv:V G w v cv) (hrec:recs u u' cv) {dargs:Array Value} (hda:dargs = #[])
  (H:Rd fr [(4,.ptr id1 0),(5,.ptr id2 0)]) (K:HL stF rs) (h1:.obj id1 (.cells 24 n) ∈ rs) (h2:.obj id2 (.cells 95 b) ∈ rs) (hn:(loadC Tryz.prog 24 n 0).map weakA = some vn) (hbb:(loadC Tryz.prog 95 b 0).map weakA = some vb) :
  Leaves Tryz.prog Tryz.f65 a.tmps (Gotten G0 w0 st (.ret (.tuple [vn,vb])) stF) [{ target:=.fn (.func 100) ⟨l2⟩,args:=dargs }] u w:=by
 subst hda
 simp only [VL] at hl
 obtain ⟨p,l',rfl,hp,q,l'',rfl,hq,rfl⟩:=hl
 obtain ⟨y0,y1,p0,p1,a0,a1,hb⟩:=hb
 refine leaves_cons (f:=100) (args:=#[p,q]) hu (by simp [invoke,run_callFunc enters100]) ?_
 refine (clo_100 hb hd hsim hs hg hp hq hv hrec).mono ?_
 rintro e u2 w' ⟨rfl,rfl,G',hx,hs'⟩
 simp only [hset]
 obtain ⟨c,hc,hvc⟩:=resultsA_ok (g65_r H K h1 h2 hn hbb) (hf.mono hx) hs'
 exact ⟨c,hc,G',hx0.trans hx,hs',c,rfl,hvc⟩
theorem guarded_R {g:FuncId} {first cap:List AV} {m:Option ((Node ⊕ Bad) × RS)} {x:(Node × Int × Int) × RS} (hx:guardF m = some x) {i0:Nat} {p:Spare} {s:RS} {st:St} {rs:List Res} (K:HL st (.rd i0 87 p (rdC s p) :: rs))
  (hc:∀ a s',m = some (a,s')→∀ st1 pre,HL st1 (.rd i0 87 p (rdC s p) :: (pre ++ rs))→∃ (q:Spare) (st':St),R Tryz.prog AN g (first ++ [] ++ cap) st1 (gotE encW (fun v=>aN v) a) st'∧HL st' (.rd i0 87 q (rdC s' q) :: (pre ++ rs))) :
  ∃ (q:Spare) (st':St),R Tryz.prog AN 65 [.ptr i0 0,.fn g first cap] st (.ret (.tuple [aN x.1.1,.agg [vI x.1.2.1,vI x.1.2.2]])) st'∧HL st' (.rd i0 87 q (rdC x.2 q) :: rs):=by
 obtain ⟨r0,t1,q1,f1,t2,q2,f2,t3,q3,f3,t4,q4,f4,o2,o3,o4,hb⟩:∃ (r0:Code) (t1:TypeId) (q1:String) (f1:Array Edge) (t2:TypeId) (q2:String) (f2:Array Edge) (t3:TypeId) (q3:String) (f3:Array Edge) (t4:TypeId) (q4:String) (f4:Array Edge) (o2 o3 o4:Oper),
   Tryz.f65.body = some (.seq r0 (.seq (.region 1 #[⟨some 6,.makeFunc (.func 100) #[] #[.tmp 4,.tmp 5],t1,q1,f1,none⟩,⟨none,.defer ⟨.value (.tmp 6),#[],#[]⟩,t2,q2,f2,none⟩] false)
    (.seq (.region 2 #[⟨some 7,.move (.tmp 1),t3,q3,f3,none⟩,⟨some 8,.call ⟨.value (.tmp 7),#[],#[]⟩,t4,q4,f4,none⟩,o2,o3,o4] false) .ret))):=⟨_,_,_,_,_,_,_,_,_,_,_,_,_,_,_,_,rfl⟩
 have hd0:dstOk 10 r0 = true:=by
  cases (show some (Code.seq _ _) = some _ from hb)
  kernel_rfl
 have hd2:dstOk 10 (.region 2 #[⟨some 7,.move (.tmp 1),t3,q3,f3,none⟩,⟨some 8,.call ⟨.value (.tmp 7),#[],#[]⟩,t4,q4,f4,none⟩,o2,o3,o4] false) = true:=by
  cases (show some (Code.seq _ _) = some _ from hb)
  kernel_rfl
 have hen:Go.AM.Enters Tryz.prog 65:=⟨_,_,Tryz.func65,hb,by kernel_rfl⟩
 obtain ⟨c100,y0,y1,p0,p1,a0,a1,hb1,hd1⟩:=body100
 obtain ⟨e0,fr0,st0,⟨rfl,id1,id2,H0,K0⟩,hs0⟩:=(g65_0 (first:=first) (cap:=cap) (g:=g) hb K).use
 have Kc:HL st0 (.rd i0 87 p (rdC s p) :: ([.obj id2 (.cells 95 zBc),.obj id1 (.cells 24 zNc)] ++ rs)):=K0.front 2 rfl
 have H1:=frG_Rd H0
 have ev6:∀ fr:Fr,fr 4 = .ptr id1 0→fr 5 = .ptr id2 0→opA Tryz.prog AN 65 fr st0 ⟨some 6,.makeFunc (.func 100) #[] #[.tmp 4,.tmp 5],t1,q1,f1,none⟩ = some (.fn 100 [] [.ptr id1 0,.ptr id2 0],st0):=fun fr h4 h5=>by
  show some (AV.fn 100 [] [fr 4,fr 5],st0) = _
  rw [h4,h5]
 have begin_:∀ (R':Ending→World→Prop) G w cargs,VL G w [.ptr i0 0,.fn g first cap] cargs→Sok G w st→GlobOk AN G w →
   (∀ G2 w2 a2 l2,Ext G w st G2 w2 st0→Sok G2 w2 st0→GlobOk AN G2 w2→Fits G2 w2 (frG fr0 id1 id2) a2 10→VL G2 w2 [.ptr id1 0,.ptr id2 0] l2→a2.defers = [{ target:=.fn (.func 100) ⟨l2⟩,args:=#[] }] →
    (Code.seq (.region 2 #[⟨some 7,.move (.tmp 1),t3,q3,f3,none⟩,⟨some 8,.call ⟨.value (.tmp 7),#[],#[]⟩,t4,q4,f4,none⟩,o2,o3,o4] false) .ret).wp Tryz.prog (bodyPostD Tryz.prog Tryz.f65 R') a2 w2)→Calls Tryz.prog 65 ⟨cargs⟩ w R':=fun R' G w cargs hva hs hg hk=>by
  refine calls_of_wp_defers Tryz.func65 hb ?_
  apply wp_seq
  refine hs0 10 hd0 G w _ _ (fits0 hva (by simp)) hg hs ?_
  intro ex a1 w1 hp1
  obtain ⟨rfl,G1,hx1,hs1,hf1,hde1⟩:=hp1.fits
  simp only [Exit.then]
  apply wp_seq
  refine wp_region ?_
  show wpOps _ _ _ [0,1] _ _
  rw [wpOps_cons]
  refine step_ok (n:=10) (fr:=fr0) (st:=st0) (o:=⟨some 6,.makeFunc (.func 100) #[] #[.tmp 4,.tmp 5],t1,q1,f1,none⟩) rfl (by intro d hd; cases hd; decide) (.op (f:=65) rfl rfl (ev6 fr0 H0.2.2.1 H0.2.2.2.1)) hf1 (hg.mono hx1) hs1 ?_
  intro G2 w2 a2 hx2 hs2 hf2 hde2
  rw [wpOps_cons]
  have h6:=hf2.2 6
  simp only [put,upd,if_true,V] at h6
  obtain ⟨l1,l2,h6,hl1,hl2⟩:=h6
  simp only [VL] at hl1
  subst hl1
  have hev:a2.eval (.tmp 6) = .func (.func 100) #[] ⟨l2⟩:=h6
  unfold wpOp
  simp only [Region.wanted,List.getElem?_toArray,List.getElem?_cons_succ,List.getElem?_cons_zero,if_true]
  left
  unfold Oper.wp
  have hrun:(execOp a2.eval ⟨none,.defer ⟨.value (.tmp 6),#[],#[]⟩,t2,q2,f2,none⟩).run Tryz.prog w2 = .ok (.defer { target:=.fn (.func 100) ⟨l2⟩,args:=#[] }) w2:=by
   simp [execOp,resolve,hev,Deferred.ofValue]
  rw [hrun,Oper.upon_defer]
  simp only [wpOps,Exit.then]
  refine hk G2 w2 _ l2 (hx1.trans hx2) hs2 ((hg.mono hx1).mono hx2) ⟨hf2.1,hf2.2⟩ (by simpa only [VL] using hl2) ?_
  simp only [Act.put,hde2,hde1]
 unfold guardF at hx
 split at hx
 ·rename_i v s'
  simp only [Option.some.injEq] at hx
  subst hx
  obtain ⟨q,st2,hR,K2⟩:=hc (.inl v) s' rfl st0 _ Kc
  obtain ⟨e2,fr2,st3,⟨rfl,H2,K3⟩,hs2⟩:=(g65_2 hb H1 hR K2).use
  obtain ⟨e4,fr4,st4,⟨rfl,rfl⟩,hs4⟩:=(rest_idle hb1 id1 id2 st3).use
  refine ⟨q,st4,⟨hen,fun G w cargs hva hs hg=>begin_ _ G w cargs hva hs hg ?_⟩,K3.keep [true,false,false]⟩
  intro G2 w2 a2 l2 hx2 hs2' hg2 hf2 hl2 hde2
  apply wp_seq
  refine hs2 10 hd2 G2 w2 a2 _ hf2 hg2 hs2' ?_
  intro ex a3 w3 hp3
  obtain ⟨rfl,G3,hx3,hs3,hf3,hde3⟩:=hp3.fits
  simp only [Exit.then]
  refine wp_ret ?_
  simp only [bodyPostD]
  rw [hde3,hde2]
  exact g65_end (n:=cNode .shut v) (b:=zBc) ⟨y0,y1,p0,p1,a0,a1,hb1⟩ hd1 hs4 (u:=.returning) (u':=.returning) (by simp) rfl (hx2.trans hx3) hs3 (hg2.mono hx3) hf3 (hx3.vl hl2) (cv:=.nilIface) (by simp [V]) recs_idle rfl H2 K3 (by simp) (by simp) (by kernel_rfl) (by kernel_rfl)
 ·rename_i b s'
  simp only [Option.some.injEq] at hx
  subst hx
  obtain ⟨q,st2,hR,K2⟩:=hc (.inr b) s' rfl st0 _ Kc
  have K2':HL st2 (.obj id2 (.cells 95 zBc) :: .obj id1 (.cells 24 zNc) :: .rd i0 87 q (rdC s' q) :: rs):=(K2.front 2 rfl).front 2 rfl
  obtain ⟨e5,fr5,st5,⟨rfl,K5⟩,hs5⟩:=(rest_catch hb1 b K2').use
  refine ⟨q,st5,⟨hen,fun G w cargs hva hs hg=>begin_ _ G w cargs hva hs hg ?_⟩,K5.keep [false,false]⟩
  intro G2 w2 a2 l2 hx2 hs2' hg2 hf2 hl2 hde2
  apply wp_seq
  refine wp_region ?_
  show wpOps _ _ _ [0,1,2,3,4] _ _
  rw [wpOps_cons]
  refine step_ok (n:=10) (fr:=frG fr0 id1 id2) (st:=st0) (o:=⟨some 7,.move (.tmp 1),t3,q3,f3,none⟩) rfl (by intro d hd; cases hd; decide) (.op (f:=65) (v:=.fn g first cap) rfl rfl (by show some (frG fr0 id1 id2 1,st0) = _; rw [H1.1])) hf2 hg2 hs2' ?_
  intro G3 w3 a3 hx3 hs3 hf3 hde3
  rw [wpOps_cons]
  refine panic_call (n:=10) (o:=⟨some 8,.call ⟨.value (.tmp 7),#[],#[]⟩,t4,q4,f4,none⟩) rfl (fr:=put (frG fr0 id1 id2) (some 7) (.fn g first cap)) rfl rfl hR hf3 (hg2.mono hx3) hs3 ?_
  intro c G4 w4 hx4 hs4 hv4 hf4
  simp only [Exit.then,bodyPostD]
  rw [hde3,hde2]
  exact g65_end (n:=zNc) (b:=[vI b.1,vI b.2]) ⟨y0,y1,p0,p1,a0,a1,hb1⟩ hd1 hs5 (u:=.panicking (entry c)) (u':=.panicking [{ v:=c,recovered:=true }]) (by simp) rfl ((hx2.trans hx3).trans hx4) hs4 ((hg2.mono hx3).mono hx4) hf4 (hx4.vl (hx3.vl hl2)) hv4 (recs_catch c) rfl ⟨H1.2.1,H1.2.2.1,trivial⟩ K5 (by simp) (by simp) (by kernel_rfl) (by kernel_rfl)
 ·cases hx
end Go.Proofs.YtbecjgckobhmpaaGreatDoor
end
section
namespace Go.Proofs.YtbecjgckobhmpaaGreatDoor
open Go Go.AM Go.Proofs
set_option maxRecDepth 100000
set_option maxHeartbeats 4000000
def F36 (a0:ByteArray) (a1:Int):Option Node :=
 some (Node.mk 2 a0 (bs []) 0 0 0 false ([]:List Node) a1)
theorem F36_R (a0:ByteArray) (a1:Int) (r:Node) (hr:F36 a0 a1 = some r) {st:St}:R Tryz.prog AN 36 [vS a0,vI a1] st (.ret (aN r)) st:=by
 unfold F36 at hr
 refine R_pureX [vS a0,vI a1] [(0,vS a0),(1,vI a1)] Tryz.func36 rfl (by kernel_rfl) rfl fun fr st H K=>?_
 refine W_seq (W_reg ?_)
 refine qal 24 [vI 0,vS (bs []),vS (bs []),vI 0,vI 0,vI 0,vB false,vL tNode ([]:List Node) .nil,vI 0] H K fun id1 st K fr H=>?_
 refine qe ?_
 refine W_seq (W_reg ?_)
 refine qg 3 [(7,.agg [vI 2,vS a0,vS (bs []),vI 0,vI 0,vI 0,vB false,vL tNode ([]:List Node) .nil,vI a1])] H fun fr H=>?_
 refine qst 24 0 (.agg [vI 2,vS a0,vS (bs []),vI 0,vI 0,vI 0,vB false,vL tNode ([]:List Node) .nil,vI a1]) [vI 2,vS a0,vS (bs []),vI 0,vI 0,vI 0,vB false,vL tNode ([]:List Node) .nil,vI a1] 0 H K rfl fun st K fr H=>?_
 refine qe ?_
 refine W_ret ?_
 obtain rfl:=Option.some.inj hr
 exact e_ret [.agg [vI 2,vS a0,vS (bs []),vI 0,vI 0,vI 0,vB false,vL tNode ([]:List Node) .shut,vI a1]] H K (fun _=>resC id1 0 24 [vI 2,vS a0,vS (bs []),vI 0,vI 0,vI 0,vB false,vL tNode ([]:List Node) .nil,vI a1] 0 (by kernel_rfl) rfl (by kernel_rfl) resN) (fun _=>by simp only [strip,stripL,stripL_ET,Option.bind_some,Option.map_some,oneOf] <;> rfl)
def F136 (a0:ByteArray) (a1:Int):Option Bool :=
 (idxS a0 a1).bind fun x1 =>
 bif x1 == 32 then
  (bif x1 == 32 then
   (some true)
  else
   (some false))
 else
  (bif x1 == 9 then
   (bif x1 == 9 then
    (some true)
   else
    (some false))
  else
   (bif x1 == 10 then
    (bif x1 == 10 then
     (some true)
    else
     (some false))
   else
    (bif x1 == 13 then
     (some true)
    else
     (some false))))
theorem F136_R (a0:ByteArray) (a1:Int) (r:Bool) (hr:F136 a0 a1 = some r) {st:St}:R Tryz.prog AN 136 [.agg [vS a0],vI a1] st (.ret (vB r)) st:=by
 unfold F136 at hr
 refine R_pureX [.agg [vS a0],vI a1] [(0,.agg [vS a0]),(1,vI a1)] Tryz.func136 rfl (by kernel_rfl) rfl fun fr st H K=>?_
 refine W_seq (W_reg ?_)
 refine qg 2 [(2,.cptr ([vS a0]) 0)] H fun fr H=>?_
 refine qe ?_
 refine W_seq (W_seq ?_)
 refine W_reg ?_
 refine qg 3 [(6,vS a0),(7,vI a1)] H fun fr H=>?_
 obtain ⟨x1,hx1,hr⟩:=obind hr
 refine qv (.index 9 (vS a0) (vI a1)) H (run_idxS (by kernel_rfl) hx1) fun fr H=>?_
 refine qe ?_
 refine W_block ?_
 refine W_seq (W_seq ?_)
 refine W_reg ?_
 refine qg 2 [(9,vB (x1 == 32))] H fun fr H=>?_
 refine qe ?_
 rcases csplit hr with ⟨hc2,hr⟩ | ⟨hc2,hr⟩
 ·refine qT H hc2 ?_
  refine W_skip ?_
  rcases csplit hr with ⟨hc5,hr⟩ | ⟨hc5,hr⟩
  ·refine qT H hc5 ?_
   refine W_seq (W_reg ?_)
   refine qg 1 [(4,vB true)] H fun fr H=>?_
   refine qe ?_
   refine W_ret ?_
   obtain rfl:=Option.some.inj hr
   exact qr [vB true] H K
  refine qF H hc5 ?_
  refine W_skip ?_
  refine W_seq (W_reg ?_)
  refine qg 1 [(4,vB false)] H fun fr H=>?_
  refine qe ?_
  refine W_ret ?_
  obtain rfl:=Option.some.inj hr
  exact qr [vB false] H K
 refine qF H hc2 ?_
 refine W_seq (W_reg ?_)
 refine qg 2 [(9,vB (x1 == 9))] H fun fr H=>?_
 refine qe ?_
 rcases csplit hr with ⟨hc3,hr⟩ | ⟨hc3,hr⟩
 ·refine qT H hc3 ?_
  refine W_skip ?_
  rcases csplit hr with ⟨hc6,hr⟩ | ⟨hc6,hr⟩
  ·refine qT H hc6 ?_
   refine W_seq (W_reg ?_)
   refine qg 1 [(4,vB true)] H fun fr H=>?_
   refine qe ?_
   refine W_ret ?_
   obtain rfl:=Option.some.inj hr
   exact qr [vB true] H K
  refine qF H hc6 ?_
  refine W_skip ?_
  refine W_seq (W_reg ?_)
  refine qg 1 [(4,vB false)] H fun fr H=>?_
  refine qe ?_
  refine W_ret ?_
  obtain rfl:=Option.some.inj hr
  exact qr [vB false] H K
 refine qF H hc3 ?_
 refine W_seq (W_reg ?_)
 refine qg 2 [(9,vB (x1 == 10))] H fun fr H=>?_
 refine qe ?_
 rcases csplit hr with ⟨hc4,hr⟩ | ⟨hc4,hr⟩
 ·refine qT H hc4 ?_
  refine W_skip ?_
  rcases csplit hr with ⟨hc7,hr⟩ | ⟨hc7,hr⟩
  ·refine qT H hc7 ?_
   refine W_seq (W_reg ?_)
   refine qg 1 [(4,vB true)] H fun fr H=>?_
   refine qe ?_
   refine W_ret ?_
   obtain rfl:=Option.some.inj hr
   exact qr [vB true] H K
  refine qF H hc7 ?_
  refine W_skip ?_
  refine W_seq (W_reg ?_)
  refine qg 1 [(4,vB false)] H fun fr H=>?_
  refine qe ?_
  refine W_ret ?_
  obtain rfl:=Option.some.inj hr
  exact qr [vB false] H K
 refine qF H hc4 ?_
 refine W_reg ?_
 refine qg 2 [(9,vB (x1 == 13))] H fun fr H=>?_
 refine qe ?_
 rcases csplit hr with ⟨hc8,hr⟩ | ⟨hc8,hr⟩
 ·refine qT H hc8 ?_
  refine W_seq (W_reg ?_)
  refine qg 1 [(4,vB true)] H fun fr H=>?_
  refine qe ?_
  refine W_ret ?_
  obtain rfl:=Option.some.inj hr
  exact qr [vB true] H K
 refine qF H hc8 ?_
 refine W_skip ?_
 refine W_seq (W_reg ?_)
 refine qg 1 [(4,vB false)] H fun fr H=>?_
 refine qe ?_
 refine W_ret ?_
 obtain rfl:=Option.some.inj hr
 exact qr [vB false] H K
def F135_2 (n:Nat) (a0:ByteArray) (a1:Int) (a2:ByteArray):Option Int :=
 (iter (σ:=Int) (ρ:=Int) (fun s1=>bif decide (s1 < (a0.size:Int)) then
   ((F136 a2 s1).bind fun x3 =>
   bif x3 then
    (some (.inl (w64 (s1 + 1))))
   else
    (some (.inr s1)))
  else
   (some (.inr s1))) n a1).bind fun r5 =>
 some r5
theorem F135_2_R (n:Nat) (a0:ByteArray) (a1:Int) (a2:ByteArray) (r:Int) (hr:F135_2 n a0 a1 a2 = some r) {st:St}:R Tryz.prog AN 135 [.agg [vS a0],vI a1,.fn 136 [.agg [vS a2]] []] st (.ret (vI r)) st:=by
 unfold F135_2 at hr
 refine R_pureX [.agg [vS a0],vI a1,.fn 136 [.agg [vS a2]] []] [(0,.agg [vS a0]),(1,vI a1),(2,.fn 136 [.agg [vS a2]] [])] Tryz.func135 rfl (by kernel_rfl) rfl fun fr st H K=>?_
 refine W_seq (W_reg ?_)
 refine qg 2 [(3,.cptr ([vS a0]) 0)] H fun fr H=>?_
 refine qe ?_
 refine W_seq (W_block ?_)
 obtain ⟨r5,hr5,hr⟩:=obind hr
 refine W_iter hr5 (fun (s1:Int) fr st=>Rd fr [(1,vI s1),(2,.fn 136 [.agg [vS a2]] []),(3,.cptr ([vS a0]) 0)]∧HL st []) (fun (r5:Int) e fr st=>e = .exit 0∧Rd fr [(1,vI r5)]∧HL st []) ⟨H.tq,K.keep []⟩ ?_ ?_
 ·intro s1 fr st r hi hr
  obtain ⟨H,K⟩:=hi
  refine W_seq (W_seq ?_)
  refine W_reg ?_
  refine qg 6 [(12,vB (decide (s1 < (a0.size:Int))))] H fun fr H=>?_
  rcases csplit hr with ⟨hc2,hr⟩ | ⟨hc2,hr⟩
  rotate_left
  ·rw [hc2] at H
   refine qg 4 [(16,vB false)] H fun fr H=>?_
   refine qe ?_
   refine qF H rfl ?_
   refine W_exit ?_
   obtain rfl:=Option.some.inj hr
   exact ⟨by simp,⟨rfl,H.tq,K.keep []⟩⟩
  rw [hc2] at H
  refine qg 2 [(13,.fn 136 [.agg [vS a2]] []),(14,vI s1)] H fun fr H=>?_
  refine qb hr (fun x h s=>F136_R  _ _ x h) H fun x3 hr fr H=>?_
  refine qg 1 [(16,vB x3)] H fun fr H=>?_
  refine qe ?_
  rcases csplit hr with ⟨hc4,hr⟩ | ⟨hc4,hr⟩
  rotate_left
  ·refine qF H hc4 ?_
   refine W_exit ?_
   obtain rfl:=Option.some.inj hr
   exact ⟨by simp,⟨rfl,H.tq,K.keep []⟩⟩
  refine qT H hc4 ?_
  refine W_skip ?_
  refine W_block ?_
  refine W_reg ?_
  refine qg 3 [(1,vI (w64 (s1 + 1)))] H fun fr H=>?_
  refine qe ?_
  obtain rfl:=Option.some.inj hr
  exact ⟨rfl,⟨H.tq,K.keep []⟩⟩
 rintro e fr st ⟨rfl,H,K⟩
 refine W_seq (W_reg ?_)
 refine qg 2 [(6,vI r5)] H fun fr H=>?_
 refine qe ?_
 refine W_ret ?_
 obtain rfl:=Option.some.inj hr
 exact qr [vI r5] H K
def F192 (a0:ByteArray) (a1:ByteArray):Option Bool :=
 bif decide ((a1.size:Int)≤(a0.size:Int)) then
  ((subS a0 0 (a1.size:Int)).bind fun x2 =>
  some (strEq x2 a1))
 else
  (some false)
theorem F192_R (a0:ByteArray) (a1:ByteArray) (r:Bool) (hr:F192 a0 a1 = some r) {st:St}:R Tryz.prog AN 192 [vS a0,vS a1] st (.ret (vB r)) st:=by
 unfold F192 at hr
 refine R_pureX [vS a0,vS a1] [(0,vS a0),(1,vS a1)] Tryz.func192 rfl (by kernel_rfl) rfl fun fr st H K=>?_
 refine W_seq (W_reg ?_)
 refine qg 1 [] H fun fr H=>?_
 refine qe ?_
 refine W_seq (W_reg ?_)
 refine qg 6 [(10,vB (decide ((a1.size:Int)≤(a0.size:Int))))] H fun fr H=>?_
 rcases csplit hr with ⟨hc1,hr⟩ | ⟨hc1,hr⟩
 rotate_left
 ·rw [hc1] at H
  refine qg 8 [(4,vB false)] H fun fr H=>?_
  refine qe ?_
  refine W_ret ?_
  obtain rfl:=Option.some.inj hr
  exact qr [vB false] H K
 rw [hc1] at H
 refine qg 3 [(11,vS a0),(13,vI (a1.size:Int))] H fun fr H=>?_
 obtain ⟨x2,hx2,hr⟩:=obind hr
 refine qv (.slice 9 (vS a0) none (some (vI (a1.size:Int)))) H (run_subS_hi (by kernel_rfl) hx2) fun fr H=>?_
 refine qg 4 [(4,vB (strEq x2 a1))] H fun fr H=>?_
 refine qe ?_
 refine W_ret ?_
 obtain rfl:=Option.some.inj hr
 exact qr [vB (strEq x2 a1)] H K
def F137 (a0:ByteArray) (a1:ByteArray):Option Bool :=
 (F192 a0 a1).bind fun x1 =>
 some x1
theorem F137_R (a0:ByteArray) (a1:ByteArray) (r:Bool) (hr:F137 a0 a1 = some r) {st:St}:R Tryz.prog AN 137 [vS a0,vS a1] st (.ret (vB r)) st:=by
 unfold F137 at hr
 refine R_pureX [vS a0,vS a1] [(0,vS a0),(1,vS a1)] Tryz.func137 rfl (by kernel_rfl) rfl fun fr st H K=>?_
 refine W_seq (W_reg ?_)
 refine qg 1 [] H fun fr H=>?_
 refine qe ?_
 refine W_seq (W_reg ?_)
 refine qg 2 [(5,vS a0),(6,vS a1)] H fun fr H=>?_
 refine qb hr (fun x h s=>F192_R  _ _ x h) H fun x1 hr fr H=>?_
 refine qg 1 [(4,vB x1)] H fun fr H=>?_
 refine qe ?_
 refine W_ret ?_
 obtain rfl:=Option.some.inj hr
 exact qr [vB x1] H K
def F138 (a0:ByteArray) (a1:Int):Option Bool :=
 (idxS a0 a1).bind fun x1 =>
 some (x1 != 10)
theorem F138_R (a0:ByteArray) (a1:Int) (r:Bool) (hr:F138 a0 a1 = some r) {st:St}:R Tryz.prog AN 138 [.agg [vS a0],vI a1] st (.ret (vB r)) st:=by
 unfold F138 at hr
 refine R_pureX [.agg [vS a0],vI a1] [(0,.agg [vS a0]),(1,vI a1)] Tryz.func138 rfl (by kernel_rfl) rfl fun fr st H K=>?_
 refine W_seq (W_reg ?_)
 refine qg 2 [(2,.cptr ([vS a0]) 0)] H fun fr H=>?_
 refine qe ?_
 refine W_seq (W_reg ?_)
 refine qg 3 [(6,vS a0),(7,vI a1)] H fun fr H=>?_
 obtain ⟨x1,hx1,hr⟩:=obind hr
 refine qv (.index 9 (vS a0) (vI a1)) H (run_idxS (by kernel_rfl) hx1) fun fr H=>?_
 refine qg 2 [(4,vB (x1 != 10))] H fun fr H=>?_
 refine qe ?_
 refine W_ret ?_
 obtain rfl:=Option.some.inj hr
 exact qr [vB (x1 != 10)] H K
def F135_3 (n:Nat) (a0:ByteArray) (a1:Int) (a2:ByteArray):Option Int :=
 (iter (σ:=Int) (ρ:=Int) (fun s1=>bif decide (s1 < (a0.size:Int)) then
   ((F138 a2 s1).bind fun x3 =>
   bif x3 then
    (some (.inl (w64 (s1 + 1))))
   else
    (some (.inr s1)))
  else
   (some (.inr s1))) n a1).bind fun r5 =>
 some r5
theorem F135_3_R (n:Nat) (a0:ByteArray) (a1:Int) (a2:ByteArray) (r:Int) (hr:F135_3 n a0 a1 a2 = some r) {st:St}:R Tryz.prog AN 135 [.agg [vS a0],vI a1,.fn 138 [.agg [vS a2]] []] st (.ret (vI r)) st:=by
 unfold F135_3 at hr
 refine R_pureX [.agg [vS a0],vI a1,.fn 138 [.agg [vS a2]] []] [(0,.agg [vS a0]),(1,vI a1),(2,.fn 138 [.agg [vS a2]] [])] Tryz.func135 rfl (by kernel_rfl) rfl fun fr st H K=>?_
 refine W_seq (W_reg ?_)
 refine qg 2 [(3,.cptr ([vS a0]) 0)] H fun fr H=>?_
 refine qe ?_
 refine W_seq (W_block ?_)
 obtain ⟨r5,hr5,hr⟩:=obind hr
 refine W_iter hr5 (fun (s1:Int) fr st=>Rd fr [(1,vI s1),(2,.fn 138 [.agg [vS a2]] []),(3,.cptr ([vS a0]) 0)]∧HL st []) (fun (r5:Int) e fr st=>e = .exit 0∧Rd fr [(1,vI r5)]∧HL st []) ⟨H.tq,K.keep []⟩ ?_ ?_
 ·intro s1 fr st r hi hr
  obtain ⟨H,K⟩:=hi
  refine W_seq (W_seq ?_)
  refine W_reg ?_
  refine qg 6 [(12,vB (decide (s1 < (a0.size:Int))))] H fun fr H=>?_
  rcases csplit hr with ⟨hc2,hr⟩ | ⟨hc2,hr⟩
  rotate_left
  ·rw [hc2] at H
   refine qg 4 [(16,vB false)] H fun fr H=>?_
   refine qe ?_
   refine qF H rfl ?_
   refine W_exit ?_
   obtain rfl:=Option.some.inj hr
   exact ⟨by simp,⟨rfl,H.tq,K.keep []⟩⟩
  rw [hc2] at H
  refine qg 2 [(13,.fn 138 [.agg [vS a2]] []),(14,vI s1)] H fun fr H=>?_
  refine qb hr (fun x h s=>F138_R  _ _ x h) H fun x3 hr fr H=>?_
  refine qg 1 [(16,vB x3)] H fun fr H=>?_
  refine qe ?_
  rcases csplit hr with ⟨hc4,hr⟩ | ⟨hc4,hr⟩
  rotate_left
  ·refine qF H hc4 ?_
   refine W_exit ?_
   obtain rfl:=Option.some.inj hr
   exact ⟨by simp,⟨rfl,H.tq,K.keep []⟩⟩
  refine qT H hc4 ?_
  refine W_skip ?_
  refine W_block ?_
  refine W_reg ?_
  refine qg 3 [(1,vI (w64 (s1 + 1)))] H fun fr H=>?_
  refine qe ?_
  obtain rfl:=Option.some.inj hr
  exact ⟨rfl,⟨H.tq,K.keep []⟩⟩
 rintro e fr st ⟨rfl,H,K⟩
 refine W_seq (W_reg ?_)
 refine qg 2 [(6,vI r5)] H fun fr H=>?_
 refine qe ?_
 refine W_ret ?_
 obtain rfl:=Option.some.inj hr
 exact qr [vI r5] H K
def F86 (n:Nat) (a0:ByteArray) (a1:Int):Option Int :=
 (iter (σ:=Int) (ρ:=Int) (fun s1=>(F135_2 n a0 s1 a0).bind fun x2 =>
  ((subS a0 x2 (a0.size:Int)).bind fun x3 =>
   (F137 x3 (bs [47,47])).bind fun x4 =>
   bif x4 then
    ((F135_3 n a0 x2 a0).bind fun x6 =>
    some x6)
   else
    (some x2):Option (Int)).bind fun j7 =>
  bif j7 == s1 then
   (some (.inr s1))
  else
   (some (.inl j7))) n a1).bind fun r9 =>
 some r9
theorem F86_R (n:Nat) (a0:ByteArray) (a1:Int) (r:Int) (hr:F86 n a0 a1 = some r) {st:St}:R Tryz.prog AN 86 [.agg [vS a0],vI a1] st (.ret (vI r)) st:=by
 unfold F86 at hr
 refine R_pureX [.agg [vS a0],vI a1] [(0,.agg [vS a0]),(1,vI a1)] Tryz.func86 rfl (by kernel_rfl) rfl fun fr st H K=>?_
 refine W_seq (W_reg ?_)
 refine qg 2 [(2,.cptr ([vS a0]) 0)] H fun fr H=>?_
 refine qe ?_
 refine W_block ?_
 obtain ⟨r9,hr9,hr⟩:=obind hr
 refine W_iter hr9 (fun (s1:Int) fr st=>Rd fr [(1,vI s1),(2,.cptr ([vS a0]) 0)]∧HL st []) (fun (r9:Int) e fr st=>e = .ret∧Rd fr [(4,vI r9)]∧HL st []) ⟨H.tq,K.keep []⟩ ?_ ?_
 ·intro s1 fr st r hi hr
  obtain ⟨H,K⟩:=hi
  refine W_block ?_
  refine W_seq (W_reg ?_)
  refine qg 4 [(6,.agg [vS a0]),(7,vI s1),(9,.fn 136 [.agg [vS a0]] [])] H fun fr H=>?_
  refine qb hr (fun x h s=>F135_2_R n _ _ _ x h) H fun x2 hr fr H=>?_
  refine qg 1 [(5,vI x2)] H fun fr H=>?_
  refine qe ?_
  refine W_seq ?_
  obtain ⟨j7,hj7,hr⟩:=obind hr
  refine W_via (fun e fr st=>e = .normal∧Rd fr [(1,vI s1),(2,.cptr ([vS a0]) 0),(5,vI j7)]∧HL st []) ?_ ?_
  ·replace hr:=hj7
   refine W_seq (W_reg ?_)
   refine qg 3 [(12,vS a0),(13,vI x2)] H fun fr H=>?_
   obtain ⟨x3,hx3,hr⟩:=obind hr
   refine qv (.slice 9 (vS a0) (some (vI x2)) none) H (run_subS_lo (by kernel_rfl) hx3) fun fr H=>?_
   refine qb hr (fun x h s=>F137_R  _ _ x h) H fun x4 hr fr H=>?_
   refine qe ?_
   rcases csplit hr with ⟨hc5,hr⟩ | ⟨hc5,hr⟩
   rotate_left
   ·refine qF H hc5 ?_
    refine W_skip ?_
    obtain rfl:=Option.some.inj hr
    exact ⟨rfl,H.tq,K.keep []⟩
   refine qT H hc5 ?_
   refine W_reg ?_
   refine qg 4 [(16,.agg [vS a0]),(17,vI x2),(19,.fn 138 [.agg [vS a0]] [])] H fun fr H=>?_
   refine qb hr (fun x h s=>F135_3_R n _ _ _ x h) H fun x6 hr fr H=>?_
   refine qg 1 [(5,vI x6)] H fun fr H=>?_
   refine qe ?_
   obtain rfl:=Option.some.inj hr
   exact ⟨rfl,H.tq,K.keep []⟩
  rintro e fr st ⟨rfl,H,K⟩
  refine W_seq (W_seq ?_)
  refine W_reg ?_
  refine qg 3 [(23,vB (j7 == s1))] H fun fr H=>?_
  refine qe ?_
  rcases csplit hr with ⟨hc8,hr⟩ | ⟨hc8,hr⟩
  ·refine qT H hc8 ?_
   refine W_seq (W_reg ?_)
   refine qg 2 [(4,vI s1)] H fun fr H=>?_
   refine qe ?_
   refine W_ret ?_
   obtain rfl:=Option.some.inj hr
   exact ⟨by simp,⟨rfl,H.tq,K.keep []⟩⟩
  refine qF H hc8 ?_
  refine W_skip ?_
  refine W_reg ?_
  refine qg 2 [(1,vI j7)] H fun fr H=>?_
  refine qe ?_
  obtain rfl:=Option.some.inj hr
  exact ⟨rfl,⟨H.tq,K.keep []⟩⟩
 rintro e fr st ⟨rfl,H,K⟩
 obtain rfl:=Option.some.inj hr
 exact qr [vI r9] H K
def F139 (a0:Int):Option Bool :=
 some (((decide (65≤a0)) && (decide (a0≤90))) || ((decide (97≤a0)) && (decide (a0≤122))))
theorem F139_R (a0:Int) (r:Bool) (hr:F139 a0 = some r) {st:St}:R Tryz.prog AN 139 [vU a0] st (.ret (vB r)) st:=by
 unfold F139 at hr
 refine R_pureX [vU a0] [(0,vU a0)] Tryz.func139 rfl (by kernel_rfl) rfl fun fr st H K=>?_
 refine W_seq (W_reg ?_)
 refine qg 1 [] H fun fr H=>?_
 refine qe ?_
 refine W_seq (W_reg ?_)
 refine qg 3 [(5,vB (decide (65≤a0)))] H fun fr H=>?_
 refine qg 3 [(8,vB ((decide (65≤a0)) && (decide (a0≤90))))] H (hs:=by intro _ _; generalize (decide (65≤a0)) = b0; cases b0 <;> kernel_rfl) fun fr H=>?_
 refine qg 1 [(9,vB ((decide (65≤a0)) && (decide (a0≤90))))] H fun fr H=>?_
 refine qseg 7 [(16,vB (((decide (65≤a0)) && (decide (a0≤90))) || ((decide (97≤a0)) && (decide (a0≤122)))))] H ?_ ?_
 ·cases hg1:((decide (65≤a0)) && (decide (a0≤90)))
  ·rw [hg1] at H
   refine seg_go 4 3 [(12,vB (decide (97≤a0)))] H fun fr H=>?_
   cases hg2:(decide (97≤a0))
   ·rw [hg2] at H
    refine seg_go 0 4 [(16,vB false)] H fun fr H=>?_
    exact seg_end (by (try simp only [hg1,hg2]); exact H.tq)
   ·rw [hg2] at H
    refine seg_go 0 4 [(16,vB (decide (a0≤122)))] H fun fr H=>?_
    exact seg_end (by (try simp only [hg1,hg2]); exact H.tq)
  ·rw [hg1] at H
   refine seg_go 0 7 [(16,vB true)] H fun fr H=>?_
   exact seg_end (by (try simp only [hg1]); exact H.tq)
 intro fr H
 refine qg 1 [(2,vB (((decide (65≤a0)) && (decide (a0≤90))) || ((decide (97≤a0)) && (decide (a0≤122)))))] H fun fr H=>?_
 refine qe ?_
 refine W_ret ?_
 obtain rfl:=Option.some.inj hr
 exact qr [vB (((decide (65≤a0)) && (decide (a0≤90))) || ((decide (97≤a0)) && (decide (a0≤122))))] H K
def F141 (a0:ByteArray) (a1:Int):Option Bool :=
 (idxS a0 a1).bind fun x1 =>
 bif decide (48≤x1) then
  ((idxS a0 a1).bind fun x3 =>
  some (decide (x3≤57)))
 else
  (some false)
theorem F141_R (a0:ByteArray) (a1:Int) (r:Bool) (hr:F141 a0 a1 = some r) {st:St}:R Tryz.prog AN 141 [.agg [vS a0],vI a1] st (.ret (vB r)) st:=by
 unfold F141 at hr
 refine R_pureX [.agg [vS a0],vI a1] [(0,.agg [vS a0]),(1,vI a1)] Tryz.func141 rfl (by kernel_rfl) rfl fun fr st H K=>?_
 refine W_seq (W_reg ?_)
 refine qg 2 [(2,.cptr ([vS a0]) 0)] H fun fr H=>?_
 refine qe ?_
 refine W_seq (W_reg ?_)
 refine qg 3 [(6,vS a0),(7,vI a1)] H fun fr H=>?_
 obtain ⟨x1,hx1,hr⟩:=obind hr
 refine qv (.index 9 (vS a0) (vI a1)) H (run_idxS (by kernel_rfl) hx1) fun fr H=>?_
 refine qg 2 [(10,vB (decide (48≤x1)))] H fun fr H=>?_
 rcases csplit hr with ⟨hc2,hr⟩ | ⟨hc2,hr⟩
 rotate_left
 ·rw [hc2] at H
  refine qg 7 [(4,vB false)] H fun fr H=>?_
  refine qe ?_
  refine W_ret ?_
  obtain rfl:=Option.some.inj hr
  exact qr [vB false] H K
 rw [hc2] at H
 refine qg 3 [(12,vS a0),(13,vI a1)] H fun fr H=>?_
 obtain ⟨x3,hx3,hr⟩:=obind hr
 refine qv (.index 9 (vS a0) (vI a1)) H (run_idxS (by kernel_rfl) hx3) fun fr H=>?_
 refine qg 3 [(4,vB (decide (x3≤57)))] H fun fr H=>?_
 refine qe ?_
 refine W_ret ?_
 obtain rfl:=Option.some.inj hr
 exact qr [vB (decide (x3≤57))] H K
def F140 (a0:ByteArray) (a1:Int):Option Bool :=
 (idxS a0 a1).bind fun x1 =>
 (F139 x1).bind fun x2 =>
 bif x2 then
  (some true)
 else
  ((F141 a0 a1).bind fun x4 =>
  bif x4 then
   (some true)
  else
   ((idxS a0 a1).bind fun x6 =>
   some (x6 == 95)))
theorem F140_R (a0:ByteArray) (a1:Int) (r:Bool) (hr:F140 a0 a1 = some r) {st:St}:R Tryz.prog AN 140 [.agg [vS a0],vI a1] st (.ret (vB r)) st:=by
 unfold F140 at hr
 refine R_pureX [.agg [vS a0],vI a1] [(0,.agg [vS a0]),(1,vI a1)] Tryz.func140 rfl (by kernel_rfl) rfl fun fr st H K=>?_
 refine W_seq (W_reg ?_)
 refine qg 2 [(2,.cptr ([vS a0]) 0)] H fun fr H=>?_
 refine qe ?_
 refine W_seq (W_reg ?_)
 refine qg 3 [(6,vS a0),(7,vI a1)] H fun fr H=>?_
 obtain ⟨x1,hx1,hr⟩:=obind hr
 refine qv (.index 9 (vS a0) (vI a1)) H (run_idxS (by kernel_rfl) hx1) fun fr H=>?_
 refine qb hr (fun x h s=>F139_R  _ x h) H fun x2 hr fr H=>?_
 refine qg 1 [(10,vB x2)] H fun fr H=>?_
 rcases csplit hr with ⟨hc3,hr⟩ | ⟨hc3,hr⟩
 ·rw [hc3] at H
  refine qg 12 [(4,vB true)] H fun fr H=>?_
  refine qe ?_
  refine W_ret ?_
  obtain rfl:=Option.some.inj hr
  exact qr [vB true] H K
 rw [hc3] at H
 refine qg 2 [(11,.agg [vS a0]),(12,vI a1)] H fun fr H=>?_
 refine qb hr (fun x h s=>F141_R  _ _ x h) H fun x4 hr fr H=>?_
 refine qg 2 [(15,vB x4)] H fun fr H=>?_
 rcases csplit hr with ⟨hc5,hr⟩ | ⟨hc5,hr⟩
 ·rw [hc5] at H
  refine qg 7 [(4,vB true)] H fun fr H=>?_
  refine qe ?_
  refine W_ret ?_
  obtain rfl:=Option.some.inj hr
  exact qr [vB true] H K
 rw [hc5] at H
 refine qg 3 [(17,vS a0),(18,vI a1)] H fun fr H=>?_
 obtain ⟨x6,hx6,hr⟩:=obind hr
 refine qv (.index 9 (vS a0) (vI a1)) H (run_idxS (by kernel_rfl) hx6) fun fr H=>?_
 refine qg 3 [(4,vB (x6 == 95))] H fun fr H=>?_
 refine qe ?_
 refine W_ret ?_
 obtain rfl:=Option.some.inj hr
 exact qr [vB (x6 == 95)] H K
def F135 (n:Nat) (a0:ByteArray) (a1:Int) (a2:ByteArray):Option Int :=
 (iter (σ:=Int) (ρ:=Int) (fun s1=>bif decide (s1 < (a0.size:Int)) then
   ((F140 a2 s1).bind fun x3 =>
   bif x3 then
    (some (.inl (w64 (s1 + 1))))
   else
    (some (.inr s1)))
  else
   (some (.inr s1))) n a1).bind fun r5 =>
 some r5
theorem F135_R (n:Nat) (a0:ByteArray) (a1:Int) (a2:ByteArray) (r:Int) (hr:F135 n a0 a1 a2 = some r) {st:St}:R Tryz.prog AN 135 [.agg [vS a0],vI a1,.fn 140 [.agg [vS a2]] []] st (.ret (vI r)) st:=by
 unfold F135 at hr
 refine R_pureX [.agg [vS a0],vI a1,.fn 140 [.agg [vS a2]] []] [(0,.agg [vS a0]),(1,vI a1),(2,.fn 140 [.agg [vS a2]] [])] Tryz.func135 rfl (by kernel_rfl) rfl fun fr st H K=>?_
 refine W_seq (W_reg ?_)
 refine qg 2 [(3,.cptr ([vS a0]) 0)] H fun fr H=>?_
 refine qe ?_
 refine W_seq (W_block ?_)
 obtain ⟨r5,hr5,hr⟩:=obind hr
 refine W_iter hr5 (fun (s1:Int) fr st=>Rd fr [(1,vI s1),(2,.fn 140 [.agg [vS a2]] []),(3,.cptr ([vS a0]) 0)]∧HL st []) (fun (r5:Int) e fr st=>e = .exit 0∧Rd fr [(1,vI r5)]∧HL st []) ⟨H.tq,K.keep []⟩ ?_ ?_
 ·intro s1 fr st r hi hr
  obtain ⟨H,K⟩:=hi
  refine W_seq (W_seq ?_)
  refine W_reg ?_
  refine qg 6 [(12,vB (decide (s1 < (a0.size:Int))))] H fun fr H=>?_
  rcases csplit hr with ⟨hc2,hr⟩ | ⟨hc2,hr⟩
  rotate_left
  ·rw [hc2] at H
   refine qg 4 [(16,vB false)] H fun fr H=>?_
   refine qe ?_
   refine qF H rfl ?_
   refine W_exit ?_
   obtain rfl:=Option.some.inj hr
   exact ⟨by simp,⟨rfl,H.tq,K.keep []⟩⟩
  rw [hc2] at H
  refine qg 2 [(13,.fn 140 [.agg [vS a2]] []),(14,vI s1)] H fun fr H=>?_
  refine qb hr (fun x h s=>F140_R  _ _ x h) H fun x3 hr fr H=>?_
  refine qg 1 [(16,vB x3)] H fun fr H=>?_
  refine qe ?_
  rcases csplit hr with ⟨hc4,hr⟩ | ⟨hc4,hr⟩
  rotate_left
  ·refine qF H hc4 ?_
   refine W_exit ?_
   obtain rfl:=Option.some.inj hr
   exact ⟨by simp,⟨rfl,H.tq,K.keep []⟩⟩
  refine qT H hc4 ?_
  refine W_skip ?_
  refine W_block ?_
  refine W_reg ?_
  refine qg 3 [(1,vI (w64 (s1 + 1)))] H fun fr H=>?_
  refine qe ?_
  obtain rfl:=Option.some.inj hr
  exact ⟨rfl,⟨H.tq,K.keep []⟩⟩
 rintro e fr st ⟨rfl,H,K⟩
 refine W_seq (W_reg ?_)
 refine qg 2 [(6,vI r5)] H fun fr H=>?_
 refine qe ?_
 refine W_ret ?_
 obtain rfl:=Option.some.inj hr
 exact qr [vI r5] H K
def F135_1 (n:Nat) (a0:ByteArray) (a1:Int) (a2:ByteArray):Option Int :=
 (iter (σ:=Int) (ρ:=Int) (fun s1=>bif decide (s1 < (a0.size:Int)) then
   ((F141 a2 s1).bind fun x3 =>
   bif x3 then
    (some (.inl (w64 (s1 + 1))))
   else
    (some (.inr s1)))
  else
   (some (.inr s1))) n a1).bind fun r5 =>
 some r5
theorem F135_1_R (n:Nat) (a0:ByteArray) (a1:Int) (a2:ByteArray) (r:Int) (hr:F135_1 n a0 a1 a2 = some r) {st:St}:R Tryz.prog AN 135 [.agg [vS a0],vI a1,.fn 141 [.agg [vS a2]] []] st (.ret (vI r)) st:=by
 unfold F135_1 at hr
 refine R_pureX [.agg [vS a0],vI a1,.fn 141 [.agg [vS a2]] []] [(0,.agg [vS a0]),(1,vI a1),(2,.fn 141 [.agg [vS a2]] [])] Tryz.func135 rfl (by kernel_rfl) rfl fun fr st H K=>?_
 refine W_seq (W_reg ?_)
 refine qg 2 [(3,.cptr ([vS a0]) 0)] H fun fr H=>?_
 refine qe ?_
 refine W_seq (W_block ?_)
 obtain ⟨r5,hr5,hr⟩:=obind hr
 refine W_iter hr5 (fun (s1:Int) fr st=>Rd fr [(1,vI s1),(2,.fn 141 [.agg [vS a2]] []),(3,.cptr ([vS a0]) 0)]∧HL st []) (fun (r5:Int) e fr st=>e = .exit 0∧Rd fr [(1,vI r5)]∧HL st []) ⟨H.tq,K.keep []⟩ ?_ ?_
 ·intro s1 fr st r hi hr
  obtain ⟨H,K⟩:=hi
  refine W_seq (W_seq ?_)
  refine W_reg ?_
  refine qg 6 [(12,vB (decide (s1 < (a0.size:Int))))] H fun fr H=>?_
  rcases csplit hr with ⟨hc2,hr⟩ | ⟨hc2,hr⟩
  rotate_left
  ·rw [hc2] at H
   refine qg 4 [(16,vB false)] H fun fr H=>?_
   refine qe ?_
   refine qF H rfl ?_
   refine W_exit ?_
   obtain rfl:=Option.some.inj hr
   exact ⟨by simp,⟨rfl,H.tq,K.keep []⟩⟩
  rw [hc2] at H
  refine qg 2 [(13,.fn 141 [.agg [vS a2]] []),(14,vI s1)] H fun fr H=>?_
  refine qb hr (fun x h s=>F141_R  _ _ x h) H fun x3 hr fr H=>?_
  refine qg 1 [(16,vB x3)] H fun fr H=>?_
  refine qe ?_
  rcases csplit hr with ⟨hc4,hr⟩ | ⟨hc4,hr⟩
  rotate_left
  ·refine qF H hc4 ?_
   refine W_exit ?_
   obtain rfl:=Option.some.inj hr
   exact ⟨by simp,⟨rfl,H.tq,K.keep []⟩⟩
  refine qT H hc4 ?_
  refine W_skip ?_
  refine W_block ?_
  refine W_reg ?_
  refine qg 3 [(1,vI (w64 (s1 + 1)))] H fun fr H=>?_
  refine qe ?_
  obtain rfl:=Option.some.inj hr
  exact ⟨rfl,⟨H.tq,K.keep []⟩⟩
 rintro e fr st ⟨rfl,H,K⟩
 refine W_seq (W_reg ?_)
 refine qg 2 [(6,vI r5)] H fun fr H=>?_
 refine qe ?_
 refine W_ret ?_
 obtain rfl:=Option.some.inj hr
 exact qr [vI r5] H K
def F142 (n:Nat) (a0:ByteArray) (a1:Int):Option ByteArray :=
 (iter (σ:=Int) (ρ:=ByteArray ⊕ Unit) (fun s1=>bif decide (s1 < 27) then
   ((idxL symTab s1).bind fun x3 =>
   bif decide ((w64 ((a0.size:Int) - a1)) < (x3.size:Int)) then
    (some (.inl (w64 (s1 + 1))))
   else
    ((iter (σ:=Int) (ρ:=Unit ⊕ Unit) (fun s5=>bif decide (s5 < (x3.size:Int)) then
      ((idxS a0 (w64 (a1 + s5))).bind fun x7 =>
      (idxS x3 s5).bind fun x8 =>
      bif x7 != x8 then
       (some (.inr (.inl ())))
      else
       (some (.inl (w64 (s5 + 1)))))
     else
      (some (.inr (.inr ())))) n (0:Int)).bind fun r10=>match r10 with
    | .inl _=>some (.inl (w64 (s1 + 1)))
    | .inr _=>some (.inr (.inl x3))))
  else
   (some (.inr (.inr ())))) n (0:Int)).bind fun r11=>match r11 with
 | .inl r11a=>some r11a
 | .inr _=>some (bs [])
theorem F142_R (n:Nat) (a0:ByteArray) (a1:Int) (r:ByteArray) (hr:F142 n a0 a1 = some r) {st:St}:R Tryz.prog AN 142 [.agg [vS a0],vI a1] st (.ret (vS r)) st:=by
 unfold F142 at hr
 refine R_pureX [.agg [vS a0],vI a1] [(0,.agg [vS a0]),(1,vI a1)] Tryz.func142 rfl (by kernel_rfl) rfl fun fr st H K=>?_
 refine W_seq (W_reg ?_)
 refine qg 2 [(2,.cptr ([vS a0]) 0)] H fun fr H=>?_
 refine qe ?_
 refine W_scope ?_
 refine W_seq ?_
 refine W_label ?_
 refine W_seq (W_seq ?_)
 refine W_reg ?_
 refine qg 2 [(8,.agg symCells),(9,vI 0)] H fun fr H=>?_
 refine qe ?_
 refine W_block ?_
 obtain ⟨r11,hr11,hr⟩:=obind hr
 refine W_iter hr11 (fun (s1:Int) fr st=>Rd fr [(1,vI a1),(2,.cptr ([vS a0]) 0),(8,.agg symCells),(9,vI s1)]∧HL st []) (fun (r11:ByteArray ⊕ Unit) e fr st=>match r11 with | .inl r11a=>(e = .ret∧Rd fr [(4,vS r11a)]∧HL st []) | .inr r11b=>(e = .exit 0∧Rd fr []∧HL st [])) ⟨H.tq,K.keep []⟩ ?_ ?_
 ·intro s1 fr st r hi hr
  obtain ⟨H,K⟩:=hi
  refine W_seq (W_reg ?_)
  refine qg 1 [(10,vB (decide (s1 < 27)))] H fun fr H=>?_
  refine qe ?_
  refine W_seq ?_
  rcases csplit hr with ⟨hc2,hr⟩ | ⟨hc2,hr⟩
  rotate_left
  ·refine qF H hc2 ?_
   refine W_exit ?_
   obtain rfl:=Option.some.inj hr
   exact ⟨by simp,⟨rfl,H.tq,K.keep []⟩⟩
  refine qT H hc2 ?_
  refine W_skip ?_
  refine W_seq (W_block ?_)
  refine W_seq (W_reg ?_)
  obtain ⟨x3,hx3,hr⟩:=obind hr
  refine qv (.index 164 (.agg symCells) (vI s1)) H (run_sym hx3) fun fr H=>?_
  refine qg 1 [(6,vS x3)] H fun fr H=>?_
  refine qe ?_
  refine W_seq (W_seq ?_)
  refine W_reg ?_
  refine qg 8 [(19,vB (decide ((w64 ((a0.size:Int) - a1)) < (x3.size:Int))))] H fun fr H=>?_
  refine qe ?_
  rcases csplit hr with ⟨hc4,hr⟩ | ⟨hc4,hr⟩
  ·refine qT H hc4 ?_
   refine W_exit ?_
   refine W_reg ?_
   refine qg 2 [(9,vI (w64 (s1 + 1)))] H fun fr H=>?_
   refine qe ?_
   obtain rfl:=Option.some.inj hr
   exact ⟨rfl,⟨H.tq,K.keep []⟩⟩
  refine qF H hc4 ?_
  refine W_skip ?_
  refine W_seq (W_seq ?_)
  refine W_reg ?_
  refine qg 3 [(21,vI (x3.size:Int)),(22,vI 0)] H fun fr H=>?_
  refine qe ?_
  refine W_block ?_
  obtain ⟨r10,hr10,hr⟩:=obind hr
  refine W_iter hr10 (fun (s5:Int) fr st=>Rd fr [(1,vI a1),(2,.cptr ([vS a0]) 0),(6,vS x3),(8,.agg symCells),(9,vI s1),(21,vI (x3.size:Int)),(22,vI s5)]∧HL st []) (fun (r10:Unit ⊕ Unit) e fr st=>match r10 with | .inl r10a=>(e = .exit 1∧Rd fr [(1,vI a1),(2,.cptr ([vS a0]) 0),(8,.agg symCells),(9,vI s1)]∧HL st []) | .inr r10b=>(e = .exit 2∧Rd fr [(6,vS x3)]∧HL st [])) ⟨H.tq,K.keep []⟩ ?_ ?_
  ·intro s5 fr st r hi hr
   obtain ⟨H,K⟩:=hi
   refine W_seq (W_reg ?_)
   refine qg 1 [(23,vB (decide (s5 < (x3.size:Int))))] H fun fr H=>?_
   refine qe ?_
   refine W_seq ?_
   rcases csplit hr with ⟨hc6,hr⟩ | ⟨hc6,hr⟩
   rotate_left
   ·refine qF H hc6 ?_
    refine W_exit ?_
    obtain rfl:=Option.some.inj hr
    exact ⟨by simp,⟨rfl,H.tq,K.keep []⟩⟩
   refine qT H hc6 ?_
   refine W_skip ?_
   refine W_seq (W_block ?_)
   refine W_seq (W_reg ?_)
   refine qg 2 [(7,vI s5)] H fun fr H=>?_
   refine qe ?_
   refine W_seq (W_drw ?_)
   refine qg 5 [(26,vS a0),(29,vI (w64 (a1 + s5)))] H fun fr H=>?_
   obtain ⟨x7,hx7,hr⟩:=obind hr
   refine qv (.index 9 (vS a0) (vI (w64 (a1 + s5)))) H (run_idxS (by kernel_rfl) hx7) fun fr H=>?_
   refine qg 2 [(31,vS x3),(32,vI s5)] H fun fr H=>?_
   obtain ⟨x8,hx8,hr⟩:=obind hr
   refine qv (.index 9 (vS x3) (vI s5)) H (run_idxS (by kernel_rfl) hx8) fun fr H=>?_
   refine qg 1 [(34,vB (x7 != x8))] H fun fr H=>?_
   refine qe (qd ?_)
   rcases csplit hr with ⟨hc9,hr⟩ | ⟨hc9,hr⟩
   ·refine qT H hc9 ?_
    refine W_exit ?_
    obtain rfl:=Option.some.inj hr
    exact ⟨by simp,⟨rfl,H.tq,K.keep []⟩⟩
   refine qF H hc9 ?_
   refine W_skip ?_
   refine W_reg ?_
   refine qg 2 [(22,vI (w64 (s5 + 1)))] H fun fr H=>?_
   refine qe ?_
   obtain rfl:=Option.some.inj hr
   exact ⟨rfl,⟨H.tq,K.keep []⟩⟩
  rcases r10 with r10a | r10b
  ·rintro e fr st ⟨rfl,H,K⟩
   refine W_reg ?_
   refine qg 2 [(9,vI (w64 (s1 + 1)))] H fun fr H=>?_
   refine qe ?_
   obtain rfl:=Option.some.inj hr
   exact ⟨rfl,⟨H.tq,K.keep []⟩⟩
  rintro e fr st ⟨rfl,H,K⟩
  refine W_seq (W_reg ?_)
  refine qg 2 [(4,vS x3)] H fun fr H=>?_
  refine qe ?_
  refine W_ret ?_
  obtain rfl:=Option.some.inj hr
  exact ⟨by simp,⟨rfl,H.tq,K.keep []⟩⟩
 rcases r11 with r11a | r11b
 ·rintro e fr st ⟨rfl,H,K⟩
  obtain rfl:=Option.some.inj hr
  exact qr [vS r11a] H K
 rintro e fr st ⟨rfl,H,K⟩
 refine W_seq (W_reg ?_)
 refine qg 1 [(4,vS (bs []))] H fun fr H=>?_
 refine qe ?_
 refine W_ret ?_
 obtain rfl:=Option.some.inj hr
 exact qr [vS (bs [])] H K
def F87 (n:Nat) (a0:ByteArray) (a1:Int):Option (Int × Int) :=
 (idxS a0 a1).bind fun x1 =>
 (F139 x1).bind fun x2 =>
 bif x2 then
  ((F135 n a0 a1 a0).bind fun x4 =>
  bif decide (16 < (w64 (x4 - a1))) then
   (some ((0:Int),a1))
  else
   (some ((1:Int),x4)))
 else
  ((F141 a0 a1).bind fun x6 =>
  bif x6 then
   ((F135_1 n a0 a1 a0).bind fun x8 =>
   (bif decide (9 < (w64 (x8 - a1))) then
     (some (decide (9 < (w64 (x8 - a1)))))
    else
     ((idxS a0 a1).bind fun x10 =>
     some ((x10 == 48) && (decide (1 < (w64 (x8 - a1)))))):Option (Bool)).bind fun j11 =>
   bif j11 then
    (some ((0:Int),a1))
   else
    (bif decide (x8 < (a0.size:Int)) then
     ((F140 a0 x8).bind fun x14 =>
     bif x14 then
      (some ((0:Int),a1))
     else
      (some ((2:Int),x8)))
    else
     (some ((2:Int),x8))))
  else
   ((F142 n a0 a1).bind fun x16 =>
   bif !(strEq x16 (bs [])) then
    (some ((3:Int),w64 (a1 + (x16.size:Int))))
   else
    (some ((0:Int),a1))))
theorem F87_R (n:Nat) (a0:ByteArray) (a1:Int) (r:Int × Int) (hr:F87 n a0 a1 = some r) {st:St}:R Tryz.prog AN 87 [.agg [vS a0],vI a1] st (.ret (.tuple [vI r.1,vI r.2])) st:=by
 unfold F87 at hr
 refine R_pureX [.agg [vS a0],vI a1] [(0,.agg [vS a0]),(1,vI a1)] Tryz.func87 rfl (by kernel_rfl) rfl fun fr st H K=>?_
 refine W_seq (W_reg ?_)
 refine qg 3 [(2,.cptr ([vS a0]) 0)] H fun fr H=>?_
 refine qe ?_
 refine W_seq (W_block ?_)
 refine W_seq (W_reg ?_)
 refine qg 3 [(11,vS a0),(12,vI a1)] H fun fr H=>?_
 obtain ⟨x1,hx1,hr⟩:=obind hr
 refine qv (.index 9 (vS a0) (vI a1)) H (run_idxS (by kernel_rfl) hx1) fun fr H=>?_
 refine qb hr (fun x h s=>F139_R  _ x h) H fun x2 hr fr H=>?_
 refine qg 1 [(9,vB x2)] H fun fr H=>?_
 refine qe ?_
 rcases csplit hr with ⟨hc3,hr⟩ | ⟨hc3,hr⟩
 ·refine qT H hc3 ?_
  refine W_seq (W_reg ?_)
  refine qg 4 [(15,.agg [vS a0]),(16,vI a1),(18,.fn 140 [.agg [vS a0]] [])] H fun fr H=>?_
  refine qb hr (fun x h s=>F135_R n _ _ _ x h) H fun x4 hr fr H=>?_
  refine qg 1 [(6,vI x4)] H fun fr H=>?_
  refine qe ?_
  refine W_seq (W_seq ?_)
  refine W_reg ?_
  refine qg 4 [(23,vB (decide (16 < (w64 (x4 - a1)))))] H fun fr H=>?_
  refine qe ?_
  rcases csplit hr with ⟨hc5,hr⟩ | ⟨hc5,hr⟩
  ·refine qT H hc5 ?_
   refine W_seq (W_reg ?_)
   refine qg 3 [(4,vI 0),(5,vI a1)] H fun fr H=>?_
   refine qe ?_
   refine W_ret ?_
   obtain rfl:=Option.some.inj hr
   exact e_ret [vI 0,vI a1] H K (fun _=>resT (by kernel_rfl) (resT (by kernel_rfl) resN)) (fun _=>by kernel_rfl)
  refine qF H hc5 ?_
  refine W_skip ?_
  refine W_seq (W_reg ?_)
  refine qg 3 [(4,vI 1),(5,vI x4)] H fun fr H=>?_
  refine qe ?_
  refine W_ret ?_
  obtain rfl:=Option.some.inj hr
  exact e_ret [vI 1,vI x4] H K (fun _=>resT (by kernel_rfl) (resT (by kernel_rfl) resN)) (fun _=>by kernel_rfl)
 refine qF H hc3 ?_
 refine W_seq (W_reg ?_)
 refine qg 2 [(27,.agg [vS a0]),(28,vI a1)] H fun fr H=>?_
 refine qb hr (fun x h s=>F141_R  _ _ x h) H fun x6 hr fr H=>?_
 refine qg 1 [(26,vB x6)] H fun fr H=>?_
 refine qe ?_
 rcases csplit hr with ⟨hc7,hr⟩ | ⟨hc7,hr⟩
 rotate_left
 ·refine qF H hc7 ?_
  refine W_skip ?_
  refine W_seq (W_seq ?_)
  refine W_reg ?_
  refine qg 2 [(65,.agg [vS a0]),(66,vI a1)] H fun fr H=>?_
  refine qb hr (fun x h s=>F142_R n _ _ x h) H fun x16 hr fr H=>?_
  refine qg 1 [(8,vS x16)] H fun fr H=>?_
  refine qe ?_
  refine W_seq (W_reg ?_)
  refine qg 2 [(69,vB (!(strEq x16 (bs []))))] H fun fr H=>?_
  refine qe ?_
  rcases csplit hr with ⟨hc17,hr⟩ | ⟨hc17,hr⟩
  ·refine qT H hc17 ?_
   refine W_seq (W_reg ?_)
   refine qg 6 [(4,vI 3),(5,vI (w64 (a1 + (x16.size:Int))))] H fun fr H=>?_
   refine qe ?_
   refine W_ret ?_
   obtain rfl:=Option.some.inj hr
   exact e_ret [vI 3,vI (w64 (a1 + (x16.size:Int)))] H K (fun _=>resT (by kernel_rfl) (resT (by kernel_rfl) resN)) (fun _=>by kernel_rfl)
  refine qF H hc17 ?_
  refine W_skip ?_
  refine W_seq (W_reg ?_)
  refine qg 3 [(4,vI 0),(5,vI a1)] H fun fr H=>?_
  refine qe ?_
  refine W_ret ?_
  obtain rfl:=Option.some.inj hr
  exact e_ret [vI 0,vI a1] H K (fun _=>resT (by kernel_rfl) (resT (by kernel_rfl) resN)) (fun _=>by kernel_rfl)
 refine qT H hc7 ?_
 refine W_seq (W_reg ?_)
 refine qg 4 [(30,.agg [vS a0]),(31,vI a1),(33,.fn 141 [.agg [vS a0]] [])] H fun fr H=>?_
 refine qb hr (fun x h s=>F135_1_R n _ _ _ x h) H fun x8 hr fr H=>?_
 refine qg 1 [(7,vI x8)] H fun fr H=>?_
 refine qe ?_
 refine W_seq (W_block ?_)
 refine W_seq ?_
 obtain ⟨j11,hj11,hr⟩:=obind hr
 refine W_via (fun e fr st=>e = .normal∧Rd fr [(1,vI a1),(2,.cptr ([vS a0]) 0),(7,vI x8),(35,vB j11)]∧HL st []) ?_ ?_
 ·replace hr:=hj11
  refine W_seq (W_reg ?_)
  refine qg 5 [(35,vB (decide (9 < (w64 (x8 - a1)))))] H fun fr H=>?_
  refine qe ?_
  rcases csplit hr with ⟨hc9,hr⟩ | ⟨hc9,hr⟩
  ·refine qT H hc9 ?_
   refine W_skip ?_
   obtain rfl:=Option.some.inj hr
   exact ⟨rfl,H.tq,K.keep []⟩
  refine qF H hc9 ?_
  refine W_reg ?_
  refine qg 3 [(41,vS a0),(42,vI a1)] H fun fr H=>?_
  obtain ⟨x10,hx10,hr⟩:=obind hr
  refine qv (.index 9 (vS a0) (vI a1)) H (run_idxS (by kernel_rfl) hx10) fun fr H=>?_
  refine qg 2 [(45,vB (x10 == 48))] H fun fr H=>?_
  refine qg 5 [(50,vB ((x10 == 48) && (decide (1 < (w64 (x8 - a1))))))] H (hs:=by intro _ _; generalize (x10 == 48) = b0; cases b0 <;> kernel_rfl) fun fr H=>?_
  refine qg 1 [(35,vB ((x10 == 48) && (decide (1 < (w64 (x8 - a1))))))] H fun fr H=>?_
  refine qe ?_
  obtain rfl:=Option.some.inj hr
  exact ⟨rfl,H.tq,K.keep []⟩
 rintro e fr st ⟨rfl,H,K⟩
 rcases csplit hr with ⟨hc12,hr⟩ | ⟨hc12,hr⟩
 ·refine qT H hc12 ?_
  refine W_seq (W_reg ?_)
  refine qg 3 [(4,vI 0),(5,vI a1)] H fun fr H=>?_
  refine qe ?_
  refine W_ret ?_
  obtain rfl:=Option.some.inj hr
  exact e_ret [vI 0,vI a1] H K (fun _=>resT (by kernel_rfl) (resT (by kernel_rfl) resN)) (fun _=>by kernel_rfl)
 refine qF H hc12 ?_
 refine W_seq (W_reg ?_)
 refine qg 6 [(58,vB (decide (x8 < (a0.size:Int))))] H fun fr H=>?_
 rcases csplit hr with ⟨hc13,hr⟩ | ⟨hc13,hr⟩
 rotate_left
 ·rw [hc13] at H
  refine qg 5 [(52,vB false)] H fun fr H=>?_
  refine qe ?_
  refine qF H rfl ?_
  refine W_skip ?_
  refine W_seq (W_reg ?_)
  refine qg 3 [(4,vI 2),(5,vI x8)] H fun fr H=>?_
  refine qe ?_
  refine W_ret ?_
  obtain rfl:=Option.some.inj hr
  exact e_ret [vI 2,vI x8] H K (fun _=>resT (by kernel_rfl) (resT (by kernel_rfl) resN)) (fun _=>by kernel_rfl)
 rw [hc13] at H
 refine qg 2 [(59,.agg [vS a0]),(60,vI x8)] H fun fr H=>?_
 refine qb hr (fun x h s=>F140_R  _ _ x h) H fun x14 hr fr H=>?_
 refine qg 2 [(52,vB x14)] H fun fr H=>?_
 refine qe ?_
 rcases csplit hr with ⟨hc15,hr⟩ | ⟨hc15,hr⟩
 ·refine qT H hc15 ?_
  refine W_seq (W_reg ?_)
  refine qg 3 [(4,vI 0),(5,vI a1)] H fun fr H=>?_
  refine qe ?_
  refine W_ret ?_
  obtain rfl:=Option.some.inj hr
  exact e_ret [vI 0,vI a1] H K (fun _=>resT (by kernel_rfl) (resT (by kernel_rfl) resN)) (fun _=>by kernel_rfl)
 refine qF H hc15 ?_
 refine W_skip ?_
 refine W_seq (W_reg ?_)
 refine qg 3 [(4,vI 2),(5,vI x8)] H fun fr H=>?_
 refine qe ?_
 refine W_ret ?_
 obtain rfl:=Option.some.inj hr
 exact e_ret [vI 2,vI x8] H K (fun _=>resT (by kernel_rfl) (resT (by kernel_rfl) resN)) (fun _=>by kernel_rfl)
def F55 (n:Nat) (a0:ByteArray):Option ((List Token) × Int × Int) :=
 bif decide (4000 < (a0.size:Int)) then
  (some (([]:List Token),(2:Int),(0:Int)))
 else
  ((iter (σ:=(List Token) × Int) (ρ:=((List Token) × Int × Int)) (fun s3=>(F86 n a0 s3.2).bind fun x4 =>
   bif x4 == (a0.size:Int) then
    (some (.inr (s3.1,(0:Int),(0:Int))))
   else
    (bif (s3.1.length:Int) == 1500 then
     (some (.inr (([]:List Token),(2:Int),x4)))
    else
     ((F87 n a0 x4).bind fun x7 =>
     bif x7.1 == 0 then
      (some (.inr (([]:List Token),(10:Int),x4)))
     else
      ((subS a0 x4 x7.2).bind fun x9 =>
      (appL 32 s3.1 ([(Token.mk x7.1 x9 x4)]:List Token)).bind fun x10 =>
      some (.inl (x10,x7.2)))))) n (([]:List Token),(0:Int))).bind fun r12 =>
  some (r12.1,r12.2.1,r12.2.2))
theorem F55_R (n:Nat) (a0:ByteArray) (r:(List Token) × Int × Int) (hr:F55 n a0 = some r) {st:St}:R Tryz.prog AN 55 [vS a0] st (.ret (.tuple [vL tToken r.1 .shut,vI r.2.1,vI r.2.2])) st:=by
 unfold F55 at hr
 refine R_pureX [vS a0] [(0,vS a0)] Tryz.func55 rfl (by kernel_rfl) rfl fun fr st H K=>?_
 refine W_seq (W_reg ?_)
 refine qg 3 [] H fun fr H=>?_
 refine qe ?_
 refine W_seq (W_seq ?_)
 refine W_reg ?_
 refine qg 3 [(12,vB (decide (4000 < (a0.size:Int))))] H fun fr H=>?_
 refine qe ?_
 rcases csplit hr with ⟨hc1,hr⟩ | ⟨hc1,hr⟩
 ·refine qT H hc1 ?_
  refine W_seq (W_reg ?_)
  refine qg 3 [(2,vL tToken ([]:List Token) .nil),(3,vI 2),(4,vI 0)] H fun fr H=>?_
  refine qe ?_
  refine W_ret ?_
  obtain rfl:=Option.some.inj hr
  exact e_ret [vL tToken ([]:List Token) .nil,vI 2,vI 0] H K (fun _=>resT (by kernel_rfl) (resT (by kernel_rfl) (resT (by kernel_rfl) resN))) (fun _=>by simp only [strip,stripL,stripL_ET,Option.bind_some,Option.map_some,oneOf] <;> rfl)
 refine qF H hc1 ?_
 refine W_skip ?_
 refine W_seq (W_reg ?_)
 refine qg 2 [(14,.agg [vS a0])] H fun fr H=>?_
 refine qal 116 [vS (bs [])] H K fun id2 st K fr H=>?_
 refine qst 116 0 (.agg [vS a0]) [vS a0] 0 H K rfl fun st K fr H=>?_
 refine qe ?_
 refine W_seq (W_reg ?_)
 refine qg 1 [(6,vL tToken ([]:List Token) .nil)] H fun fr H=>?_
 refine qe ?_
 refine W_seq (W_reg ?_)
 refine qg 1 [(7,vI 0)] H fun fr H=>?_
 refine qe ?_
 refine W_block ?_
 obtain ⟨r12,hr12,hr⟩:=obind hr
 refine W_iter hr12 (fun (s3:(List Token) × Int) fr st=>∃ (s3sp0:Spare),Rd fr [(0,vS a0),(5,.ptr id2 0),(6,vL tToken s3.1 s3sp0),(7,vI s3.2)]∧HL st [.own s3sp0,.obj id2 (.cells 116 [vS a0])]) (fun (r12:((List Token) × Int × Int)) e fr st=>e = .ret∧∃ (r12sp0:Spare),Rd fr [(2,vL tToken r12.1 r12sp0),(3,vI r12.2.1),(4,vI r12.2.2)]∧HL st []) ⟨.nil,H.tq,((K.keep [true]).nilo)⟩ ?_ ?_
 ·intro s3 fr st r hi hr
  obtain ⟨s3sp0,H,K⟩:=hi
  refine W_block ?_
  refine W_seq (W_reg ?_)
  refine qld 116 0 (.agg [vS a0]) 1 H K rfl fun fr H=>?_
  refine qg 1 [(16,vI s3.2)] H fun fr H=>?_
  refine qb hr (fun x h s=>F86_R n _ _ x h) H fun x4 hr fr H=>?_
  refine qg 1 [(7,vI x4)] H fun fr H=>?_
  refine qe ?_
  refine W_seq (W_seq ?_)
  refine W_reg ?_
  refine qg 4 [(21,vB (x4 == (a0.size:Int)))] H fun fr H=>?_
  refine qe ?_
  rcases csplit hr with ⟨hc5,hr⟩ | ⟨hc5,hr⟩
  ·refine qT H hc5 ?_
   refine W_seq (W_reg ?_)
   refine qg 4 [(2,vL tToken s3.1 s3sp0),(3,vI 0),(4,vI 0)] H fun fr H=>?_
   refine qe ?_
   refine W_ret ?_
   obtain rfl:=Option.some.inj hr
   exact ⟨by simp,⟨rfl,s3sp0,H.tq,K.keep [false,false]⟩⟩
  refine qF H hc5 ?_
  refine W_skip ?_
  refine W_seq (W_seq ?_)
  refine W_reg ?_
  refine qg 1 [(23,vL tToken s3.1 s3sp0)] H fun fr H=>?_
  refine qln tToken 56 s3.1 s3sp0 H fun fr H=>?_
  refine qg 1 [(25,vB ((s3.1.length:Int) == 1500))] H fun fr H=>?_
  refine qe ?_
  rcases csplit hr with ⟨hc6,hr⟩ | ⟨hc6,hr⟩
  ·refine qT H hc6 ?_
   refine W_seq (W_reg ?_)
   refine qg 4 [(2,vL tToken ([]:List Token) .nil),(3,vI 2),(4,vI x4)] H fun fr H=>?_
   refine qe ?_
   refine W_ret ?_
   obtain rfl:=Option.some.inj hr
   exact ⟨by simp,⟨rfl,.nil,H.tq,K.keep [false,false]⟩⟩
  refine qF H hc6 ?_
  refine W_skip ?_
  refine W_seq (W_reg ?_)
  refine qld 116 0 (.agg [vS a0]) 1 H K rfl fun fr H=>?_
  refine qg 1 [(29,vI x4)] H fun fr H=>?_
  refine qb hr (fun x h s=>F87_R n _ _ x h) H fun x7 hr fr H=>?_
  refine qg 5 [(8,vI x7.1),(9,vI x7.2)] H fun fr H=>?_
  refine qe ?_
  refine W_seq (W_seq ?_)
  refine W_reg ?_
  refine qg 2 [(34,vB (x7.1 == 0))] H fun fr H=>?_
  refine qe ?_
  rcases csplit hr with ⟨hc8,hr⟩ | ⟨hc8,hr⟩
  ·refine qT H hc8 ?_
   refine W_seq (W_reg ?_)
   refine qg 4 [(2,vL tToken ([]:List Token) .nil),(3,vI 10),(4,vI x4)] H fun fr H=>?_
   refine qe ?_
   refine W_ret ?_
   obtain rfl:=Option.some.inj hr
   exact ⟨by simp,⟨rfl,.nil,H.tq,K.keep [false,false]⟩⟩
  refine qF H hc8 ?_
  refine W_skip ?_
  refine W_seq (W_reg ?_)
  refine qg 5 [(36,vL tToken s3.1 s3sp0),(37,vI x7.1),(38,vS a0),(39,vI x4),(40,vI x7.2)] H fun fr H=>?_
  obtain ⟨x9,hx9,hr⟩:=obind hr
  refine qv (.slice 9 (vS a0) (some (vI x4)) (some (vI x7.2))) H (run_subS (by kernel_rfl) hx9) fun fr H=>?_
  refine qg 2 [(43,.agg [vI x7.1,vS x9,vI x4])] H fun fr H=>?_
  refine qbs tToken 56 ([(Token.mk x7.1 x9 x4)]:List Token) H fun fr H=>?_
  refine qapp tToken 32 56 56 .full hr 0 H K rfl fun x10 hr sp11 st K fr H=>?_
  refine qg 1 [(6,vL tToken x10 sp11)] H fun fr H=>?_
  refine qe ?_
  refine W_reg ?_
  refine qg 2 [(7,vI x7.2)] H fun fr H=>?_
  refine qe ?_
  obtain rfl:=Option.some.inj hr
  exact ⟨rfl,⟨sp11,H.tq,K.keep [true,true]⟩⟩
 rintro e fr st ⟨rfl,r12sp0,H,K⟩
 obtain rfl:=Option.some.inj hr
 exact e_ret [vL tToken r12.1 r12sp0,vI r12.2.1,vI r12.2.2] H K (fun _=>resT (by kernel_rfl) (resT (by kernel_rfl) (resT (by kernel_rfl) resN))) (fun _=>by simp only [strip,stripL,stripL_ET,Option.bind_some,Option.map_some,oneOf] <;> rfl)
def F91 (s:RS):Option Int :=
 bif decide (s.next < (s.toks.length:Int)) then
  ((idxL s.toks s.next).bind fun x2 =>
  some x2.pos)
 else
  (some s.fin)
theorem F91_R (s:RS) (r:Int) (hr:F91 s = some r) {st:St} {rs:List Res} {i0:Nat} {p:Spare} (K:HL st (.rd i0 87 p (rdC s p) :: rs)):R Tryz.prog AN 91 [.ptr i0 0] st (.ret (vI r)) st:=by
 unfold F91 at hr
 refine R_lookX [(0,.ptr i0 0)] Tryz.func91 rfl rfl fun fr H=>?_
 refine W_seq (W_reg ?_)
 refine qg 1 [] H fun fr H=>?_
 refine qe ?_
 refine W_seq (W_seq ?_)
 refine W_drw ?_
 refine qg 3 [(5,.ptr i0 1)] H fun fr H=>?_
 refine qldR 3 1 (vI s.next) 0 H K rfl fun fr H=>?_
 refine qg 3 [(9,.ptr i0 0)] H fun fr H=>?_
 refine qldR 56 0 (vL tToken s.toks .shut) 0 H K rfl fun fr H=>?_
 refine qln tToken 56 s.toks .shut H fun fr H=>?_
 refine qg 1 [(12,vB (decide (s.next < (s.toks.length:Int))))] H fun fr H=>?_
 refine qe (qd ?_)
 rcases csplit hr with ⟨hc1,hr⟩ | ⟨hc1,hr⟩
 rotate_left
 ·refine qF H hc1 ?_
  refine W_skip ?_
  refine W_seq (W_reg ?_)
  refine qg 3 [(26,.ptr i0 2)] H fun fr H=>?_
  refine qldR 3 2 (vI s.fin) 0 H K rfl fun fr H=>?_
  refine qg 1 [(2,vI s.fin)] H fun fr H=>?_
  refine qe ?_
  refine W_ret ?_
  obtain rfl:=Option.some.inj hr
  exact e_retL [vI s.fin] H K (fun _=>resT (by kernel_rfl) resN)
 refine qT H hc1 ?_
 refine W_seq (W_drw ?_)
 refine qg 3 [(15,.ptr i0 0)] H fun fr H=>?_
 refine qldR 56 0 (vL tToken s.toks .shut) 0 H K rfl fun fr H=>?_
 refine qg 3 [(19,.ptr i0 1)] H fun fr H=>?_
 refine qldR 3 1 (vI s.next) 0 H K rfl fun fr H=>?_
 refine qix tToken 56 .shut hr H fun x2 hr hx2 fr H=>?_
 refine qg 3 [(2,vI x2.pos)] H fun fr H=>?_
 refine qe (qd ?_)
 refine W_ret ?_
 obtain rfl:=Option.some.inj hr
 exact e_retL [vI x2.pos] H K (fun _=>resT (by kernel_rfl) resN)
def F101 (s:RS):Option ByteArray :=
 bif decide (s.next < (s.toks.length:Int)) then
  ((idxL s.toks s.next).bind fun x2 =>
  some x2.text)
 else
  (some (bs []))
theorem F101_R (s:RS) (r:ByteArray) (hr:F101 s = some r) {st:St} {rs:List Res} {i0:Nat} {p:Spare} (K:HL st (.rd i0 87 p (rdC s p) :: rs)):R Tryz.prog AN 101 [.ptr i0 0] st (.ret (vS r)) st:=by
 unfold F101 at hr
 refine R_lookX [(0,.ptr i0 0)] Tryz.func101 rfl rfl fun fr H=>?_
 refine W_seq (W_reg ?_)
 refine qg 1 [] H fun fr H=>?_
 refine qe ?_
 refine W_seq (W_seq ?_)
 refine W_drw ?_
 refine qg 3 [(5,.ptr i0 1)] H fun fr H=>?_
 refine qldR 3 1 (vI s.next) 0 H K rfl fun fr H=>?_
 refine qg 3 [(9,.ptr i0 0)] H fun fr H=>?_
 refine qldR 56 0 (vL tToken s.toks .shut) 0 H K rfl fun fr H=>?_
 refine qln tToken 56 s.toks .shut H fun fr H=>?_
 refine qg 1 [(12,vB (decide (s.next < (s.toks.length:Int))))] H fun fr H=>?_
 refine qe (qd ?_)
 rcases csplit hr with ⟨hc1,hr⟩ | ⟨hc1,hr⟩
 rotate_left
 ·refine qF H hc1 ?_
  refine W_skip ?_
  refine W_seq (W_reg ?_)
  refine qg 1 [(2,vS (bs []))] H fun fr H=>?_
  refine qe ?_
  refine W_ret ?_
  obtain rfl:=Option.some.inj hr
  exact e_retL [vS (bs [])] H K (fun _=>resT (by kernel_rfl) resN)
 refine qT H hc1 ?_
 refine W_seq (W_drw ?_)
 refine qg 3 [(15,.ptr i0 0)] H fun fr H=>?_
 refine qldR 56 0 (vL tToken s.toks .shut) 0 H K rfl fun fr H=>?_
 refine qg 3 [(19,.ptr i0 1)] H fun fr H=>?_
 refine qldR 3 1 (vI s.next) 0 H K rfl fun fr H=>?_
 refine qix tToken 56 .shut hr H fun x2 hr hx2 fr H=>?_
 refine qg 3 [(2,vS x2.text)] H fun fr H=>?_
 refine qe (qd ?_)
 refine W_ret ?_
 obtain rfl:=Option.some.inj hr
 exact e_retL [vS x2.text] H K (fun _=>resT (by kernel_rfl) resN)
def F68 (s:RS):Option ((Unit ⊕ Bad) × RS) :=
 bif decide (s.next < (s.toks.length:Int)) then
  ((F91 s).bind fun x2 =>
  some (.inr ((20:Int),x2),s))
 else
  (some (.inr ((21:Int),s.fin),s))
theorem F68_R (s:RS) (r:Unit ⊕ Bad) (s2:RS) (hr:F68 s = some (r,s2)) {st:St} {rs:List Res} {i0:Nat} {p:Spare} (K:HL st (.rd i0 87 p (rdC s p) :: rs)):∃ (q:Spare) (st':St),R Tryz.prog AN 68 [.ptr i0 0] st (gotE encW (fun _=>.tuple []) r) st'∧HL st' (.rd i0 87 q (rdC s2 q) :: rs):=by
 unfold F68 at hr
 refine R_panX (ew:=encW) (enc:=fun v (q:Spare)=>.tuple []) (post:=fun s (q:Spare)=>.rd i0 87 q (rdC s q) :: rs) [(0,.ptr i0 0)] Tryz.func68 rfl rfl fun fr Q H hp hq=>?_
 refine W_seq (W_seq ?_)
 refine W_drw ?_
 refine qg 3 [(4,.ptr i0 1)] H fun fr H=>?_
 refine qldR 3 1 (vI s.next) 0 H K rfl fun fr H=>?_
 refine qg 3 [(8,.ptr i0 0)] H fun fr H=>?_
 refine qldR 56 0 (vL tToken s.toks .shut) 0 H K rfl fun fr H=>?_
 refine qln tToken 56 s.toks .shut H fun fr H=>?_
 refine qg 1 [(11,vB (decide (s.next < (s.toks.length:Int))))] H fun fr H=>?_
 refine qe (qd ?_)
 rcases csplit hr with ⟨hc1,hr⟩ | ⟨hc1,hr⟩
 ·refine qT H hc1 ?_
  refine W_reg ?_
  refine qg 1 [(12,.ptr i0 0)] H fun fr H=>?_
  refine ql hr (fun x h=>F91_R  _ x h K) H fun x2 hr fr H=>?_
  refine qg 2 [(15,.iface 95 (.agg [vI 20,vI x2]))] H fun fr H=>?_
  exact qpan H (hp _ _ (sj hr).symm p _ _ K)
 refine qF H hc1 ?_
 refine W_skip ?_
 refine W_reg ?_
 refine qg 3 [(18,.ptr i0 2)] H fun fr H=>?_
 refine qldR 3 2 (vI s.fin) 0 H K rfl fun fr H=>?_
 refine qg 2 [(21,.iface 95 (.agg [vI 21,vI s.fin]))] H fun fr H=>?_
 exact qpan H (hp _ _ (sj hr).symm p _ _ K)
def F88 (a0:ByteArray) (s:RS):Option ((Bool ⊕ Bad) × RS) :=
 pbind (bif decide (s.next < (s.toks.length:Int)) then
   ((F101 s).bind fun x2 =>
   some (.inl (strEq x2 a0),s))
  else
   (some (.inl false,s)):Option (((Bool) ⊕ Bad) × RS)) fun j3 j3s =>
 bif j3 then
  (some (.inl true,(j3s.setNext (w64 (j3s.next + 1)))))
 else
  (some (.inl false,j3s))
theorem F88_R (a0:ByteArray) (s:RS) (r:Bool ⊕ Bad) (s2:RS) (hr:F88 a0 s = some (r,s2)) {st:St} {rs:List Res} {i0:Nat} {p:Spare} (K:HL st (.rd i0 87 p (rdC s p) :: rs)):∃ (q:Spare) (st':St),R Tryz.prog AN 88 [.ptr i0 0,vS a0] st (gotE encW (fun v=>vB v) r) st'∧HL st' (.rd i0 87 q (rdC s2 q) :: rs):=by
 unfold F88 at hr
 refine R_panX (ew:=encW) (enc:=fun v (q:Spare)=>vB v) (post:=fun s (q:Spare)=>.rd i0 87 q (rdC s q) :: rs) [(0,.ptr i0 0),(1,vS a0)] Tryz.func88 rfl rfl fun fr Q H hp hq=>?_
 refine W_seq (W_reg ?_)
 refine qg 1 [] H fun fr H=>?_
 refine qe ?_
 refine W_seq (W_seq ?_)
 refine W_viaP (fun j3 j3s e fr st=>e = .normal∧∃ (j3q:Spare),Rd fr [(0,.ptr i0 0),(20,vB j3)]∧HL st (.rd i0 87 j3q (rdC j3s j3q) :: rs)) hr hp ?_ ?_
 ·intro y Q hr hp hq
  refine W_drw ?_
  refine qg 3 [(7,.ptr i0 1)] H fun fr H=>?_
  refine qldR 3 1 (vI s.next) 0 H K rfl fun fr H=>?_
  refine qg 3 [(11,.ptr i0 0)] H fun fr H=>?_
  refine qldR 56 0 (vL tToken s.toks .shut) 0 H K rfl fun fr H=>?_
  refine qln tToken 56 s.toks .shut H fun fr H=>?_
  refine qg 2 [(15,vB (decide (s.next < (s.toks.length:Int))))] H fun fr H=>?_
  rcases csplit hr with ⟨hc1,hr⟩ | ⟨hc1,hr⟩
  rotate_left
  ·rw [hc1] at H
   refine qg 5 [(20,vB false)] H fun fr H=>?_
   refine qe (qd ?_)
   exact hq _ _ (sj hr).symm _ _ _ ⟨rfl,p,H.tq,K⟩
  rw [hc1] at H
  refine qg 1 [(16,.ptr i0 0)] H fun fr H=>?_
  refine ql hr (fun x h=>F101_R  _ x h K) H fun x2 hr fr H=>?_
  refine qg 3 [(20,vB (strEq x2 a0))] H fun fr H=>?_
  refine qe (qd ?_)
  exact hq _ _ (sj hr).symm _ _ _ ⟨rfl,p,H.tq,K⟩
 intro j3 j3s hr
 rintro e fr st ⟨rfl,j3q,H,K⟩
 rcases csplit hr with ⟨hc4,hr⟩ | ⟨hc4,hr⟩
 rotate_left
 ·refine qF H hc4 ?_
  refine W_skip ?_
  refine W_seq (W_reg ?_)
  refine qg 1 [(4,vB false)] H fun fr H=>?_
  refine qe ?_
  refine W_ret ?_
  exact hq _ _ (sj hr).symm j3q _ _ _ (e_retV [vB false] H K (fun _=>resT (by kernel_rfl) resN) K)
 refine qT H hc4 ?_
 refine W_seq (W_reg ?_)
 refine qg 3 [(21,.ptr i0 0),(23,.ptr i0 1)] H fun fr H=>?_
 refine qldR 3 1 (vI j3s.next) 0 H K rfl fun fr H=>?_
 refine qg 3 [(25,vI (w64 (j3s.next + 1))),(27,.ptr i0 1)] H fun fr H=>?_
 refine qstR 3 1 (vI (w64 (j3s.next + 1))) (rdC (j3s.setNext (w64 (j3s.next + 1))) j3q) 0 H K rfl fun st K fr H=>?_
 refine qe ?_
 refine W_seq (W_reg ?_)
 refine qg 1 [(4,vB true)] H fun fr H=>?_
 refine qe ?_
 refine W_ret ?_
 exact hq _ _ (sj hr).symm j3q _ _ _ (e_retV [vB true] H K (fun _=>resT (by kernel_rfl) resN) K)
def F93 (a0:ByteArray) (s:RS):Option ((Unit ⊕ Bad) × RS) :=
 pbind (F88 a0 s) fun x1 s3 =>
 bif !x1 then
  (pbind (F68 s3) fun _ s7 =>
  some (.inl (),s7))
 else
  (some (.inl (),s3))
theorem F93_R (a0:ByteArray) (s:RS) (r:Unit ⊕ Bad) (s2:RS) (hr:F93 a0 s = some (r,s2)) {st:St} {rs:List Res} {i0:Nat} {p:Spare} (K:HL st (.rd i0 87 p (rdC s p) :: rs)):∃ (q:Spare) (st':St),R Tryz.prog AN 93 [.ptr i0 0,vS a0] st (gotE encW (fun _=>.tuple []) r) st'∧HL st' (.rd i0 87 q (rdC s2 q) :: rs):=by
 unfold F93 at hr
 refine R_panX (ew:=encW) (enc:=fun v (q:Spare)=>.tuple []) (post:=fun s (q:Spare)=>.rd i0 87 q (rdC s q) :: rs) [(0,.ptr i0 0),(1,vS a0)] Tryz.func93 rfl rfl fun fr Q H hp hq=>?_
 refine W_seq (W_reg ?_)
 refine qg 2 [(4,.ptr i0 0),(5,vS a0)] H fun fr H=>?_
 refine qp [] [] hr (fun a s h=>F88_R  _ _ a s h K) K H (fun e s h q st K=>hp e s h q _ _ K) fun x1 s3 hr sp2 st K fr H=>?_
 refine qg 1 [(7,vB !x1)] H fun fr H=>?_
 refine qe ?_
 rcases csplit hr with ⟨hc4,hr⟩ | ⟨hc4,hr⟩
 rotate_left
 ·refine qF H hc4 ?_
  refine W_skip ?_
  exact hq _ _ (sj hr).symm sp2 _ _ _ (e_normalV [] H K (fun _=>resN) K)
 refine qT H hc4 ?_
 refine W_reg ?_
 refine qg 1 [(8,.ptr i0 0)] H fun fr H=>?_
 refine qp [] [] hr (fun a s h=>F68_R  _ a s h K) K H (fun e s h q st K=>hp e s h q _ _ K) fun x5 s7 hr sp6 st K fr H=>?_
 refine qe ?_
 exact hq _ _ (sj hr).symm sp6 _ _ _ (e_normalV [] H K (fun _=>resN) K)
end Go.Proofs.YtbecjgckobhmpaaGreatDoor
end
section
namespace Go.Proofs.YtbecjgckobhmpaaGreatDoor
open Go Go.AM Go.Proofs
set_option maxRecDepth 100000
set_option maxHeartbeats 4000000
def F168 (s:RS):Option Int :=
 bif decide (s.next < (s.toks.length:Int)) then
  ((idxL s.toks s.next).bind fun x2 =>
  some x2.kind)
 else
  (some (0:Int))
theorem F168_R (s:RS) (r:Int) (hr:F168 s = some r) {st:St} {rs:List Res} {i0:Nat} {p:Spare} (K:HL st (.rd i0 87 p (rdC s p) :: rs)):R Tryz.prog AN 168 [.ptr i0 0] st (.ret (vI r)) st:=by
 unfold F168 at hr
 refine R_lookX [(0,.ptr i0 0)] Tryz.func168 rfl rfl fun fr H=>?_
 refine W_seq (W_reg ?_)
 refine qg 1 [] H fun fr H=>?_
 refine qe ?_
 refine W_seq (W_seq ?_)
 refine W_drw ?_
 refine qg 3 [(5,.ptr i0 1)] H fun fr H=>?_
 refine qldR 3 1 (vI s.next) 0 H K rfl fun fr H=>?_
 refine qg 3 [(9,.ptr i0 0)] H fun fr H=>?_
 refine qldR 56 0 (vL tToken s.toks .shut) 0 H K rfl fun fr H=>?_
 refine qln tToken 56 s.toks .shut H fun fr H=>?_
 refine qg 1 [(12,vB (decide (s.next < (s.toks.length:Int))))] H fun fr H=>?_
 refine qe (qd ?_)
 rcases csplit hr with ⟨hc1,hr⟩ | ⟨hc1,hr⟩
 rotate_left
 ·refine qF H hc1 ?_
  refine W_skip ?_
  refine W_seq (W_reg ?_)
  refine qg 1 [(2,vI 0)] H fun fr H=>?_
  refine qe ?_
  refine W_ret ?_
  obtain rfl:=Option.some.inj hr
  exact e_retL [vI 0] H K (fun _=>resT (by kernel_rfl) resN)
 refine qT H hc1 ?_
 refine W_seq (W_drw ?_)
 refine qg 3 [(15,.ptr i0 0)] H fun fr H=>?_
 refine qldR 56 0 (vL tToken s.toks .shut) 0 H K rfl fun fr H=>?_
 refine qg 3 [(19,.ptr i0 1)] H fun fr H=>?_
 refine qldR 3 1 (vI s.next) 0 H K rfl fun fr H=>?_
 refine qix tToken 56 .shut hr H fun x2 hr hx2 fr H=>?_
 refine qg 3 [(2,vI x2.kind)] H fun fr H=>?_
 refine qe (qd ?_)
 refine W_ret ?_
 obtain rfl:=Option.some.inj hr
 exact e_retL [vI x2.kind] H K (fun _=>resT (by kernel_rfl) resN)
def F103 (s:RS):Option ((Int ⊕ Bad) × RS) :=
 pbind ((F168 s).bind fun x1 =>
  bif x1 != 2 then
   (pbind (F68 s) fun _ s5 =>
   some (.inl (),s5))
  else
   (some (.inl (),s)):Option (((Unit) ⊕ Bad) × RS)) fun _ j6s =>
 (F101 j6s).bind fun x7 =>
 (atoiF x7).bind fun x8 =>
 some (.inl x8,(j6s.setNext (w64 (j6s.next + 1))))
theorem F103_R (s:RS) (r:Int ⊕ Bad) (s2:RS) (hr:F103 s = some (r,s2)) {st:St} {rs:List Res} {i0:Nat} {p:Spare} (K:HL st (.rd i0 87 p (rdC s p) :: rs)):∃ (q:Spare) (st':St),R Tryz.prog AN 103 [.ptr i0 0] st (gotE encW (fun v=>vI v) r) st'∧HL st' (.rd i0 87 q (rdC s2 q) :: rs):=by
 unfold F103 at hr
 refine R_panX (ew:=encW) (enc:=fun v (q:Spare)=>vI v) (post:=fun s (q:Spare)=>.rd i0 87 q (rdC s q) :: rs) [(0,.ptr i0 0)] Tryz.func103 rfl rfl fun fr Q H hp hq=>?_
 refine W_seq (W_reg ?_)
 refine qg 1 [] H fun fr H=>?_
 refine qe ?_
 refine W_seq ?_
 refine W_viaP (fun j6 j6s e fr st=>e = .normal∧∃ (j6q:Spare),Rd fr [(0,.ptr i0 0)]∧HL st (.rd i0 87 j6q (rdC j6s j6q) :: rs)) hr hp ?_ ?_
 ·intro y Q hr hp hq
  refine W_seq (W_reg ?_)
  refine qg 1 [(5,.ptr i0 0)] H fun fr H=>?_
  refine ql hr (fun x h=>F168_R  _ x h K) H fun x1 hr fr H=>?_
  refine qg 1 [(7,vB (x1 != 2))] H fun fr H=>?_
  refine qe ?_
  rcases csplit hr with ⟨hc2,hr⟩ | ⟨hc2,hr⟩
  rotate_left
  ·refine qF H hc2 ?_
   refine W_skip ?_
   exact hq _ _ (sj hr).symm _ _ _ ⟨rfl,p,H.tq,K⟩
  refine qT H hc2 ?_
  refine W_reg ?_
  refine qg 1 [(8,.ptr i0 0)] H fun fr H=>?_
  refine qp [] [] hr (fun a s h=>F68_R  _ a s h K) K H (fun e s h q st K=>hp e s h q _ _ K) fun x3 s5 hr sp4 st K fr H=>?_
  refine qe ?_
  exact hq _ _ (sj hr).symm _ _ _ ⟨rfl,sp4,H.tq,K⟩
 intro j6 j6s hr
 rintro e fr st ⟨rfl,j6q,H,K⟩
 refine W_seq (W_reg ?_)
 refine qg 1 [(11,.ptr i0 0)] H fun fr H=>?_
 refine ql hr (fun x h=>F101_R  _ x h K) H fun x7 hr fr H=>?_
 refine qb hr (fun x h s=>atoi_R _ x h) H fun x8 hr fr H=>?_
 refine qg 5 [(3,vI x8),(4,.sc .nilIface)] H fun fr H=>?_
 refine qe ?_
 refine W_seq (W_seq ?_)
 refine W_reg ?_
 refine qg 2 [(17,vB false)] H fun fr H=>?_
 refine qe ?_
 refine qF H rfl ?_
 refine W_skip ?_
 refine W_seq (W_reg ?_)
 refine qg 3 [(20,.ptr i0 0),(22,.ptr i0 1)] H fun fr H=>?_
 refine qldR 3 1 (vI j6s.next) 0 H K rfl fun fr H=>?_
 refine qg 3 [(24,vI (w64 (j6s.next + 1))),(26,.ptr i0 1)] H fun fr H=>?_
 refine qstR 3 1 (vI (w64 (j6s.next + 1))) (rdC (j6s.setNext (w64 (j6s.next + 1))) j6q) 0 H K rfl fun st K fr H=>?_
 refine qe ?_
 refine W_seq (W_reg ?_)
 refine qg 2 [(2,vI x8)] H fun fr H=>?_
 refine qe ?_
 refine W_ret ?_
 exact hq _ _ (sj hr).symm j6q _ _ _ (e_retV [vI x8] H K (fun _=>resT (by kernel_rfl) resN) K)
def F153 (s:RS):Option ((Node ⊕ Bad) × RS) :=
 (F91 s).bind fun x2 =>
 pbind (F103 s) fun x3 s5 =>
 some (.inl (Node.mk 1 (bs []) (bs []) x3 0 0 false ([]:List Node) x2),s5)
theorem F153_R (s:RS) (r:Node ⊕ Bad) (s2:RS) (hr:F153 s = some (r,s2)) {st:St} {rs:List Res} {i0:Nat} {p:Spare} (K:HL st (.rd i0 87 p (rdC s p) :: rs)):∃ (q:Spare) (st':St),R Tryz.prog AN 153 [.ptr i0 0] st (gotE encW (fun v=>aN v) r) st'∧HL st' (.rd i0 87 q (rdC s2 q) :: rs):=by
 unfold F153 at hr
 refine R_panX (ew:=encW) (enc:=fun v (q:Spare)=>aN v) (post:=fun s (q:Spare)=>.rd i0 87 q (rdC s q) :: rs) [(0,.ptr i0 0)] Tryz.func153 rfl rfl fun fr Q H hp hq=>?_
 refine W_seq (W_reg ?_)
 refine qal 24 [vI 0,vS (bs []),vS (bs []),vI 0,vI 0,vI 0,vB false,vL tNode ([]:List Node) .nil,vI 0] H K fun id1 st K fr H=>?_
 refine qe ?_
 refine W_seq (W_reg ?_)
 refine qg 1 [(4,.ptr i0 0)] H fun fr H=>?_
 refine ql hr (fun x h=>F91_R  _ x h (K.front 1 rfl)) H fun x2 hr fr H=>?_
 refine qg 1 [(3,vI x2)] H fun fr H=>?_
 refine qe ?_
 refine W_seq (W_reg ?_)
 refine qg 1 [(6,.ptr i0 0)] H fun fr H=>?_
 refine qp [] [] hr (fun a s h=>F103_R  _ a s h (K.front 1 rfl)) K H (fun e s h q st K=>hp e s h q _ _ (K.keep [true,false])) fun x3 s5 hr sp4 st K fr H=>?_
 refine qg 2 [(9,.agg [vI 1,vS (bs []),vS (bs []),vI x3,vI 0,vI 0,vB false,vL tNode ([]:List Node) .nil,vI x2])] H fun fr H=>?_
 refine qst 24 0 (.agg [vI 1,vS (bs []),vS (bs []),vI x3,vI 0,vI 0,vB false,vL tNode ([]:List Node) .nil,vI x2]) [vI 1,vS (bs []),vS (bs []),vI x3,vI 0,vI 0,vB false,vL tNode ([]:List Node) .nil,vI x2] 1 H K rfl fun st K fr H=>?_
 refine qe ?_
 refine W_ret ?_
 exact hq _ _ (sj hr).symm sp4 _ _ _ (e_retV [.agg [vI 1,vS (bs []),vS (bs []),vI x3,vI 0,vI 0,vB false,vL tNode ([]:List Node) .shut,vI x2]] H K (fun _=>resC id1 0 24 [vI 1,vS (bs []),vS (bs []),vI x3,vI 0,vI 0,vB false,vL tNode ([]:List Node) .nil,vI x2] 1 (by kernel_rfl) rfl (by kernel_rfl) resN) ((K).keep [true,false]))
def F143 (s:RS):Option Bool :=
 (F168 s).bind fun x1 =>
 bif x1 == 1 then
  ((F101 s).bind fun x3 =>
  some (!(isKey x3)))
 else
  (some false)
theorem F143_R (s:RS) (r:Bool) (hr:F143 s = some r) {st:St} {rs:List Res} {i0:Nat} {p:Spare} (K:HL st (.rd i0 87 p (rdC s p) :: rs)):R Tryz.prog AN 143 [.ptr i0 0] st (.ret (vB r)) st:=by
 unfold F143 at hr
 refine R_lookX [(0,.ptr i0 0)] Tryz.func143 rfl rfl fun fr H=>?_
 refine W_seq (W_reg ?_)
 refine qg 1 [] H fun fr H=>?_
 refine qe ?_
 refine W_seq (W_drw ?_)
 refine qg 1 [(3,.ptr i0 0)] H fun fr H=>?_
 refine ql hr (fun x h=>F168_R  _ x h K) H fun x1 hr fr H=>?_
 refine qg 2 [(6,vB (x1 == 1))] H fun fr H=>?_
 rcases csplit hr with ⟨hc2,hr⟩ | ⟨hc2,hr⟩
 rotate_left
 ·rw [hc2] at H
  refine qg 10 [(2,vB false)] H fun fr H=>?_
  refine qe (qd ?_)
  refine W_ret ?_
  obtain rfl:=Option.some.inj hr
  exact e_retL [vB false] H K (fun _=>resT (by kernel_rfl) resN)
 rw [hc2] at H
 refine qg 3 [(9,.ptr i0 4)] H fun fr H=>?_
 refine qldR 85 4 keysV 0 H K rfl fun fr H=>?_
 refine qg 1 [(11,.ptr i0 0)] H fun fr H=>?_
 refine ql hr (fun x h=>F101_R  _ x h K) H fun x3 hr fr H=>?_
 refine qv (.lookup 85 keysV (vS x3)) H (run_key) fun fr H=>?_
 refine qg 3 [(2,vB (!(isKey x3)))] H fun fr H=>?_
 refine qe (qd ?_)
 refine W_ret ?_
 obtain rfl:=Option.some.inj hr
 exact e_retL [vB (!(isKey x3))] H K (fun _=>resT (by kernel_rfl) resN)
def F92 (s:RS):Option ((ByteArray ⊕ Bad) × RS) :=
 pbind ((F143 s).bind fun x1 =>
  bif !x1 then
   (pbind (F68 s) fun _ s5 =>
   some (.inl (),s5))
  else
   (some (.inl (),s)):Option (((Unit) ⊕ Bad) × RS)) fun _ j6s =>
 (idxL ((j6s.setNext (w64 (j6s.next + 1))).toks) (w64 (((j6s.setNext (w64 (j6s.next + 1))).next) - 1))).bind fun x7 =>
 some (.inl x7.text,(j6s.setNext (w64 (j6s.next + 1))))
theorem F92_R (s:RS) (r:ByteArray ⊕ Bad) (s2:RS) (hr:F92 s = some (r,s2)) {st:St} {rs:List Res} {i0:Nat} {p:Spare} (K:HL st (.rd i0 87 p (rdC s p) :: rs)):∃ (q:Spare) (st':St),R Tryz.prog AN 92 [.ptr i0 0] st (gotE encW (fun v=>vS v) r) st'∧HL st' (.rd i0 87 q (rdC s2 q) :: rs):=by
 unfold F92 at hr
 refine R_panX (ew:=encW) (enc:=fun v (q:Spare)=>vS v) (post:=fun s (q:Spare)=>.rd i0 87 q (rdC s q) :: rs) [(0,.ptr i0 0)] Tryz.func92 rfl rfl fun fr Q H hp hq=>?_
 refine W_seq (W_reg ?_)
 refine qg 1 [] H fun fr H=>?_
 refine qe ?_
 refine W_seq ?_
 refine W_viaP (fun j6 j6s e fr st=>e = .normal∧∃ (j6q:Spare),Rd fr [(0,.ptr i0 0)]∧HL st (.rd i0 87 j6q (rdC j6s j6q) :: rs)) hr hp ?_ ?_
 ·intro y Q hr hp hq
  refine W_seq (W_reg ?_)
  refine qg 1 [(3,.ptr i0 0)] H fun fr H=>?_
  refine ql hr (fun x h=>F143_R  _ x h K) H fun x1 hr fr H=>?_
  refine qg 1 [(5,vB !x1)] H fun fr H=>?_
  refine qe ?_
  rcases csplit hr with ⟨hc2,hr⟩ | ⟨hc2,hr⟩
  rotate_left
  ·refine qF H hc2 ?_
   refine W_skip ?_
   exact hq _ _ (sj hr).symm _ _ _ ⟨rfl,p,H.tq,K⟩
  refine qT H hc2 ?_
  refine W_reg ?_
  refine qg 1 [(6,.ptr i0 0)] H fun fr H=>?_
  refine qp [] [] hr (fun a s h=>F68_R  _ a s h K) K H (fun e s h q st K=>hp e s h q _ _ K) fun x3 s5 hr sp4 st K fr H=>?_
  refine qe ?_
  exact hq _ _ (sj hr).symm _ _ _ ⟨rfl,sp4,H.tq,K⟩
 intro j6 j6s hr
 rintro e fr st ⟨rfl,j6q,H,K⟩
 refine W_seq (W_reg ?_)
 refine qg 3 [(8,.ptr i0 0),(10,.ptr i0 1)] H fun fr H=>?_
 refine qldR 3 1 (vI j6s.next) 0 H K rfl fun fr H=>?_
 refine qg 3 [(12,vI (w64 (j6s.next + 1))),(14,.ptr i0 1)] H fun fr H=>?_
 refine qstR 3 1 (vI (w64 (j6s.next + 1))) (rdC (j6s.setNext (w64 (j6s.next + 1))) j6q) 0 H K rfl fun st K fr H=>?_
 refine qe ?_
 refine W_seq (W_drw ?_)
 refine qg 3 [(17,.ptr i0 0)] H fun fr H=>?_
 refine qldR 56 0 (vL tToken ((j6s.setNext (w64 (j6s.next + 1))).toks) .shut) 0 H K rfl fun fr H=>?_
 refine qg 3 [(21,.ptr i0 1)] H fun fr H=>?_
 refine qldR 3 1 (vI ((j6s.setNext (w64 (j6s.next + 1))).next)) 0 H K rfl fun fr H=>?_
 refine qg 1 [(23,vI (w64 (((j6s.setNext (w64 (j6s.next + 1))).next) - 1)))] H fun fr H=>?_
 refine qix tToken 56 .shut hr H fun x7 hr hx7 fr H=>?_
 refine qg 3 [(2,vS x7.text)] H fun fr H=>?_
 refine qe (qd ?_)
 refine W_ret ?_
 exact hq _ _ (sj hr).symm j6q _ _ _ (e_retV [vS x7.text] H K (fun _=>resT (by kernel_rfl) resN) K)
def F152 (n:Nat) (s:RS):Option ((ByteArray ⊕ Bad) × RS) :=
 pbind (F92 s) fun x1 s3 =>
 pbind (iterP (σ:=ByteArray × Int) (ρ:=ByteArray) (ε:=Bad) (S:=RS) (fun s4 s4s=>bif decide (s4.2 < 2) then
   (pbind (F88 (bs [46]) s4s) fun x6 s8 =>
   bif !x6 then
    (some (.inl (.inr s4.1),s8))
   else
    (pbind (F92 s8) fun x10 s12 =>
    (catS (bs [46]) x10).bind fun x13 =>
    (catS s4.1 x13).bind fun x14 =>
    some (.inl (.inl (x14,w64 (s4.2 + 1))),s12)))
  else
   (some (.inl (.inr s4.1),s4s))) n (x1,(0:Int)) s3) fun r15 r15s =>
 some (.inl r15,r15s)
theorem F152_R (n:Nat) (s:RS) (r:ByteArray ⊕ Bad) (s2:RS) (hr:F152 n s = some (r,s2)) {st:St} {rs:List Res} {i0:Nat} {p:Spare} (K:HL st (.rd i0 87 p (rdC s p) :: rs)):∃ (q:Spare) (st':St),R Tryz.prog AN 152 [.ptr i0 0] st (gotE encW (fun v=>vS v) r) st'∧HL st' (.rd i0 87 q (rdC s2 q) :: rs):=by
 unfold F152 at hr
 refine R_panX (ew:=encW) (enc:=fun v (q:Spare)=>vS v) (post:=fun s (q:Spare)=>.rd i0 87 q (rdC s q) :: rs) [(0,.ptr i0 0)] Tryz.func152 rfl rfl fun fr Q H hp hq=>?_
 refine W_seq (W_reg ?_)
 refine qg 1 [] H fun fr H=>?_
 refine qe ?_
 refine W_seq (W_reg ?_)
 refine qg 1 [(4,.ptr i0 0)] H fun fr H=>?_
 refine qp [] [] hr (fun a s h=>F92_R  _ a s h K) K H (fun e s h q st K=>hp e s h q _ _ K) fun x1 s3 hr sp2 st K fr H=>?_
 refine qg 1 [(3,vS x1)] H fun fr H=>?_
 refine qe ?_
 refine W_seq (W_seq ?_)
 refine W_reg ?_
 refine qg 1 [(6,vI 0)] H fun fr H=>?_
 refine qe ?_
 refine W_block ?_
 refine W_iterP hr hp (fun (s4:ByteArray × Int) s4s fr st=>∃ (s4q:Spare),Rd fr [(0,.ptr i0 0),(3,vS s4.1),(6,vI s4.2)]∧HL st (.rd i0 87 s4q (rdC s4s s4q) :: rs)) (fun (r15:ByteArray) r15s e fr st=>e = .exit 0∧∃ (r15q:Spare),Rd fr [(3,vS r15)]∧HL st (.rd i0 87 r15q (rdC r15s r15q) :: rs)) ⟨sp2,H.tq,K⟩ (by rintro _ s fr st ⟨h,_⟩ <;> cases h) ?_ ?_
 ·rintro s4 s4s fr st y Q ⟨s4q,H,K⟩ hr hp hq
  refine W_seq (W_reg ?_)
  refine qg 1 [(7,vB (decide (s4.2 < 2)))] H fun fr H=>?_
  refine qe ?_
  refine W_seq ?_
  rcases csplit hr with ⟨hc5,hr⟩ | ⟨hc5,hr⟩
  rotate_left
  ·refine qF H hc5 ?_
   refine W_exit ?_
   exact hq _ _ (sj hr).symm _ _ _ ⟨rfl,s4q,H.tq,K⟩
  refine qT H hc5 ?_
  refine W_skip ?_
  refine W_seq (W_block ?_)
  refine W_seq (W_seq ?_)
  refine W_reg ?_
  refine qg 1 [(8,.ptr i0 0)] H fun fr H=>?_
  refine qp [] [] hr (fun a s h=>F88_R  _ _ a s h K) K H (fun e s h q st K=>hp e s h q _ _ K) fun x6 s8 hr sp7 st K fr H=>?_
  refine qg 1 [(10,vB !x6)] H fun fr H=>?_
  refine qe ?_
  rcases csplit hr with ⟨hc9,hr⟩ | ⟨hc9,hr⟩
  ·refine qT H hc9 ?_
   refine W_exit ?_
   exact hq _ _ (sj hr).symm _ _ _ ⟨rfl,sp7,H.tq,K⟩
  refine qF H hc9 ?_
  refine W_skip ?_
  refine W_reg ?_
  refine qg 2 [(11,vS s4.1),(12,.ptr i0 0)] H fun fr H=>?_
  refine qp [] [] hr (fun a s h=>F92_R  _ a s h K) K H (fun e s h q st K=>hp e s h q _ _ K) fun x10 s12 hr sp11 st K fr H=>?_
  obtain ⟨x13,hx13,hr⟩:=obind hr
  refine qv (.bin .add 9 (.const (.string (bs [46]))) (.tmp 13) (vS (bs [46])) (vS x10)) H (run_cat hx13) fun fr H=>?_
  obtain ⟨x14,hx14,hr⟩:=obind hr
  refine qv (.bin .add 9 (.tmp 11) (.tmp 14) (vS s4.1) (vS x13)) H (run_cat hx14) fun fr H=>?_
  refine qg 1 [(3,vS x14)] H fun fr H=>?_
  refine qe ?_
  refine W_reg ?_
  refine qg 2 [(6,vI (w64 (s4.2 + 1)))] H fun fr H=>?_
  refine qe ?_
  exact hq _ _ (sj hr).symm _ _ _ ⟨rfl,sp11,H.tq,K⟩
 intro r15 r15s hr
 rintro e fr st ⟨rfl,r15q,H,K⟩
 refine W_seq (W_reg ?_)
 refine qg 2 [(2,vS r15)] H fun fr H=>?_
 refine qe ?_
 refine W_ret ?_
 exact hq _ _ (sj hr).symm r15q _ _ _ (e_retV [vS r15] H K (fun _=>resT (by kernel_rfl) resN) K)
def F156 (a0:ByteArray):Option Int :=
 bif strEq a0 (bs [61,61,62]) then
  (some (2:Int))
 else
  (bif strEq a0 (bs [124,124]) then
   (some (3:Int))
  else
   (bif strEq a0 (bs [38,38]) then
    (some (4:Int))
   else
    ((bif strEq a0 (bs [61,61]) then
      (some (strEq a0 (bs [61,61])))
     else
      (bif strEq a0 (bs [33,61]) then
       (some (strEq a0 (bs [33,61])))
      else
       (bif strEq a0 (bs [60]) then
        (some (strEq a0 (bs [60])))
       else
        (some (strEq a0 (bs [60,61]))))):Option (Bool)).bind fun j7 =>
    bif j7 then
     (some (5:Int))
    else
     (bif strEq a0 (bs [124]) then
      (some (6:Int))
     else
      (bif strEq a0 (bs [94]) then
       (some (7:Int))
      else
       (bif strEq a0 (bs [38]) then
        (some (8:Int))
       else
        ((bif strEq a0 (bs [43]) then
          (some (strEq a0 (bs [43])))
         else
          (some (strEq a0 (bs [45]))):Option (Bool)).bind fun j13 =>
        bif j13 then
         (some (9:Int))
        else
         (bif strEq a0 (bs [42]) then
          (some (10:Int))
         else
          (some (0:Int))))))))))
theorem F156_R (a0:ByteArray) (r:Int) (hr:F156 a0 = some r) {st:St}:R Tryz.prog AN 156 [vS a0] st (.ret (vI r)) st:=by
 unfold F156 at hr
 refine R_pureX [vS a0] [(0,vS a0)] Tryz.func156 rfl (by kernel_rfl) rfl fun fr st H K=>?_
 refine W_seq (W_reg ?_)
 refine qg 1 [] H fun fr H=>?_
 refine qe ?_
 refine W_seq (W_seq ?_)
 refine W_reg ?_
 refine qg 1 [(3,vS a0)] H fun fr H=>?_
 refine qe ?_
 refine W_block ?_
 refine W_seq (W_reg ?_)
 refine qg 2 [(4,vB (strEq a0 (bs [61,61,62])))] H fun fr H=>?_
 refine qe ?_
 rcases csplit hr with ⟨hc1,hr⟩ | ⟨hc1,hr⟩
 ·refine qT H hc1 ?_
  refine W_seq (W_reg ?_)
  refine qg 1 [(2,vI 2)] H fun fr H=>?_
  refine qe ?_
  refine W_ret ?_
  obtain rfl:=Option.some.inj hr
  exact qr [vI 2] H K
 refine qF H hc1 ?_
 refine W_seq (W_reg ?_)
 refine qg 2 [(6,vB (strEq a0 (bs [124,124])))] H fun fr H=>?_
 refine qe ?_
 rcases csplit hr with ⟨hc2,hr⟩ | ⟨hc2,hr⟩
 ·refine qT H hc2 ?_
  refine W_seq (W_reg ?_)
  refine qg 1 [(2,vI 3)] H fun fr H=>?_
  refine qe ?_
  refine W_ret ?_
  obtain rfl:=Option.some.inj hr
  exact qr [vI 3] H K
 refine qF H hc2 ?_
 refine W_seq (W_reg ?_)
 refine qg 2 [(8,vB (strEq a0 (bs [38,38])))] H fun fr H=>?_
 refine qe ?_
 rcases csplit hr with ⟨hc3,hr⟩ | ⟨hc3,hr⟩
 ·refine qT H hc3 ?_
  refine W_seq (W_reg ?_)
  refine qg 1 [(2,vI 4)] H fun fr H=>?_
  refine qe ?_
  refine W_ret ?_
  obtain rfl:=Option.some.inj hr
  exact qr [vI 4] H K
 refine qF H hc3 ?_
 refine W_seq ?_
 obtain ⟨j7,hj7,hr⟩:=obind hr
 refine W_via (fun e fr st=>e = .normal∧Rd fr [(3,vS a0),(10,vB j7)]∧HL st []) ?_ ?_
 ·replace hr:=hj7
  refine W_seq (W_reg ?_)
  refine qg 2 [(10,vB (strEq a0 (bs [61,61])))] H fun fr H=>?_
  refine qe ?_
  rcases csplit hr with ⟨hc4,hr⟩ | ⟨hc4,hr⟩
  ·refine qT H hc4 ?_
   refine W_skip ?_
   obtain rfl:=Option.some.inj hr
   exact ⟨rfl,H.tq,K.keep []⟩
  refine qF H hc4 ?_
  refine W_seq (W_reg ?_)
  refine qg 2 [(10,vB (strEq a0 (bs [33,61])))] H fun fr H=>?_
  refine qe ?_
  rcases csplit hr with ⟨hc5,hr⟩ | ⟨hc5,hr⟩
  ·refine qT H hc5 ?_
   refine W_skip ?_
   obtain rfl:=Option.some.inj hr
   exact ⟨rfl,H.tq,K.keep []⟩
  refine qF H hc5 ?_
  refine W_seq (W_reg ?_)
  refine qg 2 [(10,vB (strEq a0 (bs [60])))] H fun fr H=>?_
  refine qe ?_
  rcases csplit hr with ⟨hc6,hr⟩ | ⟨hc6,hr⟩
  ·refine qT H hc6 ?_
   refine W_skip ?_
   obtain rfl:=Option.some.inj hr
   exact ⟨rfl,H.tq,K.keep []⟩
  refine qF H hc6 ?_
  refine W_reg ?_
  refine qg 2 [(10,vB (strEq a0 (bs [60,61])))] H fun fr H=>?_
  refine qe ?_
  obtain rfl:=Option.some.inj hr
  exact ⟨rfl,H.tq,K.keep []⟩
 rintro e fr st ⟨rfl,H,K⟩
 rcases csplit hr with ⟨hc8,hr⟩ | ⟨hc8,hr⟩
 ·refine qT H hc8 ?_
  refine W_seq (W_reg ?_)
  refine qg 1 [(2,vI 5)] H fun fr H=>?_
  refine qe ?_
  refine W_ret ?_
  obtain rfl:=Option.some.inj hr
  exact qr [vI 5] H K
 refine qF H hc8 ?_
 refine W_seq (W_reg ?_)
 refine qg 2 [(15,vB (strEq a0 (bs [124])))] H fun fr H=>?_
 refine qe ?_
 rcases csplit hr with ⟨hc9,hr⟩ | ⟨hc9,hr⟩
 ·refine qT H hc9 ?_
  refine W_seq (W_reg ?_)
  refine qg 1 [(2,vI 6)] H fun fr H=>?_
  refine qe ?_
  refine W_ret ?_
  obtain rfl:=Option.some.inj hr
  exact qr [vI 6] H K
 refine qF H hc9 ?_
 refine W_seq (W_reg ?_)
 refine qg 2 [(17,vB (strEq a0 (bs [94])))] H fun fr H=>?_
 refine qe ?_
 rcases csplit hr with ⟨hc10,hr⟩ | ⟨hc10,hr⟩
 ·refine qT H hc10 ?_
  refine W_seq (W_reg ?_)
  refine qg 1 [(2,vI 7)] H fun fr H=>?_
  refine qe ?_
  refine W_ret ?_
  obtain rfl:=Option.some.inj hr
  exact qr [vI 7] H K
 refine qF H hc10 ?_
 refine W_seq (W_reg ?_)
 refine qg 2 [(19,vB (strEq a0 (bs [38])))] H fun fr H=>?_
 refine qe ?_
 rcases csplit hr with ⟨hc11,hr⟩ | ⟨hc11,hr⟩
 ·refine qT H hc11 ?_
  refine W_seq (W_reg ?_)
  refine qg 1 [(2,vI 8)] H fun fr H=>?_
  refine qe ?_
  refine W_ret ?_
  obtain rfl:=Option.some.inj hr
  exact qr [vI 8] H K
 refine qF H hc11 ?_
 refine W_seq ?_
 obtain ⟨j13,hj13,hr⟩:=obind hr
 refine W_via (fun e fr st=>e = .normal∧Rd fr [(3,vS a0),(21,vB j13)]∧HL st []) ?_ ?_
 ·replace hr:=hj13
  refine W_seq (W_reg ?_)
  refine qg 2 [(21,vB (strEq a0 (bs [43])))] H fun fr H=>?_
  refine qe ?_
  rcases csplit hr with ⟨hc12,hr⟩ | ⟨hc12,hr⟩
  ·refine qT H hc12 ?_
   refine W_skip ?_
   obtain rfl:=Option.some.inj hr
   exact ⟨rfl,H.tq,K.keep []⟩
  refine qF H hc12 ?_
  refine W_reg ?_
  refine qg 2 [(21,vB (strEq a0 (bs [45])))] H fun fr H=>?_
  refine qe ?_
  obtain rfl:=Option.some.inj hr
  exact ⟨rfl,H.tq,K.keep []⟩
 rintro e fr st ⟨rfl,H,K⟩
 rcases csplit hr with ⟨hc14,hr⟩ | ⟨hc14,hr⟩
 ·refine qT H hc14 ?_
  refine W_seq (W_reg ?_)
  refine qg 1 [(2,vI 9)] H fun fr H=>?_
  refine qe ?_
  refine W_ret ?_
  obtain rfl:=Option.some.inj hr
  exact qr [vI 9] H K
 refine qF H hc14 ?_
 refine W_seq (W_reg ?_)
 refine qg 2 [(24,vB (strEq a0 (bs [42])))] H fun fr H=>?_
 refine qe ?_
 rcases csplit hr with ⟨hc15,hr⟩ | ⟨hc15,hr⟩
 ·refine qT H hc15 ?_
  refine W_seq (W_reg ?_)
  refine qg 1 [(2,vI 10)] H fun fr H=>?_
  refine qe ?_
  refine W_ret ?_
  obtain rfl:=Option.some.inj hr
  exact qr [vI 10] H K
 refine qF H hc15 ?_
 refine W_skip ?_
 refine W_seq (W_reg ?_)
 refine qg 1 [(2,vI 0)] H fun fr H=>?_
 refine qe ?_
 refine W_ret ?_
 obtain rfl:=Option.some.inj hr
 exact qr [vI 0] H K
end Go.Proofs.YtbecjgckobhmpaaGreatDoor
end
section
namespace Go.Proofs.YtbecjgckobhmpaaGreatDoor
open Go Go.AM Go.Proofs
set_option maxRecDepth 100000
set_option maxHeartbeats 4000000
def F223_step (_:RS→Option ((Node ⊕ Bad) × RS)) (_:RS→Option ((Node ⊕ Bad) × RS)) (_:Int→RS→Option ((Node ⊕ Bad) × RS)) (_:RS→Option ((Node ⊕ Bad) × RS)) (F67:RS→Option ((Node ⊕ Bad) × RS)) (n:Nat) (s:RS):Option ((Node ⊕ Bad) × RS) :=
 (F91 s).bind fun x2 =>
 pbind (F152 n s) fun x4 s6 =>
 pbind (F88 (bs [91]) s6) fun x7 s9 =>
 bif x7 then
  (pbind (F67 s9) fun x11 s13 =>
  pbind (F93 (bs [93]) s13) fun _ s16 =>
  some (.inl (Node.mk 2 x4 (bs []) 0 0 0 false ([x11]:List Node) x2),s16))
 else
  (some (.inl (Node.mk 2 x4 (bs []) 0 0 0 false ([]:List Node) x2),s9))
def F199_step (F223:RS→Option ((Node ⊕ Bad) × RS)) (F199:RS→Option ((Node ⊕ Bad) × RS)) (_:Int→RS→Option ((Node ⊕ Bad) × RS)) (_:RS→Option ((Node ⊕ Bad) × RS)) (F67:RS→Option ((Node ⊕ Bad) × RS)) (_:Nat) (s:RS):Option ((Node ⊕ Bad) × RS) :=
 (F91 s).bind fun x2 =>
 pbind (F88 (bs [33]) s) fun x3 s5 =>
 bif x3 then
  (pbind (F199 s5) fun x7 s9 =>
  some (.inl (Node.mk 4 (bs []) (bs []) 0 0 0 false ([x7]:List Node) x2),s9))
 else
  ((F168 s5).bind fun x10 =>
  bif x10 == 2 then
   (pbind (F153 s5) fun x12 s14 =>
   some (.inl x12,s14))
  else
   (pbind (F88 (bs [111,108,100]) s5) fun x15 s17 =>
   bif x15 then
    (pbind (F93 (bs [40]) s17) fun _ s21 =>
    pbind (F223 s21) fun x22 s24 =>
    pbind (F93 (bs [41]) s24) fun _ s28 =>
    some (.inl (Node.mk 3 (bs []) (bs []) 0 0 0 false ([x22]:List Node) x2),s28))
   else
    (pbind (F88 (bs [40]) s17) fun x29 s31 =>
    bif x29 then
     (pbind (F67 s31) fun x33 s35 =>
     pbind (F93 (bs [41]) s35) fun _ s39 =>
     some (.inl x33,s39))
    else
     (pbind (F223 s31) fun x40 s42 =>
     some (.inl x40,s42)))))
def F167_step (_:RS→Option ((Node ⊕ Bad) × RS)) (F199:RS→Option ((Node ⊕ Bad) × RS)) (F167:Int→RS→Option ((Node ⊕ Bad) × RS)) (_:RS→Option ((Node ⊕ Bad) × RS)) (_:RS→Option ((Node ⊕ Bad) × RS)) (n:Nat) (a0:Int) (s:RS):Option ((Node ⊕ Bad) × RS) :=
 pbind (F199 s) fun x2 s4 =>
 pbind (iterP (σ:=Int × Node) (ρ:=Node) (ε:=Bad) (S:=RS) (fun s6 s6s=>(F101 s6s).bind fun x7 =>
  (F91 s6s).bind fun x8 =>
  (F156 x7).bind fun x9 =>
  bif ((x9 == 0) || (decide (x9 < a0))) || (decide (s6.1 < x9)) then
   (some (.inl (.inr s6.2),s6s))
  else
   (pbind (bif x9 == 2 then
     (pbind (F167 x9 (s6s.setNext (w64 (s6s.next + 1)))) fun x13 s15 =>
     some (.inl (w64 (x9 - 1),x13),s15))
    else
     (bif x9 == 5 then
      (pbind (F167 (w64 (x9 + 1)) (s6s.setNext (w64 (s6s.next + 1)))) fun x17 s19 =>
      some (.inl (w64 (x9 - 1),x17),s19))
     else
      (pbind (F167 (w64 (x9 + 1)) (s6s.setNext (w64 (s6s.next + 1)))) fun x20 s22 =>
      some (.inl (x9,x20),s22))):Option ((((Int × Node)) ⊕ Bad) × RS)) fun j23 j23s =>
   some (.inl (.inl (j23.1,(Node.mk 5 x7 (bs []) 0 0 0 false ([s6.2,j23.2]:List Node) x8))),j23s))) n ((10:Int),x2) s4) fun r24 r24s =>
 some (.inl r24,r24s)
def F102_step (_:RS→Option ((Node ⊕ Bad) × RS)) (_:RS→Option ((Node ⊕ Bad) × RS)) (F167:Int→RS→Option ((Node ⊕ Bad) × RS)) (F102:RS→Option ((Node ⊕ Bad) × RS)) (_:RS→Option ((Node ⊕ Bad) × RS)) (_:Nat) (s:RS):Option ((Node ⊕ Bad) × RS) :=
 pbind (F167 (2:Int) s) fun x2 s4 =>
 (F91 s4).bind fun x6 =>
 pbind (F88 (bs [63]) s4) fun x7 s9 =>
 bif !x7 then
  (some (.inl x2,s9))
 else
  (pbind (F102 s9) fun x11 s13 =>
  pbind (F93 (bs [58]) s13) fun _ s17 =>
  pbind (F102 s17) fun x18 s20 =>
  some (.inl (Node.mk 6 (bs []) (bs []) 0 0 0 false ([x2,x11,x18]:List Node) x6),s20))
def F67_step (_:RS→Option ((Node ⊕ Bad) × RS)) (_:RS→Option ((Node ⊕ Bad) × RS)) (_:Int→RS→Option ((Node ⊕ Bad) × RS)) (F102:RS→Option ((Node ⊕ Bad) × RS)) (F67:RS→Option ((Node ⊕ Bad) × RS)) (_:Nat) (s:RS):Option ((Node ⊕ Bad) × RS) :=
 pbind ((F101 s).bind fun x2 =>
  bif strEq x2 (bs [97,108,108]) then
   (some (.inl (.inl (7:Int)),s))
  else
   (bif strEq x2 (bs [115,111,109,101]) then
    (some (.inl (.inl (8:Int)),s))
   else
    (pbind (F102 s) fun x5 s7 =>
    some (.inl (.inr x5),s7))):Option (((Int ⊕ Node) ⊕ Bad) × RS)) fun j8 j8s=>match j8 with
 | .inl j8a=>(F91 j8s).bind fun x9 =>
  pbind (F92 (j8s.setNext (w64 (j8s.next + 1)))) fun x11 s13 =>
  pbind (F93 (bs [60]) s13) fun _ s16 =>
  pbind (F103 s16) fun x17 s19 =>
  pbind (F93 (bs [58]) s19) fun _ s22 =>
  pbind (F67 s22) fun x23 s25 =>
  some (.inl (Node.mk j8a x11 (bs []) x17 0 0 false ([x23]:List Node) x9),s25)
 | .inr j8b=>some (.inl j8b,j8s)
mutual
def F223:Nat→RS→Option ((Node ⊕ Bad) × RS)
 | 0,_=>none
 | n + 1,s=>F223_step (F223 n) (F199 n) (F167 n) (F102 n) (F67 n) n s
def F199:Nat→RS→Option ((Node ⊕ Bad) × RS)
 | 0,_=>none
 | n + 1,s=>F199_step (F223 n) (F199 n) (F167 n) (F102 n) (F67 n) n s
def F167:Nat→Int→RS→Option ((Node ⊕ Bad) × RS)
 | 0,_,_=>none
 | n + 1,a0,s=>F167_step (F223 n) (F199 n) (F167 n) (F102 n) (F67 n) n a0 s
def F102:Nat→RS→Option ((Node ⊕ Bad) × RS)
 | 0,_=>none
 | n + 1,s=>F102_step (F223 n) (F199 n) (F167 n) (F102 n) (F67 n) n s
def F67:Nat→RS→Option ((Node ⊕ Bad) × RS)
 | 0,_=>none
 | n + 1,s=>F67_step (F223 n) (F199 n) (F167 n) (F102 n) (F67 n) n s
end
theorem F223_RR (n:Nat):(∀ (s:RS) (r:Node ⊕ Bad) (s2:RS),F223 n s = some (r,s2)→∀ {st:St} {rs:List Res} {i0:Nat} {p:Spare} (_:HL st (.rd i0 87 p (rdC s p) :: rs)),∃ (q:Spare) (st':St),R Tryz.prog AN 223 [.ptr i0 0] st (gotE encW (fun v=>aN v) r) st'∧HL st' (.rd i0 87 q (rdC s2 q) :: rs))∧(∀ (s:RS) (r:Node ⊕ Bad) (s2:RS),F199 n s = some (r,s2)→∀ {st:St} {rs:List Res} {i0:Nat} {p:Spare} (_:HL st (.rd i0 87 p (rdC s p) :: rs)),∃ (q:Spare) (st':St),R Tryz.prog AN 199 [.ptr i0 0] st (gotE encW (fun v=>aN v) r) st'∧HL st' (.rd i0 87 q (rdC s2 q) :: rs))∧(∀ (a0:Int) (s:RS) (r:Node ⊕ Bad) (s2:RS),F167 n a0 s = some (r,s2)→∀ {st:St} {rs:List Res} {i0:Nat} {p:Spare} (_:HL st (.rd i0 87 p (rdC s p) :: rs)),∃ (q:Spare) (st':St),R Tryz.prog AN 167 [.ptr i0 0,vI a0] st (gotE encW (fun v=>aN v) r) st'∧HL st' (.rd i0 87 q (rdC s2 q) :: rs))∧(∀ (s:RS) (r:Node ⊕ Bad) (s2:RS),F102 n s = some (r,s2)→∀ {st:St} {rs:List Res} {i0:Nat} {p:Spare} (_:HL st (.rd i0 87 p (rdC s p) :: rs)),∃ (q:Spare) (st':St),R Tryz.prog AN 102 [.ptr i0 0] st (gotE encW (fun v=>aN v) r) st'∧HL st' (.rd i0 87 q (rdC s2 q) :: rs))∧(∀ (s:RS) (r:Node ⊕ Bad) (s2:RS),F67 n s = some (r,s2)→∀ {st:St} {rs:List Res} {i0:Nat} {p:Spare} (_:HL st (.rd i0 87 p (rdC s p) :: rs)),∃ (q:Spare) (st':St),R Tryz.prog AN 67 [.ptr i0 0] st (gotE encW (fun v=>aN v) r) st'∧HL st' (.rd i0 87 q (rdC s2 q) :: rs)):=by
 induction n with
 | zero=>exact ⟨by intros; contradiction,by intros; contradiction,by intros; contradiction,by intros; contradiction,by intros; contradiction⟩
 | succ n ih =>
  obtain ⟨ih_F223,ih_F199,ih_F167,ih_F102,ih_F67⟩:=ih
  refine ⟨?_,?_,?_,?_,?_⟩
  ·intro s r s2 hr st rs i0 p K
   change F223_step (F223 n) (F199 n) (F167 n) (F102 n) (F67 n) n s = some (r,s2) at hr
   unfold F223_step at hr
   refine R_panX (ew:=encW) (enc:=fun v (q:Spare)=>aN v) (post:=fun s (q:Spare)=>.rd i0 87 q (rdC s q) :: rs) [(0,.ptr i0 0)] Tryz.func223 rfl rfl fun fr Q H hp hq=>?_
   refine W_seq (W_reg ?_)
   refine qal 24 [vI 0,vS (bs []),vS (bs []),vI 0,vI 0,vI 0,vB false,vL tNode ([]:List Node) .nil,vI 0] H K fun id1 st K fr H=>?_
   refine qe ?_
   refine W_seq (W_reg ?_)
   refine qg 1 [(4,.ptr i0 0)] H fun fr H=>?_
   refine ql hr (fun x h=>F91_R  _ x h (K.front 1 rfl)) H fun x2 hr fr H=>?_
   refine qg 1 [(6,.agg [vI 2,vS (bs []),vS (bs []),vI 0,vI 0,vI 0,vB false,vL tNode ([]:List Node) .nil,vI x2])] H fun fr H=>?_
   refine qal 24 [vI 0,vS (bs []),vS (bs []),vI 0,vI 0,vI 0,vB false,vL tNode ([]:List Node) .nil,vI 0] H K fun id3 st K fr H=>?_
   refine qst 24 0 (.agg [vI 2,vS (bs []),vS (bs []),vI 0,vI 0,vI 0,vB false,vL tNode ([]:List Node) .nil,vI x2]) [vI 2,vS (bs []),vS (bs []),vI 0,vI 0,vI 0,vB false,vL tNode ([]:List Node) .nil,vI x2] 0 H K rfl fun st K fr H=>?_
   refine qe ?_
   refine W_seq (W_reg ?_)
   refine qg 1 [(7,.ptr i0 0)] H fun fr H=>?_
   refine qp [] [] hr (fun a s h=>F152_R n _ a s h (K.front 2 rfl)) K H (fun e s h q st K=>hp e s h q _ _ (K.keep [true,false,false])) fun x4 s6 hr sp5 st K fr H=>?_
   refine qg 1 [(9,.ptr id3 1)] H fun fr H=>?_
   refine qst 9 1 (vS x4) [vI 2,vS x4,vS (bs []),vI 0,vI 0,vI 0,vB false,vL tNode ([]:List Node) .nil,vI x2] 1 H K rfl fun st K fr H=>?_
   refine qe ?_
   refine W_seq (W_seq ?_)
   refine W_reg ?_
   refine qg 1 [(10,.ptr i0 0)] H fun fr H=>?_
   refine qp [] [] hr (fun a s h=>F88_R  _ _ a s h K) K H (fun e s h q st K=>hp e s h q _ _ (K.keep [true,false,false])) fun x7 s9 hr sp8 st K fr H=>?_
   refine qe ?_
   rcases csplit hr with ⟨hc10,hr⟩ | ⟨hc10,hr⟩
   rotate_left
   ·refine qF H hc10 ?_
    refine W_skip ?_
    refine W_seq (W_reg ?_)
    refine qld 24 0 (.agg [vI 2,vS x4,vS (bs []),vI 0,vI 0,vI 0,vB false,vL tNode ([]:List Node) .shut,vI x2]) 1 H K rfl fun fr H=>?_
    refine qst 24 0 (.agg [vI 2,vS x4,vS (bs []),vI 0,vI 0,vI 0,vB false,vL tNode ([]:List Node) .shut,vI x2]) [vI 2,vS x4,vS (bs []),vI 0,vI 0,vI 0,vB false,vL tNode ([]:List Node) .shut,vI x2] 2 H K rfl fun st K fr H=>?_
    refine qe ?_
    refine W_ret ?_
    exact hq _ _ (sj hr).symm sp8 _ _ _ (e_retV [.agg [vI 2,vS x4,vS (bs []),vI 0,vI 0,vI 0,vB false,vL tNode ([]:List Node) .shut,vI x2]] H K (fun _=>resC id1 0 24 [vI 2,vS x4,vS (bs []),vI 0,vI 0,vI 0,vB false,vL tNode ([]:List Node) .shut,vI x2] 2 (by kernel_rfl) rfl (by kernel_rfl) resN) ((K).keep [true,false,false]))
   refine qT H hc10 ?_
   refine W_seq (W_reg ?_)
   refine qg 1 [(12,.ptr i0 0)] H fun fr H=>?_
   refine qp [] [] hr (fun a s h=>ih_F67 _ a s h K) K H (fun e s h q st K=>hp e s h q _ _ (K.keep [true,false,false])) fun x11 s13 hr sp12 st K fr H=>?_
   refine qv (.buildSlice 22 1 [(0,aN x11)]) H (run_bslice (v:=vL tNode ([x11]:List Node) .full) (v0:=.slice [aN x11] .full) (by kernel_rfl) (by simp only [List.map,vL,tNode_e,eNode_eq,cNode] <;> rfl)) fun fr H=>?_
   refine qg 1 [(15,.ptr id3 7)] H fun fr H=>?_
   refine qst 22 7 (vL tNode ([x11]:List Node) .full) [vI 2,vS x4,vS (bs []),vI 0,vI 0,vI 0,vB false,vL tNode ([x11]:List Node) .full,vI x2] 1 H K rfl fun st K fr H=>?_
   refine qe ?_
   refine W_reg ?_
   refine qg 1 [(16,.ptr i0 0)] H fun fr H=>?_
   refine qp [] [] hr (fun a s h=>F93_R  _ _ a s h K) K H (fun e s h q st K=>hp e s h q _ _ (K.keep [true,false,false])) fun x14 s16 hr sp15 st K fr H=>?_
   refine qe ?_
   refine W_seq (W_reg ?_)
   refine qld 24 0 (.agg [vI 2,vS x4,vS (bs []),vI 0,vI 0,vI 0,vB false,vL tNode ([x11]:List Node) .shut,vI x2]) 1 H K rfl fun fr H=>?_
   refine qst 24 0 (.agg [vI 2,vS x4,vS (bs []),vI 0,vI 0,vI 0,vB false,vL tNode ([x11]:List Node) .shut,vI x2]) [vI 2,vS x4,vS (bs []),vI 0,vI 0,vI 0,vB false,vL tNode ([x11]:List Node) .shut,vI x2] 2 H K rfl fun st K fr H=>?_
   refine qe ?_
   refine W_ret ?_
   exact hq _ _ (sj hr).symm sp15 _ _ _ (e_retV [.agg [vI 2,vS x4,vS (bs []),vI 0,vI 0,vI 0,vB false,vL tNode ([x11]:List Node) .shut,vI x2]] H K (fun _=>resC id1 0 24 [vI 2,vS x4,vS (bs []),vI 0,vI 0,vI 0,vB false,vL tNode ([x11]:List Node) .shut,vI x2] 2 (by kernel_rfl) rfl (by kernel_rfl) resN) ((K).keep [true,false,false]))
  ·intro s r s2 hr st rs i0 p K
   change F199_step (F223 n) (F199 n) (F167 n) (F102 n) (F67 n) n s = some (r,s2) at hr
   unfold F199_step at hr
   refine R_panX (ew:=encW) (enc:=fun v (q:Spare)=>aN v) (post:=fun s (q:Spare)=>.rd i0 87 q (rdC s q) :: rs) [(0,.ptr i0 0)] Tryz.func199 rfl rfl fun fr Q H hp hq=>?_
   refine W_seq (W_reg ?_)
   refine qal 24 [vI 0,vS (bs []),vS (bs []),vI 0,vI 0,vI 0,vB false,vL tNode ([]:List Node) .nil,vI 0] H K fun id1 st K fr H=>?_
   refine qe ?_
   refine W_seq (W_reg ?_)
   refine qg 1 [(6,.ptr i0 0)] H fun fr H=>?_
   refine ql hr (fun x h=>F91_R  _ x h (K.front 1 rfl)) H fun x2 hr fr H=>?_
   refine qg 1 [(3,vI x2)] H fun fr H=>?_
   refine qe ?_
   refine W_seq (W_block ?_)
   refine W_seq (W_reg ?_)
   refine qg 1 [(9,.ptr i0 0)] H fun fr H=>?_
   refine qp [] [] hr (fun a s h=>F88_R  _ _ a s h (K.front 1 rfl)) K H (fun e s h q st K=>hp e s h q _ _ (K.keep [true,false])) fun x3 s5 hr sp4 st K fr H=>?_
   refine qg 1 [(8,vB x3)] H fun fr H=>?_
   refine qe ?_
   rcases csplit hr with ⟨hc6,hr⟩ | ⟨hc6,hr⟩
   ·refine qT H hc6 ?_
    refine W_seq (W_reg ?_)
    refine qg 1 [(11,.ptr i0 0)] H fun fr H=>?_
    refine qp [] [] hr (fun a s h=>ih_F199 _ a s h K) K H (fun e s h q st K=>hp e s h q _ _ (K.keep [true,false])) fun x7 s9 hr sp8 st K fr H=>?_
    refine qv (.buildSlice 22 1 [(0,aN x7)]) H (run_bslice (v:=vL tNode ([x7]:List Node) .full) (v0:=.slice [aN x7] .full) (by kernel_rfl) (by simp only [List.map,vL,tNode_e,eNode_eq,cNode] <;> rfl)) fun fr H=>?_
    refine qg 2 [(15,.agg [vI 4,vS (bs []),vS (bs []),vI 0,vI 0,vI 0,vB false,vL tNode ([x7]:List Node) .shut,vI x2])] H fun fr H=>?_
    refine qst 24 0 (.agg [vI 4,vS (bs []),vS (bs []),vI 0,vI 0,vI 0,vB false,vL tNode ([x7]:List Node) .shut,vI x2]) [vI 4,vS (bs []),vS (bs []),vI 0,vI 0,vI 0,vB false,vL tNode ([x7]:List Node) .shut,vI x2] 1 H K rfl fun st K fr H=>?_
    refine qe ?_
    refine W_ret ?_
    exact hq _ _ (sj hr).symm sp8 _ _ _ (e_retV [.agg [vI 4,vS (bs []),vS (bs []),vI 0,vI 0,vI 0,vB false,vL tNode ([x7]:List Node) .shut,vI x2]] H K (fun _=>resC id1 0 24 [vI 4,vS (bs []),vS (bs []),vI 0,vI 0,vI 0,vB false,vL tNode ([x7]:List Node) .shut,vI x2] 1 (by kernel_rfl) rfl (by kernel_rfl) resN) ((K).keep [true,false]))
   refine qF H hc6 ?_
   refine W_seq (W_reg ?_)
   refine qg 1 [(17,.ptr i0 0)] H fun fr H=>?_
   refine ql hr (fun x h=>F168_R  _ x h K) H fun x10 hr fr H=>?_
   refine qg 2 [(16,vB (x10 == 2))] H fun fr H=>?_
   refine qe ?_
   rcases csplit hr with ⟨hc11,hr⟩ | ⟨hc11,hr⟩
   ·refine qT H hc11 ?_
    refine W_seq (W_reg ?_)
    refine qg 1 [(20,.ptr i0 0)] H fun fr H=>?_
    refine qp [] [] hr (fun a s h=>F153_R  _ a s h K) K H (fun e s h q st K=>hp e s h q _ _ (K.keep [true,false])) fun x12 s14 hr sp13 st K fr H=>?_
    refine qst 24 0 (aN x12) [vI x12.kind,vS x12.name,vS x12.other,vI x12.n,vI x12.len,vI x12.init,vB x12.ghost,vL tNode x12.kids .shut,vI x12.pos] 1 H K rfl fun st K fr H=>?_
    refine qe ?_
    refine W_ret ?_
    exact hq _ _ (sj hr).symm sp13 _ _ _ (e_retV [aN x12] H K (fun _=>resC id1 0 24 [vI x12.kind,vS x12.name,vS x12.other,vI x12.n,vI x12.len,vI x12.init,vB x12.ghost,vL tNode x12.kids .shut,vI x12.pos] 1 (by kernel_rfl) rfl (by kernel_rfl) resN) ((K).keep [true,false]))
   refine qF H hc11 ?_
   refine W_seq (W_reg ?_)
   refine qg 1 [(23,.ptr i0 0)] H fun fr H=>?_
   refine qp [] [] hr (fun a s h=>F88_R  _ _ a s h K) K H (fun e s h q st K=>hp e s h q _ _ (K.keep [true,false])) fun x15 s17 hr sp16 st K fr H=>?_
   refine qg 1 [(22,vB x15)] H fun fr H=>?_
   refine qe ?_
   rcases csplit hr with ⟨hc18,hr⟩ | ⟨hc18,hr⟩
   ·refine qT H hc18 ?_
    refine W_seq (W_reg ?_)
    refine qg 1 [(25,.ptr i0 0)] H fun fr H=>?_
    refine qp [] [] hr (fun a s h=>F93_R  _ _ a s h K) K H (fun e s h q st K=>hp e s h q _ _ (K.keep [true,false])) fun x19 s21 hr sp20 st K fr H=>?_
    refine qe ?_
    refine W_seq (W_reg ?_)
    refine qg 1 [(27,.ptr i0 0)] H fun fr H=>?_
    refine qp [] [] hr (fun a s h=>ih_F223 _ a s h K) K H (fun e s h q st K=>hp e s h q _ _ (K.keep [true,false])) fun x22 s24 hr sp23 st K fr H=>?_
    refine qv (.buildSlice 22 1 [(0,aN x22)]) H (run_bslice (v:=vL tNode ([x22]:List Node) .full) (v0:=.slice [aN x22] .full) (by kernel_rfl) (by simp only [List.map,vL,tNode_e,eNode_eq,cNode] <;> rfl)) fun fr H=>?_
    refine qg 2 [(31,.agg [vI 3,vS (bs []),vS (bs []),vI 0,vI 0,vI 0,vB false,vL tNode ([x22]:List Node) .shut,vI x2])] H fun fr H=>?_
    refine qal 24 [vI 0,vS (bs []),vS (bs []),vI 0,vI 0,vI 0,vB false,vL tNode ([]:List Node) .nil,vI 0] H K fun id25 st K fr H=>?_
    refine qst 24 0 (.agg [vI 3,vS (bs []),vS (bs []),vI 0,vI 0,vI 0,vB false,vL tNode ([x22]:List Node) .shut,vI x2]) [vI 3,vS (bs []),vS (bs []),vI 0,vI 0,vI 0,vB false,vL tNode ([x22]:List Node) .shut,vI x2] 0 H K rfl fun st K fr H=>?_
    refine qe ?_
    refine W_seq (W_reg ?_)
    refine qg 1 [(32,.ptr i0 0)] H fun fr H=>?_
    refine qp [] [] hr (fun a s h=>F93_R  _ _ a s h (K.front 1 rfl)) K H (fun e s h q st K=>hp e s h q _ _ (K.keep [true,false,false])) fun x26 s28 hr sp27 st K fr H=>?_
    refine qe ?_
    refine W_seq (W_reg ?_)
    refine qld 24 0 (.agg [vI 3,vS (bs []),vS (bs []),vI 0,vI 0,vI 0,vB false,vL tNode ([x22]:List Node) .shut,vI x2]) 1 H K rfl fun fr H=>?_
    refine qst 24 0 (.agg [vI 3,vS (bs []),vS (bs []),vI 0,vI 0,vI 0,vB false,vL tNode ([x22]:List Node) .shut,vI x2]) [vI 3,vS (bs []),vS (bs []),vI 0,vI 0,vI 0,vB false,vL tNode ([x22]:List Node) .shut,vI x2] 2 H K rfl fun st K fr H=>?_
    refine qe ?_
    refine W_ret ?_
    exact hq _ _ (sj hr).symm sp27 _ _ _ (e_retV [.agg [vI 3,vS (bs []),vS (bs []),vI 0,vI 0,vI 0,vB false,vL tNode ([x22]:List Node) .shut,vI x2]] H K (fun _=>resC id1 0 24 [vI 3,vS (bs []),vS (bs []),vI 0,vI 0,vI 0,vB false,vL tNode ([x22]:List Node) .shut,vI x2] 2 (by kernel_rfl) rfl (by kernel_rfl) resN) ((K).keep [true,false,false]))
   refine qF H hc18 ?_
   refine W_seq (W_reg ?_)
   refine qg 1 [(36,.ptr i0 0)] H fun fr H=>?_
   refine qp [] [] hr (fun a s h=>F88_R  _ _ a s h K) K H (fun e s h q st K=>hp e s h q _ _ (K.keep [true,false])) fun x29 s31 hr sp30 st K fr H=>?_
   refine qg 1 [(35,vB x29)] H fun fr H=>?_
   refine qe ?_
   rcases csplit hr with ⟨hc32,hr⟩ | ⟨hc32,hr⟩
   rotate_left
   ·refine qF H hc32 ?_
    refine W_skip ?_
    refine W_seq (W_reg ?_)
    refine qg 1 [(43,.ptr i0 0)] H fun fr H=>?_
    refine qp [] [] hr (fun a s h=>ih_F223 _ a s h K) K H (fun e s h q st K=>hp e s h q _ _ (K.keep [true,false])) fun x40 s42 hr sp41 st K fr H=>?_
    refine qst 24 0 (aN x40) [vI x40.kind,vS x40.name,vS x40.other,vI x40.n,vI x40.len,vI x40.init,vB x40.ghost,vL tNode x40.kids .shut,vI x40.pos] 1 H K rfl fun st K fr H=>?_
    refine qe ?_
    refine W_ret ?_
    exact hq _ _ (sj hr).symm sp41 _ _ _ (e_retV [aN x40] H K (fun _=>resC id1 0 24 [vI x40.kind,vS x40.name,vS x40.other,vI x40.n,vI x40.len,vI x40.init,vB x40.ghost,vL tNode x40.kids .shut,vI x40.pos] 1 (by kernel_rfl) rfl (by kernel_rfl) resN) ((K).keep [true,false]))
   refine qT H hc32 ?_
   refine W_seq (W_reg ?_)
   refine qg 1 [(38,.ptr i0 0)] H fun fr H=>?_
   refine qp [] [] hr (fun a s h=>ih_F67 _ a s h K) K H (fun e s h q st K=>hp e s h q _ _ (K.keep [true,false])) fun x33 s35 hr sp34 st K fr H=>?_
   refine qal 24 [vI 0,vS (bs []),vS (bs []),vI 0,vI 0,vI 0,vB false,vL tNode ([]:List Node) .nil,vI 0] H K fun id36 st K fr H=>?_
   refine qst 24 0 (aN x33) [vI x33.kind,vS x33.name,vS x33.other,vI x33.n,vI x33.len,vI x33.init,vB x33.ghost,vL tNode x33.kids .shut,vI x33.pos] 0 H K rfl fun st K fr H=>?_
   refine qe ?_
   refine W_seq (W_reg ?_)
   refine qg 1 [(40,.ptr i0 0)] H fun fr H=>?_
   refine qp [] [] hr (fun a s h=>F93_R  _ _ a s h (K.front 1 rfl)) K H (fun e s h q st K=>hp e s h q _ _ (K.keep [true,false,false])) fun x37 s39 hr sp38 st K fr H=>?_
   refine qe ?_
   refine W_seq (W_reg ?_)
   refine qld 24 0 (aN x33) 1 H K rfl fun fr H=>?_
   refine qst 24 0 (aN x33) [vI x33.kind,vS x33.name,vS x33.other,vI x33.n,vI x33.len,vI x33.init,vB x33.ghost,vL tNode x33.kids .shut,vI x33.pos] 2 H K rfl fun st K fr H=>?_
   refine qe ?_
   refine W_ret ?_
   exact hq _ _ (sj hr).symm sp38 _ _ _ (e_retV [aN x33] H K (fun _=>resC id1 0 24 [vI x33.kind,vS x33.name,vS x33.other,vI x33.n,vI x33.len,vI x33.init,vB x33.ghost,vL tNode x33.kids .shut,vI x33.pos] 2 (by kernel_rfl) rfl (by kernel_rfl) resN) ((K).keep [true,false,false]))
  ·intro a0 s r s2 hr st rs i0 p K
   change F167_step (F223 n) (F199 n) (F167 n) (F102 n) (F67 n) n a0 s = some (r,s2) at hr
   unfold F167_step at hr
   refine R_panX (ew:=encW) (enc:=fun v (q:Spare)=>aN v) (post:=fun s (q:Spare)=>.rd i0 87 q (rdC s q) :: rs) [(0,.ptr i0 0),(1,vI a0)] Tryz.func167 rfl rfl fun fr Q H hp hq=>?_
   refine W_seq (W_reg ?_)
   refine qal 24 [vI 0,vS (bs []),vS (bs []),vI 0,vI 0,vI 0,vB false,vL tNode ([]:List Node) .nil,vI 0] H K fun id1 st K fr H=>?_
   refine qe ?_
   refine W_seq (W_reg ?_)
   refine qg 1 [(11,.ptr i0 0)] H fun fr H=>?_
   refine qp [] [] hr (fun a s h=>ih_F199 _ a s h (K.front 1 rfl)) K H (fun e s h q st K=>hp e s h q _ _ (K.keep [true,false])) fun x2 s4 hr sp3 st K fr H=>?_
   refine qal 24 [vI 0,vS (bs []),vS (bs []),vI 0,vI 0,vI 0,vB false,vL tNode ([]:List Node) .nil,vI 0] H K fun id5 st K fr H=>?_
   refine qst 24 0 (aN x2) [vI x2.kind,vS x2.name,vS x2.other,vI x2.n,vI x2.len,vI x2.init,vB x2.ghost,vL tNode x2.kids .shut,vI x2.pos] 0 H K rfl fun st K fr H=>?_
   refine qe ?_
   refine W_seq (W_reg ?_)
   refine qg 1 [(6,vI 10)] H fun fr H=>?_
   refine qe ?_
   refine W_block ?_
   refine W_iterP hr hp (fun (s6:Int × Node) s6s fr st=>∃ (s6q:Spare),Rd fr [(0,.ptr i0 0),(1,vI a0),(4,.ptr id1 0),(5,.ptr id5 0),(6,vI s6.1)]∧HL st (.obj id5 (.cells 24 [vI s6.2.kind,vS s6.2.name,vS s6.2.other,vI s6.2.n,vI s6.2.len,vI s6.2.init,vB s6.2.ghost,vL tNode s6.2.kids .shut,vI s6.2.pos]) :: .rd i0 87 s6q (rdC s6s s6q) :: .obj id1 (.cells 24 [vI 0,vS (bs []),vS (bs []),vI 0,vI 0,vI 0,vB false,vL tNode ([]:List Node) .nil,vI 0]) :: rs)) (fun (r24:Node) r24s e fr st=>e = .ret∧∃ (r24q:Spare),Rd fr [(4,.ptr id1 0)]∧HL st (.rd i0 87 r24q (rdC r24s r24q) :: .obj id1 (.cells 24 [vI r24.kind,vS r24.name,vS r24.other,vI r24.n,vI r24.len,vI r24.init,vB r24.ghost,vL tNode r24.kids .shut,vI r24.pos]) :: rs)) ⟨sp3,H.tq,K⟩ (by rintro _ s fr st ⟨h,_⟩ <;> cases h) ?_ ?_
   ·rintro s6 s6s fr st y Q ⟨s6q,H,K⟩ hr hp hq
    refine W_block ?_
    refine W_seq (W_reg ?_)
    refine qg 1 [(13,.ptr i0 0)] H fun fr H=>?_
    refine ql hr (fun x h=>F101_R  _ x h (K.front 1 rfl)) H fun x7 hr fr H=>?_
    refine qg 1 [(15,.ptr i0 0)] H fun fr H=>?_
    refine ql hr (fun x h=>F91_R  _ x h (K.front 1 rfl)) H fun x8 hr fr H=>?_
    refine qg 2 [(7,vS x7),(8,vI x8)] H fun fr H=>?_
    refine qe ?_
    refine W_seq (W_reg ?_)
    refine qg 1 [(17,vS x7)] H fun fr H=>?_
    refine qb hr (fun x h s=>F156_R  _ x h) H fun x9 hr fr H=>?_
    refine qg 1 [(9,vI x9)] H fun fr H=>?_
    refine qe ?_
    refine W_seq (W_seq ?_)
    refine W_reg ?_
    refine qg 3 [(21,vB (x9 == 0))] H fun fr H=>?_
    refine qg 4 [(25,vB ((x9 == 0) || (decide (x9 < a0))))] H (hs:=by intro _ _; generalize (x9 == 0) = b0; cases b0 <;> kernel_rfl) fun fr H=>?_
    refine qg 1 [(26,vB ((x9 == 0) || (decide (x9 < a0))))] H fun fr H=>?_
    refine qg 4 [(30,vB (((x9 == 0) || (decide (x9 < a0))) || (decide (s6.1 < x9))))] H (hs:=by intro _ _; generalize ((x9 == 0) || (decide (x9 < a0))) = b0; cases b0 <;> kernel_rfl) fun fr H=>?_
    refine qe ?_
    rcases csplit hr with ⟨hc10,hr⟩ | ⟨hc10,hr⟩
    ·refine qT H hc10 ?_
     refine W_seq (W_reg ?_)
     refine qld 24 0 (aN s6.2) 0 H K rfl fun fr H=>?_
     refine qst 24 0 (aN s6.2) [vI s6.2.kind,vS s6.2.name,vS s6.2.other,vI s6.2.n,vI s6.2.len,vI s6.2.init,vB s6.2.ghost,vL tNode s6.2.kids .shut,vI s6.2.pos] 2 H K rfl fun st K fr H=>?_
     refine qe ?_
     refine W_ret ?_
     exact hq _ _ (sj hr).symm _ _ _ ⟨rfl,s6q,H.tq,K.keep [false,true,true]⟩
    refine qF H hc10 ?_
    refine W_skip ?_
    refine W_seq (W_reg ?_)
    refine qg 3 [(32,.ptr i0 0),(34,.ptr i0 1)] H fun fr H=>?_
    refine qldR 3 1 (vI s6s.next) 1 H K rfl fun fr H=>?_
    refine qg 3 [(36,vI (w64 (s6s.next + 1))),(38,.ptr i0 1)] H fun fr H=>?_
    refine qstR 3 1 (vI (w64 (s6s.next + 1))) (rdC (s6s.setNext (w64 (s6s.next + 1))) s6q) 1 H K rfl fun st K fr H=>?_
    refine qe ?_
    refine W_seq (W_reg ?_)
    refine qal 24 [vI 0,vS (bs []),vS (bs []),vI 0,vI 0,vI 0,vB false,vL tNode ([]:List Node) .nil,vI 0] H K fun id11 st K fr H=>?_
    refine qe ?_
    refine W_seq ?_
    refine W_viaP (fun j23 j23s e fr st=>e = .normal∧∃ (j23q:Spare),Rd fr [(0,.ptr i0 0),(1,vI a0),(4,.ptr id1 0),(5,.ptr id5 0),(6,vI j23.1),(7,vS x7),(8,vI x8),(10,.ptr id11 0)]∧HL st (.rd i0 87 j23q (rdC j23s j23q) :: .obj id11 (.cells 24 [vI j23.2.kind,vS j23.2.name,vS j23.2.other,vI j23.2.n,vI j23.2.len,vI j23.2.init,vB j23.2.ghost,vL tNode j23.2.kids .shut,vI j23.2.pos]) :: .obj id5 (.cells 24 [vI s6.2.kind,vS s6.2.name,vS s6.2.other,vI s6.2.n,vI s6.2.len,vI s6.2.init,vB s6.2.ghost,vL tNode s6.2.kids .shut,vI s6.2.pos]) :: .obj id1 (.cells 24 [vI 0,vS (bs []),vS (bs []),vI 0,vI 0,vI 0,vB false,vL tNode ([]:List Node) .nil,vI 0]) :: rs)) hr hp ?_ ?_
    ·intro y Q hr hp hq
     refine W_seq (W_reg ?_)
     refine qg 1 [(39,vI x9)] H fun fr H=>?_
     refine qe ?_
     refine W_block ?_
     refine W_seq (W_reg ?_)
     refine qg 2 [(45,vB (x9 == 2))] H fun fr H=>?_
     refine qe ?_
     rcases csplit hr with ⟨hc12,hr⟩ | ⟨hc12,hr⟩
     ·refine qT H hc12 ?_
      refine W_reg ?_
      refine qg 2 [(47,.ptr i0 0),(48,vI x9)] H fun fr H=>?_
      refine qp [] [] hr (fun a s h=>ih_F167 _ _ a s h (K.front 2 rfl)) K H (fun e s h q st K=>hp e s h q _ _ (K.keep [true,false,false,false])) fun x13 s15 hr sp14 st K fr H=>?_
      refine qg 2 [(51,vI (w64 (x9 - 1)))] H fun fr H=>?_
      refine qst 24 0 (aN x13) [vI x13.kind,vS x13.name,vS x13.other,vI x13.n,vI x13.len,vI x13.init,vB x13.ghost,vL tNode x13.kids .shut,vI x13.pos] 1 H K rfl fun st K fr H=>?_
      refine qg 1 [(6,vI (w64 (x9 - 1)))] H fun fr H=>?_
      refine qe ?_
      exact hq _ _ (sj hr).symm _ _ _ ⟨rfl,sp14,H.tq,K⟩
     refine qF H hc12 ?_
     refine W_seq (W_reg ?_)
     refine qg 2 [(52,vB (x9 == 5))] H fun fr H=>?_
     refine qe ?_
     rcases csplit hr with ⟨hc16,hr⟩ | ⟨hc16,hr⟩
     ·refine qT H hc16 ?_
      refine W_reg ?_
      refine qg 3 [(54,.ptr i0 0),(56,vI (w64 (x9 + 1)))] H fun fr H=>?_
      refine qp [] [] hr (fun a s h=>ih_F167 _ _ a s h (K.front 2 rfl)) K H (fun e s h q st K=>hp e s h q _ _ (K.keep [true,false,false,false])) fun x17 s19 hr sp18 st K fr H=>?_
      refine qg 2 [(59,vI (w64 (x9 - 1)))] H fun fr H=>?_
      refine qst 24 0 (aN x17) [vI x17.kind,vS x17.name,vS x17.other,vI x17.n,vI x17.len,vI x17.init,vB x17.ghost,vL tNode x17.kids .shut,vI x17.pos] 1 H K rfl fun st K fr H=>?_
      refine qg 1 [(6,vI (w64 (x9 - 1)))] H fun fr H=>?_
      refine qe ?_
      exact hq _ _ (sj hr).symm _ _ _ ⟨rfl,sp18,H.tq,K⟩
     refine qF H hc16 ?_
     refine W_reg ?_
     refine qg 3 [(40,.ptr i0 0),(42,vI (w64 (x9 + 1)))] H fun fr H=>?_
     refine qp [] [] hr (fun a s h=>ih_F167 _ _ a s h (K.front 2 rfl)) K H (fun e s h q st K=>hp e s h q _ _ (K.keep [true,false,false,false])) fun x20 s22 hr sp21 st K fr H=>?_
     refine qg 1 [(44,vI x9)] H fun fr H=>?_
     refine qst 24 0 (aN x20) [vI x20.kind,vS x20.name,vS x20.other,vI x20.n,vI x20.len,vI x20.init,vB x20.ghost,vL tNode x20.kids .shut,vI x20.pos] 1 H K rfl fun st K fr H=>?_
     refine qg 1 [(6,vI x9)] H fun fr H=>?_
     refine qe ?_
     exact hq _ _ (sj hr).symm _ _ _ ⟨rfl,sp21,H.tq,K⟩
    intro j23 j23s hr
    rintro e fr st ⟨rfl,j23q,H,K⟩
    refine W_reg ?_
    refine qg 1 [(60,vS x7)] H fun fr H=>?_
    refine qld 24 0 (aN s6.2) 2 H K rfl fun fr H=>?_
    refine qld 24 0 (aN j23.2) 1 H K rfl fun fr H=>?_
    refine qv (.buildSlice 22 2 [(0,aN s6.2),(1,aN j23.2)]) H (run_bslice (v:=vL tNode ([s6.2,j23.2]:List Node) .full) (v0:=.slice [aN s6.2,aN j23.2] .full) (by kernel_rfl) (by simp only [List.map,vL,tNode_e,eNode_eq,cNode] <;> rfl)) fun fr H=>?_
    refine qg 2 [(65,.agg [vI 5,vS x7,vS (bs []),vI 0,vI 0,vI 0,vB false,vL tNode ([s6.2,j23.2]:List Node) .shut,vI x8])] H fun fr H=>?_
    refine qst 24 0 (.agg [vI 5,vS x7,vS (bs []),vI 0,vI 0,vI 0,vB false,vL tNode ([s6.2,j23.2]:List Node) .shut,vI x8]) [vI 5,vS x7,vS (bs []),vI 0,vI 0,vI 0,vB false,vL tNode ([s6.2,j23.2]:List Node) .shut,vI x8] 2 H K rfl fun st K fr H=>?_
    refine qe ?_
    exact hq _ _ (sj hr).symm _ _ _ ⟨rfl,j23q,H.tq,((((((K.keep [true,false,true,true]).front 2 rfl)).front 1 rfl)).front 2 rfl)⟩
   intro r24 r24s hr
   rintro e fr st ⟨rfl,r24q,H,K⟩
   exact hq _ _ (sj hr).symm r24q _ _ _ (e_retV [aN r24] H K (fun _=>resC id1 0 24 [vI r24.kind,vS r24.name,vS r24.other,vI r24.n,vI r24.len,vI r24.init,vB r24.ghost,vL tNode r24.kids .shut,vI r24.pos] 1 (by kernel_rfl) rfl (by kernel_rfl) resN) ((K).keep [true,false]))
  ·intro s r s2 hr st rs i0 p K
   change F102_step (F223 n) (F199 n) (F167 n) (F102 n) (F67 n) n s = some (r,s2) at hr
   unfold F102_step at hr
   refine R_panX (ew:=encW) (enc:=fun v (q:Spare)=>aN v) (post:=fun s (q:Spare)=>.rd i0 87 q (rdC s q) :: rs) [(0,.ptr i0 0)] Tryz.func102 rfl rfl fun fr Q H hp hq=>?_
   refine W_seq (W_reg ?_)
   refine qal 24 [vI 0,vS (bs []),vS (bs []),vI 0,vI 0,vI 0,vB false,vL tNode ([]:List Node) .nil,vI 0] H K fun id1 st K fr H=>?_
   refine qe ?_
   refine W_seq (W_reg ?_)
   refine qg 1 [(6,.ptr i0 0)] H fun fr H=>?_
   refine qp [] [] hr (fun a s h=>ih_F167 _ _ a s h (K.front 1 rfl)) K H (fun e s h q st K=>hp e s h q _ _ (K.keep [true,false])) fun x2 s4 hr sp3 st K fr H=>?_
   refine qal 24 [vI 0,vS (bs []),vS (bs []),vI 0,vI 0,vI 0,vB false,vL tNode ([]:List Node) .nil,vI 0] H K fun id5 st K fr H=>?_
   refine qst 24 0 (aN x2) [vI x2.kind,vS x2.name,vS x2.other,vI x2.n,vI x2.len,vI x2.init,vB x2.ghost,vL tNode x2.kids .shut,vI x2.pos] 0 H K rfl fun st K fr H=>?_
   refine qe ?_
   refine W_seq (W_reg ?_)
   refine qg 1 [(8,.ptr i0 0)] H fun fr H=>?_
   refine ql hr (fun x h=>F91_R  _ x h (K.front 1 rfl)) H fun x6 hr fr H=>?_
   refine qg 1 [(4,vI x6)] H fun fr H=>?_
   refine qe ?_
   refine W_seq (W_seq ?_)
   refine W_reg ?_
   refine qg 1 [(10,.ptr i0 0)] H fun fr H=>?_
   refine qp [] [] hr (fun a s h=>F88_R  _ _ a s h (K.front 1 rfl)) K H (fun e s h q st K=>hp e s h q _ _ (K.keep [true,false,false])) fun x7 s9 hr sp8 st K fr H=>?_
   refine qg 1 [(12,vB !x7)] H fun fr H=>?_
   refine qe ?_
   rcases csplit hr with ⟨hc10,hr⟩ | ⟨hc10,hr⟩
   ·refine qT H hc10 ?_
    refine W_seq (W_reg ?_)
    refine qld 24 0 (aN x2) 1 H K rfl fun fr H=>?_
    refine qst 24 0 (aN x2) [vI x2.kind,vS x2.name,vS x2.other,vI x2.n,vI x2.len,vI x2.init,vB x2.ghost,vL tNode x2.kids .shut,vI x2.pos] 2 H K rfl fun st K fr H=>?_
    refine qe ?_
    refine W_ret ?_
    exact hq _ _ (sj hr).symm sp8 _ _ _ (e_retV [aN x2] H K (fun _=>resC id1 0 24 [vI x2.kind,vS x2.name,vS x2.other,vI x2.n,vI x2.len,vI x2.init,vB x2.ghost,vL tNode x2.kids .shut,vI x2.pos] 2 (by kernel_rfl) rfl (by kernel_rfl) resN) ((K).keep [true,false,false]))
   refine qF H hc10 ?_
   refine W_skip ?_
   refine W_seq (W_reg ?_)
   refine qg 1 [(14,.ptr i0 0)] H fun fr H=>?_
   refine qp [] [] hr (fun a s h=>ih_F102 _ a s h K) K H (fun e s h q st K=>hp e s h q _ _ (K.keep [true,false,false])) fun x11 s13 hr sp12 st K fr H=>?_
   refine qal 24 [vI 0,vS (bs []),vS (bs []),vI 0,vI 0,vI 0,vB false,vL tNode ([]:List Node) .nil,vI 0] H K fun id14 st K fr H=>?_
   refine qst 24 0 (aN x11) [vI x11.kind,vS x11.name,vS x11.other,vI x11.n,vI x11.len,vI x11.init,vB x11.ghost,vL tNode x11.kids .shut,vI x11.pos] 0 H K rfl fun st K fr H=>?_
   refine qe ?_
   refine W_seq (W_reg ?_)
   refine qg 1 [(16,.ptr i0 0)] H fun fr H=>?_
   refine qp [] [] hr (fun a s h=>F93_R  _ _ a s h (K.front 1 rfl)) K H (fun e s h q st K=>hp e s h q _ _ (K.keep [true,false,false,false])) fun x15 s17 hr sp16 st K fr H=>?_
   refine qe ?_
   refine W_seq (W_drw ?_)
   refine qld 24 0 (aN x2) 2 H K rfl fun fr H=>?_
   refine qld 24 0 (aN x11) 1 H K rfl fun fr H=>?_
   refine qg 1 [(20,.ptr i0 0)] H fun fr H=>?_
   refine qp [1,2,3] [1,2,3] hr (fun a s h=>ih_F102 _ a s h K) K H (fun e s h q st K=>qdP K [.look (some 2),.look (some 1),0] (hp e s h q _ _ (K.keep [true,false,false,false]))) fun x18 s20 hr sp19 st K fr H=>?_
   refine qv (.buildSlice 22 3 [(0,aN x2),(1,aN x11),(2,aN x18)]) H (run_bslice (v:=vL tNode ([x2,x11,x18]:List Node) .full) (v0:=.slice [aN x2,aN x11,aN x18] .full) (by kernel_rfl) (by simp only [List.map,vL,tNode_e,eNode_eq,cNode] <;> rfl)) fun fr H=>?_
   refine qg 2 [(24,.agg [vI 6,vS (bs []),vS (bs []),vI 0,vI 0,vI 0,vB false,vL tNode ([x2,x11,x18]:List Node) .shut,vI x6])] H fun fr H=>?_
   refine qst 24 0 (.agg [vI 6,vS (bs []),vS (bs []),vI 0,vI 0,vI 0,vB false,vL tNode ([x2,x11,x18]:List Node) .shut,vI x6]) [vI 6,vS (bs []),vS (bs []),vI 0,vI 0,vI 0,vB false,vL tNode ([x2,x11,x18]:List Node) .shut,vI x6] 3 H K rfl fun st K fr H=>?_
   refine qe (qdI K [.look (some 2),.look (some 1),0,.keep [1,2,3],0,0,0,.put 3] ?_)
   refine W_ret ?_
   exact hq _ _ (sj hr).symm sp19 _ _ _ (e_retV [.agg [vI 6,vS (bs []),vS (bs []),vI 0,vI 0,vI 0,vB false,vL tNode ([x2,x11,x18]:List Node) .shut,vI x6]] H K (fun _=>resC id1 0 24 [vI 6,vS (bs []),vS (bs []),vI 0,vI 0,vI 0,vB false,vL tNode ([x2,x11,x18]:List Node) .shut,vI x6] 3 (by kernel_rfl) rfl (by kernel_rfl) resN) ((K).keep [true,false,false,false]))
  ·intro s r s2 hr st rs i0 p K
   change F67_step (F223 n) (F199 n) (F167 n) (F102 n) (F67 n) n s = some (r,s2) at hr
   unfold F67_step at hr
   refine R_panX (ew:=encW) (enc:=fun v (q:Spare)=>aN v) (post:=fun s (q:Spare)=>.rd i0 87 q (rdC s q) :: rs) [(0,.ptr i0 0)] Tryz.func67 rfl rfl fun fr Q H hp hq=>?_
   refine W_seq (W_reg ?_)
   refine qal 24 [vI 0,vS (bs []),vS (bs []),vI 0,vI 0,vI 0,vB false,vL tNode ([]:List Node) .nil,vI 0] H K fun id1 st K fr H=>?_
   refine qe ?_
   refine W_seq (W_reg ?_)
   refine qg 1 [] H fun fr H=>?_
   refine qe ?_
   refine W_seq ?_
   refine W_viaP (fun j8 j8s e fr st=>match j8 with | .inl j8a=>(e = .normal∧∃ (j8aq:Spare),Rd fr [(0,.ptr i0 0),(2,.ptr id1 0),(3,vI j8a)]∧HL st (.obj id1 (.cells 24 [vI 0,vS (bs []),vS (bs []),vI 0,vI 0,vI 0,vB false,vL tNode ([]:List Node) .nil,vI 0]) :: .rd i0 87 j8aq (rdC j8s j8aq) :: rs)) | .inr j8b=>(e = .ret∧∃ (j8bq:Spare),Rd fr [(2,.ptr id1 0)]∧HL st (.rd i0 87 j8bq (rdC j8s j8bq) :: .obj id1 (.cells 24 [vI j8b.kind,vS j8b.name,vS j8b.other,vI j8b.n,vI j8b.len,vI j8b.init,vB j8b.ghost,vL tNode j8b.kids .shut,vI j8b.pos]) :: rs))) hr hp ?_ ?_
   ·intro y Q hr hp hq
    refine W_seq (W_reg ?_)
    refine qg 1 [(5,.ptr i0 0)] H fun fr H=>?_
    refine ql hr (fun x h=>F101_R  _ x h (K.front 1 rfl)) H fun x2 hr fr H=>?_
    refine qe ?_
    refine W_block ?_
    refine W_seq (W_reg ?_)
    refine qg 2 [(9,vB (strEq x2 (bs [97,108,108])))] H fun fr H=>?_
    refine qe ?_
    rcases csplit hr with ⟨hc3,hr⟩ | ⟨hc3,hr⟩
    ·refine qT H hc3 ?_
     refine W_reg ?_
     refine qg 1 [(3,vI 7)] H fun fr H=>?_
     refine qe ?_
     exact hq _ _ (sj hr).symm _ _ _ ⟨rfl,p,H.tq,K⟩
    refine qF H hc3 ?_
    refine W_seq (W_reg ?_)
    refine qg 2 [(11,vB (strEq x2 (bs [115,111,109,101])))] H fun fr H=>?_
    refine qe ?_
    rcases csplit hr with ⟨hc4,hr⟩ | ⟨hc4,hr⟩
    ·refine qT H hc4 ?_
     refine W_reg ?_
     refine qg 1 [(3,vI 8)] H fun fr H=>?_
     refine qe ?_
     exact hq _ _ (sj hr).symm _ _ _ ⟨rfl,p,H.tq,K⟩
    refine qF H hc4 ?_
    refine W_seq (W_reg ?_)
    refine qg 1 [(7,.ptr i0 0)] H fun fr H=>?_
    refine qp [] [] hr (fun a s h=>ih_F102 _ a s h (K.front 1 rfl)) K H (fun e s h q st K=>hp e s h q _ _ (K.keep [true,false])) fun x5 s7 hr sp6 st K fr H=>?_
    refine qst 24 0 (aN x5) [vI x5.kind,vS x5.name,vS x5.other,vI x5.n,vI x5.len,vI x5.init,vB x5.ghost,vL tNode x5.kids .shut,vI x5.pos] 1 H K rfl fun st K fr H=>?_
    refine qe ?_
    refine W_ret ?_
    exact hq _ _ (sj hr).symm _ _ _ ⟨rfl,sp6,H.tq,K⟩
   intro j8 j8s hr
   rcases j8 with j8a | j8b
   ·rintro e fr st ⟨rfl,j8aq,H,K⟩
    refine W_seq (W_reg ?_)
    refine qg 2 [(13,vI j8a),(14,.ptr i0 0)] H fun fr H=>?_
    refine ql hr (fun x h=>F91_R  _ x h (K.front 1 rfl)) H fun x9 hr fr H=>?_
    refine qg 1 [(16,.agg [vI j8a,vS (bs []),vS (bs []),vI 0,vI 0,vI 0,vB false,vL tNode ([]:List Node) .nil,vI x9])] H fun fr H=>?_
    refine qal 24 [vI 0,vS (bs []),vS (bs []),vI 0,vI 0,vI 0,vB false,vL tNode ([]:List Node) .nil,vI 0] H K fun id10 st K fr H=>?_
    refine qst 24 0 (.agg [vI j8a,vS (bs []),vS (bs []),vI 0,vI 0,vI 0,vB false,vL tNode ([]:List Node) .nil,vI x9]) [vI j8a,vS (bs []),vS (bs []),vI 0,vI 0,vI 0,vB false,vL tNode ([]:List Node) .nil,vI x9] 0 H K rfl fun st K fr H=>?_
    refine qe ?_
    refine W_seq (W_reg ?_)
    refine qg 3 [(17,.ptr i0 0),(19,.ptr i0 1)] H fun fr H=>?_
    refine qldR 3 1 (vI j8s.next) 2 H K rfl fun fr H=>?_
    refine qg 3 [(21,vI (w64 (j8s.next + 1))),(23,.ptr i0 1)] H fun fr H=>?_
    refine qstR 3 1 (vI (w64 (j8s.next + 1))) (rdC (j8s.setNext (w64 (j8s.next + 1))) j8aq) 2 H K rfl fun st K fr H=>?_
    refine qe ?_
    refine W_seq (W_reg ?_)
    refine qg 1 [(24,.ptr i0 0)] H fun fr H=>?_
    refine qp [] [] hr (fun a s h=>F92_R  _ a s h (K.front 2 rfl)) K H (fun e s h q st K=>hp e s h q _ _ (K.keep [true,false,false])) fun x11 s13 hr sp12 st K fr H=>?_
    refine qg 1 [(26,.ptr id10 1)] H fun fr H=>?_
    refine qst 9 1 (vS x11) [vI j8a,vS x11,vS (bs []),vI 0,vI 0,vI 0,vB false,vL tNode ([]:List Node) .nil,vI x9] 1 H K rfl fun st K fr H=>?_
    refine qe ?_
    refine W_seq (W_reg ?_)
    refine qg 1 [(27,.ptr i0 0)] H fun fr H=>?_
    refine qp [] [] hr (fun a s h=>F93_R  _ _ a s h K) K H (fun e s h q st K=>hp e s h q _ _ (K.keep [true,false,false])) fun x14 s16 hr sp15 st K fr H=>?_
    refine qe ?_
    refine W_seq (W_reg ?_)
    refine qg 1 [(29,.ptr i0 0)] H fun fr H=>?_
    refine qp [] [] hr (fun a s h=>F103_R  _ a s h K) K H (fun e s h q st K=>hp e s h q _ _ (K.keep [true,false,false])) fun x17 s19 hr sp18 st K fr H=>?_
    refine qg 1 [(31,.ptr id10 3)] H fun fr H=>?_
    refine qst 3 3 (vI x17) [vI j8a,vS x11,vS (bs []),vI x17,vI 0,vI 0,vB false,vL tNode ([]:List Node) .nil,vI x9] 1 H K rfl fun st K fr H=>?_
    refine qe ?_
    refine W_seq (W_reg ?_)
    refine qg 1 [(32,.ptr i0 0)] H fun fr H=>?_
    refine qp [] [] hr (fun a s h=>F93_R  _ _ a s h K) K H (fun e s h q st K=>hp e s h q _ _ (K.keep [true,false,false])) fun x20 s22 hr sp21 st K fr H=>?_
    refine qe ?_
    refine W_seq (W_reg ?_)
    refine qg 1 [(34,.ptr i0 0)] H fun fr H=>?_
    refine qp [] [] hr (fun a s h=>ih_F67 _ a s h K) K H (fun e s h q st K=>hp e s h q _ _ (K.keep [true,false,false])) fun x23 s25 hr sp24 st K fr H=>?_
    refine qv (.buildSlice 22 1 [(0,aN x23)]) H (run_bslice (v:=vL tNode ([x23]:List Node) .full) (v0:=.slice [aN x23] .full) (by kernel_rfl) (by simp only [List.map,vL,tNode_e,eNode_eq,cNode] <;> rfl)) fun fr H=>?_
    refine qg 1 [(37,.ptr id10 7)] H fun fr H=>?_
    refine qst 22 7 (vL tNode ([x23]:List Node) .full) [vI j8a,vS x11,vS (bs []),vI x17,vI 0,vI 0,vB false,vL tNode ([x23]:List Node) .full,vI x9] 1 H K rfl fun st K fr H=>?_
    refine qe ?_
    refine W_seq (W_reg ?_)
    refine qld 24 0 (.agg [vI j8a,vS x11,vS (bs []),vI x17,vI 0,vI 0,vB false,vL tNode ([x23]:List Node) .shut,vI x9]) 1 H K rfl fun fr H=>?_
    refine qst 24 0 (.agg [vI j8a,vS x11,vS (bs []),vI x17,vI 0,vI 0,vB false,vL tNode ([x23]:List Node) .shut,vI x9]) [vI j8a,vS x11,vS (bs []),vI x17,vI 0,vI 0,vB false,vL tNode ([x23]:List Node) .shut,vI x9] 2 H K rfl fun st K fr H=>?_
    refine qe ?_
    refine W_ret ?_
    exact hq _ _ (sj hr).symm sp24 _ _ _ (e_retV [.agg [vI j8a,vS x11,vS (bs []),vI x17,vI 0,vI 0,vB false,vL tNode ([x23]:List Node) .shut,vI x9]] H K (fun _=>resC id1 0 24 [vI j8a,vS x11,vS (bs []),vI x17,vI 0,vI 0,vB false,vL tNode ([x23]:List Node) .shut,vI x9] 2 (by kernel_rfl) rfl (by kernel_rfl) resN) ((K).keep [true,false,false]))
   rintro e fr st ⟨rfl,j8bq,H,K⟩
   exact hq _ _ (sj hr).symm j8bq _ _ _ (e_retV [aN j8b] H K (fun _=>resC id1 0 24 [vI j8b.kind,vS j8b.name,vS j8b.other,vI j8b.n,vI j8b.len,vI j8b.init,vB j8b.ghost,vL tNode j8b.kids .shut,vI j8b.pos] 1 (by kernel_rfl) rfl (by kernel_rfl) resN) ((K).keep [true,false]))
theorem F223_R (n:Nat) (s:RS) (r:Node ⊕ Bad) (s2:RS) (hr:F223 n s = some (r,s2)) {st:St} {rs:List Res} {i0:Nat} {p:Spare} (K:HL st (.rd i0 87 p (rdC s p) :: rs)):∃ (q:Spare) (st':St),R Tryz.prog AN 223 [.ptr i0 0] st (gotE encW (fun v=>aN v) r) st'∧HL st' (.rd i0 87 q (rdC s2 q) :: rs):=(F223_RR n).1 s r s2 hr K
theorem F67_R (n:Nat) (s:RS) (r:Node ⊕ Bad) (s2:RS) (hr:F67 n s = some (r,s2)) {st:St} {rs:List Res} {i0:Nat} {p:Spare} (K:HL st (.rd i0 87 p (rdC s p) :: rs)):∃ (q:Spare) (st':St),R Tryz.prog AN 67 [.ptr i0 0] st (gotE encW (fun v=>aN v) r) st'∧HL st' (.rd i0 87 q (rdC s2 q) :: rs):=(F223_RR n).2.2.2.2 s r s2 hr K
def F66 (n:Nat) (s:RS):Option ((Node ⊕ Bad) × RS) :=
 pbind (F67 n s) fun x2 s4 =>
 bif decide (s4.next < (s4.toks.length:Int)) then
  (pbind (F68 s4) fun _ s9 =>
  some (.inl x2,s9))
 else
  (some (.inl x2,s4))
theorem F66_R (n:Nat) (s:RS) (r:Node ⊕ Bad) (s2:RS) (hr:F66 n s = some (r,s2)) {st:St} {rs:List Res} {i0 e0:Nat} {p:Spare} (K:HL st (.rd i0 87 p (rdC s p) :: .obj e0 (.cells 81 [.ptr i0 0]) :: rs)):∃ (q:Spare) (st':St),R Tryz.prog AN 66 [.ptr e0 0] st (gotE encW (fun v=>aN v) r) st'∧HL st' (.rd i0 87 q (rdC s2 q) :: .obj e0 (.cells 81 [.ptr i0 0]) :: rs):=by
 unfold F66 at hr
 refine R_panX (ew:=encW) (enc:=fun v (q:Spare)=>aN v) (post:=fun s (q:Spare)=>.rd i0 87 q (rdC s q) :: .obj e0 (.cells 81 [.ptr i0 0]) :: rs) [(0,.ptr e0 0)] Tryz.func66 rfl rfl fun fr Q H hp hq=>?_
 refine W_seq (W_reg ?_)
 refine qal 24 [vI 0,vS (bs []),vS (bs []),vI 0,vI 0,vI 0,vB false,vL tNode ([]:List Node) .nil,vI 0] H K fun id1 st K fr H=>?_
 refine qe ?_
 refine W_seq (W_reg ?_)
 refine qld 81 0 (.ptr i0 0) 2 H K rfl fun fr H=>?_
 refine qp [] [] hr (fun a s h=>F67_R n _ a s h (K.front 1 rfl)) K H (fun e s h q st K=>hp e s h q _ _ (K.keep [true,false,true])) fun x2 s4 hr sp3 st K fr H=>?_
 refine qal 24 [vI 0,vS (bs []),vS (bs []),vI 0,vI 0,vI 0,vB false,vL tNode ([]:List Node) .nil,vI 0] H K fun id5 st K fr H=>?_
 refine qst 24 0 (aN x2) [vI x2.kind,vS x2.name,vS x2.other,vI x2.n,vI x2.len,vI x2.init,vB x2.ghost,vL tNode x2.kids .shut,vI x2.pos] 0 H K rfl fun st K fr H=>?_
 refine qe ?_
 refine W_seq (W_seq ?_)
 refine W_drw ?_
 refine qld 81 0 (.ptr i0 0) 3 H K rfl fun fr H=>?_
 refine qg 2 [(7,.ptr i0 1)] H fun fr H=>?_
 refine qldR 3 1 (vI s4.next) 1 H K rfl fun fr H=>?_
 refine qld 81 0 (.ptr i0 0) 3 H K rfl fun fr H=>?_
 refine qg 2 [(11,.ptr i0 0)] H fun fr H=>?_
 refine qldR 56 0 (vL tToken s4.toks .shut) 1 H K rfl fun fr H=>?_
 refine qln tToken 56 s4.toks .shut H fun fr H=>?_
 refine qg 1 [(14,vB (decide (s4.next < (s4.toks.length:Int))))] H fun fr H=>?_
 refine qe (qd ?_)
 rcases csplit hr with ⟨hc6,hr⟩ | ⟨hc6,hr⟩
 rotate_left
 ·refine qF H hc6 ?_
  refine W_skip ?_
  refine W_seq (W_reg ?_)
  refine qld 24 0 (aN x2) 0 H K rfl fun fr H=>?_
  refine qst 24 0 (aN x2) [vI x2.kind,vS x2.name,vS x2.other,vI x2.n,vI x2.len,vI x2.init,vB x2.ghost,vL tNode x2.kids .shut,vI x2.pos] 2 H K rfl fun st K fr H=>?_
  refine qe ?_
  refine W_ret ?_
  exact hq _ _ (sj hr).symm sp3 _ _ _ (e_retV [aN x2] H K (fun _=>resC id1 0 24 [vI x2.kind,vS x2.name,vS x2.other,vI x2.n,vI x2.len,vI x2.init,vB x2.ghost,vL tNode x2.kids .shut,vI x2.pos] 2 (by kernel_rfl) rfl (by kernel_rfl) resN) ((((K).keep [false,true,false,true]).front 1 rfl).front 1 rfl))
 refine qT H hc6 ?_
 refine W_reg ?_
 refine qld 81 0 (.ptr i0 0) 3 H K rfl fun fr H=>?_
 refine qp [] [] hr (fun a s h=>F68_R  _ a s h (K.front 1 rfl)) K H (fun e s h q st K=>hp e s h q _ _ (K.keep [true,false,false,true])) fun x7 s9 hr sp8 st K fr H=>?_
 refine qe ?_
 refine W_seq (W_reg ?_)
 refine qld 24 0 (aN x2) 1 H K rfl fun fr H=>?_
 refine qst 24 0 (aN x2) [vI x2.kind,vS x2.name,vS x2.other,vI x2.n,vI x2.len,vI x2.init,vB x2.ghost,vL tNode x2.kids .shut,vI x2.pos] 2 H K rfl fun st K fr H=>?_
 refine qe ?_
 refine W_ret ?_
 exact hq _ _ (sj hr).symm sp8 _ _ _ (e_retV [aN x2] H K (fun _=>resC id1 0 24 [vI x2.kind,vS x2.name,vS x2.other,vI x2.n,vI x2.len,vI x2.init,vB x2.ghost,vL tNode x2.kids .shut,vI x2.pos] 2 (by kernel_rfl) rfl (by kernel_rfl) resN) ((((K).keep [true,false,false,true]).front 1 rfl).front 1 rfl))
def F96_step (F96:Node→Int→Int→Option (Bool × Int)) (n:Nat) (a0:Node) (a1:Int) (a2:Int):Option (Bool × Int) :=
 bif (decide (1500 < (w64 (a2 + 1)))) || (decide (40 < a1)) then
  (some (false,w64 (a2 + 1)))
 else
  ((iter (σ:=Int × Int) (ρ:=Int ⊕ Int) (fun s2=>bif decide (s2.1 < (a0.kids.length:Int)) then
    ((idxL a0.kids s2.1).bind fun x4 =>
    (F96 x4 (w64 (a1 + 1)) s2.2).bind fun x5 =>
    bif !x5.1 then
     (some (.inr (.inl x5.2)))
    else
     (some (.inl (w64 (s2.1 + 1),x5.2))))
   else
    (some (.inr (.inr s2.2)))) n ((0:Int),w64 (a2 + 1))).bind fun r7=>match r7 with
  | .inl r7a=>some (false,r7a)
  | .inr r7b=>some (true,r7b))
def F96:Nat→Node→Int→Int→Option (Bool × Int)
 | 0,_,_,_=>none
 | n + 1,a0,a1,a2=>F96_step (F96 n) n a0 a1 a2
theorem F96_RR (n:Nat):(∀ (a0:Node) (a1:Int) (a2:Int) (r:Bool × Int),F96 n a0 a1 a2 = some r→∀ {st:St} {rs:List Res} {i0 i1:Nat} {p0:Spare} (_:HL st (.obj i0 (.cells 3 [vI a2]) :: .obj i1 (.cells 124 [.fn 96 [] [.ptr i0 0,.ptr i1 0]]) :: rs)),RG Tryz.prog AN 96 [.cptr (cNode p0 a0) 0,vI a1,.ptr i0 0,.ptr i1 0] st (.ret (vB r.1)) fun (_:Unit)=>(.obj i0 (.cells 3 [vI r.2]) :: .obj i1 (.cells 124 [.fn 96 [] [.ptr i0 0,.ptr i1 0]]) :: rs)):=by
 induction n with
 | zero=>(intros; contradiction)
 | succ n ih =>
  have ih_F96:=@ih; clear ih
  intro a0 a1 a2 r hr st rs i0 i1 p0 K
  change F96_step (F96 n) n a0 a1 a2 = some r at hr
  unfold F96_step at hr
  refine R_heapX [(0,.cptr (cNode p0 a0) 0),(1,vI a1),(2,.ptr i0 0),(3,.ptr i1 0)] Tryz.func96 rfl rfl fun fr H=>?_
  refine W_seq (W_reg ?_)
  refine qg 1 [] H fun fr H=>?_
  refine qe ?_
  refine W_seq (W_reg ?_)
  refine qld 3 0 (vI a2) 0 H K rfl fun fr H=>?_
  refine qg 1 [(9,vI (w64 (a2 + 1)))] H fun fr H=>?_
  refine qst 3 0 (vI (w64 (a2 + 1))) [vI (w64 (a2 + 1))] 0 H K rfl fun st K fr H=>?_
  refine qe ?_
  refine W_seq (W_seq ?_)
  refine W_reg ?_
  refine qld 3 0 (vI (w64 (a2 + 1))) 0 H K rfl fun fr H=>?_
  refine qg 2 [(12,vB (decide (1500 < (w64 (a2 + 1)))))] H fun fr H=>?_
  refine qg 3 [(15,vB ((decide (1500 < (w64 (a2 + 1)))) || (decide (40 < a1))))] H (hs:=by intro _ _; generalize (decide (1500 < (w64 (a2 + 1)))) = b0; cases b0 <;> kernel_rfl) fun fr H=>?_
  refine qe ?_
  rcases csplit hr with ⟨hc1,hr⟩ | ⟨hc1,hr⟩
  ·refine qT H hc1 ?_
   refine W_seq (W_reg ?_)
   refine qg 1 [(6,vB false)] H fun fr H=>?_
   refine qe ?_
   refine W_ret ?_
   obtain rfl:=Option.some.inj hr
   exact e_retH [vB false] H K (fun _=>resT (by kernel_rfl) resN) rfl () (K.keep [true,true])
  refine qF H hc1 ?_
  refine W_skip ?_
  refine W_seq (W_seq ?_)
  refine W_reg ?_
  refine qg 4 [(19,vL tNode a0.kids p0)] H fun fr H=>?_
  refine qln tNode 22 a0.kids p0 H fun fr H=>?_
  refine qg 1 [(21,vI 0)] H fun fr H=>?_
  refine qe ?_
  refine W_block ?_
  obtain ⟨r7,hr7,hr⟩:=obind hr
  refine W_iter hr7 (fun (s2:Int × Int) fr st=>Rd fr [(0,.cptr (cNode p0 a0) 0),(1,vI a1),(3,.ptr i1 0),(20,vI (a0.kids.length:Int)),(21,vI s2.1)]∧HL st (.obj i0 (.cells 3 [vI s2.2]) :: .obj i1 (.cells 124 [.fn 96 [] [.ptr i0 0,.ptr i1 0]]) :: rs)) (fun (r7:Int ⊕ Int) e fr st=>match r7 with | .inl r7a=>(e = .ret∧Rd fr [(6,vB false)]∧HL st (.obj i0 (.cells 3 [vI r7a]) :: .obj i1 (.cells 124 [.fn 96 [] [.ptr i0 0,.ptr i1 0]]) :: rs)) | .inr r7b=>(e = .exit 0∧Rd fr []∧HL st (.obj i0 (.cells 3 [vI r7b]) :: .obj i1 (.cells 124 [.fn 96 [] [.ptr i0 0,.ptr i1 0]]) :: rs))) ⟨H.tq,K.keep [true,true]⟩ ?_ ?_
  ·intro s2 fr st r hi hr
   obtain ⟨H,K⟩:=hi
   refine W_seq (W_reg ?_)
   refine qg 1 [(22,vB (decide (s2.1 < (a0.kids.length:Int))))] H fun fr H=>?_
   refine qe ?_
   refine W_seq ?_
   rcases csplit hr with ⟨hc3,hr⟩ | ⟨hc3,hr⟩
   rotate_left
   ·refine qF H hc3 ?_
    refine W_exit ?_
    obtain rfl:=Option.some.inj hr
    exact ⟨by simp,⟨rfl,H.tq,K.keep [true,true]⟩⟩
   refine qT H hc3 ?_
   refine W_skip ?_
   refine W_seq (W_block ?_)
   refine W_seq (W_reg ?_)
   refine qg 2 [(7,vI s2.1)] H fun fr H=>?_
   refine qe ?_
   refine W_seq (W_drw ?_)
   refine qld 124 0 (.fn 96 [] [.ptr i0 0,.ptr i1 0]) 1 H K rfl fun fr H=>?_
   refine qg 5 [(28,vL tNode a0.kids p0),(29,vI s2.1)] H fun fr H=>?_
   refine qix tNode 22 p0 hr H fun x4 hr hx4 fr H=>?_
   refine qg 2 [(32,vI (w64 (a1 + 1)))] H fun fr H=>?_
   refine qib [] [] hr (fun x h=>ih_F96 _ _ _ x h (i0:=i0) (i1:=i1) (p0:=.shut) ((K.front 1 rfl).front 1 rfl)) K H fun x5 hr _ st K fr H=>?_
   refine qg 1 [(34,vB !x5.1)] H fun fr H=>?_
   refine qe (qd ?_)
   rcases csplit hr with ⟨hc6,hr⟩ | ⟨hc6,hr⟩
   ·refine qT H hc6 ?_
    refine W_seq (W_reg ?_)
    refine qg 1 [(6,vB false)] H fun fr H=>?_
    refine qe ?_
    refine W_ret ?_
    obtain rfl:=Option.some.inj hr
    exact ⟨by simp,⟨rfl,H.tq,K.keep [true,true]⟩⟩
   refine qF H hc6 ?_
   refine W_skip ?_
   refine W_reg ?_
   refine qg 2 [(21,vI (w64 (s2.1 + 1)))] H fun fr H=>?_
   refine qe ?_
   obtain rfl:=Option.some.inj hr
   exact ⟨rfl,⟨H.tq,K.keep [true,true]⟩⟩
  rcases r7 with r7a | r7b
  ·rintro e fr st ⟨rfl,H,K⟩
   obtain rfl:=Option.some.inj hr
   exact e_retH [vB false] H K (fun _=>resT (by kernel_rfl) resN) rfl () (K.keep [true,true])
  rintro e fr st ⟨rfl,H,K⟩
  refine W_seq (W_reg ?_)
  refine qg 1 [(6,vB true)] H fun fr H=>?_
  refine qe ?_
  refine W_ret ?_
  obtain rfl:=Option.some.inj hr
  exact e_retH [vB true] H K (fun _=>resT (by kernel_rfl) resN) rfl () (K.keep [true,true])
theorem F96_R (n:Nat) (a0:Node) (a1:Int) (a2:Int) (r:Bool × Int) (hr:F96 n a0 a1 a2 = some r) {st:St} {rs:List Res} {i0 i1:Nat} {p0:Spare} (K:HL st (.obj i0 (.cells 3 [vI a2]) :: .obj i1 (.cells 124 [.fn 96 [] [.ptr i0 0,.ptr i1 0]]) :: rs)):RG Tryz.prog AN 96 [.cptr (cNode p0 a0) 0,vI a1,.ptr i0 0,.ptr i1 0] st (.ret (vB r.1)) fun (_:Unit)=>(.obj i0 (.cells 3 [vI r.2]) :: .obj i1 (.cells 124 [.fn 96 [] [.ptr i0 0,.ptr i1 0]]) :: rs):=(F96_RR n) a0 a1 a2 r hr K
def F59 (n:Nat) (a0:Node):Option Bool :=
 (F96 n a0 (1:Int) (0:Int)).bind fun x3 =>
 some x3.1
theorem F59_R (n:Nat) (a0:Node) (r:Bool) (hr:F59 n a0 = some r) {st:St} {p0:Spare}:R Tryz.prog AN 59 [.agg (cNode p0 a0)] st (.ret (vB r)) st:=by
 unfold F59 at hr
 refine R_pureX [aN a0] [(0,aN a0)] Tryz.func59 rfl (by simp only [strip,stripL,stripL_cNode,Option.bind_some,Option.map_some]) rfl fun fr st H K=>?_
 refine W_seq (W_reg ?_)
 refine qg 2 [(1,cN a0 0)] H fun fr H=>?_
 refine qe ?_
 refine W_seq (W_reg ?_)
 refine qal 3 [vI 0] H K fun id1 st K fr H=>?_
 refine qst 3 0 (vI 0) [vI 0] 0 H K rfl fun st K fr H=>?_
 refine qe ?_
 refine W_seq (W_reg ?_)
 refine qal 124 [.sc .nilFunc] H K fun id2 st K fr H=>?_
 refine qe ?_
 refine W_seq (W_reg ?_)
 refine qg 1 [(5,.fn 96 [] [.ptr id1 0,.ptr id2 0])] H fun fr H=>?_
 refine qst 124 0 (.fn 96 [] [.ptr id1 0,.ptr id2 0]) [.fn 96 [] [.ptr id1 0,.ptr id2 0]] 0 H K rfl fun st K fr H=>?_
 refine qe ?_
 refine W_seq (W_reg ?_)
 refine qld 124 0 (.fn 96 [] [.ptr id1 0,.ptr id2 0]) 0 H K rfl fun fr H=>?_
 refine qib [] [] hr (fun x h=>F96_R n _ _ _ x h (i0:=id1) (i1:=id2) (p0:=.shut) ((K.front 0 rfl).front 1 rfl)) K H fun x3 hr _ st K fr H=>?_
 refine qg 1 [(2,vB x3.1)] H fun fr H=>?_
 refine qe ?_
 refine W_ret ?_
 obtain rfl:=Option.some.inj hr
 exact qr [vB x3.1] H K
end Go.Proofs.YtbecjgckobhmpaaGreatDoor
end
section
namespace Go.Proofs.YtbecjgckobhmpaaGreatDoor
open Go Go.AM Go.Proofs
set_option maxRecDepth 100000
set_option maxHeartbeats 4000000
def F29 (n:Nat) (a0:ByteArray):Option (Node × (List Diag)) :=
 (F55 n a0).bind fun x2 =>
 bif x2.2.1 != 0 then
  (some ((Node.mk 0 (bs []) (bs []) 0 0 0 false ([]:List Node) 0),([(Diag.mk x2.2.1 x2.2.2)]:List Diag)))
 else
  ((guardF (F66 n (RS.mk x2.1 0 (a0.size:Int) 0 []))).bind fun x6 =>
  bif x6.1.2.1 != 0 then
   (some ((Node.mk 0 (bs []) (bs []) 0 0 0 false ([]:List Node) 0),([(Diag.mk x6.1.2.1 x6.1.2.2)]:List Diag)))
  else
   ((F59 n x6.1.1).bind fun x11 =>
   bif !x11 then
    (some ((Node.mk 0 (bs []) (bs []) 0 0 0 false ([]:List Node) 0),([(Diag.mk 2 0)]:List Diag)))
   else
    (some (x6.1.1,([]:List Diag)))))
theorem F29_R (n:Nat) (a0:ByteArray) (r:Node × (List Diag)) (hr:F29 n a0 = some r) {st:St}:R Tryz.prog AN 29 [vS a0] st (.ret (.tuple [aN r.1,vL tDiag r.2 .shut])) st:=by
 unfold F29 at hr
 refine R_pureX [vS a0] [(0,vS a0)] Tryz.func29 rfl (by kernel_rfl) rfl fun fr st H K=>?_
 refine W_seq (W_reg ?_)
 refine qal 24 [vI 0,vS (bs []),vS (bs []),vI 0,vI 0,vI 0,vB false,vL tNode ([]:List Node) .nil,vI 0] H K fun id1 st K fr H=>?_
 refine qg 1 [] H fun fr H=>?_
 refine qe ?_
 refine W_seq (W_reg ?_)
 refine qg 1 [(11,vS a0)] H fun fr H=>?_
 refine qb hr (fun x h s=>F55_R n _ x h) H fun x2 hr fr H=>?_
 refine qg 7 [(4,vL tToken x2.1 .shut),(5,vI x2.2.1),(6,vI x2.2.2)] H fun fr H=>?_
 refine qe ?_
 refine W_seq (W_seq ?_)
 refine W_reg ?_
 refine qg 2 [(17,vB (x2.2.1 != 0))] H fun fr H=>?_
 refine qe ?_
 rcases csplit hr with ⟨hc3,hr⟩ | ⟨hc3,hr⟩
 ·refine qT H hc3 ?_
  refine W_seq (W_reg ?_)
  refine qg 4 [(18,.agg [vI 0,vS (bs []),vS (bs []),vI 0,vI 0,vI 0,vB false,vL tNode ([]:List Node) .nil,vI 0]),(21,.agg [vI x2.2.1,vI x2.2.2])] H fun fr H=>?_
  refine qbs tDiag 37 ([(Diag.mk x2.2.1 x2.2.2)]:List Diag) H fun fr H=>?_
  refine qst 24 0 (.agg [vI 0,vS (bs []),vS (bs []),vI 0,vI 0,vI 0,vB false,vL tNode ([]:List Node) .nil,vI 0]) [vI 0,vS (bs []),vS (bs []),vI 0,vI 0,vI 0,vB false,vL tNode ([]:List Node) .nil,vI 0] 0 H K rfl fun st K fr H=>?_
  refine qg 1 [(3,vL tDiag ([(Diag.mk x2.2.1 x2.2.2)]:List Diag) .full)] H fun fr H=>?_
  refine qe ?_
  refine W_ret ?_
  obtain rfl:=Option.some.inj hr
  exact e_ret [.agg [vI 0,vS (bs []),vS (bs []),vI 0,vI 0,vI 0,vB false,vL tNode ([]:List Node) .shut,vI 0],vL tDiag ([(Diag.mk x2.2.1 x2.2.2)]:List Diag) .full] H K (fun _=>resC id1 0 24 [vI 0,vS (bs []),vS (bs []),vI 0,vI 0,vI 0,vB false,vL tNode ([]:List Node) .nil,vI 0] 0 (by kernel_rfl) rfl (by kernel_rfl) (resT (by kernel_rfl) resN)) (fun _=>by simp only [strip,stripL,stripL_ET,Option.bind_some,Option.map_some,oneOf] <;> rfl)
 refine qF H hc3 ?_
 refine W_skip ?_
 refine W_seq (W_reg ?_)
 refine qg 2 [(23,vS a0),(24,vL tToken x2.1 .shut)] H fun fr H=>?_
 refine qq (newReader_R x2.1 a0 K) H fun id4 st K fr H=>?_
 refine qal 81 [.sc (.pointer none)] H K fun id5 st K fr H=>?_
 refine qst 81 0 (.ptr id4 0) [.ptr id4 0] 0 H K rfl fun st K fr H=>?_
 refine qe ?_
 refine W_seq (W_reg ?_)
 refine qld 81 0 (.ptr id4 0) 0 H K rfl fun fr H=>?_
 refine qg 1 [(28,.fn 66 [] [.ptr id5 0])] H fun fr H=>?_
 refine qqb hr (fun x h=>guarded_R (g:=66) (first:=[]) (cap:=[.ptr id5 0]) h ((K.front 0 rfl).front 1 rfl) (fun a s hy st1 pre K=>by obtain ⟨q,st2,hR,K⟩:=F66_R n _ a s hy K.mid; exact ⟨q,st2,hR,K.unmid⟩)) H fun x6 hr sp7 st K fr H=>?_
 refine qg 3 [(30,aN x6.1.1),(31,.agg [vI x6.1.2.1,vI x6.1.2.2])] H fun fr H=>?_
 refine qal 24 [vI 0,vS (bs []),vS (bs []),vI 0,vI 0,vI 0,vB false,vL tNode ([]:List Node) .nil,vI 0] H K fun id8 st K fr H=>?_
 refine qal 95 [vI 0,vI 0] H K fun id9 st K fr H=>?_
 refine qst 24 0 (aN x6.1.1) [vI x6.1.1.kind,vS x6.1.1.name,vS x6.1.1.other,vI x6.1.1.n,vI x6.1.1.len,vI x6.1.1.init,vB x6.1.1.ghost,vL tNode x6.1.1.kids .shut,vI x6.1.1.pos] 1 H K rfl fun st K fr H=>?_
 refine qst 95 0 (.agg [vI x6.1.2.1,vI x6.1.2.2]) [vI x6.1.2.1,vI x6.1.2.2] 0 H K rfl fun st K fr H=>?_
 refine qe ?_
 refine W_seq (W_seq ?_)
 refine W_reg ?_
 refine qg 1 [(32,.ptr id9 0)] H fun fr H=>?_
 refine qld 27 0 (vI x6.1.2.1) 0 H K rfl fun fr H=>?_
 refine qg 1 [(34,vB (x6.1.2.1 != 0))] H fun fr H=>?_
 refine qe ?_
 rcases csplit hr with ⟨hc10,hr⟩ | ⟨hc10,hr⟩
 ·refine qT H hc10 ?_
  refine W_seq (W_drw ?_)
  refine qg 2 [(35,.agg [vI 0,vS (bs []),vS (bs []),vI 0,vI 0,vI 0,vB false,vL tNode ([]:List Node) .nil,vI 0]),(36,.ptr id9 0)] H fun fr H=>?_
  refine qld 27 0 (vI x6.1.2.1) 0 H K rfl fun fr H=>?_
  refine qg 1 [(38,.ptr id9 1)] H fun fr H=>?_
  refine qld 3 1 (vI x6.1.2.2) 0 H K rfl fun fr H=>?_
  refine qg 1 [(40,.agg [vI x6.1.2.1,vI x6.1.2.2])] H fun fr H=>?_
  refine qbs tDiag 37 ([(Diag.mk x6.1.2.1 x6.1.2.2)]:List Diag) H fun fr H=>?_
  refine qst 24 0 (.agg [vI 0,vS (bs []),vS (bs []),vI 0,vI 0,vI 0,vB false,vL tNode ([]:List Node) .nil,vI 0]) [vI 0,vS (bs []),vS (bs []),vI 0,vI 0,vI 0,vB false,vL tNode ([]:List Node) .nil,vI 0] 4 H K rfl fun st K fr H=>?_
  refine qg 1 [(3,vL tDiag ([(Diag.mk x6.1.2.1 x6.1.2.2)]:List Diag) .full)] H fun fr H=>?_
  refine qe (qdI K [0,0,.look (some 0),0,.look (some 0),0,0,.put 4,0] ?_)
  refine W_ret ?_
  obtain rfl:=Option.some.inj hr
  exact e_ret [.agg [vI 0,vS (bs []),vS (bs []),vI 0,vI 0,vI 0,vB false,vL tNode ([]:List Node) .shut,vI 0],vL tDiag ([(Diag.mk x6.1.2.1 x6.1.2.2)]:List Diag) .full] H K (fun _=>resC id1 0 24 [vI 0,vS (bs []),vS (bs []),vI 0,vI 0,vI 0,vB false,vL tNode ([]:List Node) .nil,vI 0] 4 (by kernel_rfl) rfl (by kernel_rfl) (resT (by kernel_rfl) resN)) (fun _=>by simp only [strip,stripL,stripL_ET,Option.bind_some,Option.map_some,oneOf] <;> rfl)
 refine qF H hc10 ?_
 refine W_skip ?_
 refine W_seq (W_seq ?_)
 refine W_reg ?_
 refine qld 24 0 (aN x6.1.1) 1 H K rfl fun fr H=>?_
 refine qb hr (fun x h s=>F59_R n _ x h (p0:=.shut)) H fun x11 hr fr H=>?_
 refine qg 1 [(44,vB !x11)] H fun fr H=>?_
 refine qe ?_
 rcases csplit hr with ⟨hc12,hr⟩ | ⟨hc12,hr⟩
 ·refine qT H hc12 ?_
  refine W_seq (W_reg ?_)
  refine qg 2 [(45,.agg [vI 0,vS (bs []),vS (bs []),vI 0,vI 0,vI 0,vB false,vL tNode ([]:List Node) .nil,vI 0]),(46,.agg [vI 2,vI 0])] H fun fr H=>?_
  refine qbs tDiag 37 ([(Diag.mk 2 0)]:List Diag) H fun fr H=>?_
  refine qst 24 0 (.agg [vI 0,vS (bs []),vS (bs []),vI 0,vI 0,vI 0,vB false,vL tNode ([]:List Node) .nil,vI 0]) [vI 0,vS (bs []),vS (bs []),vI 0,vI 0,vI 0,vB false,vL tNode ([]:List Node) .nil,vI 0] 4 H K rfl fun st K fr H=>?_
  refine qg 1 [(3,vL tDiag ([(Diag.mk 2 0)]:List Diag) .full)] H fun fr H=>?_
  refine qe ?_
  refine W_ret ?_
  obtain rfl:=Option.some.inj hr
  exact e_ret [.agg [vI 0,vS (bs []),vS (bs []),vI 0,vI 0,vI 0,vB false,vL tNode ([]:List Node) .shut,vI 0],vL tDiag ([(Diag.mk 2 0)]:List Diag) .full] H K (fun _=>resC id1 0 24 [vI 0,vS (bs []),vS (bs []),vI 0,vI 0,vI 0,vB false,vL tNode ([]:List Node) .nil,vI 0] 4 (by kernel_rfl) rfl (by kernel_rfl) (resT (by kernel_rfl) resN)) (fun _=>by simp only [strip,stripL,stripL_ET,Option.bind_some,Option.map_some,oneOf] <;> rfl)
 refine qF H hc12 ?_
 refine W_skip ?_
 refine W_seq (W_reg ?_)
 refine qld 24 0 (aN x6.1.1) 1 H K rfl fun fr H=>?_
 refine qst 24 0 (aN x6.1.1) [vI x6.1.1.kind,vS x6.1.1.name,vS x6.1.1.other,vI x6.1.1.n,vI x6.1.1.len,vI x6.1.1.init,vB x6.1.1.ghost,vL tNode x6.1.1.kids .shut,vI x6.1.1.pos] 4 H K rfl fun st K fr H=>?_
 refine qg 1 [(3,vL tDiag ([]:List Diag) .nil)] H fun fr H=>?_
 refine qe ?_
 refine W_ret ?_
 obtain rfl:=Option.some.inj hr
 exact e_ret [aN x6.1.1,vL tDiag ([]:List Diag) .nil] H K (fun _=>resC id1 0 24 [vI x6.1.1.kind,vS x6.1.1.name,vS x6.1.1.other,vI x6.1.1.n,vI x6.1.1.len,vI x6.1.1.init,vB x6.1.1.ghost,vL tNode x6.1.1.kids .shut,vI x6.1.1.pos] 4 (by kernel_rfl) rfl (by kernel_rfl) (resT (by kernel_rfl) resN)) (fun _=>by simp only [strip,stripL,stripL_cNode,stripL_ET,Option.bind_some,Option.map_some,oneOf] <;> rfl)
def F42 (n:Nat) (a0:List Diag) (a1:List Diag):Option Bool :=
 bif (a0.length:Int) != (a1.length:Int) then
  (some false)
 else
  ((iter (σ:=Int) (ρ:=Unit ⊕ Unit) (fun s2=>bif decide (s2 < (a0.length:Int)) then
    ((idxL a0 s2).bind fun x4 =>
    (idxL a1 s2).bind fun x5 =>
    bif !(diagEq x4 x5) then
     (some (.inr (.inl ())))
    else
     (some (.inl (w64 (s2 + 1)))))
   else
    (some (.inr (.inr ())))) n (0:Int)).bind fun r7=>match r7 with
  | .inl _=>some false
  | .inr _=>some true)
theorem F42_R (n:Nat) (a0:List Diag) (a1:List Diag) (r:Bool) (hr:F42 n a0 a1 = some r) {st:St} {p0 p1:Spare}:R Tryz.prog AN 42 [vL tDiag a0 p0,vL tDiag a1 p1] st (.ret (vB r)) st:=by
 unfold F42 at hr
 refine R_pureX [vL tDiag a0 .shut,vL tDiag a1 .shut] [(0,vL tDiag a0 .shut),(1,vL tDiag a1 .shut)] Tryz.func42 rfl (by simp only [strip,stripL,stripL_ET,Option.bind_some,Option.map_some]) rfl fun fr st H K=>?_
 refine W_seq (W_reg ?_)
 refine qg 1 [] H fun fr H=>?_
 refine qe ?_
 refine W_seq (W_seq ?_)
 refine W_reg ?_
 refine qg 1 [(6,vL tDiag a0 .shut)] H fun fr H=>?_
 refine qln tDiag 37 a0 .shut H fun fr H=>?_
 refine qg 1 [(8,vL tDiag a1 .shut)] H fun fr H=>?_
 refine qln tDiag 37 a1 .shut H fun fr H=>?_
 refine qg 1 [(10,vB ((a0.length:Int) != (a1.length:Int)))] H fun fr H=>?_
 refine qe ?_
 rcases csplit hr with ⟨hc1,hr⟩ | ⟨hc1,hr⟩
 ·refine qT H hc1 ?_
  refine W_seq (W_reg ?_)
  refine qg 1 [(4,vB false)] H fun fr H=>?_
  refine qe ?_
  refine W_ret ?_
  obtain rfl:=Option.some.inj hr
  exact qr [vB false] H K
 refine qF H hc1 ?_
 refine W_skip ?_
 refine W_seq (W_seq ?_)
 refine W_reg ?_
 refine qg 1 [(5,vI 0)] H fun fr H=>?_
 refine qe ?_
 refine W_block ?_
 obtain ⟨r7,hr7,hr⟩:=obind hr
 refine W_iter hr7 (fun (s2:Int) fr st=>Rd fr [(0,vL tDiag a0 .shut),(1,vL tDiag a1 .shut),(5,vI s2)]∧HL st []) (fun (r7:Unit ⊕ Unit) e fr st=>match r7 with | .inl r7a=>(e = .ret∧Rd fr [(4,vB false)]∧HL st []) | .inr r7b=>(e = .exit 0∧Rd fr []∧HL st [])) ⟨H.tq,K.keep []⟩ ?_ ?_
 ·intro s2 fr st r hi hr
  obtain ⟨H,K⟩:=hi
  refine W_seq (W_seq ?_)
  refine W_reg ?_
  refine qg 2 [(11,vI s2),(12,vL tDiag a0 .shut)] H fun fr H=>?_
  refine qln tDiag 37 a0 .shut H fun fr H=>?_
  refine qg 1 [(14,vB (decide (s2 < (a0.length:Int))))] H fun fr H=>?_
  refine qe ?_
  rcases csplit hr with ⟨hc3,hr⟩ | ⟨hc3,hr⟩
  rotate_left
  ·refine qF H hc3 ?_
   refine W_exit ?_
   obtain rfl:=Option.some.inj hr
   exact ⟨by simp,⟨rfl,H.tq,K.keep []⟩⟩
  refine qT H hc3 ?_
  refine W_skip ?_
  refine W_seq (W_block ?_)
  refine W_seq (W_drw ?_)
  refine qg 2 [(17,vL tDiag a0 .shut),(18,vI s2)] H fun fr H=>?_
  refine qix tDiag 37 .shut hr H fun x4 hr hx4 fr H=>?_
  refine qg 3 [(20,.agg (cDiag x4)),(21,vL tDiag a1 .shut),(22,vI s2)] H fun fr H=>?_
  refine qix tDiag 37 .shut hr H fun x5 hr hx5 fr H=>?_
  refine qg 1 [(24,.agg (cDiag x5))] H fun fr H=>?_
  refine qv (.bin .neq 42 (.tmp 20) (.tmp 24) (.agg (cDiag x4)) (.agg (cDiag x5))) H (run_diag_neq x4 x5) fun fr H=>?_
  refine qe (qd ?_)
  rcases csplit hr with ⟨hc6,hr⟩ | ⟨hc6,hr⟩
  ·refine qT H hc6 ?_
   refine W_seq (W_reg ?_)
   refine qg 1 [(4,vB false)] H fun fr H=>?_
   refine qe ?_
   refine W_ret ?_
   obtain rfl:=Option.some.inj hr
   exact ⟨by simp,⟨rfl,H.tq,K.keep []⟩⟩
  refine qF H hc6 ?_
  refine W_skip ?_
  refine W_reg ?_
  refine qg 3 [(5,vI (w64 (s2 + 1)))] H fun fr H=>?_
  refine qe ?_
  obtain rfl:=Option.some.inj hr
  exact ⟨rfl,⟨H.tq,K.keep []⟩⟩
 rcases r7 with r7a | r7b
 ·rintro e fr st ⟨rfl,H,K⟩
  obtain rfl:=Option.some.inj hr
  exact qr [vB false] H K
 rintro e fr st ⟨rfl,H,K⟩
 refine W_seq (W_reg ?_)
 refine qg 1 [(4,vB true)] H fun fr H=>?_
 refine qe ?_
 refine W_ret ?_
 obtain rfl:=Option.some.inj hr
 exact qr [vB true] H K
def F37 (n:Nat) (a0:List Diag) (a1:Int) (a2:Int):Option Bool :=
 (F42 n a0 ([(Diag.mk a1 a2)]:List Diag)).bind fun x1 =>
 some x1
theorem F37_R (n:Nat) (a0:List Diag) (a1:Int) (a2:Int) (r:Bool) (hr:F37 n a0 a1 a2 = some r) {st:St} {p0:Spare}:R Tryz.prog AN 37 [vL tDiag a0 p0,vI a1,vI a2] st (.ret (vB r)) st:=by
 unfold F37 at hr
 refine R_pureX [vL tDiag a0 .shut,vI a1,vI a2] [(0,vL tDiag a0 .shut),(1,vI a1),(2,vI a2)] Tryz.func37 rfl (by simp only [strip,stripL,stripL_ET,Option.bind_some,Option.map_some]) rfl fun fr st H K=>?_
 refine W_seq (W_reg ?_)
 refine qg 1 [] H fun fr H=>?_
 refine qe ?_
 refine W_seq (W_reg ?_)
 refine qg 4 [(7,vL tDiag a0 .shut),(10,.agg [vI a1,vI a2])] H fun fr H=>?_
 refine qbs tDiag 37 ([(Diag.mk a1 a2)]:List Diag) H fun fr H=>?_
 refine qb hr (fun x h s=>F42_R n _ _ x h (p0:=.shut) (p1:=.full)) H fun x1 hr fr H=>?_
 refine qg 1 [(6,vB x1)] H fun fr H=>?_
 refine qe ?_
 refine W_ret ?_
 obtain rfl:=Option.some.inj hr
 exact qr [vB x1] H K
def F38 (a0:ByteArray) (a1:Int) (a2:Node) (a3:Node):Option Node :=
 some (Node.mk 5 a0 (bs []) 0 0 0 false ([a2,a3]:List Node) a1)
theorem F38_R (a0:ByteArray) (a1:Int) (a2:Node) (a3:Node) (r:Node) (hr:F38 a0 a1 a2 a3 = some r) {st:St} {p0 p1:Spare}:R Tryz.prog AN 38 [vS a0,vI a1,.agg (cNode p0 a2),.agg (cNode p1 a3)] st (.ret (aN r)) st:=by
 unfold F38 at hr
 refine R_pureX [vS a0,vI a1,aN a2,aN a3] [(0,vS a0),(1,vI a1),(2,aN a2),(3,aN a3)] Tryz.func38 rfl (by simp only [strip,stripL,stripL_cNode,Option.bind_some,Option.map_some]) rfl fun fr st H K=>?_
 refine W_seq (W_reg ?_)
 refine qg 2 [(6,cN a2 0),(7,cN a3 0)] H fun fr H=>?_
 refine qal 24 [vI 0,vS (bs []),vS (bs []),vI 0,vI 0,vI 0,vB false,vL tNode ([]:List Node) .nil,vI 0] H K fun id1 st K fr H=>?_
 refine qe ?_
 refine W_seq (W_reg ?_)
 refine qg 4 [(9,vS a0),(10,vI a1),(11,aN a2),(12,aN a3)] H fun fr H=>?_
 refine qv (.buildSlice 22 2 [(0,aN a2),(1,aN a3)]) H (run_bslice (v:=vL tNode ([a2,a3]:List Node) .full) (v0:=.slice [aN a2,aN a3] .full) (by kernel_rfl) (by simp only [List.map,vL,tNode_e,eNode_eq,cNode] <;> rfl)) fun fr H=>?_
 refine qg 1 [(14,.agg [vI 5,vS a0,vS (bs []),vI 0,vI 0,vI 0,vB false,vL tNode ([a2,a3]:List Node) .shut,vI a1])] H fun fr H=>?_
 refine qst 24 0 (.agg [vI 5,vS a0,vS (bs []),vI 0,vI 0,vI 0,vB false,vL tNode ([a2,a3]:List Node) .shut,vI a1]) [vI 5,vS a0,vS (bs []),vI 0,vI 0,vI 0,vB false,vL tNode ([a2,a3]:List Node) .shut,vI a1] 0 H K rfl fun st K fr H=>?_
 refine qe ?_
 refine W_ret ?_
 obtain rfl:=Option.some.inj hr
 exact e_ret [.agg [vI 5,vS a0,vS (bs []),vI 0,vI 0,vI 0,vB false,vL tNode ([a2,a3]:List Node) .shut,vI a1]] H K (fun _=>resC id1 0 24 [vI 5,vS a0,vS (bs []),vI 0,vI 0,vI 0,vB false,vL tNode ([a2,a3]:List Node) .shut,vI a1] 0 (by kernel_rfl) rfl (by kernel_rfl) resN) (fun _=>by simp only [strip,stripL,stripL_ET,Option.bind_some,Option.map_some,oneOf] <;> rfl)
def F30_step (F30:Node→Node→Option Bool) (n:Nat) (a0:Node) (a1:Node):Option Bool :=
 bif (((((((a0.kind != a1.kind) || (!(strEq a0.name a1.name))) || (!(strEq a0.other a1.other))) || (a0.n != a1.n)) || (a0.len != a1.len)) || (a0.init != a1.init)) || (!(a0.ghost == a1.ghost))) || (a0.pos != a1.pos) then
  (some false)
 else
  (bif (a0.kids.length:Int) != (a1.kids.length:Int) then
   (some false)
  else
   ((iter (σ:=Int) (ρ:=Unit ⊕ Unit) (fun s3=>bif decide (s3 < (a0.kids.length:Int)) then
     ((idxL a0.kids s3).bind fun x5 =>
     (idxL a1.kids s3).bind fun x6 =>
     (F30 x5 x6).bind fun x7 =>
     bif !x7 then
      (some (.inr (.inl ())))
     else
      (some (.inl (w64 (s3 + 1)))))
    else
     (some (.inr (.inr ())))) n (0:Int)).bind fun r9=>match r9 with
   | .inl _=>some false
   | .inr _=>some true))
def F30:Nat→Node→Node→Option Bool
 | 0,_,_=>none
 | n + 1,a0,a1=>F30_step (F30 n) n a0 a1
theorem F30_RR (n:Nat):(∀ (a0:Node) (a1:Node) (r:Bool),F30 n a0 a1 = some r→∀ {st:St} {p0 p1:Spare},R Tryz.prog AN 30 [.agg (cNode p0 a0),.agg (cNode p1 a1)] st (.ret (vB r)) st):=by
 induction n with
 | zero=>(intros; contradiction)
 | succ n ih =>
  have ih_F30:=@ih; clear ih
  intro a0 a1 r hr st p0 p1
  change F30_step (F30 n) n a0 a1 = some r at hr
  unfold F30_step at hr
  refine R_pureX [aN a0,aN a1] [(0,aN a0),(1,aN a1)] Tryz.func30 rfl (by simp only [strip,stripL,stripL_cNode,Option.bind_some,Option.map_some]) rfl fun fr st H K=>?_
  refine W_seq (W_reg ?_)
  refine qg 3 [(2,cN a0 0),(3,cN a1 0)] H fun fr H=>?_
  refine qe ?_
  refine W_seq (W_seq ?_)
  refine W_reg ?_
  refine qg 6 [(11,vB (a0.kind != a1.kind))] H fun fr H=>?_
  refine qg 6 [(17,vB ((a0.kind != a1.kind) || (!(strEq a0.name a1.name))))] H (hs:=by intro _ _; generalize (a0.kind != a1.kind) = b0; cases b0 <;> kernel_rfl) fun fr H=>?_
  refine qg 1 [(18,vB ((a0.kind != a1.kind) || (!(strEq a0.name a1.name))))] H fun fr H=>?_
  refine qg 6 [(24,vB (((a0.kind != a1.kind) || (!(strEq a0.name a1.name))) || (!(strEq a0.other a1.other))))] H (hs:=by intro _ _; generalize ((a0.kind != a1.kind) || (!(strEq a0.name a1.name))) = b0; cases b0 <;> kernel_rfl) fun fr H=>?_
  refine qg 1 [(25,vB (((a0.kind != a1.kind) || (!(strEq a0.name a1.name))) || (!(strEq a0.other a1.other))))] H fun fr H=>?_
  refine qg 6 [(31,vB ((((a0.kind != a1.kind) || (!(strEq a0.name a1.name))) || (!(strEq a0.other a1.other))) || (a0.n != a1.n)))] H (hs:=by intro _ _; generalize (((a0.kind != a1.kind) || (!(strEq a0.name a1.name))) || (!(strEq a0.other a1.other))) = b0; cases b0 <;> kernel_rfl) fun fr H=>?_
  refine qg 1 [(32,vB ((((a0.kind != a1.kind) || (!(strEq a0.name a1.name))) || (!(strEq a0.other a1.other))) || (a0.n != a1.n)))] H fun fr H=>?_
  refine qg 6 [(38,vB (((((a0.kind != a1.kind) || (!(strEq a0.name a1.name))) || (!(strEq a0.other a1.other))) || (a0.n != a1.n)) || (a0.len != a1.len)))] H (hs:=by intro _ _; generalize ((((a0.kind != a1.kind) || (!(strEq a0.name a1.name))) || (!(strEq a0.other a1.other))) || (a0.n != a1.n)) = b0; cases b0 <;> kernel_rfl) fun fr H=>?_
  refine qg 1 [(39,vB (((((a0.kind != a1.kind) || (!(strEq a0.name a1.name))) || (!(strEq a0.other a1.other))) || (a0.n != a1.n)) || (a0.len != a1.len)))] H fun fr H=>?_
  refine qg 6 [(45,vB ((((((a0.kind != a1.kind) || (!(strEq a0.name a1.name))) || (!(strEq a0.other a1.other))) || (a0.n != a1.n)) || (a0.len != a1.len)) || (a0.init != a1.init)))] H (hs:=by intro _ _; generalize (((((a0.kind != a1.kind) || (!(strEq a0.name a1.name))) || (!(strEq a0.other a1.other))) || (a0.n != a1.n)) || (a0.len != a1.len)) = b0; cases b0 <;> kernel_rfl) fun fr H=>?_
  refine qg 1 [(46,vB ((((((a0.kind != a1.kind) || (!(strEq a0.name a1.name))) || (!(strEq a0.other a1.other))) || (a0.n != a1.n)) || (a0.len != a1.len)) || (a0.init != a1.init)))] H fun fr H=>?_
  refine qg 6 [(52,vB (((((((a0.kind != a1.kind) || (!(strEq a0.name a1.name))) || (!(strEq a0.other a1.other))) || (a0.n != a1.n)) || (a0.len != a1.len)) || (a0.init != a1.init)) || (!(a0.ghost == a1.ghost))))] H (hs:=by intro _ _; generalize ((((((a0.kind != a1.kind) || (!(strEq a0.name a1.name))) || (!(strEq a0.other a1.other))) || (a0.n != a1.n)) || (a0.len != a1.len)) || (a0.init != a1.init)) = b0; cases b0 <;> kernel_rfl) fun fr H=>?_
  refine qg 1 [(53,vB (((((((a0.kind != a1.kind) || (!(strEq a0.name a1.name))) || (!(strEq a0.other a1.other))) || (a0.n != a1.n)) || (a0.len != a1.len)) || (a0.init != a1.init)) || (!(a0.ghost == a1.ghost))))] H fun fr H=>?_
  refine qg 6 [(59,vB ((((((((a0.kind != a1.kind) || (!(strEq a0.name a1.name))) || (!(strEq a0.other a1.other))) || (a0.n != a1.n)) || (a0.len != a1.len)) || (a0.init != a1.init)) || (!(a0.ghost == a1.ghost))) || (a0.pos != a1.pos)))] H (hs:=by intro _ _; generalize (((((((a0.kind != a1.kind) || (!(strEq a0.name a1.name))) || (!(strEq a0.other a1.other))) || (a0.n != a1.n)) || (a0.len != a1.len)) || (a0.init != a1.init)) || (!(a0.ghost == a1.ghost))) = b0; cases b0 <;> kernel_rfl) fun fr H=>?_
  refine qg 1 [(60,vB ((((((((a0.kind != a1.kind) || (!(strEq a0.name a1.name))) || (!(strEq a0.other a1.other))) || (a0.n != a1.n)) || (a0.len != a1.len)) || (a0.init != a1.init)) || (!(a0.ghost == a1.ghost))) || (a0.pos != a1.pos)))] H fun fr H=>?_
  rcases csplit hr with ⟨hc1,hr⟩ | ⟨hc1,hr⟩
  ·rw [hc1] at H
   refine qg 8 [(68,vB true)] H fun fr H=>?_
   refine qe ?_
   refine qT H rfl ?_
   refine W_seq (W_reg ?_)
   refine qg 1 [(4,vB false)] H fun fr H=>?_
   refine qe ?_
   refine W_ret ?_
   obtain rfl:=Option.some.inj hr
   exact qr [vB false] H K
  rw [hc1] at H
  refine qg 2 [(62,vL tNode a0.kids .shut)] H fun fr H=>?_
  refine qln tNode 22 a0.kids .shut H fun fr H=>?_
  refine qg 2 [(65,vL tNode a1.kids .shut)] H fun fr H=>?_
  refine qln tNode 22 a1.kids .shut H fun fr H=>?_
  refine qg 2 [(68,vB ((a0.kids.length:Int) != (a1.kids.length:Int)))] H fun fr H=>?_
  refine qe ?_
  rcases csplit hr with ⟨hc2,hr⟩ | ⟨hc2,hr⟩
  ·refine qT H hc2 ?_
   refine W_seq (W_reg ?_)
   refine qg 1 [(4,vB false)] H fun fr H=>?_
   refine qe ?_
   refine W_ret ?_
   obtain rfl:=Option.some.inj hr
   exact qr [vB false] H K
  refine qF H hc2 ?_
  refine W_skip ?_
  refine W_seq (W_seq ?_)
  refine W_reg ?_
  refine qg 1 [(5,vI 0)] H fun fr H=>?_
  refine qe ?_
  refine W_block ?_
  obtain ⟨r9,hr9,hr⟩:=obind hr
  refine W_iter hr9 (fun (s3:Int) fr st=>Rd fr [(2,cN a0 0),(3,cN a1 0),(5,vI s3)]∧HL st []) (fun (r9:Unit ⊕ Unit) e fr st=>match r9 with | .inl r9a=>(e = .ret∧Rd fr [(4,vB false)]∧HL st []) | .inr r9b=>(e = .exit 0∧Rd fr []∧HL st [])) ⟨H.tq,K.keep []⟩ ?_ ?_
  ·intro s3 fr st r hi hr
   obtain ⟨H,K⟩:=hi
   refine W_seq (W_seq ?_)
   refine W_reg ?_
   refine qg 3 [(69,vI s3),(71,vL tNode a0.kids .shut)] H fun fr H=>?_
   refine qln tNode 22 a0.kids .shut H fun fr H=>?_
   refine qg 1 [(73,vB (decide (s3 < (a0.kids.length:Int))))] H fun fr H=>?_
   refine qe ?_
   rcases csplit hr with ⟨hc4,hr⟩ | ⟨hc4,hr⟩
   rotate_left
   ·refine qF H hc4 ?_
    refine W_exit ?_
    obtain rfl:=Option.some.inj hr
    exact ⟨by simp,⟨rfl,H.tq,K.keep []⟩⟩
   refine qT H hc4 ?_
   refine W_skip ?_
   refine W_seq (W_block ?_)
   refine W_seq (W_drw ?_)
   refine qg 3 [(77,vL tNode a0.kids .shut),(78,vI s3)] H fun fr H=>?_
   refine qix tNode 22 .shut hr H fun x5 hr hx5 fr H=>?_
   refine qg 4 [(80,aN x5),(82,vL tNode a1.kids .shut),(83,vI s3)] H fun fr H=>?_
   refine qix tNode 22 .shut hr H fun x6 hr hx6 fr H=>?_
   refine qg 1 [(85,aN x6)] H fun fr H=>?_
   refine qb hr (fun x h s=>ih_F30 _ _ x h (p0:=.shut) (p1:=.shut)) H fun x7 hr fr H=>?_
   refine qg 1 [(87,vB !x7)] H fun fr H=>?_
   refine qe (qd ?_)
   rcases csplit hr with ⟨hc8,hr⟩ | ⟨hc8,hr⟩
   ·refine qT H hc8 ?_
    refine W_seq (W_reg ?_)
    refine qg 1 [(4,vB false)] H fun fr H=>?_
    refine qe ?_
    refine W_ret ?_
    obtain rfl:=Option.some.inj hr
    exact ⟨by simp,⟨rfl,H.tq,K.keep []⟩⟩
   refine qF H hc8 ?_
   refine W_skip ?_
   refine W_reg ?_
   refine qg 3 [(5,vI (w64 (s3 + 1)))] H fun fr H=>?_
   refine qe ?_
   obtain rfl:=Option.some.inj hr
   exact ⟨rfl,⟨H.tq,K.keep []⟩⟩
  rcases r9 with r9a | r9b
  ·rintro e fr st ⟨rfl,H,K⟩
   obtain rfl:=Option.some.inj hr
   exact qr [vB false] H K
  rintro e fr st ⟨rfl,H,K⟩
  refine W_seq (W_reg ?_)
  refine qg 1 [(4,vB true)] H fun fr H=>?_
  refine qe ?_
  refine W_ret ?_
  obtain rfl:=Option.some.inj hr
  exact qr [vB true] H K
theorem F30_R (n:Nat) (a0:Node) (a1:Node) (r:Bool) (hr:F30 n a0 a1 = some r) {st:St} {p0 p1:Spare}:R Tryz.prog AN 30 [.agg (cNode p0 a0),.agg (cNode p1 a1)] st (.ret (vB r)) st:=(F30_RR n) a0 a1 r hr
def F89 (a0:Int) (a1:Int) (s:RS):Option ((Unit ⊕ Bad) × RS) :=
 pbind (bif decide (20≤(s.diags.length:Int)) then
   (some (.inl (.inl ()),s))
  else
   (bif decide (0 < (s.diags.length:Int)) then
    ((idxL s.diags (w64 ((s.diags.length:Int) - 1))).bind fun x3 =>
    bif x3.pos == a1 then
     (some (.inl (.inl ()),s))
    else
     (some (.inl (.inr ()),s)))
   else
    (some (.inl (.inr ()),s))):Option (((Unit ⊕ Unit) ⊕ Bad) × RS)) fun j5 j5s=>match j5 with
 | .inl _=>some (.inl (),j5s)
 | .inr _=>(appL 16 j5s.diags ([(Diag.mk a0 a1)]:List Diag)).bind fun x6 =>
  some (.inl (),(j5s.setDiags x6))
theorem F89_R (a0:Int) (a1:Int) (s:RS) (r:Unit ⊕ Bad) (s2:RS) (hr:F89 a0 a1 s = some (r,s2)) {st:St} {rs:List Res} {i0:Nat} {p:Spare} (K:HL st (.rd i0 87 p (rdC s p) :: rs)):∃ (q:Spare) (st':St),R Tryz.prog AN 89 [.ptr i0 0,.agg [vI a0,vI a1]] st (gotE encW (fun _=>.tuple []) r) st'∧HL st' (.rd i0 87 q (rdC s2 q) :: rs):=by
 unfold F89 at hr
 refine R_panX (ew:=encW) (enc:=fun v (q:Spare)=>.tuple []) (post:=fun s (q:Spare)=>.rd i0 87 q (rdC s q) :: rs) [(0,.ptr i0 0),(1,.agg [vI a0,vI a1])] Tryz.func89 rfl rfl fun fr Q H hp hq=>?_
 refine W_seq (W_reg ?_)
 refine qg 1 [(3,.cptr ([vI a0,vI a1]) 0)] H fun fr H=>?_
 refine qe ?_
 refine W_seq (W_reg ?_)
 refine qg 3 [(7,.ptr i0 5)] H fun fr H=>?_
 refine qldR 37 5 (vL tDiag s.diags p) 0 H K rfl fun fr H=>?_
 refine qln tDiag 37 s.diags p H fun fr H=>?_
 refine qg 1 [(4,vI (s.diags.length:Int))] H fun fr H=>?_
 refine qe ?_
 refine W_seq ?_
 refine W_viaP (fun j5 j5s e fr st=>match j5 with | .inl j5a=>(e = .ret∧∃ (j5aq:Spare),Rd fr []∧HL st (.rd i0 87 j5aq (rdC j5s j5aq) :: rs)) | .inr j5b=>(e = .normal∧∃ (j5bq:Spare),Rd fr [(0,.ptr i0 0),(3,.cptr ([vI a0,vI a1]) 0)]∧HL st (.rd i0 87 j5bq (rdC j5s j5bq) :: rs))) hr hp ?_ ?_
 ·intro y Q hr hp hq
  refine W_seq (W_drw ?_)
  refine qg 3 [(12,vB (decide (20≤(s.diags.length:Int))))] H fun fr H=>?_
  rcases csplit hr with ⟨hc1,hr⟩ | ⟨hc1,hr⟩
  ·rw [hc1] at H
   refine qg 17 [(29,vB true)] H fun fr H=>?_
   refine qe (qd ?_)
   refine qT H rfl ?_
   refine W_ret ?_
   exact hq _ _ (sj hr).symm _ _ _ ⟨rfl,p,H.tq,K⟩
  rw [hc1] at H
  refine qg 3 [(15,vB (decide (0 < (s.diags.length:Int))))] H fun fr H=>?_
  rcases csplit hr with ⟨hc2,hr⟩ | ⟨hc2,hr⟩
  rotate_left
  ·rw [hc2] at H
   refine qg 14 [(29,vB false)] H fun fr H=>?_
   refine qe (qd ?_)
   refine qF H rfl ?_
   refine W_skip ?_
   exact hq _ _ (sj hr).symm _ _ _ ⟨rfl,p,H.tq,K⟩
  rw [hc2] at H
  refine qg 3 [(18,.ptr i0 5)] H fun fr H=>?_
  refine qldR 37 5 (vL tDiag s.diags p) 0 H K rfl fun fr H=>?_
  refine qg 2 [(21,vI (w64 ((s.diags.length:Int) - 1)))] H fun fr H=>?_
  refine qix tDiag 37 p hr H fun x3 hr hx3 fr H=>?_
  refine qg 7 [(29,vB (x3.pos == a1))] H fun fr H=>?_
  refine qe (qd ?_)
  rcases csplit hr with ⟨hc4,hr⟩ | ⟨hc4,hr⟩
  ·refine qT H hc4 ?_
   refine W_ret ?_
   exact hq _ _ (sj hr).symm _ _ _ ⟨rfl,p,H.tq,K⟩
  refine qF H hc4 ?_
  refine W_skip ?_
  exact hq _ _ (sj hr).symm _ _ _ ⟨rfl,p,H.tq,K⟩
 intro j5 j5s hr
 rcases j5 with j5a | j5b
 ·rintro e fr st ⟨rfl,j5aq,H,K⟩
  exact hq _ _ (sj hr).symm j5aq _ _ _ (e_retV [] H K (fun _=>resN) K)
 rintro e fr st ⟨rfl,j5bq,H,K⟩
 refine W_drw ?_
 refine qg 4 [(30,.ptr i0 0),(33,.ptr i0 5)] H fun fr H=>?_
 refine qldR 37 5 (vL tDiag j5s.diags j5bq) 0 H K rfl fun fr H=>?_
 refine qg 5 [(39,.agg [vI a0,vI a1])] H fun fr H=>?_
 refine qbs tDiag 37 ([(Diag.mk a0 a1)]:List Diag) H fun fr H=>?_
 replace K:=rd_split K
 refine qapp tDiag 16 37 37 .full hr 0 H K rfl fun x6 hr sp7 st K fr H=>?_
 refine qg 2 [(43,.ptr i0 5)] H fun fr H=>?_
 refine qst 37 5 (vL tDiag x6 sp7) [vL tToken j5s.toks .shut,vI j5s.next,vI j5s.fin,vI j5s.inner,keysV,vL tDiag x6 sp7] 1 H K rfl fun st K fr H=>?_
 replace K:HL st (.rd i0 87 sp7 (rdC (j5s.setDiags x6) sp7) :: rs):=rd_join K
 refine qe (qdI K [0,0,0,0,.look (some 0),0,0,0,0,0,0,.keep [],0,0,.put 0] ?_)
 exact hq _ _ (sj hr).symm sp7 _ _ _ (e_normalV [] H K (fun _=>resN) K)
def F90 (n:Nat) (a0:Bool) (s:RS):Option ((Unit ⊕ Bad) × RS) :=
 pbind (iterP (σ:=Int) (ρ:=Unit ⊕ Unit) (ε:=Bad) (S:=RS) (fun s1 s1s=>bif decide (s1s.next < (s1s.toks.length:Int)) then
   ((F101 s1s).bind fun x3 =>
   bif strEq x3 (bs [59]) then
    (bif s1 == 0 then
     (some (.inl (.inr (.inl ())),(s1s.setNext (w64 (s1s.next + 1)))))
    else
     (some (.inl (.inl s1),(s1s.setNext (w64 (s1s.next + 1))))))
   else
    (bif strEq x3 (bs [123]) then
     (some (.inl (.inl (w64 (s1 + 1))),(s1s.setNext (w64 (s1s.next + 1)))))
    else
     (bif strEq x3 (bs [125]) then
      (bif (s1 == 0) && a0 then
       (some (.inl (.inr (.inl ())),s1s))
      else
       (bif s1 == 0 then
        (some (.inl (.inr (.inl ())),(s1s.setNext (w64 (s1s.next + 1)))))
       else
        (bif (w64 (s1 - 1)) == 0 then
         (pbind (F88 (bs [59]) (s1s.setNext (w64 (s1s.next + 1)))) fun _ s13 =>
         some (.inl (.inr (.inl ())),s13))
        else
         (some (.inl (.inl (w64 (s1 - 1))),(s1s.setNext (w64 (s1s.next + 1))))))))
     else
      (some (.inl (.inl s1),(s1s.setNext (w64 (s1s.next + 1))))))))
  else
   (some (.inl (.inr (.inr ())),s1s))) n s.inner (s.setInner (0:Int))) fun r14 r14s=>match r14 with
 | .inl _=>some (.inl (),r14s)
 | .inr _=>some (.inl (),r14s)
theorem F90_R (n:Nat) (a0:Bool) (s:RS) (r:Unit ⊕ Bad) (s2:RS) (hr:F90 n a0 s = some (r,s2)) {st:St} {rs:List Res} {i0:Nat} {p:Spare} (K:HL st (.rd i0 87 p (rdC s p) :: rs)):∃ (q:Spare) (st':St),R Tryz.prog AN 90 [.ptr i0 0,vB a0] st (gotE encW (fun _=>.tuple []) r) st'∧HL st' (.rd i0 87 q (rdC s2 q) :: rs):=by
 unfold F90 at hr
 refine R_panX (ew:=encW) (enc:=fun v (q:Spare)=>.tuple []) (post:=fun s (q:Spare)=>.rd i0 87 q (rdC s q) :: rs) [(0,.ptr i0 0),(1,vB a0)] Tryz.func90 rfl rfl fun fr Q H hp hq=>?_
 refine W_seq (W_reg ?_)
 refine qg 3 [(7,.ptr i0 3)] H fun fr H=>?_
 refine qldR 3 3 (vI s.inner) 0 H K rfl fun fr H=>?_
 refine qg 1 [(4,vI s.inner)] H fun fr H=>?_
 refine qe ?_
 refine W_seq (W_reg ?_)
 refine qg 3 [(11,.ptr i0 3)] H fun fr H=>?_
 refine qstR 3 3 (vI 0) (rdC (s.setInner (0:Int)) p) 0 H K rfl fun st K fr H=>?_
 refine qe ?_
 refine W_block ?_
 refine W_iterP hr hp (fun (s1:Int) s1s fr st=>∃ (s1q:Spare),Rd fr [(0,.ptr i0 0),(1,vB a0),(4,vI s1)]∧HL st (.rd i0 87 s1q (rdC s1s s1q) :: rs)) (fun (r14:Unit ⊕ Unit) r14s e fr st=>match r14 with | .inl r14a=>(e = .ret∧∃ (r14aq:Spare),Rd fr []∧HL st (.rd i0 87 r14aq (rdC r14s r14aq) :: rs)) | .inr r14b=>(e = .exit 0∧∃ (r14bq:Spare),Rd fr []∧HL st (.rd i0 87 r14bq (rdC r14s r14bq) :: rs))) ⟨p,H.tq,K⟩ (by rintro (_ | _) s fr st ⟨h,_⟩ <;> cases h) ?_ ?_
 ·rintro s1 s1s fr st y Q ⟨s1q,H,K⟩ hr hp hq
  refine W_seq (W_seq ?_)
  refine W_drw ?_
  refine qg 3 [(14,.ptr i0 1)] H fun fr H=>?_
  refine qldR 3 1 (vI s1s.next) 0 H K rfl fun fr H=>?_
  refine qg 3 [(18,.ptr i0 0)] H fun fr H=>?_
  refine qldR 56 0 (vL tToken s1s.toks .shut) 0 H K rfl fun fr H=>?_
  refine qln tToken 56 s1s.toks .shut H fun fr H=>?_
  refine qg 1 [(21,vB (decide (s1s.next < (s1s.toks.length:Int))))] H fun fr H=>?_
  refine qe (qd ?_)
  rcases csplit hr with ⟨hc2,hr⟩ | ⟨hc2,hr⟩
  rotate_left
  ·refine qF H hc2 ?_
   refine W_exit ?_
   exact hq _ _ (sj hr).symm _ _ _ ⟨rfl,s1q,H.tq,K⟩
  refine qT H hc2 ?_
  refine W_skip ?_
  refine W_block ?_
  refine W_seq (W_reg ?_)
  refine qg 1 [(22,.ptr i0 0)] H fun fr H=>?_
  refine ql hr (fun x h=>F101_R  _ x h K) H fun x3 hr fr H=>?_
  refine qe ?_
  refine W_block ?_
  refine W_seq (W_reg ?_)
  refine qg 2 [(31,vB (strEq x3 (bs [59])))] H fun fr H=>?_
  refine qe ?_
  rcases csplit hr with ⟨hc4,hr⟩ | ⟨hc4,hr⟩
  ·refine qT H hc4 ?_
   refine W_seq (W_reg ?_)
   refine qg 3 [(33,.ptr i0 0),(35,.ptr i0 1)] H fun fr H=>?_
   refine qldR 3 1 (vI s1s.next) 0 H K rfl fun fr H=>?_
   refine qg 3 [(37,vI (w64 (s1s.next + 1))),(39,.ptr i0 1)] H fun fr H=>?_
   refine qstR 3 1 (vI (w64 (s1s.next + 1))) (rdC (s1s.setNext (w64 (s1s.next + 1))) s1q) 0 H K rfl fun st K fr H=>?_
   refine qe ?_
   refine W_seq (W_reg ?_)
   refine qg 2 [(41,vB (s1 == 0))] H fun fr H=>?_
   refine qe ?_
   rcases csplit hr with ⟨hc5,hr⟩ | ⟨hc5,hr⟩
   ·refine qT H hc5 ?_
    refine W_ret ?_
    exact hq _ _ (sj hr).symm _ _ _ ⟨rfl,s1q,H.tq,K⟩
   refine qF H hc5 ?_
   refine W_skip ?_
   exact hq _ _ (sj hr).symm _ _ _ ⟨rfl,s1q,H.tq,K⟩
  refine qF H hc4 ?_
  refine W_seq (W_reg ?_)
  refine qg 2 [(42,vB (strEq x3 (bs [123])))] H fun fr H=>?_
  refine qe ?_
  rcases csplit hr with ⟨hc6,hr⟩ | ⟨hc6,hr⟩
  ·refine qT H hc6 ?_
   refine W_seq (W_reg ?_)
   refine qg 3 [(44,.ptr i0 0),(46,.ptr i0 1)] H fun fr H=>?_
   refine qldR 3 1 (vI s1s.next) 0 H K rfl fun fr H=>?_
   refine qg 3 [(48,vI (w64 (s1s.next + 1))),(50,.ptr i0 1)] H fun fr H=>?_
   refine qstR 3 1 (vI (w64 (s1s.next + 1))) (rdC (s1s.setNext (w64 (s1s.next + 1))) s1q) 0 H K rfl fun st K fr H=>?_
   refine qe ?_
   refine W_reg ?_
   refine qg 3 [(4,vI (w64 (s1 + 1)))] H fun fr H=>?_
   refine qe ?_
   exact hq _ _ (sj hr).symm _ _ _ ⟨rfl,s1q,H.tq,K⟩
  refine qF H hc6 ?_
  refine W_seq (W_reg ?_)
  refine qg 2 [(53,vB (strEq x3 (bs [125])))] H fun fr H=>?_
  refine qe ?_
  rcases csplit hr with ⟨hc7,hr⟩ | ⟨hc7,hr⟩
  rotate_left
  ·refine qF H hc7 ?_
   refine W_reg ?_
   refine qg 3 [(24,.ptr i0 0),(26,.ptr i0 1)] H fun fr H=>?_
   refine qldR 3 1 (vI s1s.next) 0 H K rfl fun fr H=>?_
   refine qg 3 [(28,vI (w64 (s1s.next + 1))),(30,.ptr i0 1)] H fun fr H=>?_
   refine qstR 3 1 (vI (w64 (s1s.next + 1))) (rdC (s1s.setNext (w64 (s1s.next + 1))) s1q) 0 H K rfl fun st K fr H=>?_
   refine qe ?_
   exact hq _ _ (sj hr).symm _ _ _ ⟨rfl,s1q,H.tq,K⟩
  refine qT H hc7 ?_
  refine W_seq (W_seq ?_)
  refine W_reg ?_
  refine qg 3 [(57,vB (s1 == 0))] H fun fr H=>?_
  refine qg 2 [(59,vB ((s1 == 0) && a0))] H (hs:=by intro _ _; generalize (s1 == 0) = b0; cases b0 <;> kernel_rfl) fun fr H=>?_
  refine qe ?_
  rcases csplit hr with ⟨hc8,hr⟩ | ⟨hc8,hr⟩
  ·refine qT H hc8 ?_
   refine W_ret ?_
   exact hq _ _ (sj hr).symm _ _ _ ⟨rfl,s1q,H.tq,K⟩
  refine qF H hc8 ?_
  refine W_skip ?_
  refine W_seq (W_reg ?_)
  refine qg 3 [(60,.ptr i0 0),(62,.ptr i0 1)] H fun fr H=>?_
  refine qldR 3 1 (vI s1s.next) 0 H K rfl fun fr H=>?_
  refine qg 3 [(64,vI (w64 (s1s.next + 1))),(66,.ptr i0 1)] H fun fr H=>?_
  refine qstR 3 1 (vI (w64 (s1s.next + 1))) (rdC (s1s.setNext (w64 (s1s.next + 1))) s1q) 0 H K rfl fun st K fr H=>?_
  refine qe ?_
  refine W_seq (W_seq ?_)
  refine W_reg ?_
  refine qg 2 [(68,vB (s1 == 0))] H fun fr H=>?_
  refine qe ?_
  rcases csplit hr with ⟨hc9,hr⟩ | ⟨hc9,hr⟩
  ·refine qT H hc9 ?_
   refine W_ret ?_
   exact hq _ _ (sj hr).symm _ _ _ ⟨rfl,s1q,H.tq,K⟩
  refine qF H hc9 ?_
  refine W_skip ?_
  refine W_seq (W_reg ?_)
  refine qg 3 [(4,vI (w64 (s1 - 1)))] H fun fr H=>?_
  refine qe ?_
  refine W_seq (W_reg ?_)
  refine qg 2 [(72,vB ((w64 (s1 - 1)) == 0))] H fun fr H=>?_
  refine qe ?_
  rcases csplit hr with ⟨hc10,hr⟩ | ⟨hc10,hr⟩
  rotate_left
  ·refine qF H hc10 ?_
   refine W_skip ?_
   exact hq _ _ (sj hr).symm _ _ _ ⟨rfl,s1q,H.tq,K⟩
  refine qT H hc10 ?_
  refine W_seq (W_reg ?_)
  refine qg 1 [(73,.ptr i0 0)] H fun fr H=>?_
  refine qp [] [] hr (fun a s h=>F88_R  _ _ a s h K) K H (fun e s h q st K=>hp e s h q _ _ K) fun x11 s13 hr sp12 st K fr H=>?_
  refine qe ?_
  refine W_ret ?_
  exact hq _ _ (sj hr).symm _ _ _ ⟨rfl,sp12,H.tq,K⟩
 intro r14 r14s hr
 rcases r14 with r14a | r14b
 ·rintro e fr st ⟨rfl,r14aq,H,K⟩
  exact hq _ _ (sj hr).symm r14aq _ _ _ (e_retV [] H K (fun _=>resN) K)
 rintro e fr st ⟨rfl,r14bq,H,K⟩
 refine in_exit ?_
 exact hq _ _ (sj hr).symm r14bq _ _ _ (e_normalV [] H K (fun _=>resN) K)
def F193 (a0:Node) (s:RS):Option ((Node ⊕ Bad) × RS) :=
 pbind (F92 s) fun x3 s5 =>
 pbind (F93 (bs [58]) s5) fun _ s8 =>
 pbind (F103 s8) fun x9 s11 =>
 some (.inl (Node.mk a0.kind x3 a0.other x9 a0.len a0.init a0.ghost a0.kids a0.pos),s11)
theorem F193_R (a0:Node) (s:RS) (r:Node ⊕ Bad) (s2:RS) (hr:F193 a0 s = some (r,s2)) {st:St} {rs:List Res} {i0:Nat} {p p0:Spare} (K:HL st (.rd i0 87 p (rdC s p) :: rs)):∃ (q:Spare) (st':St),R Tryz.prog AN 193 [.ptr i0 0,.agg (cNode p0 a0)] st (gotE encW (fun v=>aN v) r) st'∧HL st' (.rd i0 87 q (rdC s2 q) :: rs):=by
 unfold F193 at hr
 refine R_panX (ew:=encW) (enc:=fun v (q:Spare)=>aN v) (post:=fun s (q:Spare)=>.rd i0 87 q (rdC s q) :: rs) [(0,.ptr i0 0),(1,.agg (cNode p0 a0))] Tryz.func193 rfl rfl fun fr Q H hp hq=>?_
 refine W_seq (W_reg ?_)
 refine qbx 24 (.agg (cNode p0 a0)) [vI a0.kind,vS a0.name,vS a0.other,vI a0.n,vI a0.len,vI a0.init,vB a0.ghost,vL tNode a0.kids p0,vI a0.pos] H K fun id1 st K fr H=>?_
 refine qal 24 [vI 0,vS (bs []),vS (bs []),vI 0,vI 0,vI 0,vB false,vL tNode ([]:List Node) .nil,vI 0] H K fun id2 st K fr H=>?_
 refine qe ?_
 refine W_seq (W_reg ?_)
 refine qg 1 [(5,.ptr i0 0)] H fun fr H=>?_
 refine qp [] [] hr (fun a s h=>F92_R  _ a s h (K.front 2 rfl)) K H (fun e s h q st K=>hp e s h q _ _ (K.keep [true,false,false])) fun x3 s5 hr sp4 st K fr H=>?_
 refine qg 1 [(7,.ptr id1 1)] H fun fr H=>?_
 refine qst 9 1 (vS x3) [vI a0.kind,vS x3,vS a0.other,vI a0.n,vI a0.len,vI a0.init,vB a0.ghost,vL tNode a0.kids p0,vI a0.pos] 2 H K rfl fun st K fr H=>?_
 refine qe ?_
 refine W_seq (W_reg ?_)
 refine qg 1 [(8,.ptr i0 0)] H fun fr H=>?_
 refine qp [] [] hr (fun a s h=>F93_R  _ _ a s h K) K H (fun e s h q st K=>hp e s h q _ _ (K.keep [true,false,false])) fun x6 s8 hr sp7 st K fr H=>?_
 refine qe ?_
 refine W_seq (W_reg ?_)
 refine qg 1 [(10,.ptr i0 0)] H fun fr H=>?_
 refine qp [] [] hr (fun a s h=>F103_R  _ a s h K) K H (fun e s h q st K=>hp e s h q _ _ (K.keep [true,false,false])) fun x9 s11 hr sp10 st K fr H=>?_
 refine qg 1 [(12,.ptr id1 3)] H fun fr H=>?_
 refine qst 3 3 (vI x9) [vI a0.kind,vS x3,vS a0.other,vI x9,vI a0.len,vI a0.init,vB a0.ghost,vL tNode a0.kids p0,vI a0.pos] 2 H K rfl fun st K fr H=>?_
 refine qe ?_
 refine W_seq (W_reg ?_)
 refine qld 24 0 (.agg [vI a0.kind,vS x3,vS a0.other,vI x9,vI a0.len,vI a0.init,vB a0.ghost,vL tNode a0.kids .shut,vI a0.pos]) 2 H K rfl fun fr H=>?_
 refine qst 24 0 (.agg [vI a0.kind,vS x3,vS a0.other,vI x9,vI a0.len,vI a0.init,vB a0.ghost,vL tNode a0.kids .shut,vI a0.pos]) [vI a0.kind,vS x3,vS a0.other,vI x9,vI a0.len,vI a0.init,vB a0.ghost,vL tNode a0.kids .shut,vI a0.pos] 1 H K rfl fun st K fr H=>?_
 refine qe ?_
 refine W_ret ?_
 exact hq _ _ (sj hr).symm sp10 _ _ _ (e_retV [.agg [vI a0.kind,vS x3,vS a0.other,vI x9,vI a0.len,vI a0.init,vB a0.ghost,vL tNode a0.kids .shut,vI a0.pos]] H K (fun _=>resC id2 0 24 [vI a0.kind,vS x3,vS a0.other,vI x9,vI a0.len,vI a0.init,vB a0.ghost,vL tNode a0.kids .shut,vI a0.pos] 1 (by kernel_rfl) rfl (by kernel_rfl) resN) ((K).keep [true,false,false]))
def F144 (s:RS):Option ((Node ⊕ Bad) × RS) :=
 (F91 s).bind fun x2 =>
 pbind (F193 (Node.mk 52 (bs []) (bs []) 0 0 0 false ([]:List Node) x2) s) fun x3 s5 =>
 pbind (F93 (bs [59]) s5) fun _ s9 =>
 some (.inl x3,s9)
theorem F144_R (s:RS) (r:Node ⊕ Bad) (s2:RS) (hr:F144 s = some (r,s2)) {st:St} {rs:List Res} {i0:Nat} {p:Spare} (K:HL st (.rd i0 87 p (rdC s p) :: rs)):∃ (q:Spare) (st':St),R Tryz.prog AN 144 [.ptr i0 0] st (gotE encW (fun v=>aN v) r) st'∧HL st' (.rd i0 87 q (rdC s2 q) :: rs):=by
 unfold F144 at hr
 refine R_panX (ew:=encW) (enc:=fun v (q:Spare)=>aN v) (post:=fun s (q:Spare)=>.rd i0 87 q (rdC s q) :: rs) [(0,.ptr i0 0)] Tryz.func144 rfl rfl fun fr Q H hp hq=>?_
 refine W_seq (W_reg ?_)
 refine qal 24 [vI 0,vS (bs []),vS (bs []),vI 0,vI 0,vI 0,vB false,vL tNode ([]:List Node) .nil,vI 0] H K fun id1 st K fr H=>?_
 refine qe ?_
 refine W_seq (W_reg ?_)
 refine qg 2 [(4,.ptr i0 0),(5,.ptr i0 0)] H fun fr H=>?_
 refine ql hr (fun x h=>F91_R  _ x h (K.front 1 rfl)) H fun x2 hr fr H=>?_
 refine qg 1 [(7,.agg [vI 52,vS (bs []),vS (bs []),vI 0,vI 0,vI 0,vB false,vL tNode ([]:List Node) .nil,vI x2])] H fun fr H=>?_
 refine qp [] [] hr (fun a s h=>F193_R  _ _ a s h (p0:=.nil) (K.front 1 rfl)) K H (fun e s h q st K=>hp e s h q _ _ (K.keep [true,false])) fun x3 s5 hr sp4 st K fr H=>?_
 refine qal 24 [vI 0,vS (bs []),vS (bs []),vI 0,vI 0,vI 0,vB false,vL tNode ([]:List Node) .nil,vI 0] H K fun id6 st K fr H=>?_
 refine qst 24 0 (aN x3) [vI x3.kind,vS x3.name,vS x3.other,vI x3.n,vI x3.len,vI x3.init,vB x3.ghost,vL tNode x3.kids .shut,vI x3.pos] 0 H K rfl fun st K fr H=>?_
 refine qe ?_
 refine W_seq (W_reg ?_)
 refine qg 1 [(9,.ptr i0 0)] H fun fr H=>?_
 refine qp [] [] hr (fun a s h=>F93_R  _ _ a s h (K.front 1 rfl)) K H (fun e s h q st K=>hp e s h q _ _ (K.keep [true,false,false])) fun x7 s9 hr sp8 st K fr H=>?_
 refine qe ?_
 refine W_seq (W_reg ?_)
 refine qld 24 0 (aN x3) 1 H K rfl fun fr H=>?_
 refine qst 24 0 (aN x3) [vI x3.kind,vS x3.name,vS x3.other,vI x3.n,vI x3.len,vI x3.init,vB x3.ghost,vL tNode x3.kids .shut,vI x3.pos] 2 H K rfl fun st K fr H=>?_
 refine qe ?_
 refine W_ret ?_
 exact hq _ _ (sj hr).symm sp8 _ _ _ (e_retV [aN x3] H K (fun _=>resC id1 0 24 [vI x3.kind,vS x3.name,vS x3.other,vI x3.n,vI x3.len,vI x3.init,vB x3.ghost,vL tNode x3.kids .shut,vI x3.pos] 2 (by kernel_rfl) rfl (by kernel_rfl) resN) ((K).keep [true,false,false]))
def F57_2 (n:Nat) (a0:Bool) (s:RS):Option ((((List Node)) ⊕ Bad) × RS) :=
 pbind (iterP (σ:=(List Node)) (ρ:=((List Node))) (ε:=Bad) (S:=RS) (fun s1 s1s=>bif s1s.next == (s1s.toks.length:Int) then
   (bif a0 then
    (pbind (F68 s1s) fun _ s6 =>
    some (.inl (.inr s1),s6))
   else
    (some (.inl (.inr s1),s1s)))
  else
   (pbind (bif a0 then
     (pbind (F88 (bs [125]) s1s) fun x8 s10 =>
     bif x8 then
      (some (.inl (.inl ()),s10))
     else
      (some (.inl (.inr ()),s10)))
    else
     (some (.inl (.inr ()),s1s)):Option (((Unit ⊕ Unit) ⊕ Bad) × RS)) fun j12 j12s=>match j12 with
   | .inl _=>some (.inl (.inr s1),j12s)
   | .inr _=>(guardF (F144 j12s)).bind fun x13 =>
    bif x13.1.2.1 == 0 then
     ((appL 104 s1 ([x13.1.1]:List Node)).bind fun x18 =>
     some (.inl (.inl x18),x13.2))
    else
     (pbind (F89 x13.1.2.1 x13.1.2.2 x13.2) fun _ s22 =>
     pbind (F90 n a0 s22) fun _ s25 =>
     some (.inl (.inl s1),s25)))) n ([]:List Node) s) fun r26 r26s =>
 some (.inl r26,r26s)
theorem F57_2_R (n:Nat) (a0:Bool) (s:RS) (r:((List Node)) ⊕ Bad) (s2:RS) (hr:F57_2 n a0 s = some (r,s2)) {st:St} {rs:List Res} {i0:Nat} {p:Spare} (K:HL st (.rd i0 87 p (rdC s p) :: rs)):∃ (q:Spare) (st':St),R Tryz.prog AN 57 [.ptr i0 0,vB a0,.fn 144 [.ptr i0 0] []] st (gotE encW (fun v=>vL tNode v .shut) r) st'∧HL st' (.rd i0 87 q (rdC s2 q) :: rs):=by
 unfold F57_2 at hr
 refine R_panX (ew:=encW) (enc:=fun v (q:Spare)=>vL tNode v .shut) (post:=fun s (q:Spare)=>.rd i0 87 q (rdC s q) :: rs) [(0,.ptr i0 0),(1,vB a0),(2,.fn 144 [.ptr i0 0] [])] Tryz.func57 rfl rfl fun fr Q H hp hq=>?_
 refine W_seq (W_reg ?_)
 refine qg 1 [] H fun fr H=>?_
 refine qe ?_
 refine W_seq (W_reg ?_)
 refine qg 1 [(7,vL tNode ([]:List Node) .nil)] H fun fr H=>?_
 refine qe ?_
 refine W_block ?_
 refine W_iterP hr hp (fun (s1:(List Node)) s1s fr st=>∃ (s1sp0 s1q:Spare),Rd fr [(0,.ptr i0 0),(1,vB a0),(2,.fn 144 [.ptr i0 0] []),(7,vL tNode s1 s1sp0)]∧HL st (.own s1sp0 :: .rd i0 87 s1q (rdC s1s s1q) :: rs)) (fun (r26:((List Node))) r26s e fr st=>e = .ret∧∃ (r26sp0 r26q:Spare),Rd fr [(6,vL tNode r26 r26sp0)]∧HL st (.rd i0 87 r26q (rdC r26s r26q) :: .own r26sp0 :: rs)) ⟨.nil,p,H.tq,(K).nilo⟩ (by rintro _ s fr st ⟨h,_⟩ <;> cases h) ?_ ?_
 ·rintro s1 s1s fr st y Q ⟨s1sp0,s1q,H,K⟩ hr hp hq
  refine W_block ?_
  refine W_seq (W_seq ?_)
  refine W_drw ?_
  refine qg 3 [(12,.ptr i0 1)] H fun fr H=>?_
  refine qldR 3 1 (vI s1s.next) 1 H K rfl fun fr H=>?_
  refine qg 3 [(16,.ptr i0 0)] H fun fr H=>?_
  refine qldR 56 0 (vL tToken s1s.toks .shut) 1 H K rfl fun fr H=>?_
  refine qln tToken 56 s1s.toks .shut H fun fr H=>?_
  refine qg 1 [(19,vB (s1s.next == (s1s.toks.length:Int)))] H fun fr H=>?_
  refine qe (qd ?_)
  rcases csplit hr with ⟨hc2,hr⟩ | ⟨hc2,hr⟩
  ·refine qT H hc2 ?_
   refine W_seq (W_seq ?_)
   refine W_reg ?_
   refine qg 1 [(20,vB a0)] H fun fr H=>?_
   refine qe ?_
   rcases csplit hr with ⟨hc3,hr⟩ | ⟨hc3,hr⟩
   rotate_left
   ·refine qF H hc3 ?_
    refine W_skip ?_
    refine W_seq (W_reg ?_)
    refine qg 2 [(6,vL tNode s1 s1sp0)] H fun fr H=>?_
    refine qe ?_
    refine W_ret ?_
    exact hq _ _ (sj hr).symm _ _ _ ⟨rfl,s1sp0,s1q,H.tq,((K).front 0 rfl).front 1 rfl⟩
   refine qT H hc3 ?_
   refine W_reg ?_
   refine qg 1 [(21,.ptr i0 0)] H fun fr H=>?_
   refine qp [] [] hr (fun a s h=>F68_R  _ a s h (K.front 1 rfl)) K H (fun e s h q st K=>hp e s h q _ _ (K.keep [true,false])) fun x4 s6 hr sp5 st K fr H=>?_
   refine qe ?_
   refine W_seq (W_reg ?_)
   refine qg 2 [(6,vL tNode s1 s1sp0)] H fun fr H=>?_
   refine qe ?_
   refine W_ret ?_
   exact hq _ _ (sj hr).symm _ _ _ ⟨rfl,s1sp0,sp5,H.tq,K⟩
  refine qF H hc2 ?_
  refine W_skip ?_
  refine W_seq ?_
  refine W_viaP (fun j12 j12s e fr st=>match j12 with | .inl j12a=>(e = .ret∧∃ (j12aq:Spare),Rd fr [(6,vL tNode s1 s1sp0)]∧HL st (.rd i0 87 j12aq (rdC j12s j12aq) :: .own s1sp0 :: rs)) | .inr j12b=>(e = .normal∧∃ (j12bq:Spare),Rd fr [(0,.ptr i0 0),(1,vB a0),(2,.fn 144 [.ptr i0 0] []),(7,vL tNode s1 s1sp0)]∧HL st (.rd i0 87 j12bq (rdC j12s j12bq) :: .own s1sp0 :: rs))) hr hp ?_ ?_
  ·intro y Q hr hp hq
   refine W_seq (W_reg ?_)
   refine qg 2 [(25,vB a0)] H fun fr H=>?_
   rcases csplit hr with ⟨hc7,hr⟩ | ⟨hc7,hr⟩
   rotate_left
   ·rw [hc7] at H
    refine qg 3 [(28,vB false)] H fun fr H=>?_
    refine qe ?_
    refine qF H rfl ?_
    refine W_skip ?_
    exact hq _ _ (sj hr).symm _ _ _ ⟨rfl,s1q,(by (try rw [hc7]); exact H.tq),((K).front 0 rfl).front 1 rfl⟩
   rw [hc7] at H
   refine qg 1 [(26,.ptr i0 0)] H fun fr H=>?_
   refine qp [] [] hr (fun a s h=>F88_R  _ _ a s h (K.front 1 rfl)) K H (fun e s h q st K=>hp e s h q _ _ (K.keep [true,false])) fun x8 s10 hr sp9 st K fr H=>?_
   refine qg 1 [(28,vB x8)] H fun fr H=>?_
   refine qe ?_
   rcases csplit hr with ⟨hc11,hr⟩ | ⟨hc11,hr⟩
   rotate_left
   ·refine qF H hc11 ?_
    refine W_skip ?_
    exact hq _ _ (sj hr).symm _ _ _ ⟨rfl,sp9,(by (try rw [hc7]); exact H.tq),K⟩
   refine qT H hc11 ?_
   refine W_seq (W_reg ?_)
   refine qg 2 [(6,vL tNode s1 s1sp0)] H fun fr H=>?_
   refine qe ?_
   refine W_ret ?_
   exact hq _ _ (sj hr).symm _ _ _ ⟨rfl,sp9,H.tq,K⟩
  intro j12 j12s hr
  rcases j12 with j12a | j12b
  ·rintro e fr st ⟨rfl,j12aq,H,K⟩
   exact hq _ _ (sj hr).symm _ _ _ ⟨rfl,s1sp0,j12aq,H.tq,K⟩
  rintro e fr st ⟨rfl,j12bq,H,K⟩
  refine W_seq (W_reg ?_)
  refine qg 2 [(31,.ptr i0 0),(32,.fn 144 [.ptr i0 0] [])] H fun fr H=>?_
  refine qqb hr (fun x h=>guarded_R (g:=144) (first:=[.ptr i0 0]) (cap:=[]) h K (fun a s hy st1 pre K=>F144_R  _ a s hy K)) H fun x13 hr sp14 st K fr H=>?_
  refine qg 3 [(34,aN x13.1.1),(35,.agg [vI x13.1.2.1,vI x13.1.2.2])] H fun fr H=>?_
  refine qal 24 [vI 0,vS (bs []),vS (bs []),vI 0,vI 0,vI 0,vB false,vL tNode ([]:List Node) .nil,vI 0] H K fun id15 st K fr H=>?_
  refine qal 95 [vI 0,vI 0] H K fun id16 st K fr H=>?_
  refine qst 24 0 (aN x13.1.1) [vI x13.1.1.kind,vS x13.1.1.name,vS x13.1.1.other,vI x13.1.1.n,vI x13.1.1.len,vI x13.1.1.init,vB x13.1.1.ghost,vL tNode x13.1.1.kids .shut,vI x13.1.1.pos] 1 H K rfl fun st K fr H=>?_
  refine qst 95 0 (.agg [vI x13.1.2.1,vI x13.1.2.2]) [vI x13.1.2.1,vI x13.1.2.2] 0 H K rfl fun st K fr H=>?_
  refine qe ?_
  refine W_seq (W_seq ?_)
  refine W_reg ?_
  refine qg 1 [(36,.ptr id16 0)] H fun fr H=>?_
  refine qld 27 0 (vI x13.1.2.1) 0 H K rfl fun fr H=>?_
  refine qg 1 [(38,vB (x13.1.2.1 == 0))] H fun fr H=>?_
  refine qe ?_
  rcases csplit hr with ⟨hc17,hr⟩ | ⟨hc17,hr⟩
  ·refine qT H hc17 ?_
   refine W_seq (W_reg ?_)
   refine qg 1 [(39,vL tNode s1 s1sp0)] H fun fr H=>?_
   refine qld 24 0 (aN x13.1.1) 1 H K rfl fun fr H=>?_
   refine qv (.buildSlice 22 1 [(0,aN x13.1.1)]) H (run_bslice (v:=vL tNode ([x13.1.1]:List Node) .full) (v0:=.slice [aN x13.1.1] .full) (by kernel_rfl) (by simp only [List.map,vL,tNode_e,eNode_eq,cNode] <;> rfl)) fun fr H=>?_
   refine qapp tNode 104 22 22 .full hr 3 H K rfl fun x18 hr sp19 st K fr H=>?_
   refine qg 1 [(7,vL tNode x18 sp19)] H fun fr H=>?_
   refine qe ?_
   refine W_exit ?_
   refine in_exit ?_
   exact hq _ _ (sj hr).symm _ _ _ ⟨rfl,sp19,sp14,H.tq,((((K.keep [false,false,true,true]).front 0 rfl)).front 1 rfl)⟩
  refine qF H hc17 ?_
  refine W_skip ?_
  refine W_seq (W_reg ?_)
  refine qg 1 [(43,.ptr i0 0)] H fun fr H=>?_
  refine qld 95 0 (.agg [vI x13.1.2.1,vI x13.1.2.2]) 0 H K rfl fun fr H=>?_
  refine qp [] [] hr (fun a s h=>F89_R  _ _ _ a s h (K.front 2 rfl)) K H (fun e s h q st K=>hp e s h q _ _ (K.keep [true,false,false,false])) fun x20 s22 hr sp21 st K fr H=>?_
  refine qe ?_
  refine W_reg ?_
  refine qg 2 [(46,.ptr i0 0),(47,vB a0)] H fun fr H=>?_
  refine qp [] [] hr (fun a s h=>F90_R n _ _ a s h K) K H (fun e s h q st K=>hp e s h q _ _ (K.keep [true,false,false,false])) fun x23 s25 hr sp24 st K fr H=>?_
  refine qe ?_
  exact hq _ _ (sj hr).symm _ _ _ ⟨rfl,s1sp0,sp24,H.tq,((((K.keep [true,false,false,true]).front 0 rfl)).front 1 rfl)⟩
 intro r26 r26s hr
 rintro e fr st ⟨rfl,r26sp0,r26q,H,K⟩
 exact hq _ _ (sj hr).symm r26q _ _ _ (e_retV [vL tNode r26 r26sp0] H K (fun _=>resT (by kernel_rfl) resN) ((K).keep [true,false]))
end Go.Proofs.YtbecjgckobhmpaaGreatDoor
end
section
namespace Go.Proofs.YtbecjgckobhmpaaGreatDoor
open Go Go.AM Go.Proofs
set_option maxRecDepth 100000
set_option maxHeartbeats 4000000
def F145 (a0:Node) (s:RS):Option ((Node ⊕ Bad) × RS) :=
 pbind (F92 s) fun x3 s5 =>
 pbind (pbind (F88 (bs [91]) s5) fun x6 s8 =>
  bif x6 then
   ((F91 s8).bind fun x10 =>
   pbind (F103 s8) fun x11 s13 =>
   bif x11 == 0 then
    (some (.inr ((2:Int),x10),(s13.setNext (w64 (s13.next - 1)))))
   else
    (pbind (F93 (bs [93]) s13) fun _ s17 =>
    some (.inl (Node.mk 50 x3 a0.other a0.n x11 a0.init a0.ghost a0.kids a0.pos),s17)))
  else
   (some (.inl (Node.mk 50 x3 a0.other a0.n a0.len a0.init a0.ghost a0.kids a0.pos),s8)):Option (((Node) ⊕ Bad) × RS)) fun j18 j18s =>
 pbind (F93 (bs [58]) j18s) fun _ s21 =>
 pbind ((F143 s21).bind fun x22 =>
  bif x22 then
   (pbind (F92 s21) fun x24 s26 =>
   some (.inl (Node.mk j18.kind j18.name x24 j18.n j18.len j18.init j18.ghost j18.kids j18.pos),s26))
  else
   (pbind (F103 s21) fun x27 s29 =>
   some (.inl (Node.mk j18.kind j18.name j18.other x27 j18.len j18.init j18.ghost j18.kids j18.pos),s29)):Option (((Node) ⊕ Bad) × RS)) fun j30 j30s =>
 pbind (pbind (F88 (bs [61]) j30s) fun x31 s33 =>
  bif x31 then
   (pbind (F103 s33) fun x35 s37 =>
   some (.inl (Node.mk j30.kind j30.name j30.other j30.n j30.len x35 j30.ghost j30.kids j30.pos),s37))
  else
   (some (.inl j30,s33)):Option (((Node) ⊕ Bad) × RS)) fun j38 j38s =>
 pbind (F93 (bs [59]) j38s) fun _ s41 =>
 some (.inl j38,s41)
theorem F145_R (a0:Node) (s:RS) (r:Node ⊕ Bad) (s2:RS) (hr:F145 a0 s = some (r,s2)) {st:St} {rs:List Res} {i0:Nat} {p p0:Spare} (K:HL st (.rd i0 87 p (rdC s p) :: rs)):∃ (q:Spare) (st':St),R Tryz.prog AN 145 [.ptr i0 0,.agg (cNode p0 a0)] st (gotE encW (fun v=>aN v) r) st'∧HL st' (.rd i0 87 q (rdC s2 q) :: rs):=by
 unfold F145 at hr
 refine R_panX (ew:=encW) (enc:=fun v (q:Spare)=>aN v) (post:=fun s (q:Spare)=>.rd i0 87 q (rdC s q) :: rs) [(0,.ptr i0 0),(1,.agg (cNode p0 a0))] Tryz.func145 rfl rfl fun fr Q H hp hq=>?_
 refine W_seq (W_reg ?_)
 refine qbx 24 (.agg (cNode p0 a0)) [vI a0.kind,vS a0.name,vS a0.other,vI a0.n,vI a0.len,vI a0.init,vB a0.ghost,vL tNode a0.kids p0,vI a0.pos] H K fun id1 st K fr H=>?_
 refine qal 24 [vI 0,vS (bs []),vS (bs []),vI 0,vI 0,vI 0,vB false,vL tNode ([]:List Node) .nil,vI 0] H K fun id2 st K fr H=>?_
 refine qe ?_
 refine W_seq (W_reg ?_)
 refine qg 1 [(6,.ptr i0 0)] H fun fr H=>?_
 refine qp [] [] hr (fun a s h=>F92_R  _ a s h (K.front 2 rfl)) K H (fun e s h q st K=>hp e s h q _ _ (K.keep [true,false,false])) fun x3 s5 hr sp4 st K fr H=>?_
 refine qg 1 [(8,.ptr id1 0)] H fun fr H=>?_
 refine qst 3 0 (vI 50) [vI 50,vS a0.name,vS a0.other,vI a0.n,vI a0.len,vI a0.init,vB a0.ghost,vL tNode a0.kids p0,vI a0.pos] 2 H K rfl fun st K fr H=>?_
 refine qg 1 [(9,.ptr id1 1)] H fun fr H=>?_
 refine qst 9 1 (vS x3) [vI 50,vS x3,vS a0.other,vI a0.n,vI a0.len,vI a0.init,vB a0.ghost,vL tNode a0.kids p0,vI a0.pos] 2 H K rfl fun st K fr H=>?_
 refine qe ?_
 refine W_seq ?_
 refine W_viaP (fun j18 j18s e fr st=>e = .normal∧∃ (j18sp0 j18q:Spare),Rd fr [(0,.ptr i0 0),(3,.ptr id1 0),(4,.ptr id2 0)]∧HL st (.rd i0 87 j18q (rdC j18s j18q) :: .obj id2 (.cells 24 [vI 0,vS (bs []),vS (bs []),vI 0,vI 0,vI 0,vB false,vL tNode ([]:List Node) .nil,vI 0]) :: .obj id1 (.cells 24 [vI j18.kind,vS j18.name,vS j18.other,vI j18.n,vI j18.len,vI j18.init,vB j18.ghost,vL tNode j18.kids j18sp0,vI j18.pos]) :: rs)) hr hp ?_ ?_
 ·intro y Q hr hp hq
  refine W_seq (W_reg ?_)
  refine qg 1 [(10,.ptr i0 0)] H fun fr H=>?_
  refine qp [] [] hr (fun a s h=>F88_R  _ _ a s h K) K H (fun e s h q st K=>hp e s h q _ _ (K.keep [true,false,false])) fun x6 s8 hr sp7 st K fr H=>?_
  refine qe ?_
  rcases csplit hr with ⟨hc9,hr⟩ | ⟨hc9,hr⟩
  rotate_left
  ·refine qF H hc9 ?_
   refine W_skip ?_
   exact hq _ _ (sj hr).symm _ _ _ ⟨rfl,p0,sp7,H.tq,K⟩
  refine qT H hc9 ?_
  refine W_seq (W_reg ?_)
  refine qg 1 [(12,.ptr i0 0)] H fun fr H=>?_
  refine ql hr (fun x h=>F91_R  _ x h K) H fun x10 hr fr H=>?_
  refine qg 1 [(5,vI x10)] H fun fr H=>?_
  refine qe ?_
  refine W_seq (W_reg ?_)
  refine qg 1 [(14,.ptr i0 0)] H fun fr H=>?_
  refine qp [] [] hr (fun a s h=>F103_R  _ a s h K) K H (fun e s h q st K=>hp e s h q _ _ (K.keep [true,false,false])) fun x11 s13 hr sp12 st K fr H=>?_
  refine qg 1 [(16,.ptr id1 4)] H fun fr H=>?_
  refine qst 3 4 (vI x11) [vI 50,vS x3,vS a0.other,vI a0.n,vI x11,vI a0.init,vB a0.ghost,vL tNode a0.kids p0,vI a0.pos] 2 H K rfl fun st K fr H=>?_
  refine qe ?_
  refine W_seq (W_seq ?_)
  refine W_reg ?_
  refine qg 1 [(17,.ptr id1 4)] H fun fr H=>?_
  refine qld 3 4 (vI x11) 2 H K rfl fun fr H=>?_
  refine qg 1 [(19,vB (x11 == 0))] H fun fr H=>?_
  refine qe ?_
  rcases csplit hr with ⟨hc14,hr⟩ | ⟨hc14,hr⟩
  rotate_left
  ·refine qF H hc14 ?_
   refine W_skip ?_
   refine W_reg ?_
   refine qg 1 [(30,.ptr i0 0)] H fun fr H=>?_
   refine qp [] [] hr (fun a s h=>F93_R  _ _ a s h K) K H (fun e s h q st K=>hp e s h q _ _ (K.keep [true,false,false])) fun x15 s17 hr sp16 st K fr H=>?_
   refine qe ?_
   exact hq _ _ (sj hr).symm _ _ _ ⟨rfl,p0,sp16,H.tq,K⟩
  refine qT H hc14 ?_
  refine W_seq (W_reg ?_)
  refine qg 3 [(20,.ptr i0 0),(22,.ptr i0 1)] H fun fr H=>?_
  refine qldR 3 1 (vI s13.next) 0 H K rfl fun fr H=>?_
  refine qg 3 [(24,vI (w64 (s13.next - 1))),(26,.ptr i0 1)] H fun fr H=>?_
  refine qstR 3 1 (vI (w64 (s13.next - 1))) (rdC (s13.setNext (w64 (s13.next - 1))) sp12) 0 H K rfl fun st K fr H=>?_
  refine qe ?_
  refine W_reg ?_
  refine qg 3 [(29,.iface 95 (.agg [vI 2,vI x10]))] H fun fr H=>?_
  exact qpan H (hp _ _ (sj hr).symm sp12 _ _ (K.keep [true,false,false]))
 intro j18 j18s hr
 rintro e fr st ⟨rfl,j18sp0,j18q,H,K⟩
 refine W_seq (W_reg ?_)
 refine qg 1 [(32,.ptr i0 0)] H fun fr H=>?_
 refine qp [] [] hr (fun a s h=>F93_R  _ _ a s h K) K H (fun e s h q st K=>hp e s h q _ _ (K.keep [true,false,false])) fun x19 s21 hr sp20 st K fr H=>?_
 refine qe ?_
 refine W_seq ?_
 refine W_viaP (fun j30 j30s e fr st=>e = .normal∧∃ (j30sp0 j30q:Spare),Rd fr [(0,.ptr i0 0),(3,.ptr id1 0),(4,.ptr id2 0)]∧HL st (.rd i0 87 j30q (rdC j30s j30q) :: .obj id2 (.cells 24 [vI 0,vS (bs []),vS (bs []),vI 0,vI 0,vI 0,vB false,vL tNode ([]:List Node) .nil,vI 0]) :: .obj id1 (.cells 24 [vI j30.kind,vS j30.name,vS j30.other,vI j30.n,vI j30.len,vI j30.init,vB j30.ghost,vL tNode j30.kids j30sp0,vI j30.pos]) :: rs)) hr hp ?_ ?_
 ·intro y Q hr hp hq
  refine W_seq (W_reg ?_)
  refine qg 1 [(34,.ptr i0 0)] H fun fr H=>?_
  refine ql hr (fun x h=>F143_R  _ x h K) H fun x22 hr fr H=>?_
  refine qe ?_
  rcases csplit hr with ⟨hc23,hr⟩ | ⟨hc23,hr⟩
  ·refine qT H hc23 ?_
   refine W_reg ?_
   refine qg 1 [(36,.ptr i0 0)] H fun fr H=>?_
   refine qp [] [] hr (fun a s h=>F92_R  _ a s h K) K H (fun e s h q st K=>hp e s h q _ _ (K.keep [true,false,false])) fun x24 s26 hr sp25 st K fr H=>?_
   refine qg 1 [(38,.ptr id1 2)] H fun fr H=>?_
   refine qst 9 2 (vS x24) [vI j18.kind,vS j18.name,vS x24,vI j18.n,vI j18.len,vI j18.init,vB j18.ghost,vL tNode j18.kids j18sp0,vI j18.pos] 2 H K rfl fun st K fr H=>?_
   refine qe ?_
   exact hq _ _ (sj hr).symm _ _ _ ⟨rfl,j18sp0,sp25,H.tq,K⟩
  refine qF H hc23 ?_
  refine W_reg ?_
  refine qg 1 [(39,.ptr i0 0)] H fun fr H=>?_
  refine qp [] [] hr (fun a s h=>F103_R  _ a s h K) K H (fun e s h q st K=>hp e s h q _ _ (K.keep [true,false,false])) fun x27 s29 hr sp28 st K fr H=>?_
  refine qg 1 [(41,.ptr id1 3)] H fun fr H=>?_
  refine qst 3 3 (vI x27) [vI j18.kind,vS j18.name,vS j18.other,vI x27,vI j18.len,vI j18.init,vB j18.ghost,vL tNode j18.kids j18sp0,vI j18.pos] 2 H K rfl fun st K fr H=>?_
  refine qe ?_
  exact hq _ _ (sj hr).symm _ _ _ ⟨rfl,j18sp0,sp28,H.tq,K⟩
 intro j30 j30s hr
 rintro e fr st ⟨rfl,j30sp0,j30q,H,K⟩
 refine W_seq ?_
 refine W_viaP (fun j38 j38s e fr st=>e = .normal∧∃ (j38sp0 j38q:Spare),Rd fr [(0,.ptr i0 0),(3,.ptr id1 0),(4,.ptr id2 0)]∧HL st (.rd i0 87 j38q (rdC j38s j38q) :: .obj id2 (.cells 24 [vI 0,vS (bs []),vS (bs []),vI 0,vI 0,vI 0,vB false,vL tNode ([]:List Node) .nil,vI 0]) :: .obj id1 (.cells 24 [vI j38.kind,vS j38.name,vS j38.other,vI j38.n,vI j38.len,vI j38.init,vB j38.ghost,vL tNode j38.kids j38sp0,vI j38.pos]) :: rs)) hr hp ?_ ?_
 ·intro y Q hr hp hq
  refine W_seq (W_reg ?_)
  refine qg 1 [(42,.ptr i0 0)] H fun fr H=>?_
  refine qp [] [] hr (fun a s h=>F88_R  _ _ a s h K) K H (fun e s h q st K=>hp e s h q _ _ (K.keep [true,false,false])) fun x31 s33 hr sp32 st K fr H=>?_
  refine qe ?_
  rcases csplit hr with ⟨hc34,hr⟩ | ⟨hc34,hr⟩
  rotate_left
  ·refine qF H hc34 ?_
   refine W_skip ?_
   exact hq _ _ (sj hr).symm _ _ _ ⟨rfl,j30sp0,sp32,H.tq,K⟩
  refine qT H hc34 ?_
  refine W_reg ?_
  refine qg 1 [(44,.ptr i0 0)] H fun fr H=>?_
  refine qp [] [] hr (fun a s h=>F103_R  _ a s h K) K H (fun e s h q st K=>hp e s h q _ _ (K.keep [true,false,false])) fun x35 s37 hr sp36 st K fr H=>?_
  refine qg 1 [(46,.ptr id1 5)] H fun fr H=>?_
  refine qst 3 5 (vI x35) [vI j30.kind,vS j30.name,vS j30.other,vI j30.n,vI j30.len,vI x35,vB j30.ghost,vL tNode j30.kids j30sp0,vI j30.pos] 2 H K rfl fun st K fr H=>?_
  refine qe ?_
  exact hq _ _ (sj hr).symm _ _ _ ⟨rfl,j30sp0,sp36,H.tq,K⟩
 intro j38 j38s hr
 rintro e fr st ⟨rfl,j38sp0,j38q,H,K⟩
 refine W_seq (W_reg ?_)
 refine qg 1 [(47,.ptr i0 0)] H fun fr H=>?_
 refine qp [] [] hr (fun a s h=>F93_R  _ _ a s h K) K H (fun e s h q st K=>hp e s h q _ _ (K.keep [true,false,false])) fun x39 s41 hr sp40 st K fr H=>?_
 refine qe ?_
 refine W_seq (W_reg ?_)
 refine qld 24 0 (aN j38) 2 H K rfl fun fr H=>?_
 refine qst 24 0 (aN j38) [vI j38.kind,vS j38.name,vS j38.other,vI j38.n,vI j38.len,vI j38.init,vB j38.ghost,vL tNode j38.kids .shut,vI j38.pos] 1 H K rfl fun st K fr H=>?_
 refine qe ?_
 refine W_ret ?_
 exact hq _ _ (sj hr).symm sp40 _ _ _ (e_retV [aN j38] H K (fun _=>resC id2 0 24 [vI j38.kind,vS j38.name,vS j38.other,vI j38.n,vI j38.len,vI j38.init,vB j38.ghost,vL tNode j38.kids .shut,vI j38.pos] 1 (by kernel_rfl) rfl (by kernel_rfl) resN) ((K).keep [true,false,false]))
def F148 (n:Nat) (s:RS):Option ((Node ⊕ Bad) × RS) :=
 (F91 s).bind fun x2 =>
 pbind (F152 n s) fun x3 s5 =>
 some (.inl (Node.mk 2 x3 (bs []) 0 0 0 false ([]:List Node) x2),s5)
theorem F148_R (n:Nat) (s:RS) (r:Node ⊕ Bad) (s2:RS) (hr:F148 n s = some (r,s2)) {st:St} {rs:List Res} {i0:Nat} {p:Spare} (K:HL st (.rd i0 87 p (rdC s p) :: rs)):∃ (q:Spare) (st':St),R Tryz.prog AN 148 [.ptr i0 0] st (gotE encW (fun v=>aN v) r) st'∧HL st' (.rd i0 87 q (rdC s2 q) :: rs):=by
 unfold F148 at hr
 refine R_panX (ew:=encW) (enc:=fun v (q:Spare)=>aN v) (post:=fun s (q:Spare)=>.rd i0 87 q (rdC s q) :: rs) [(0,.ptr i0 0)] Tryz.func148 rfl rfl fun fr Q H hp hq=>?_
 refine W_seq (W_reg ?_)
 refine qal 24 [vI 0,vS (bs []),vS (bs []),vI 0,vI 0,vI 0,vB false,vL tNode ([]:List Node) .nil,vI 0] H K fun id1 st K fr H=>?_
 refine qe ?_
 refine W_seq (W_reg ?_)
 refine qg 1 [(4,.ptr i0 0)] H fun fr H=>?_
 refine ql hr (fun x h=>F91_R  _ x h (K.front 1 rfl)) H fun x2 hr fr H=>?_
 refine qg 1 [(3,vI x2)] H fun fr H=>?_
 refine qe ?_
 refine W_seq (W_reg ?_)
 refine qg 1 [(6,.ptr i0 0)] H fun fr H=>?_
 refine qp [] [] hr (fun a s h=>F152_R n _ a s h (K.front 1 rfl)) K H (fun e s h q st K=>hp e s h q _ _ (K.keep [true,false])) fun x3 s5 hr sp4 st K fr H=>?_
 refine qg 2 [(9,.agg [vI 2,vS x3,vS (bs []),vI 0,vI 0,vI 0,vB false,vL tNode ([]:List Node) .nil,vI x2])] H fun fr H=>?_
 refine qst 24 0 (.agg [vI 2,vS x3,vS (bs []),vI 0,vI 0,vI 0,vB false,vL tNode ([]:List Node) .nil,vI x2]) [vI 2,vS x3,vS (bs []),vI 0,vI 0,vI 0,vB false,vL tNode ([]:List Node) .nil,vI x2] 1 H K rfl fun st K fr H=>?_
 refine qe ?_
 refine W_ret ?_
 exact hq _ _ (sj hr).symm sp4 _ _ _ (e_retV [.agg [vI 2,vS x3,vS (bs []),vI 0,vI 0,vI 0,vB false,vL tNode ([]:List Node) .shut,vI x2]] H K (fun _=>resC id1 0 24 [vI 2,vS x3,vS (bs []),vI 0,vI 0,vI 0,vB false,vL tNode ([]:List Node) .nil,vI x2] 1 (by kernel_rfl) rfl (by kernel_rfl) resN) ((K).keep [true,false]))
def F194_3 (n:Nat) (s:RS):Option ((((List Node)) ⊕ Bad) × RS) :=
 pbind (F148 n s) fun x1 s3 =>
 some (.inl ([x1]:List Node),s3)
theorem F194_3_R (n:Nat) (s:RS) (r:((List Node)) ⊕ Bad) (s2:RS) (hr:F194_3 n s = some (r,s2)) {st:St} {rs:List Res} {i0:Nat} {p:Spare} (K:HL st (.rd i0 87 p (rdC s p) :: rs)):∃ (q:Spare × Spare) (st':St),R Tryz.prog AN 194 [.cptr ([.fn 148 [.ptr i0 0] []]) 0] st (gotE encW (fun v=>vL tNode v q.2) r) st'∧HL st' (.own q.2 :: .rd i0 87 q.1 (rdC s2 q.1) :: rs):=by
 unfold F194_3 at hr
 refine R_panX (ew:=encW) (enc:=fun v (q:Spare × Spare)=>vL tNode v q.2) (post:=fun s (q:Spare × Spare)=>.own q.2 :: .rd i0 87 q.1 (rdC s q.1) :: rs) [(0,.cptr ([.fn 148 [.ptr i0 0] []]) 0)] Tryz.func194 rfl rfl fun fr Q H hp hq=>?_
 refine W_seq (W_reg ?_)
 refine qg 1 [] H fun fr H=>?_
 refine qe ?_
 refine W_seq (W_reg ?_)
 refine qg 1 [(2,.fn 148 [.ptr i0 0] [])] H fun fr H=>?_
 refine qp [] [] hr (fun a s h=>F148_R n _ a s h K) K H (fun e s h q st K=>hp e s h (q,.nil) _ _ (K).nilo) fun x1 s3 hr sp2 st K fr H=>?_
 refine qv (.buildSlice 22 1 [(0,aN x1)]) H (run_bslice (v:=vL tNode ([x1]:List Node) .full) (v0:=.slice [aN x1] .full) (by kernel_rfl) (by simp only [List.map,vL,tNode_e,eNode_eq,cNode] <;> rfl)) fun fr H=>?_
 refine qg 1 [(1,vL tNode ([x1]:List Node) .full)] H fun fr H=>?_
 refine qe ?_
 refine W_ret ?_
 exact hq _ _ (sj hr).symm (sp2,.full) _ _ _ (e_retV [vL tNode ([x1]:List Node) .full] H K (fun _=>resT (by kernel_rfl) resN) (((K.full).front 1 rfl).front 1 rfl))
def F146 (n:Nat) (s:RS):Option ((((List Node)) ⊕ Bad) × RS) :=
 pbind (F194_3 n s) fun x1 s3 =>
 pbind (iterP (σ:=(List Node)) (ρ:=((List Node))) (ε:=Bad) (S:=RS) (fun s5 s5s=>pbind (F88 (bs [44]) s5s) fun x6 s8 =>
  bif x6 then
   (pbind (F194_3 n s8) fun x10 s12 =>
   (appL 104 s5 x10).bind fun x14 =>
   some (.inl (.inl x14),s12))
  else
   (some (.inl (.inr s5),s8))) n x1 s3) fun r16 r16s =>
 some (.inl r16,r16s)
theorem F146_R (n:Nat) (s:RS) (r:((List Node)) ⊕ Bad) (s2:RS) (hr:F146 n s = some (r,s2)) {st:St} {rs:List Res} {i0:Nat} {p:Spare} (K:HL st (.rd i0 87 p (rdC s p) :: rs)):∃ (q:Spare) (st':St),R Tryz.prog AN 146 [.ptr i0 0,.fn 194 [] [.cptr ([.fn 148 [.ptr i0 0] []]) 0]] st (gotE encW (fun v=>vL tNode v .shut) r) st'∧HL st' (.rd i0 87 q (rdC s2 q) :: rs):=by
 unfold F146 at hr
 refine R_panX (ew:=encW) (enc:=fun v (q:Spare)=>vL tNode v .shut) (post:=fun s (q:Spare)=>.rd i0 87 q (rdC s q) :: rs) [(0,.ptr i0 0),(1,.fn 194 [] [.cptr ([.fn 148 [.ptr i0 0] []]) 0])] Tryz.func146 rfl rfl fun fr Q H hp hq=>?_
 refine W_seq (W_reg ?_)
 refine qg 1 [] H fun fr H=>?_
 refine qe ?_
 refine W_seq (W_reg ?_)
 refine qg 1 [(6,.fn 194 [] [.cptr ([.fn 148 [.ptr i0 0] []]) 0])] H fun fr H=>?_
 refine qp [] [] hr (fun a s h=>F194_3_R n _ a s h K) K H (fun e s h q st K=>hp e s h q.1 _ _ (K.keep [false,true])) fun x1 s3 hr ⟨sp2,sp4⟩ st K fr H=>?_
 refine qg 1 [(5,vL tNode x1 sp4)] H fun fr H=>?_
 refine qe ?_
 refine W_seq (W_block ?_)
 refine W_iterP hr hp (fun (s5:(List Node)) s5s fr st=>∃ (s5sp0 s5q:Spare),Rd fr [(0,.ptr i0 0),(1,.fn 194 [] [.cptr ([.fn 148 [.ptr i0 0] []]) 0]),(5,vL tNode s5 s5sp0)]∧HL st (.own s5sp0 :: .rd i0 87 s5q (rdC s5s s5q) :: rs)) (fun (r16:((List Node))) r16s e fr st=>e = .exit 0∧∃ (r16sp0 r16q:Spare),Rd fr [(5,vL tNode r16 r16sp0)]∧HL st (.rd i0 87 r16q (rdC r16s r16q) :: .own r16sp0 :: rs)) ⟨sp4,sp2,H.tq,K⟩ (by rintro _ s fr st ⟨h,_⟩ <;> cases h) ?_ ?_
 ·rintro s5 s5s fr st y Q ⟨s5sp0,s5q,H,K⟩ hr hp hq
  refine W_seq (W_seq ?_)
  refine W_reg ?_
  refine qg 1 [(8,.ptr i0 0)] H fun fr H=>?_
  refine qp [] [] hr (fun a s h=>F88_R  _ _ a s h (K.front 1 rfl)) K H (fun e s h q st K=>hp e s h q _ _ (K.keep [true,false])) fun x6 s8 hr sp7 st K fr H=>?_
  refine qe ?_
  rcases csplit hr with ⟨hc9,hr⟩ | ⟨hc9,hr⟩
  rotate_left
  ·refine qF H hc9 ?_
   refine W_exit ?_
   exact hq _ _ (sj hr).symm _ _ _ ⟨rfl,s5sp0,sp7,H.tq,K⟩
  refine qT H hc9 ?_
  refine W_skip ?_
  refine W_block ?_
  refine W_reg ?_
  refine qg 2 [(10,vL tNode s5 s5sp0),(11,.fn 194 [] [.cptr ([.fn 148 [.ptr i0 0] []]) 0])] H fun fr H=>?_
  refine qp [] [] hr (fun a s h=>F194_3_R n _ a s h K) K H (fun e s h q st K=>hp e s h q.1 _ _ (K.keep [false,true,false])) fun x10 s12 hr ⟨sp11,sp13⟩ st K fr H=>?_
  refine qapp tNode 104 22 22 sp13 hr 2 H K rfl fun x14 hr sp15 st K fr H=>?_
  refine qg 1 [(5,vL tNode x14 sp15)] H fun fr H=>?_
  refine qe ?_
  exact hq _ _ (sj hr).symm _ _ _ ⟨rfl,sp15,sp11,H.tq,((((K.keep [false,true,true]).front 0 rfl)).front 1 rfl)⟩
 intro r16 r16s hr
 rintro e fr st ⟨rfl,r16sp0,r16q,H,K⟩
 refine W_seq (W_reg ?_)
 refine qg 2 [(4,vL tNode r16 r16sp0)] H fun fr H=>?_
 refine qe ?_
 refine W_ret ?_
 exact hq _ _ (sj hr).symm r16q _ _ _ (e_retV [vL tNode r16 r16sp0] H K (fun _=>resT (by kernel_rfl) resN) ((K).keep [true,false]))
def F150 (s:RS):Option ((Node ⊕ Bad) × RS) :=
 (F91 s).bind fun x2 =>
 pbind (F193 (Node.mk 58 (bs []) (bs []) 0 0 0 false ([]:List Node) x2) s) fun x3 s5 =>
 some (.inl x3,s5)
theorem F150_R (s:RS) (r:Node ⊕ Bad) (s2:RS) (hr:F150 s = some (r,s2)) {st:St} {rs:List Res} {i0:Nat} {p:Spare} (K:HL st (.rd i0 87 p (rdC s p) :: rs)):∃ (q:Spare) (st':St),R Tryz.prog AN 150 [.ptr i0 0] st (gotE encW (fun v=>aN v) r) st'∧HL st' (.rd i0 87 q (rdC s2 q) :: rs):=by
 unfold F150 at hr
 refine R_panX (ew:=encW) (enc:=fun v (q:Spare)=>aN v) (post:=fun s (q:Spare)=>.rd i0 87 q (rdC s q) :: rs) [(0,.ptr i0 0)] Tryz.func150 rfl rfl fun fr Q H hp hq=>?_
 refine W_seq (W_reg ?_)
 refine qal 24 [vI 0,vS (bs []),vS (bs []),vI 0,vI 0,vI 0,vB false,vL tNode ([]:List Node) .nil,vI 0] H K fun id1 st K fr H=>?_
 refine qe ?_
 refine W_seq (W_reg ?_)
 refine qg 2 [(3,.ptr i0 0),(4,.ptr i0 0)] H fun fr H=>?_
 refine ql hr (fun x h=>F91_R  _ x h (K.front 1 rfl)) H fun x2 hr fr H=>?_
 refine qg 1 [(6,.agg [vI 58,vS (bs []),vS (bs []),vI 0,vI 0,vI 0,vB false,vL tNode ([]:List Node) .nil,vI x2])] H fun fr H=>?_
 refine qp [] [] hr (fun a s h=>F193_R  _ _ a s h (p0:=.nil) (K.front 1 rfl)) K H (fun e s h q st K=>hp e s h q _ _ (K.keep [true,false])) fun x3 s5 hr sp4 st K fr H=>?_
 refine qst 24 0 (aN x3) [vI x3.kind,vS x3.name,vS x3.other,vI x3.n,vI x3.len,vI x3.init,vB x3.ghost,vL tNode x3.kids .shut,vI x3.pos] 1 H K rfl fun st K fr H=>?_
 refine qe ?_
 refine W_ret ?_
 exact hq _ _ (sj hr).symm sp4 _ _ _ (e_retV [aN x3] H K (fun _=>resC id1 0 24 [vI x3.kind,vS x3.name,vS x3.other,vI x3.n,vI x3.len,vI x3.init,vB x3.ghost,vL tNode x3.kids .shut,vI x3.pos] 1 (by kernel_rfl) rfl (by kernel_rfl) resN) ((K).keep [true,false]))
def F194_2 (s:RS):Option ((((List Node)) ⊕ Bad) × RS) :=
 pbind (F150 s) fun x1 s3 =>
 some (.inl ([x1]:List Node),s3)
theorem F194_2_R (s:RS) (r:((List Node)) ⊕ Bad) (s2:RS) (hr:F194_2 s = some (r,s2)) {st:St} {rs:List Res} {i0:Nat} {p:Spare} (K:HL st (.rd i0 87 p (rdC s p) :: rs)):∃ (q:Spare × Spare) (st':St),R Tryz.prog AN 194 [.cptr ([.fn 150 [.ptr i0 0] []]) 0] st (gotE encW (fun v=>vL tNode v q.2) r) st'∧HL st' (.own q.2 :: .rd i0 87 q.1 (rdC s2 q.1) :: rs):=by
 unfold F194_2 at hr
 refine R_panX (ew:=encW) (enc:=fun v (q:Spare × Spare)=>vL tNode v q.2) (post:=fun s (q:Spare × Spare)=>.own q.2 :: .rd i0 87 q.1 (rdC s q.1) :: rs) [(0,.cptr ([.fn 150 [.ptr i0 0] []]) 0)] Tryz.func194 rfl rfl fun fr Q H hp hq=>?_
 refine W_seq (W_reg ?_)
 refine qg 1 [] H fun fr H=>?_
 refine qe ?_
 refine W_seq (W_reg ?_)
 refine qg 1 [(2,.fn 150 [.ptr i0 0] [])] H fun fr H=>?_
 refine qp [] [] hr (fun a s h=>F150_R  _ a s h K) K H (fun e s h q st K=>hp e s h (q,.nil) _ _ (K).nilo) fun x1 s3 hr sp2 st K fr H=>?_
 refine qv (.buildSlice 22 1 [(0,aN x1)]) H (run_bslice (v:=vL tNode ([x1]:List Node) .full) (v0:=.slice [aN x1] .full) (by kernel_rfl) (by simp only [List.map,vL,tNode_e,eNode_eq,cNode] <;> rfl)) fun fr H=>?_
 refine qg 1 [(1,vL tNode ([x1]:List Node) .full)] H fun fr H=>?_
 refine qe ?_
 refine W_ret ?_
 exact hq _ _ (sj hr).symm (sp2,.full) _ _ _ (e_retV [vL tNode ([x1]:List Node) .full] H K (fun _=>resT (by kernel_rfl) resN) (((K.full).front 1 rfl).front 1 rfl))
def F149_1 (n:Nat) (a0:ByteArray) (s:RS):Option ((((List Node)) ⊕ Bad) × RS) :=
 pbind (F88 a0 s) fun x1 s3 =>
 bif x1 then
  (some (.inl ([]:List Node),s3))
 else
  (pbind (F194_2 s3) fun x5 s7 =>
  pbind (iterP (σ:=(List Node)) (ρ:=((List Node))) (ε:=Bad) (S:=RS) (fun s9 s9s=>pbind (F88 (bs [44]) s9s) fun x10 s12 =>
   bif x10 then
    (pbind (F194_2 s12) fun x14 s16 =>
    (appL 104 s9 x14).bind fun x18 =>
    some (.inl (.inl x18),s16))
   else
    (some (.inl (.inr s9),s12))) n x5 s7) fun r20 r20s =>
  pbind (F93 a0 r20s) fun _ s23 =>
  some (.inl r20,s23))
theorem F149_1_R (n:Nat) (a0:ByteArray) (s:RS) (r:((List Node)) ⊕ Bad) (s2:RS) (hr:F149_1 n a0 s = some (r,s2)) {st:St} {rs:List Res} {i0:Nat} {p:Spare} (K:HL st (.rd i0 87 p (rdC s p) :: rs)):∃ (q:Spare × Spare) (st':St),R Tryz.prog AN 149 [.ptr i0 0,vS a0,.fn 194 [] [.cptr ([.fn 150 [.ptr i0 0] []]) 0]] st (gotE encW (fun v=>vL tNode v q.2) r) st'∧HL st' (.own q.2 :: .rd i0 87 q.1 (rdC s2 q.1) :: rs):=by
 unfold F149_1 at hr
 refine R_panX (ew:=encW) (enc:=fun v (q:Spare × Spare)=>vL tNode v q.2) (post:=fun s (q:Spare × Spare)=>.own q.2 :: .rd i0 87 q.1 (rdC s q.1) :: rs) [(0,.ptr i0 0),(1,vS a0),(2,.fn 194 [] [.cptr ([.fn 150 [.ptr i0 0] []]) 0])] Tryz.func149 rfl rfl fun fr Q H hp hq=>?_
 refine W_seq (W_reg ?_)
 refine qg 1 [] H fun fr H=>?_
 refine qe ?_
 refine W_seq (W_seq ?_)
 refine W_reg ?_
 refine qg 2 [(8,.ptr i0 0),(9,vS a0)] H fun fr H=>?_
 refine qp [] [] hr (fun a s h=>F88_R  _ _ a s h K) K H (fun e s h q st K=>hp e s h (q,.nil) _ _ (K).nilo) fun x1 s3 hr sp2 st K fr H=>?_
 refine qe ?_
 rcases csplit hr with ⟨hc4,hr⟩ | ⟨hc4,hr⟩
 ·refine qT H hc4 ?_
  refine W_seq (W_reg ?_)
  refine qg 1 [(6,vL tNode ([]:List Node) .nil)] H fun fr H=>?_
  refine qe ?_
  refine W_ret ?_
  exact hq _ _ (sj hr).symm (sp2,.nil) _ _ _ (e_retV [vL tNode ([]:List Node) .nil] H K (fun _=>resT (by kernel_rfl) resN) (((K.nilo).front 1 rfl).front 1 rfl))
 refine qF H hc4 ?_
 refine W_skip ?_
 refine W_seq (W_reg ?_)
 refine qg 1 [(11,.fn 194 [] [.cptr ([.fn 150 [.ptr i0 0] []]) 0])] H fun fr H=>?_
 refine qp [] [] hr (fun a s h=>F194_2_R  _ a s h K) K H (fun e s h q st K=>hp e s h (q.1,.nil) _ _ (K.keep [false,true]).nilo) fun x5 s7 hr ⟨sp6,sp8⟩ st K fr H=>?_
 refine qg 1 [(7,vL tNode x5 sp8)] H fun fr H=>?_
 refine qe ?_
 refine W_seq (W_block ?_)
 refine W_iterP hr hp (fun (s9:(List Node)) s9s fr st=>∃ (s9sp0 s9q:Spare),Rd fr [(0,.ptr i0 0),(1,vS a0),(2,.fn 194 [] [.cptr ([.fn 150 [.ptr i0 0] []]) 0]),(7,vL tNode s9 s9sp0)]∧HL st (.own s9sp0 :: .rd i0 87 s9q (rdC s9s s9q) :: rs)) (fun (r20:((List Node))) r20s e fr st=>e = .exit 0∧∃ (r20sp0 r20q:Spare),Rd fr [(0,.ptr i0 0),(1,vS a0),(7,vL tNode r20 r20sp0)]∧HL st (.rd i0 87 r20q (rdC r20s r20q) :: .own r20sp0 :: rs)) ⟨sp8,sp6,H.tq,K⟩ (by rintro _ s fr st ⟨h,_⟩ <;> cases h) ?_ ?_
 ·rintro s9 s9s fr st y Q ⟨s9sp0,s9q,H,K⟩ hr hp hq
  refine W_seq (W_seq ?_)
  refine W_reg ?_
  refine qg 1 [(13,.ptr i0 0)] H fun fr H=>?_
  refine qp [] [] hr (fun a s h=>F88_R  _ _ a s h (K.front 1 rfl)) K H (fun e s h q st K=>hp e s h (q,.nil) _ _ (K.keep [true,false]).nilo) fun x10 s12 hr sp11 st K fr H=>?_
  refine qe ?_
  rcases csplit hr with ⟨hc13,hr⟩ | ⟨hc13,hr⟩
  rotate_left
  ·refine qF H hc13 ?_
   refine W_exit ?_
   exact hq _ _ (sj hr).symm _ _ _ ⟨rfl,s9sp0,sp11,H.tq,K⟩
  refine qT H hc13 ?_
  refine W_skip ?_
  refine W_block ?_
  refine W_reg ?_
  refine qg 2 [(15,vL tNode s9 s9sp0),(16,.fn 194 [] [.cptr ([.fn 150 [.ptr i0 0] []]) 0])] H fun fr H=>?_
  refine qp [] [] hr (fun a s h=>F194_2_R  _ a s h K) K H (fun e s h q st K=>hp e s h (q.1,.nil) _ _ (K.keep [false,true,false]).nilo) fun x14 s16 hr ⟨sp15,sp17⟩ st K fr H=>?_
  refine qapp tNode 104 22 22 sp17 hr 2 H K rfl fun x18 hr sp19 st K fr H=>?_
  refine qg 1 [(7,vL tNode x18 sp19)] H fun fr H=>?_
  refine qe ?_
  exact hq _ _ (sj hr).symm _ _ _ ⟨rfl,sp19,sp15,H.tq,((((K.keep [false,true,true]).front 0 rfl)).front 1 rfl)⟩
 intro r20 r20s hr
 rintro e fr st ⟨rfl,r20sp0,r20q,H,K⟩
 refine W_seq (W_reg ?_)
 refine qg 2 [(19,.ptr i0 0),(20,vS a0)] H fun fr H=>?_
 refine qp [] [] hr (fun a s h=>F93_R  _ _ a s h K) K H (fun e s h q st K=>hp e s h (q,.nil) _ _ (K.keep [true,false]).nilo) fun x21 s23 hr sp22 st K fr H=>?_
 refine qe ?_
 refine W_seq (W_reg ?_)
 refine qg 2 [(6,vL tNode r20 r20sp0)] H fun fr H=>?_
 refine qe ?_
 refine W_ret ?_
 exact hq _ _ (sj hr).symm (sp22,r20sp0) _ _ _ (e_retV [vL tNode r20 r20sp0] H K (fun _=>resT (by kernel_rfl) resN) ((K).front 1 rfl))
def F220 (n:Nat) (s:RS):Option ((((List Node)) ⊕ Bad) × RS) :=
 pbind (F223 n s) fun x1 s3 =>
 pbind (F93 (bs [58,61]) s3) fun _ s7 =>
 pbind (F67 n s7) fun x8 s10 =>
 some (.inl ([x1,x8]:List Node),s10)
theorem F220_R (n:Nat) (s:RS) (r:((List Node)) ⊕ Bad) (s2:RS) (hr:F220 n s = some (r,s2)) {st:St} {rs:List Res} {i0:Nat} {p:Spare} (K:HL st (.rd i0 87 p (rdC s p) :: rs)):∃ (q:Spare × Spare) (st':St),R Tryz.prog AN 220 [.ptr i0 0] st (gotE encW (fun v=>vL tNode v q.2) r) st'∧HL st' (.own q.2 :: .rd i0 87 q.1 (rdC s2 q.1) :: rs):=by
 unfold F220 at hr
 refine R_panX (ew:=encW) (enc:=fun v (q:Spare × Spare)=>vL tNode v q.2) (post:=fun s (q:Spare × Spare)=>.own q.2 :: .rd i0 87 q.1 (rdC s q.1) :: rs) [(0,.ptr i0 0)] Tryz.func220 rfl rfl fun fr Q H hp hq=>?_
 refine W_seq (W_reg ?_)
 refine qg 1 [] H fun fr H=>?_
 refine qe ?_
 refine W_seq (W_reg ?_)
 refine qg 1 [(4,.ptr i0 0)] H fun fr H=>?_
 refine qp [] [] hr (fun a s h=>F223_R n _ a s h K) K H (fun e s h q st K=>hp e s h (q,.nil) _ _ (K).nilo) fun x1 s3 hr sp2 st K fr H=>?_
 refine qal 24 [vI 0,vS (bs []),vS (bs []),vI 0,vI 0,vI 0,vB false,vL tNode ([]:List Node) .nil,vI 0] H K fun id4 st K fr H=>?_
 refine qst 24 0 (aN x1) [vI x1.kind,vS x1.name,vS x1.other,vI x1.n,vI x1.len,vI x1.init,vB x1.ghost,vL tNode x1.kids .shut,vI x1.pos] 0 H K rfl fun st K fr H=>?_
 refine qe ?_
 refine W_seq (W_reg ?_)
 refine qg 1 [(6,.ptr i0 0)] H fun fr H=>?_
 refine qp [] [] hr (fun a s h=>F93_R  _ _ a s h (K.front 1 rfl)) K H (fun e s h q st K=>hp e s h (q,.nil) _ _ (K.keep [true,false]).nilo) fun x5 s7 hr sp6 st K fr H=>?_
 refine qe ?_
 refine W_seq (W_drw ?_)
 refine qld 24 0 (aN x1) 1 H K rfl fun fr H=>?_
 refine qg 1 [(9,.ptr i0 0)] H fun fr H=>?_
 refine qp [1] [1] hr (fun a s h=>F67_R n _ a s h K) K H (fun e s h q st K=>qdP K [.look (some 1),0] (hp e s h (q,.nil) _ _ (K.keep [true,false]).nilo)) fun x8 s10 hr sp9 st K fr H=>?_
 refine qv (.buildSlice 22 2 [(0,aN x1),(1,aN x8)]) H (run_bslice (v:=vL tNode ([x1,x8]:List Node) .full) (v0:=.slice [aN x1,aN x8] .full) (by kernel_rfl) (by simp only [List.map,vL,tNode_e,eNode_eq,cNode] <;> rfl)) fun fr H=>?_
 refine qg 1 [(2,vL tNode ([x1,x8]:List Node) .full)] H fun fr H=>?_
 refine qe (qdI K [.look (some 1),0,.keep [1],0,0] ?_)
 refine W_ret ?_
 exact hq _ _ (sj hr).symm (sp9,.full) _ _ _ (e_retV [vL tNode ([x1,x8]:List Node) .full] H K (fun _=>resT (by kernel_rfl) resN) ((((K.full).keep [true,true,false]).front 1 rfl).front 1 rfl))
def F149_3 (n:Nat) (a0:ByteArray) (s:RS):Option ((((List Node)) ⊕ Bad) × RS) :=
 pbind (F88 a0 s) fun x1 s3 =>
 bif x1 then
  (some (.inl ([]:List Node),s3))
 else
  (pbind (F220 n s3) fun x5 s7 =>
  pbind (iterP (σ:=(List Node)) (ρ:=((List Node))) (ε:=Bad) (S:=RS) (fun s9 s9s=>pbind (F88 (bs [44]) s9s) fun x10 s12 =>
   bif x10 then
    (pbind (F220 n s12) fun x14 s16 =>
    (appL 104 s9 x14).bind fun x18 =>
    some (.inl (.inl x18),s16))
   else
    (some (.inl (.inr s9),s12))) n x5 s7) fun r20 r20s =>
  pbind (F93 a0 r20s) fun _ s23 =>
  some (.inl r20,s23))
theorem F149_3_R (n:Nat) (a0:ByteArray) (s:RS) (r:((List Node)) ⊕ Bad) (s2:RS) (hr:F149_3 n a0 s = some (r,s2)) {st:St} {rs:List Res} {i0:Nat} {p:Spare} (K:HL st (.rd i0 87 p (rdC s p) :: rs)):∃ (q:Spare × Spare) (st':St),R Tryz.prog AN 149 [.ptr i0 0,vS a0,.fn 220 [.ptr i0 0] []] st (gotE encW (fun v=>vL tNode v q.2) r) st'∧HL st' (.own q.2 :: .rd i0 87 q.1 (rdC s2 q.1) :: rs):=by
 unfold F149_3 at hr
 refine R_panX (ew:=encW) (enc:=fun v (q:Spare × Spare)=>vL tNode v q.2) (post:=fun s (q:Spare × Spare)=>.own q.2 :: .rd i0 87 q.1 (rdC s q.1) :: rs) [(0,.ptr i0 0),(1,vS a0),(2,.fn 220 [.ptr i0 0] [])] Tryz.func149 rfl rfl fun fr Q H hp hq=>?_
 refine W_seq (W_reg ?_)
 refine qg 1 [] H fun fr H=>?_
 refine qe ?_
 refine W_seq (W_seq ?_)
 refine W_reg ?_
 refine qg 2 [(8,.ptr i0 0),(9,vS a0)] H fun fr H=>?_
 refine qp [] [] hr (fun a s h=>F88_R  _ _ a s h K) K H (fun e s h q st K=>hp e s h (q,.nil) _ _ (K).nilo) fun x1 s3 hr sp2 st K fr H=>?_
 refine qe ?_
 rcases csplit hr with ⟨hc4,hr⟩ | ⟨hc4,hr⟩
 ·refine qT H hc4 ?_
  refine W_seq (W_reg ?_)
  refine qg 1 [(6,vL tNode ([]:List Node) .nil)] H fun fr H=>?_
  refine qe ?_
  refine W_ret ?_
  exact hq _ _ (sj hr).symm (sp2,.nil) _ _ _ (e_retV [vL tNode ([]:List Node) .nil] H K (fun _=>resT (by kernel_rfl) resN) (((K.nilo).front 1 rfl).front 1 rfl))
 refine qF H hc4 ?_
 refine W_skip ?_
 refine W_seq (W_reg ?_)
 refine qg 1 [(11,.fn 220 [.ptr i0 0] [])] H fun fr H=>?_
 refine qp [] [] hr (fun a s h=>F220_R n _ a s h K) K H (fun e s h q st K=>hp e s h (q.1,.nil) _ _ (K.keep [false,true]).nilo) fun x5 s7 hr ⟨sp6,sp8⟩ st K fr H=>?_
 refine qg 1 [(7,vL tNode x5 sp8)] H fun fr H=>?_
 refine qe ?_
 refine W_seq (W_block ?_)
 refine W_iterP hr hp (fun (s9:(List Node)) s9s fr st=>∃ (s9sp0 s9q:Spare),Rd fr [(0,.ptr i0 0),(1,vS a0),(2,.fn 220 [.ptr i0 0] []),(7,vL tNode s9 s9sp0)]∧HL st (.own s9sp0 :: .rd i0 87 s9q (rdC s9s s9q) :: rs)) (fun (r20:((List Node))) r20s e fr st=>e = .exit 0∧∃ (r20sp0 r20q:Spare),Rd fr [(0,.ptr i0 0),(1,vS a0),(7,vL tNode r20 r20sp0)]∧HL st (.rd i0 87 r20q (rdC r20s r20q) :: .own r20sp0 :: rs)) ⟨sp8,sp6,H.tq,K⟩ (by rintro _ s fr st ⟨h,_⟩ <;> cases h) ?_ ?_
 ·rintro s9 s9s fr st y Q ⟨s9sp0,s9q,H,K⟩ hr hp hq
  refine W_seq (W_seq ?_)
  refine W_reg ?_
  refine qg 1 [(13,.ptr i0 0)] H fun fr H=>?_
  refine qp [] [] hr (fun a s h=>F88_R  _ _ a s h (K.front 1 rfl)) K H (fun e s h q st K=>hp e s h (q,.nil) _ _ (K.keep [true,false]).nilo) fun x10 s12 hr sp11 st K fr H=>?_
  refine qe ?_
  rcases csplit hr with ⟨hc13,hr⟩ | ⟨hc13,hr⟩
  rotate_left
  ·refine qF H hc13 ?_
   refine W_exit ?_
   exact hq _ _ (sj hr).symm _ _ _ ⟨rfl,s9sp0,sp11,H.tq,K⟩
  refine qT H hc13 ?_
  refine W_skip ?_
  refine W_block ?_
  refine W_reg ?_
  refine qg 2 [(15,vL tNode s9 s9sp0),(16,.fn 220 [.ptr i0 0] [])] H fun fr H=>?_
  refine qp [] [] hr (fun a s h=>F220_R n _ a s h K) K H (fun e s h q st K=>hp e s h (q.1,.nil) _ _ (K.keep [false,true,false]).nilo) fun x14 s16 hr ⟨sp15,sp17⟩ st K fr H=>?_
  refine qapp tNode 104 22 22 sp17 hr 2 H K rfl fun x18 hr sp19 st K fr H=>?_
  refine qg 1 [(7,vL tNode x18 sp19)] H fun fr H=>?_
  refine qe ?_
  exact hq _ _ (sj hr).symm _ _ _ ⟨rfl,sp19,sp15,H.tq,((((K.keep [false,true,true]).front 0 rfl)).front 1 rfl)⟩
 intro r20 r20s hr
 rintro e fr st ⟨rfl,r20sp0,r20q,H,K⟩
 refine W_seq (W_reg ?_)
 refine qg 2 [(19,.ptr i0 0),(20,vS a0)] H fun fr H=>?_
 refine qp [] [] hr (fun a s h=>F93_R  _ _ a s h K) K H (fun e s h q st K=>hp e s h (q,.nil) _ _ (K.keep [true,false]).nilo) fun x21 s23 hr sp22 st K fr H=>?_
 refine qe ?_
 refine W_seq (W_reg ?_)
 refine qg 2 [(6,vL tNode r20 r20sp0)] H fun fr H=>?_
 refine qe ?_
 refine W_ret ?_
 exact hq _ _ (sj hr).symm (sp22,r20sp0) _ _ _ (e_retV [vL tNode r20 r20sp0] H K (fun _=>resT (by kernel_rfl) resN) ((K).front 1 rfl))
def F218 (n:Nat) (a0:Int) (s:RS):Option ((((List Node)) ⊕ Bad) × RS) :=
 pbind (F93 (bs [123]) s) fun _ s3 =>
 pbind (F149_3 n (bs [125]) (s3.setInner (1:Int))) fun x4 s6 =>
 pbind (F88 (bs [119,104,101,110]) (s6.setInner (0:Int))) fun x9 s11 =>
 bif x9 then
  (pbind (F67 n s11) fun x13 s15 =>
  (appL 104 ([x13]:List Node) x4).bind fun x16 =>
  some (.inl x16,s15))
 else
  ((appL 104 ([(Node.mk 63 (bs []) (bs []) 0 0 0 false ([]:List Node) a0)]:List Node) x4).bind fun x18 =>
  some (.inl x18,s11))
theorem F218_R (n:Nat) (a0:Int) (s:RS) (r:((List Node)) ⊕ Bad) (s2:RS) (hr:F218 n a0 s = some (r,s2)) {st:St} {rs:List Res} {i0:Nat} {p:Spare} (K:HL st (.rd i0 87 p (rdC s p) :: rs)):∃ (q:Spare) (st':St),R Tryz.prog AN 218 [.ptr i0 0,vI a0] st (gotE encW (fun v=>vL tNode v .shut) r) st'∧HL st' (.rd i0 87 q (rdC s2 q) :: rs):=by
 unfold F218 at hr
 refine R_panX (ew:=encW) (enc:=fun v (q:Spare)=>vL tNode v .shut) (post:=fun s (q:Spare)=>.rd i0 87 q (rdC s q) :: rs) [(0,.ptr i0 0),(1,vI a0)] Tryz.func218 rfl rfl fun fr Q H hp hq=>?_
 refine W_seq (W_reg ?_)
 refine qg 1 [] H fun fr H=>?_
 refine qe ?_
 refine W_seq (W_reg ?_)
 refine qg 1 [(7,.ptr i0 0)] H fun fr H=>?_
 refine qp [] [] hr (fun a s h=>F93_R  _ _ a s h K) K H (fun e s h q st K=>hp e s h q _ _ K) fun x1 s3 hr sp2 st K fr H=>?_
 refine qe ?_
 refine W_seq (W_reg ?_)
 refine qg 3 [(11,.ptr i0 3)] H fun fr H=>?_
 refine qstR 3 3 (vI 1) (rdC (s3.setInner (1:Int)) sp2) 0 H K rfl fun st K fr H=>?_
 refine qe ?_
 refine W_seq (W_reg ?_)
 refine qg 3 [(12,.ptr i0 0),(14,.fn 220 [.ptr i0 0] [])] H fun fr H=>?_
 refine qp [] [] hr (fun a s h=>F149_3_R n _ _ a s h K) K H (fun e s h q st K=>hp e s h q.1 _ _ (K.keep [false,true])) fun x4 s6 hr ⟨sp5,sp7⟩ st K fr H=>?_
 refine qg 1 [(5,vL tNode x4 sp7)] H fun fr H=>?_
 refine qe ?_
 refine W_seq (W_reg ?_)
 refine qg 3 [(18,.ptr i0 3)] H fun fr H=>?_
 refine qstR 3 3 (vI 0) (rdC (s6.setInner (0:Int)) sp5) 1 H K rfl fun st K fr H=>?_
 refine qe ?_
 refine W_seq (W_reg ?_)
 refine qg 2 [(20,.agg [vI 63,vS (bs []),vS (bs []),vI 0,vI 0,vI 0,vB false,vL tNode ([]:List Node) .nil,vI a0])] H fun fr H=>?_
 refine qal 24 [vI 0,vS (bs []),vS (bs []),vI 0,vI 0,vI 0,vB false,vL tNode ([]:List Node) .nil,vI 0] H K fun id8 st K fr H=>?_
 refine qst 24 0 (.agg [vI 63,vS (bs []),vS (bs []),vI 0,vI 0,vI 0,vB false,vL tNode ([]:List Node) .nil,vI a0]) [vI 63,vS (bs []),vS (bs []),vI 0,vI 0,vI 0,vB false,vL tNode ([]:List Node) .nil,vI a0] 0 H K rfl fun st K fr H=>?_
 refine qe ?_
 refine W_seq (W_seq ?_)
 refine W_reg ?_
 refine qg 1 [(21,.ptr i0 0)] H fun fr H=>?_
 refine qp [] [] hr (fun a s h=>F88_R  _ _ a s h (K.front 2 rfl)) K H (fun e s h q st K=>hp e s h q _ _ (K.keep [true,false,false])) fun x9 s11 hr sp10 st K fr H=>?_
 refine qe ?_
 rcases csplit hr with ⟨hc12,hr⟩ | ⟨hc12,hr⟩
 rotate_left
 ·refine qF H hc12 ?_
  refine W_skip ?_
  refine W_seq (W_reg ?_)
  refine qld 24 0 (.agg [vI 63,vS (bs []),vS (bs []),vI 0,vI 0,vI 0,vB false,vL tNode ([]:List Node) .shut,vI a0]) 1 H K rfl fun fr H=>?_
  refine qv (.buildSlice 22 1 [(0,.agg [vI 63,vS (bs []),vS (bs []),vI 0,vI 0,vI 0,vB false,vL tNode ([]:List Node) .shut,vI a0])]) H (run_bslice (v:=vL tNode ([(Node.mk 63 (bs []) (bs []) 0 0 0 false ([]:List Node) a0)]:List Node) .full) (v0:=.slice [.agg [vI 63,vS (bs []),vS (bs []),vI 0,vI 0,vI 0,vB false,vL tNode ([]:List Node) .shut,vI a0]] .full) (by kernel_rfl) (by simp only [List.map,vL,tNode_e,eNode_eq,cNode] <;> rfl)) fun fr H=>?_
  refine qg 1 [(27,vL tNode x4 sp7)] H fun fr H=>?_
  replace K:=K.full
  refine qapp tNode 104 22 22 sp7 hr 0 H K rfl fun x18 hr sp19 st K fr H=>?_
  refine qg 1 [(4,vL tNode x18 sp19)] H fun fr H=>?_
  refine qe ?_
  refine W_ret ?_
  exact hq _ _ (sj hr).symm sp10 _ _ _ (e_retV [vL tNode x18 sp19] H K (fun _=>resT (by kernel_rfl) resN) ((K).keep [false,true,false,false]))
 refine qT H hc12 ?_
 refine W_reg ?_
 refine qg 1 [(23,.ptr i0 0)] H fun fr H=>?_
 refine qp [] [] hr (fun a s h=>F67_R n _ a s h K) K H (fun e s h q st K=>hp e s h q _ _ (K.keep [true,false,false])) fun x13 s15 hr sp14 st K fr H=>?_
 refine qst 24 0 (aN x13) [vI x13.kind,vS x13.name,vS x13.other,vI x13.n,vI x13.len,vI x13.init,vB x13.ghost,vL tNode x13.kids .shut,vI x13.pos] 1 H K rfl fun st K fr H=>?_
 refine qe ?_
 refine W_seq (W_reg ?_)
 refine qld 24 0 (aN x13) 1 H K rfl fun fr H=>?_
 refine qv (.buildSlice 22 1 [(0,aN x13)]) H (run_bslice (v:=vL tNode ([x13]:List Node) .full) (v0:=.slice [aN x13] .full) (by kernel_rfl) (by simp only [List.map,vL,tNode_e,eNode_eq,cNode] <;> rfl)) fun fr H=>?_
 refine qg 1 [(27,vL tNode x4 sp7)] H fun fr H=>?_
 replace K:=K.full
 refine qapp tNode 104 22 22 sp7 hr 0 H K rfl fun x16 hr sp17 st K fr H=>?_
 refine qg 1 [(4,vL tNode x16 sp17)] H fun fr H=>?_
 refine qe ?_
 refine W_ret ?_
 exact hq _ _ (sj hr).symm sp14 _ _ _ (e_retV [vL tNode x16 sp17] H K (fun _=>resT (by kernel_rfl) resN) ((K).keep [false,true,false,false]))
def F146_1 (n:Nat) (s:RS):Option ((((List Node)) ⊕ Bad) × RS) :=
 pbind (F220 n s) fun x1 s3 =>
 pbind (iterP (σ:=(List Node)) (ρ:=((List Node))) (ε:=Bad) (S:=RS) (fun s5 s5s=>pbind (F88 (bs [44]) s5s) fun x6 s8 =>
  bif x6 then
   (pbind (F220 n s8) fun x10 s12 =>
   (appL 104 s5 x10).bind fun x14 =>
   some (.inl (.inl x14),s12))
  else
   (some (.inl (.inr s5),s8))) n x1 s3) fun r16 r16s =>
 some (.inl r16,r16s)
theorem F146_1_R (n:Nat) (s:RS) (r:((List Node)) ⊕ Bad) (s2:RS) (hr:F146_1 n s = some (r,s2)) {st:St} {rs:List Res} {i0:Nat} {p:Spare} (K:HL st (.rd i0 87 p (rdC s p) :: rs)):∃ (q:Spare) (st':St),R Tryz.prog AN 146 [.ptr i0 0,.fn 220 [.ptr i0 0] []] st (gotE encW (fun v=>vL tNode v .shut) r) st'∧HL st' (.rd i0 87 q (rdC s2 q) :: rs):=by
 unfold F146_1 at hr
 refine R_panX (ew:=encW) (enc:=fun v (q:Spare)=>vL tNode v .shut) (post:=fun s (q:Spare)=>.rd i0 87 q (rdC s q) :: rs) [(0,.ptr i0 0),(1,.fn 220 [.ptr i0 0] [])] Tryz.func146 rfl rfl fun fr Q H hp hq=>?_
 refine W_seq (W_reg ?_)
 refine qg 1 [] H fun fr H=>?_
 refine qe ?_
 refine W_seq (W_reg ?_)
 refine qg 1 [(6,.fn 220 [.ptr i0 0] [])] H fun fr H=>?_
 refine qp [] [] hr (fun a s h=>F220_R n _ a s h K) K H (fun e s h q st K=>hp e s h q.1 _ _ (K.keep [false,true])) fun x1 s3 hr ⟨sp2,sp4⟩ st K fr H=>?_
 refine qg 1 [(5,vL tNode x1 sp4)] H fun fr H=>?_
 refine qe ?_
 refine W_seq (W_block ?_)
 refine W_iterP hr hp (fun (s5:(List Node)) s5s fr st=>∃ (s5sp0 s5q:Spare),Rd fr [(0,.ptr i0 0),(1,.fn 220 [.ptr i0 0] []),(5,vL tNode s5 s5sp0)]∧HL st (.own s5sp0 :: .rd i0 87 s5q (rdC s5s s5q) :: rs)) (fun (r16:((List Node))) r16s e fr st=>e = .exit 0∧∃ (r16sp0 r16q:Spare),Rd fr [(5,vL tNode r16 r16sp0)]∧HL st (.rd i0 87 r16q (rdC r16s r16q) :: .own r16sp0 :: rs)) ⟨sp4,sp2,H.tq,K⟩ (by rintro _ s fr st ⟨h,_⟩ <;> cases h) ?_ ?_
 ·rintro s5 s5s fr st y Q ⟨s5sp0,s5q,H,K⟩ hr hp hq
  refine W_seq (W_seq ?_)
  refine W_reg ?_
  refine qg 1 [(8,.ptr i0 0)] H fun fr H=>?_
  refine qp [] [] hr (fun a s h=>F88_R  _ _ a s h (K.front 1 rfl)) K H (fun e s h q st K=>hp e s h q _ _ (K.keep [true,false])) fun x6 s8 hr sp7 st K fr H=>?_
  refine qe ?_
  rcases csplit hr with ⟨hc9,hr⟩ | ⟨hc9,hr⟩
  rotate_left
  ·refine qF H hc9 ?_
   refine W_exit ?_
   exact hq _ _ (sj hr).symm _ _ _ ⟨rfl,s5sp0,sp7,H.tq,K⟩
  refine qT H hc9 ?_
  refine W_skip ?_
  refine W_block ?_
  refine W_reg ?_
  refine qg 2 [(10,vL tNode s5 s5sp0),(11,.fn 220 [.ptr i0 0] [])] H fun fr H=>?_
  refine qp [] [] hr (fun a s h=>F220_R n _ a s h K) K H (fun e s h q st K=>hp e s h q.1 _ _ (K.keep [false,true,false])) fun x10 s12 hr ⟨sp11,sp13⟩ st K fr H=>?_
  refine qapp tNode 104 22 22 sp13 hr 2 H K rfl fun x14 hr sp15 st K fr H=>?_
  refine qg 1 [(5,vL tNode x14 sp15)] H fun fr H=>?_
  refine qe ?_
  exact hq _ _ (sj hr).symm _ _ _ ⟨rfl,sp15,sp11,H.tq,((((K.keep [false,true,true]).front 0 rfl)).front 1 rfl)⟩
 intro r16 r16s hr
 rintro e fr st ⟨rfl,r16sp0,r16q,H,K⟩
 refine W_seq (W_reg ?_)
 refine qg 2 [(4,vL tNode r16 r16sp0)] H fun fr H=>?_
 refine qe ?_
 refine W_ret ?_
 exact hq _ _ (sj hr).symm r16q _ _ _ (e_retV [vL tNode r16 r16sp0] H K (fun _=>resT (by kernel_rfl) resN) ((K).keep [true,false]))
def F221 (n:Nat) (s:RS):Option ((((List Node)) ⊕ Bad) × RS) :=
 pbind (F88 (bs [119,105,116,104]) s) fun x1 s3 =>
 bif !x1 then
  (some (.inl ([]:List Node),s3))
 else
  (pbind (F146_1 n s3) fun x5 s7 =>
  some (.inl x5,s7))
theorem F221_R (n:Nat) (s:RS) (r:((List Node)) ⊕ Bad) (s2:RS) (hr:F221 n s = some (r,s2)) {st:St} {rs:List Res} {i0:Nat} {p:Spare} (K:HL st (.rd i0 87 p (rdC s p) :: rs)):∃ (q:Spare) (st':St),R Tryz.prog AN 221 [.ptr i0 0] st (gotE encW (fun v=>vL tNode v .shut) r) st'∧HL st' (.rd i0 87 q (rdC s2 q) :: rs):=by
 unfold F221 at hr
 refine R_panX (ew:=encW) (enc:=fun v (q:Spare)=>vL tNode v .shut) (post:=fun s (q:Spare)=>.rd i0 87 q (rdC s q) :: rs) [(0,.ptr i0 0)] Tryz.func221 rfl rfl fun fr Q H hp hq=>?_
 refine W_seq (W_reg ?_)
 refine qg 1 [] H fun fr H=>?_
 refine qe ?_
 refine W_seq (W_seq ?_)
 refine W_reg ?_
 refine qg 1 [(3,.ptr i0 0)] H fun fr H=>?_
 refine qp [] [] hr (fun a s h=>F88_R  _ _ a s h K) K H (fun e s h q st K=>hp e s h q _ _ K) fun x1 s3 hr sp2 st K fr H=>?_
 refine qg 1 [(5,vB !x1)] H fun fr H=>?_
 refine qe ?_
 rcases csplit hr with ⟨hc4,hr⟩ | ⟨hc4,hr⟩
 ·refine qT H hc4 ?_
  refine W_seq (W_reg ?_)
  refine qg 1 [(2,vL tNode ([]:List Node) .nil)] H fun fr H=>?_
  refine qe ?_
  refine W_ret ?_
  exact hq _ _ (sj hr).symm sp2 _ _ _ (e_retV [vL tNode ([]:List Node) .nil] H K (fun _=>resT (by kernel_rfl) resN) K)
 refine qF H hc4 ?_
 refine W_skip ?_
 refine W_seq (W_reg ?_)
 refine qg 3 [(6,.ptr i0 0),(8,.fn 220 [.ptr i0 0] [])] H fun fr H=>?_
 refine qp [] [] hr (fun a s h=>F146_1_R n _ a s h K) K H (fun e s h q st K=>hp e s h q _ _ K) fun x5 s7 hr sp6 st K fr H=>?_
 refine qg 1 [(2,vL tNode x5 .shut)] H fun fr H=>?_
 refine qe ?_
 refine W_ret ?_
 exact hq _ _ (sj hr).symm sp6 _ _ _ (e_retV [vL tNode x5 .shut] H K (fun _=>resT (by kernel_rfl) resN) K)
def F219 (n:Nat) (s:RS):Option ((((List Node)) ⊕ Bad) × RS) :=
 pbind (F223 n s) fun x1 s3 =>
 pbind (F93 (bs [44]) s3) fun _ s6 =>
 pbind (F67 n s6) fun x7 s9 =>
 (appL 104 ([x1]:List Node) ([x7]:List Node)).bind fun x10 =>
 pbind (F93 (bs [44]) s9) fun _ s14 =>
 pbind (F67 n s14) fun x15 s17 =>
 (appL 104 x10 ([x15]:List Node)).bind fun x18 =>
 pbind (F93 (bs [105,110,116,111]) s17) fun _ s22 =>
 pbind (F223 n s22) fun x23 s25 =>
 (appL 104 x18 ([x23]:List Node)).bind fun x26 =>
 pbind (F221 n s25) fun x28 s30 =>
 (appL 104 x26 x28).bind fun x31 =>
 some (.inl x31,s30)
theorem F219_R (n:Nat) (s:RS) (r:((List Node)) ⊕ Bad) (s2:RS) (hr:F219 n s = some (r,s2)) {st:St} {rs:List Res} {i0:Nat} {p:Spare} (K:HL st (.rd i0 87 p (rdC s p) :: rs)):∃ (q:Spare) (st':St),R Tryz.prog AN 219 [.ptr i0 0] st (gotE encW (fun v=>vL tNode v .shut) r) st'∧HL st' (.rd i0 87 q (rdC s2 q) :: rs):=by
 unfold F219 at hr
 refine R_panX (ew:=encW) (enc:=fun v (q:Spare)=>vL tNode v .shut) (post:=fun s (q:Spare)=>.rd i0 87 q (rdC s q) :: rs) [(0,.ptr i0 0)] Tryz.func219 rfl rfl fun fr Q H hp hq=>?_
 refine W_seq (W_reg ?_)
 refine qg 1 [] H fun fr H=>?_
 refine qe ?_
 refine W_seq (W_reg ?_)
 refine qg 1 [(4,.ptr i0 0)] H fun fr H=>?_
 refine qp [] [] hr (fun a s h=>F223_R n _ a s h K) K H (fun e s h q st K=>hp e s h q _ _ K) fun x1 s3 hr sp2 st K fr H=>?_
 refine qv (.buildSlice 22 1 [(0,aN x1)]) H (run_bslice (v:=vL tNode ([x1]:List Node) .full) (v0:=.slice [aN x1] .full) (by kernel_rfl) (by simp only [List.map,vL,tNode_e,eNode_eq,cNode] <;> rfl)) fun fr H=>?_
 refine qg 1 [(3,vL tNode ([x1]:List Node) .full)] H fun fr H=>?_
 refine qe ?_
 refine W_seq (W_reg ?_)
 refine qg 1 [(7,.ptr i0 0)] H fun fr H=>?_
 refine qp [] [] hr (fun a s h=>F93_R  _ _ a s h K) K H (fun e s h q st K=>hp e s h q _ _ K) fun x4 s6 hr sp5 st K fr H=>?_
 refine qe ?_
 refine W_seq (W_reg ?_)
 refine qg 2 [(9,vL tNode ([x1]:List Node) .full),(10,.ptr i0 0)] H fun fr H=>?_
 refine qp [] [] hr (fun a s h=>F67_R n _ a s h K) K H (fun e s h q st K=>hp e s h q _ _ K) fun x7 s9 hr sp8 st K fr H=>?_
 refine qv (.buildSlice 22 1 [(0,aN x7)]) H (run_bslice (v:=vL tNode ([x7]:List Node) .full) (v0:=.slice [aN x7] .full) (by kernel_rfl) (by simp only [List.map,vL,tNode_e,eNode_eq,cNode] <;> rfl)) fun fr H=>?_
 replace K:=K.full
 refine qapp tNode 104 22 22 .full hr 0 H K rfl fun x10 hr sp11 st K fr H=>?_
 refine qg 1 [(3,vL tNode x10 sp11)] H fun fr H=>?_
 refine qe ?_
 refine W_seq (W_reg ?_)
 refine qg 1 [(14,.ptr i0 0)] H fun fr H=>?_
 refine qp [] [] hr (fun a s h=>F93_R  _ _ a s h (K.front 1 rfl)) K H (fun e s h q st K=>hp e s h q _ _ (K.keep [true,false])) fun x12 s14 hr sp13 st K fr H=>?_
 refine qe ?_
 refine W_seq (W_reg ?_)
 refine qg 2 [(16,vL tNode x10 sp11),(17,.ptr i0 0)] H fun fr H=>?_
 refine qp [] [] hr (fun a s h=>F67_R n _ a s h K) K H (fun e s h q st K=>hp e s h q _ _ (K.keep [true,false])) fun x15 s17 hr sp16 st K fr H=>?_
 refine qv (.buildSlice 22 1 [(0,aN x15)]) H (run_bslice (v:=vL tNode ([x15]:List Node) .full) (v0:=.slice [aN x15] .full) (by kernel_rfl) (by simp only [List.map,vL,tNode_e,eNode_eq,cNode] <;> rfl)) fun fr H=>?_
 refine qapp tNode 104 22 22 .full hr 1 H K rfl fun x18 hr sp19 st K fr H=>?_
 refine qg 1 [(3,vL tNode x18 sp19)] H fun fr H=>?_
 refine qe ?_
 refine W_seq (W_reg ?_)
 refine qg 1 [(21,.ptr i0 0)] H fun fr H=>?_
 refine qp [] [] hr (fun a s h=>F93_R  _ _ a s h K) K H (fun e s h q st K=>hp e s h q _ _ (K.keep [true,false])) fun x20 s22 hr sp21 st K fr H=>?_
 refine qe ?_
 refine W_seq (W_reg ?_)
 refine qg 2 [(23,vL tNode x18 sp19),(24,.ptr i0 0)] H fun fr H=>?_
 refine qp [] [] hr (fun a s h=>F223_R n _ a s h K) K H (fun e s h q st K=>hp e s h q _ _ (K.keep [true,false])) fun x23 s25 hr sp24 st K fr H=>?_
 refine qv (.buildSlice 22 1 [(0,aN x23)]) H (run_bslice (v:=vL tNode ([x23]:List Node) .full) (v0:=.slice [aN x23] .full) (by kernel_rfl) (by simp only [List.map,vL,tNode_e,eNode_eq,cNode] <;> rfl)) fun fr H=>?_
 refine qapp tNode 104 22 22 .full hr 1 H K rfl fun x26 hr sp27 st K fr H=>?_
 refine qg 1 [(3,vL tNode x26 sp27)] H fun fr H=>?_
 refine qe ?_
 refine W_seq (W_reg ?_)
 refine qg 2 [(28,vL tNode x26 sp27),(29,.ptr i0 0)] H fun fr H=>?_
 refine qp [] [] hr (fun a s h=>F221_R n _ a s h K) K H (fun e s h q st K=>hp e s h q _ _ (K.keep [true,false])) fun x28 s30 hr sp29 st K fr H=>?_
 refine qapp tNode 104 22 22 .shut hr 1 H K rfl fun x31 hr sp32 st K fr H=>?_
 refine qg 1 [(2,vL tNode x31 sp32)] H fun fr H=>?_
 refine qe ?_
 refine W_ret ?_
 exact hq _ _ (sj hr).symm sp29 _ _ _ (e_retV [vL tNode x31 sp32] H K (fun _=>resT (by kernel_rfl) resN) ((K).keep [true,false]))
def F194_1 (n:Nat) (s:RS):Option ((((List Node)) ⊕ Bad) × RS) :=
 pbind (F67 n s) fun x1 s3 =>
 some (.inl ([x1]:List Node),s3)
theorem F194_1_R (n:Nat) (s:RS) (r:((List Node)) ⊕ Bad) (s2:RS) (hr:F194_1 n s = some (r,s2)) {st:St} {rs:List Res} {i0:Nat} {p:Spare} (K:HL st (.rd i0 87 p (rdC s p) :: rs)):∃ (q:Spare × Spare) (st':St),R Tryz.prog AN 194 [.cptr ([.fn 67 [.ptr i0 0] []]) 0] st (gotE encW (fun v=>vL tNode v q.2) r) st'∧HL st' (.own q.2 :: .rd i0 87 q.1 (rdC s2 q.1) :: rs):=by
 unfold F194_1 at hr
 refine R_panX (ew:=encW) (enc:=fun v (q:Spare × Spare)=>vL tNode v q.2) (post:=fun s (q:Spare × Spare)=>.own q.2 :: .rd i0 87 q.1 (rdC s q.1) :: rs) [(0,.cptr ([.fn 67 [.ptr i0 0] []]) 0)] Tryz.func194 rfl rfl fun fr Q H hp hq=>?_
 refine W_seq (W_reg ?_)
 refine qg 1 [] H fun fr H=>?_
 refine qe ?_
 refine W_seq (W_reg ?_)
 refine qg 1 [(2,.fn 67 [.ptr i0 0] [])] H fun fr H=>?_
 refine qp [] [] hr (fun a s h=>F67_R n _ a s h K) K H (fun e s h q st K=>hp e s h (q,.nil) _ _ (K).nilo) fun x1 s3 hr sp2 st K fr H=>?_
 refine qv (.buildSlice 22 1 [(0,aN x1)]) H (run_bslice (v:=vL tNode ([x1]:List Node) .full) (v0:=.slice [aN x1] .full) (by kernel_rfl) (by simp only [List.map,vL,tNode_e,eNode_eq,cNode] <;> rfl)) fun fr H=>?_
 refine qg 1 [(1,vL tNode ([x1]:List Node) .full)] H fun fr H=>?_
 refine qe ?_
 refine W_ret ?_
 exact hq _ _ (sj hr).symm (sp2,.full) _ _ _ (e_retV [vL tNode ([x1]:List Node) .full] H K (fun _=>resT (by kernel_rfl) resN) (((K.full).front 1 rfl).front 1 rfl))
def F149_2 (n:Nat) (a0:ByteArray) (s:RS):Option ((((List Node)) ⊕ Bad) × RS) :=
 pbind (F88 a0 s) fun x1 s3 =>
 bif x1 then
  (some (.inl ([]:List Node),s3))
 else
  (pbind (F194_1 n s3) fun x5 s7 =>
  pbind (iterP (σ:=(List Node)) (ρ:=((List Node))) (ε:=Bad) (S:=RS) (fun s9 s9s=>pbind (F88 (bs [44]) s9s) fun x10 s12 =>
   bif x10 then
    (pbind (F194_1 n s12) fun x14 s16 =>
    (appL 104 s9 x14).bind fun x18 =>
    some (.inl (.inl x18),s16))
   else
    (some (.inl (.inr s9),s12))) n x5 s7) fun r20 r20s =>
  pbind (F93 a0 r20s) fun _ s23 =>
  some (.inl r20,s23))
theorem F149_2_R (n:Nat) (a0:ByteArray) (s:RS) (r:((List Node)) ⊕ Bad) (s2:RS) (hr:F149_2 n a0 s = some (r,s2)) {st:St} {rs:List Res} {i0:Nat} {p:Spare} (K:HL st (.rd i0 87 p (rdC s p) :: rs)):∃ (q:Spare × Spare) (st':St),R Tryz.prog AN 149 [.ptr i0 0,vS a0,.fn 194 [] [.cptr ([.fn 67 [.ptr i0 0] []]) 0]] st (gotE encW (fun v=>vL tNode v q.2) r) st'∧HL st' (.own q.2 :: .rd i0 87 q.1 (rdC s2 q.1) :: rs):=by
 unfold F149_2 at hr
 refine R_panX (ew:=encW) (enc:=fun v (q:Spare × Spare)=>vL tNode v q.2) (post:=fun s (q:Spare × Spare)=>.own q.2 :: .rd i0 87 q.1 (rdC s q.1) :: rs) [(0,.ptr i0 0),(1,vS a0),(2,.fn 194 [] [.cptr ([.fn 67 [.ptr i0 0] []]) 0])] Tryz.func149 rfl rfl fun fr Q H hp hq=>?_
 refine W_seq (W_reg ?_)
 refine qg 1 [] H fun fr H=>?_
 refine qe ?_
 refine W_seq (W_seq ?_)
 refine W_reg ?_
 refine qg 2 [(8,.ptr i0 0),(9,vS a0)] H fun fr H=>?_
 refine qp [] [] hr (fun a s h=>F88_R  _ _ a s h K) K H (fun e s h q st K=>hp e s h (q,.nil) _ _ (K).nilo) fun x1 s3 hr sp2 st K fr H=>?_
 refine qe ?_
 rcases csplit hr with ⟨hc4,hr⟩ | ⟨hc4,hr⟩
 ·refine qT H hc4 ?_
  refine W_seq (W_reg ?_)
  refine qg 1 [(6,vL tNode ([]:List Node) .nil)] H fun fr H=>?_
  refine qe ?_
  refine W_ret ?_
  exact hq _ _ (sj hr).symm (sp2,.nil) _ _ _ (e_retV [vL tNode ([]:List Node) .nil] H K (fun _=>resT (by kernel_rfl) resN) (((K.nilo).front 1 rfl).front 1 rfl))
 refine qF H hc4 ?_
 refine W_skip ?_
 refine W_seq (W_reg ?_)
 refine qg 1 [(11,.fn 194 [] [.cptr ([.fn 67 [.ptr i0 0] []]) 0])] H fun fr H=>?_
 refine qp [] [] hr (fun a s h=>F194_1_R n _ a s h K) K H (fun e s h q st K=>hp e s h (q.1,.nil) _ _ (K.keep [false,true]).nilo) fun x5 s7 hr ⟨sp6,sp8⟩ st K fr H=>?_
 refine qg 1 [(7,vL tNode x5 sp8)] H fun fr H=>?_
 refine qe ?_
 refine W_seq (W_block ?_)
 refine W_iterP hr hp (fun (s9:(List Node)) s9s fr st=>∃ (s9sp0 s9q:Spare),Rd fr [(0,.ptr i0 0),(1,vS a0),(2,.fn 194 [] [.cptr ([.fn 67 [.ptr i0 0] []]) 0]),(7,vL tNode s9 s9sp0)]∧HL st (.own s9sp0 :: .rd i0 87 s9q (rdC s9s s9q) :: rs)) (fun (r20:((List Node))) r20s e fr st=>e = .exit 0∧∃ (r20sp0 r20q:Spare),Rd fr [(0,.ptr i0 0),(1,vS a0),(7,vL tNode r20 r20sp0)]∧HL st (.rd i0 87 r20q (rdC r20s r20q) :: .own r20sp0 :: rs)) ⟨sp8,sp6,H.tq,K⟩ (by rintro _ s fr st ⟨h,_⟩ <;> cases h) ?_ ?_
 ·rintro s9 s9s fr st y Q ⟨s9sp0,s9q,H,K⟩ hr hp hq
  refine W_seq (W_seq ?_)
  refine W_reg ?_
  refine qg 1 [(13,.ptr i0 0)] H fun fr H=>?_
  refine qp [] [] hr (fun a s h=>F88_R  _ _ a s h (K.front 1 rfl)) K H (fun e s h q st K=>hp e s h (q,.nil) _ _ (K.keep [true,false]).nilo) fun x10 s12 hr sp11 st K fr H=>?_
  refine qe ?_
  rcases csplit hr with ⟨hc13,hr⟩ | ⟨hc13,hr⟩
  rotate_left
  ·refine qF H hc13 ?_
   refine W_exit ?_
   exact hq _ _ (sj hr).symm _ _ _ ⟨rfl,s9sp0,sp11,H.tq,K⟩
  refine qT H hc13 ?_
  refine W_skip ?_
  refine W_block ?_
  refine W_reg ?_
  refine qg 2 [(15,vL tNode s9 s9sp0),(16,.fn 194 [] [.cptr ([.fn 67 [.ptr i0 0] []]) 0])] H fun fr H=>?_
  refine qp [] [] hr (fun a s h=>F194_1_R n _ a s h K) K H (fun e s h q st K=>hp e s h (q.1,.nil) _ _ (K.keep [false,true,false]).nilo) fun x14 s16 hr ⟨sp15,sp17⟩ st K fr H=>?_
  refine qapp tNode 104 22 22 sp17 hr 2 H K rfl fun x18 hr sp19 st K fr H=>?_
  refine qg 1 [(7,vL tNode x18 sp19)] H fun fr H=>?_
  refine qe ?_
  exact hq _ _ (sj hr).symm _ _ _ ⟨rfl,sp19,sp15,H.tq,((((K.keep [false,true,true]).front 0 rfl)).front 1 rfl)⟩
 intro r20 r20s hr
 rintro e fr st ⟨rfl,r20sp0,r20q,H,K⟩
 refine W_seq (W_reg ?_)
 refine qg 2 [(19,.ptr i0 0),(20,vS a0)] H fun fr H=>?_
 refine qp [] [] hr (fun a s h=>F93_R  _ _ a s h K) K H (fun e s h q st K=>hp e s h (q,.nil) _ _ (K.keep [true,false]).nilo) fun x21 s23 hr sp22 st K fr H=>?_
 refine qe ?_
 refine W_seq (W_reg ?_)
 refine qg 2 [(6,vL tNode r20 r20sp0)] H fun fr H=>?_
 refine qe ?_
 refine W_ret ?_
 exact hq _ _ (sj hr).symm (sp22,r20sp0) _ _ _ (e_retV [vL tNode r20 r20sp0] H K (fun _=>resT (by kernel_rfl) resN) ((K).front 1 rfl))
end Go.Proofs.YtbecjgckobhmpaaGreatDoor
end
