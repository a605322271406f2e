/-
  Proved here: a part of what the claim needs (texts AmDef AmRel AmSt AmOps AmOps2 AmHeap AmOps3 AmOps4 AmOps5 AmApp AmSim AmSim2 AmRun AmDraw AmDraw2 AmDraw3 AmCode AmCall of the prover's own).
-/
import Derived.Calls
import Derived.Orders
import Derived.Below
import Derived.Laws.CopyRow
import Derived.Laws.Cells
import Derived.Laws.Entries
import Derived.Laws.World
import Derived.Lib.Strings
import Derived.Laws.Strings
import Derived.Laws.AppendOwn
import Derived.Laws.BytesString
import Derived.Laws.MakeOwn
import Derived.Tactics
import Derived.Scope
section
namespace Go.AM
open Go
inductive Spare where
 | full
 | nil
 | shut
 | tok (k:Nat)
 | room (k m:Nat)
 deriving DecidableEq
inductive AV where
 | sc (v:Value)
 | agg (cs:List AV)
 | tuple (vs:List AV)
 | ptr (id off:Nat)
 | cptr (cs:List AV) (off:Nat)
 | slice (xs:List AV) (sp:Spare)
 | fn (f:FuncId) (first cap:List AV)
 | iface (t:TypeId) (v:AV)
 | cmap (ks:List ByteArray) (vs:List AV)
 | map (id:Nat)
 | arr (id n k:Nat)
inductive AO where
 | cells (T:TypeId) (cs:List AV)
 | live (T:Option TypeId)
 | dead
 | arr (T:TypeId) (cs:List AV)
 | map (ks:List ByteArray) (vs:List AV)
 | hole
abbrev St:=List AO
abbrev Fr:=Nat→AV
def fill (st:St) (i:Nat) (o:AO):St:=if i < st.length then st.set i o else st ++ (List.replicate (i - st.length) .hole ++ [o])
def Fresh (st:St) (i:Nat):Prop:=∀ o,st[i]? = some o→o = .hole
def scal:Value→AV
 | .slice none 0 0=>.slice [] .nil
 | v=>.sc v
def ofConst:Value→AV
 | .agg cs=>.agg (cs.toList.map scal)
 | v=>scal v
def AV.cells?:AV→Option (List AV)
 | .agg cs=>some cs
 | .tuple _=>none
 | .sc (.agg _)=>none
 | .sc (.tuple _)=>none
 | v=>some [v]
def AV.one:AV→Bool
 | .agg _=>false
 | .tuple _=>false
 | .sc (.agg _)=>false
 | .sc (.tuple _)=>false
 | _=>true
def shutV:AV→AV
 | .slice xs _=>.slice xs .shut
 | v=>v
def weakA:AV→AV
 | .agg cs=>.agg (cs.map shutV)
 | v=>v
def weakE (v:AV):AV:=shutV (weakA v)
def fullV:AV→AV
 | .slice xs .full=>.slice xs .shut
 | v=>v
def weakF:AV→AV
 | .agg cs=>.agg (cs.map fullV)
 | v=>v
def AV.isSc:AV→Bool
 | .sc _=>true
 | _=>false
def concL:List AV→Option (List Value)
 | []=>some []
 | .sc v :: r=>(concL r).map (v :: ·)
 | _=>none
def AV.conc:AV→Option Value
 | .sc v=>some v
 | .agg cs=>(concL cs).map fun l=>.agg l.toArray
 | _=>none
def pureRun {α:Type} (P:Program):Sem α→Option α
 | .pure a=>some a
 | .program k=>pureRun P (k P)
 | .mark _ k=>pureRun P k
 | _=>none
def upd (fr:Fr) (d:Nat) (v:AV):Fr:=fun t=>if t = d then v else fr t
def put (fr:Fr) (d:Option Tmp) (v:AV):Fr :=
 match d with
 | some d=>upd fr d v
 | none=>fr
inductive Got where
 | ret (v:AV)
 | panic (v:AV)
structure Ann where
 boxed:FuncId→Tmp→Bool
 glob:Nat→Option (List AV)
inductive Ex where
 | normal
 | exit (id:Nat)
 | ret
 | panic (v:AV)
section
variable (P:Program)
def evA (A:Ann) (fr:Fr):Operand→AV
 | .tmp t=>fr t
 | .const v=>ofConst v
 | .global g=>match A.glob g with
  | some cs=>.cptr cs 0
  | none=>.sc (.pointer (some ⟨g,0,none⟩))
 | .func f=>.fn f [] []
def isAgg? (t:TypeId):Option Bool:=pureRun P (isAgg t)
def size? (t:TypeId):Option Nat:=pureRun P (sizeOf t)
def loadC (t:TypeId) (cs:List AV) (off:Nat):Option AV :=
 match isAgg? P t,size? P t with
 | some true,some n=>if off + n≤cs.length then some (.agg ((cs.drop off).take n)) else none
 | some false,some _=>cs[off]?
 | _,_=>none
def putCells (cs:List AV) (off:Nat) (vs:List AV):List AV:=cs.take off ++ (vs ++ cs.drop (off + vs.length))
def fillA (place:Nat→Option (Nat × Nat)) (cells:List AV):List (Nat × AV)→Option (List AV)
 | []=>some cells
 | (i,v) :: rest =>
  match place i,v.cells? with
  | some (off,size),some vs=>if vs.length≠size∨off + vs.length > cells.length then none else fillA place (putCells cells off vs) rest
  | _,_=>none
def zeroA (t:TypeId):Option AV:=(pureRun P (zeroValue t)).map ofConst
def fieldOf (t:TypeId) (f:Nat):Option Field :=
 match P.underlying t with
 | some (.struct fields)=>fields[f]?
 | _=>none
def elemOfSlice (t:TypeId):Option TypeId :=
 match P.underlying t with
 | some (.slice e)=>some e
 | _=>none
def setAll (xs:List AV):List (Nat × AV)→Option (List AV)
 | []=>some xs
 | (i,v) :: rest=>if i < xs.length then setAll (xs.set i v) rest else none
def sized (n:Nat) (xs:List AV):Bool:=xs.all fun v=>match v.cells? with | some cs=>cs.length == n && cs.all AV.one | none=>false
def bytesAV (s:ByteArray):List AV:=s.data.toList.map fun b=>.sc (.int .u8 b.toNat)
def avBytes:List AV→Option (List UInt8)
 | []=>some []
 | .sc (.int .u8 n) :: r=>if 0≤n∧n < 256 then (avBytes r).map (UInt8.ofNat n.toNat :: ·) else none
 | _=>none
def roomOk (e:TypeId) (n:Nat):Bool :=
 match P.info? e with
 | some i=>match i.zero with
  | some z=>decide (n * i.bytes≤140737488355328) && decide (0 < i.bytes) && decide (0 < i.size) && decide (n≤4611686018427387904) && z.cells.size == i.size
  | none=>false
 | none=>false
def pickA (c a b:AV):Option AV :=
 match c with
 | .sc (.bool t)=>some (if t then a else b)
 | _=>none
def scalA (u v:AV) (k:Value→Value→Sem Value):Option AV :=
 match u.conc,v.conc with
 | some cu,some cv=>(pureRun P (k cu cv)).map ofConst
 | _,_=>none
def scal1A (u:AV) (k:Value→Sem Value):Option AV :=
 match u.conc with
 | some cu=>(pureRun P (k cu)).map ofConst
 | none=>none
def ptrEqA (op:BinOp) (b:Bool):Option AV :=
 match op with
 | .eql=>some (.sc (.bool b))
 | .neq=>some (.sc (.bool (!b)))
 | _=>none
def ptrT (t:TypeId):Bool :=
 match P.underlying t with
 | some (.pointer e)=>match size? P e with
  | some n=>decide (0 < n)
  | none=>false
 | _=>false
def ifaceT (t:TypeId):Bool :=
 match P.underlying t with
 | some (.interface _)=>true
 | _=>false
def bs (l:List UInt8):ByteArray:=⟨⟨l⟩⟩
def strEq (a b:ByteArray):Bool:=a.data.toList == b.data.toList
def catS (a b:ByteArray):Option ByteArray:=if a.size + b.size≤9223372036854775807 then some (bs (a.data.toList ++ b.data.toList)) else none
def strBinA (op:BinOp) (t:TypeId) (x y:Operand) (a b:ByteArray):Option AV :=
 match op with
 | .eql=>some (.sc (.bool (strEq a b)))
 | .neq=>some (.sc (.bool (!strEq a b)))
 | .add=>(catS a b).map fun s=>.sc (.string s)
 | op=>scalA P (.sc (.string a)) (.sc (.string b)) fun cu cv=>do eqGuard op t x y cu cv; binOp op t cu cv
def binA (op:BinOp) (t:TypeId) (x y:Operand) (u v:AV):Option AV :=
 match u,v with
 | .ptr i j,.ptr i' j'=>if i = i'∧ptrT P t = true then ptrEqA op (decide (j = j')) else none
 | .ptr _ _,.sc (.pointer none)=>if ptrT P t = true then ptrEqA op false else none
 | .sc (.string a),.sc (.string b)=>strBinA P op t x y a b
 | .iface _ _,.sc .nilIface=>if ifaceT P t = true then ptrEqA op false else none
 | u,v=>scalA P u v fun cu cv=>do eqGuard op t x y cu cv; binOp op t cu cv
def bytesToStrA (src dst:TypeId) (xs:List AV):Option AV :=
 match P.underlying src,P.underlying dst with
 | some (.slice e),some .string=>match P.underlying e,avBytes xs with
  | some (.int .u8),some l=>some (.sc (.string ⟨l.toArray⟩))
  | _,_=>none
 | _,_=>none
def convA (src dst:TypeId) (u:AV):Option AV :=
 match u with
 | .slice xs _=>bytesToStrA P src dst xs
 | u=>scal1A P u (convert src dst)
def loadA (st:St) (t:TypeId) (u:AV):Option AV :=
 match u with
 | .cptr cs off=>loadC P t cs off
 | .ptr id off=>match st[id]? with
  | some (.cells _ cs)=>loadC P t cs off
  | some (.arr _ cs)=>loadC P t cs off
  | _=>none
 | _=>none
def storeA (st:St) (t:TypeId) (u v:AV):Option St :=
 match u,v.cells?,size? P t with
 | .ptr id off,some vs,some n=>match st[id]? with
  | some (.cells T cs)=>if vs.length = n∧off + n≤cs.length∧vs.all AV.one = true then some (st.set id (.cells T (putCells cs off vs))) else none
  | some (.arr T cs)=>if vs.length = n∧off + n≤cs.length∧vs.all AV.one = true then some (st.set id (.arr T (putCells cs off vs))) else none
  | _=>none
 | _,_,_=>none
def allocI (st:St) (i:Nat) (t:TypeId):Option (AV × St) :=
 match (zeroA P t).bind AV.cells? with
 | some cs=>if cs.all AV.one = true then some (.ptr i 0,fill st i (.cells t cs)) else none
 | none=>none
abbrev allocA (st:St) (t:TypeId):Option (AV × St):=allocI P st st.length t
def boxA (t:TypeId) (b:Bool) (st:St) (u:AV):Option (AV × St) :=
 match u.cells? with
 | some cs=>if cs.all AV.one = true then (if b then some (.ptr st.length 0,st ++ [.cells t cs]) else some (.cptr cs 0,st)) else none
 | none=>none
def placesA:List Field→Option (List (Nat × Nat))
 | []=>some []
 | f :: r=>(size? P f.type).bind fun n=>(placesA r).map ((f.offset,n) :: ·)
def buildA (t:TypeId) (parts:List (Nat × AV)):Option AV :=
 match (zeroA P t).bind AV.cells?,P.underlying t with
 | some zero,some (.struct fields)=>match placesA P fields.toList with
  | some ps=>(fillA (fun i=>ps[i]?) zero parts).map .agg
  | none=>none
 | some zero,some (.array _ e)=>match size? P e with
  | some n=>(fillA (fun i=>some (i * n,n)) zero parts).map .agg
  | none=>none
 | _,_=>none
def buildSliceA (t:TypeId) (len:Nat) (parts:List (Nat × AV)):Option AV :=
 match elemOfSlice P t with
 | none=>none
 | some e=>match zeroA P e,size? P e with
  | some z,some n =>
   if len * n≤16777216∧0 < n then
    match setAll (List.replicate len z) parts with
    | some xs=>if ((parts.all fun p=>sized n [p.2]) = true∧sized n [z] = true)∧sized n xs = true then some (.slice xs .full) else none
    | none=>none
   else none
  | _,_=>none
def fieldAddrA (s:TypeId) (u:AV) (i:Nat):Option AV :=
 match fieldOf P s i with
 | some fd=>match size? P fd.type with
  | some n=>if n = 0 then none else match u with
   | .cptr cs off=>some (.cptr cs (off + fd.offset))
   | .ptr id off=>some (.ptr id (off + fd.offset))
   | _=>none
  | none=>none
 | none=>none
def fieldA (t:TypeId) (u:AV) (i:Nat):Option AV :=
 match fieldOf P t i,u with
 | some fd,.agg cs=>loadC P fd.type cs fd.offset
 | _,_=>none
def elemPtrA (n:Nat) (v:AV):Option AV :=
 match v.cells? with
 | some cs=>if cs.length = n then some (.cptr cs 0) else none
 | none=>none
def indexAddrA (t:TypeId) (u ix:AV):Option AV :=
 match ix with
 | .sc (.int _ i)=>match P.underlying t,u with
  | some (.slice e),.slice xs _=>match size? P e,xs[i.toNat]? with
   | some n,some v=>if 0≤i∧0 < n then elemPtrA n v else none
   | _,_=>none
  | some (.array len e),.cptr cs off=>match size? P e with
   | some n=>if 0≤i∧i < len then some (.cptr cs (off + i.toNat * n)) else none
   | none=>none
  | some (.array len e),.ptr id off=>match size? P e with
   | some n=>if 0≤i∧i < len then some (.ptr id (off + i.toNat * n)) else none
   | none=>none
  | some (.slice e),.arr id n k=>match size? P e with
   | some m=>if m = k∧0≤i∧i < n then some (.ptr id (i.toNat * k)) else none
   | none=>none
  | _,_=>none
 | _=>none
def indexA (t:TypeId) (u ix:AV):Option AV :=
 match u with
 | .agg cs=>match ix,P.underlying t with
  | .sc (.int _ i),some (.array len e)=>match size? P e with
   | some n=>if 0≤i∧i < len then loadC P e cs (i.toNat * n) else none
   | none=>none
  | _,_=>none
 | u=>scalA P u ix (Instr.index t)
def sliceStrA (t:TypeId) (u:Value) (lo hi mx:Option AV):Option AV :=
 match lo,hi,mx with
 | none,none,none=>(pureRun P (Instr.sliceAt t u none none none)).map ofConst
 | some (.sc l),none,none=>(pureRun P (Instr.sliceAt t u (some l) none none)).map ofConst
 | none,some (.sc h),none=>(pureRun P (Instr.sliceAt t u none (some h) none)).map ofConst
 | some (.sc l),some (.sc h),none=>(pureRun P (Instr.sliceAt t u (some l) (some h) none)).map ofConst
 | _,_,_=>none
def sliceXsA (xs:List AV) (sp:Spare) (lo hi mx:Option AV):Option AV :=
 match lo,hi,mx with
 | some (.sc (.int _ l)),none,none=>if 0≤l∧l≤xs.length then some (.slice (xs.drop l.toNat) (if sp = .full then .full else .shut)) else none
 | none,some (.sc (.int _ h)),none=>if 0≤h∧h≤xs.length then some (.slice (xs.take h.toNat) .shut) else none
 | some (.sc (.int _ l)),some (.sc (.int _ h)),none=>if 0≤l∧l≤h∧h≤xs.length then some (.slice ((xs.drop l.toNat).take (h.toNat - l.toNat)) .shut) else none
 | none,none,none=>some (.slice xs sp)
 | _,_,_=>none
def sliceA (t:TypeId) (u:AV) (lo hi mx:Option AV):Option AV :=
 match u with
 | .sc u=>sliceStrA P t u lo hi mx
 | .slice xs sp=>match elemOfSlice P t with
  | none=>none
  | some e=>match size? P e with
   | none=>none
   | some n=>if sized n xs = true∧0 < n then sliceXsA xs sp lo hi mx else none
 | _=>none
def ifaceA (t:TypeId) (u:AV):Option AV :=
 match P.underlying t with
 | some (.interface _)=>none
 | some _=>some (.iface t u)
 | none=>none
def assertA (t:TypeId) (u:AV):Option AV :=
 match P.underlying t with
 | some (.interface _)=>none
 | some _=>match u with
  | .iface t' v=>if t' = t then some (.tuple [v,.sc (.bool true)]) else none
  | _=>none
 | none=>none
def extractA (u:AV) (i:Nat):Option AV :=
 match u with
 | .tuple vs=>vs[i]?
 | _=>none
def nilCheckA (u:AV):Option AV :=
 match u with
 | .ptr i j=>some (.ptr i j)
 | .cptr cs j=>some (.cptr cs j)
 | .fn g a b=>some (.fn g a b)
 | _=>none
def strMap (t:TypeId):Option TypeId :=
 match P.underlying t with
 | some (.map k v)=>match P.underlying k with
  | some .string=>some v
  | _=>none
 | _=>none
def mapUpdateA (st:St) (t:TypeId) (m k v:AV):Option St :=
 match m,k with
 | .map id,.sc (.string s)=>match st[id]?,strMap P t with
  | some (.map ks vs),some _=>if ks.any (s == ·) || !v.one then none else some (st.set id (.map (ks ++ [s]) (vs ++ [v])))
  | _,_=>none
 | _,_=>none
def lookupA (t:TypeId) (m k:AV):Option AV :=
 match m,k with
 | .cmap ks vs,.sc (.string s)=>match strMap P t with
  | some vt=>match ks.findIdx? (s == ·) with
   | some i=>vs[i]?
   | none=>zeroA P vt
  | none=>none
 | _,_=>none
def lenA (t:TypeId) (u:AV):Option AV :=
 match u,P.underlying t with
 | .slice xs _,some (.slice _)=>some (.sc (.int .i64 xs.length))
 | .arr _ n _,some (.slice _)=>some (.sc (.int .i64 n))
 | .sc (.string s),some .string=>some (.sc (.int .i64 s.size))
 | _,_=>none
def newsA (e:TypeId) (src:AV):Option (List AV) :=
 match src with
 | .slice ys _=>some ys
 | .sc (.string s)=>match P.underlying e with
  | some (.int .u8)=>some (bytesAV s)
  | _=>none
 | _=>none
def keepT (T:Option TypeId) (e:TypeId):Option TypeId:=if T = some e then T else none
def growI (e:TypeId) (n:Nat) (st:St) (i:Nat) (xs ys:List AV) (sp:Spare):Option (AV × St) :=
 match sp with
 | .full=>if ys.isEmpty then some (.slice xs .full,st) else some (.slice (xs ++ ys) (.tok i),fill st i (.live (some e)))
 | .nil=>if ys.isEmpty then some (.slice xs .nil,st) else some (.slice (xs ++ ys) (.tok i),fill st i (.live (some e)))
 | .tok k=>match st[k]? with
  | some (.live T)=>some (.slice (xs ++ ys) (.tok i),fill (st.set k .dead) i (.live (keepT T e)))
  | _=>none
 | .room k m=>match st[k]? with
  | some (.live T)=>if m = n then (if ys.isEmpty then some (.slice xs (.room k m),st) else some (.slice (xs ++ ys) (.tok i),fill (st.set k .dead) i (.live (keepT T e)))) else none
  | _=>none
 | .shut=>none
abbrev growA (e:TypeId) (n:Nat) (st:St) (xs ys:List AV) (sp:Spare):Option (AV × St):=growI e n st st.length xs ys sp
def srcT:TypeDesc→Bool
 | .slice _=>true
 | .string=>true
 | _=>false
def appendI (st:St) (i:Nat) (t t2:TypeId) (u src:AV):Option (AV × St) :=
 match u,elemOfSlice P t with
 | .slice xs sp,some e=>match newsA P e src,size? P e,P.underlying t2 with
  | some ys,some n,some ut=>if sized n xs = true∧sized n ys = true∧roomOk P e (xs.length + ys.length) = true∧srcT ut = true then growI e n st i xs ys sp else none
  | _,_,_=>none
 | _,_=>none
abbrev appendA (st:St) (t t2:TypeId) (u src:AV):Option (AV × St):=appendI P st st.length t t2 u src
def cellsL:List AV→Option (List AV)
 | []=>some []
 | v :: r=>match v with
  | .agg cs=>(cellsL r).map (cs ++ ·)
  | _=>none
def appendO (st:St) (t t2:TypeId) (u src:AV):Option (AV × St) :=
 match u,elemOfSlice P t with
 | .slice [] sp,some e=>match src,size? P e,P.underlying t2 with
  | .slice ys _,some n,some ut =>
   if (sp = .full∨sp = .nil)∧ys.isEmpty = false∧sized n ys = true∧roomOk P e ys.length = true∧srcT ut = true then
    (cellsL ys).map fun cs=>(.arr st.length ys.length n,st ++ [.arr e cs])
   else none
  | _,_,_=>none
 | _,_=>none
def makeSliceA (st:St) (t:TypeId) (u c:AV):Option (AV × St) :=
 match u,c,elemOfSlice P t with
 | .sc (.int _ l),.sc (.int _ c),some e=>match size? P e with
  | some n=>if l = 0∧0≤c∧roomOk P e c.toNat = true then some (.slice [] (.room st.length n),st ++ [.live (some e)]) else none
  | none=>none
 | _,_,_=>none
def boxedD (A:Ann) (f:FuncId) (o:Oper):Bool :=
 match o.dst with
 | some d=>A.boxed f d
 | none=>false
def same (st:St) (r:Option AV):Option (AV × St):=r.map fun v=>(v,st)
def opA (A:Ann) (f:FuncId) (fr:Fr) (st:St) (o:Oper):Option (AV × St) :=
 match o.op with
 | .move x=>some (evA A fr x,st)
 | .assign x=>some (evA A fr x,st)
 | .pick c a b=>same st (pickA (evA A fr c) (evA A fr a) (evA A fr b))
 | .binOp op t x y _=>same st (binA P op t x y (evA A fr x) (evA A fr y))
 | .unOp op _ x=>same st (scal1A P (evA A fr x) (Op.unary op))
 | .convert src dst x=>same st (convA P src dst (evA A fr x))
 | .load t x=>same st ((loadA P st t (evA A fr x)).map weakA)
 | .store t x y=>(storeA P st t (evA A fr x) (evA A fr y)).map fun s=>(.tuple [],s)
 | .alloc t=>allocA P st t
 | .box t x=>match o.dst with
  | some d=>boxA t (A.boxed f d) st (evA A fr x)
  | none=>none
 | .build t parts=>same st ((buildA P t (parts.toList.map fun p=>(p.1,evA A fr p.2))).map weakF)
 | .buildSlice t len parts=>same st (buildSliceA P t len (parts.toList.map fun p=>(p.1,weakE (evA A fr p.2))))
 | .fieldAddr s x i=>same st (fieldAddrA P s (evA A fr x) i)
 | .field t x i=>same st (fieldA P t (evA A fr x) i)
 | .indexAddr t x ix=>same st (indexAddrA P t (evA A fr x) (evA A fr ix))
 | .index t x ix=>same st (indexA P t (evA A fr x) (evA A fr ix))
 | .slice t x lo hi mx=>same st (sliceA P t (evA A fr x) (lo.map (evA A fr)) (hi.map (evA A fr)) (mx.map (evA A fr)))
 | .makeFunc (.func g) first cap=>some (.fn g (first.toList.map (evA A fr)) (cap.toList.map (evA A fr)),st)
 | .makeInterface t x=>same st (ifaceA P t (evA A fr x))
 | .extract x i=>same st (extractA (evA A fr x) i)
 | .typeAssert x _ t true=>same st (assertA P t (evA A fr x))
 | .nilCheck x=>same st (nilCheckA (evA A fr x))
 | .makeMap t none=>match strMap P t with
  | some _=>some (.map st.length,st ++ [.map [] []])
  | none=>none
 | .makeMap t (some (.const (.int _ _)))=>match strMap P t with
  | some _=>some (.map st.length,st ++ [.map [] []])
  | none=>none
 | .makeSlice t l c=>makeSliceA P st t (evA A fr l) (evA A fr c)
 | .mapUpdate t m k v=>(mapUpdateA P st t (evA A fr m) (evA A fr k) (evA A fr v)).map fun s=>(.tuple [],s)
 | .lookup t m k false=>same st (lookupA P t (evA A fr m) (evA A fr k))
 | .call { callee:=.builtin .len,args:=⟨[x]⟩,argTypes:=⟨[t]⟩ }=>same st (lenA P t (evA A fr x))
 | .call { callee:=.builtin .append,args:=⟨[x,y]⟩,argTypes:=⟨[t,t2]⟩ }=>if boxedD A f o then appendO P st t t2 (evA A fr x) (evA A fr y) else appendA P st t t2 (evA A fr x) (evA A fr y)
 | _=>none
def calleeA (A:Ann) (fr:Fr) (o:Oper):Option (FuncId × List AV) :=
 match o.op with
 | .call { callee:=.value x,args,.. }=>match evA A fr x with
  | .fn g first cap=>some (g,first ++ args.toList.map (evA A fr) ++ cap)
  | _=>none
 | _=>none
def wantedA (ops:Array Oper) (fr:Fr) (o:Oper):Option Bool :=
 match o.guard with
 | none=>some true
 | some (j,want)=>match (ops[j]?).bind (·.dst) with
  | some d=>match fr d with
   | .sc (.bool b)=>some (b == want)
   | .tuple []=>some false
   | _=>none
  | none=>none
mutual
def strip0:AV→Option AV
 | .sc v=>some (.sc v)
 | .agg cs=>(strip0L cs).map .agg
 | .slice xs _=>(strip0L xs).map (.slice · .shut)
 | _=>none
def strip0L:List AV→Option (List AV)
 | []=>some []
 | v :: r=>(strip0 v).bind fun v'=>(strip0L r).map (v' :: ·)
end
def chunk (k:Nat):Nat→List AV→List AV
 | 0,_=>[]
 | n + 1,l=>.agg (l.take k) :: chunk k n (l.drop k)
mutual
def strip (st:St):AV→Option AV
 | .sc v=>some (.sc v)
 | .agg cs=>(stripL st cs).map .agg
 | .tuple vs=>(stripL st vs).map .tuple
 | .ptr _ _=>none
 | .cptr cs off=>(stripL st cs).map (.cptr · off)
 | .slice xs _=>(stripL st xs).map (.slice · .shut)
 | .fn f a b=>(stripL st a).bind fun a'=>(stripL st b).map fun b'=>.fn f a' b'
 | .iface t v=>(strip st v).map (.iface t)
 | .cmap ks vs=>(stripL st vs).map (.cmap ks)
 | .map id=>match st[id]? with
  | some (.map ks vs)=>if vs.all AV.isSc then some (.cmap ks vs) else none
  | _=>none
 | .arr id n k=>match st[id]? with
  | some (.arr _ cs)=>if cs.length = n * k∧0 < k∧0 < n then (strip0L cs).map fun cs'=>.slice (chunk k n cs') .shut else none
  | _=>none
def stripL (st:St):List AV→Option (List AV)
 | []=>some []
 | v :: r=>(strip st v).bind fun v'=>(stripL st r).map (v' :: ·)
end
inductive Kd where
 | calm
 | look (o:Option Nat)
 | put (id:Nat)
 | keep (l:List Nat)
 | new (T:Bool) (l:List Nat)
instance:OfNat Kd 0:=⟨.calm⟩
instance:OfNat Kd 1:=⟨.look none⟩
instance:OfNat Kd 2:=⟨.keep []⟩
def kindA (A:Ann) (f:FuncId) (fr:Fr) (o:Oper):Kd :=
 match o.op with
 | .move _ | .assign _ | .pick .. | .binOp .. | .unOp .. | .convert .. | .build .. | .buildSlice .. | .fieldAddr .. | .field .. | .indexAddr .. | .index .. | .slice ..
 | .makeFunc .. | .makeInterface .. | .extract .. | .nilCheck .. | .lookup .. | .typeAssert ..=>0
 | .load _ x=>match evA A fr x with
  | .cptr _ _=>0
  | .ptr id _=>.look (some id)
  | _=>1
 | .store _ x _=>match evA A fr x with
  | .ptr id _=>.put id
  | _=>2
 | .box ..=>match o.dst with
  | some d=>if A.boxed f d then 2 else 0
  | none=>2
 | .call { callee:=.builtin .len,.. }=>0
 | _=>2
section
variable (A:Ann) (f:FuncId)
def stepA (ops:Array Oper) (fr:Fr) (st:St) (o:Oper):Option (AV × St × Kd) :=
 match wantedA ops fr o with
 | none=>none
 | some false=>some (.tuple [],st,0)
 | some true=>match calleeA A fr o with
  | some _=>none
  | none=>(opA P A f fr st o).map fun r=>(r.1,r.2,kindA A f fr o)
def runK (ops:Array Oper):List Oper→Fr→St→Option (Fr × St × List Kd)
 | [],fr,st=>some (fr,st,[])
 | o :: rest,fr,st=>(stepA P A f ops fr st o).bind fun r=>(runK ops rest (put fr o.dst r.1) r.2.1).map fun q=>(q.1,q.2.1,r.2.2 :: q.2.2)
def looks (ops:Array Oper) (o:Oper):List Tmp:=o.looksAt ops
def edgeMask (acc:List Nat):List Edge→Nat
 | []=>0
 | e :: r=>if Region.binds .any e then edgeMask acc r ||| (2 ^ e.on ||| acc.getD e.on 0) else edgeMask acc r
def masks:List Oper→List Nat→List Nat
 | [],acc=>acc
 | o :: r,acc=>masks r (acc ++ [edgeMask acc o.after.toList])
def clash:Kd→Kd→Bool
 | .calm,_=>false
 | _,.calm=>false
 | .look _,.look _=>false
 | .look (some i),.put j=>i == j
 | .put i,.look (some j)=>i == j
 | .put i,.put j=>i == j
 | .look (some i),.keep l=>!l.contains i
 | .keep l,.look (some i)=>!l.contains i
 | .look (some i),.new _ l=>!l.contains i
 | .new _ l,.look (some i)=>!l.contains i
 | .new a _,.new b _=>a && b
 | _,_=>true
def free (ops:Array Oper) (x y:Oper) (j k:Kd):Bool:=x.apart ops y && !clash j k
def pairOk (ops:Array Oper) (m:Nat) (y:Oper) (k:Kd):List (Oper × Kd)→Nat→Bool
 | [],_=>true
 | (x,j) :: r,i=>(m.testBit i || free ops x y j k) && pairOk ops m y k r (i + 1)
def orderGo (ops:Array Oper):List (Oper × Kd)→List Nat→List (Oper × Kd)→Bool
 | (y,k) :: r,m :: ms,done=>pairOk ops m y k done 0 && orderGo ops r ms (done ++ [(y,k)])
 | _,_,_=>true
def backOk:List Oper→Nat→Bool
 | [],_=>true
 | o :: r,i=>(o.after.toList.all fun e=>!Region.binds .any e || decide (e.on < i)) && backOk r (i + 1)
def orderOk (ops:Array Oper) (ks:List Kd):Bool :=
 backOk ops.toList 0 && orderGo ops (ops.toList.zip ks) (masks ops.toList []) []
def idle (o:Oper):Bool :=
 match o.op,o.guard with
 | .move _,none=>true
 | .assign _,none=>true
 | _,_=>false
def apartAll (ops:Array Oper) (o:Oper) (m:Nat):List Oper→Nat→Bool
 | [],_=>true
 | p :: r,i=>(m.testBit i || p.apart ops o) && apartAll ops o m r (i + 1)
def lateOk (ops:Array Oper) (ms:List Nat) (k:Nat):List Oper→Nat→Bool
 | [],_=>true
 | o :: r,j=>((ms.getD j 0).testBit k || (idle o && apartAll ops o (ms.getD j 0) (ops.toList.take (k + 1)) 0)) && lateOk ops ms k r (j + 1)
def panicOk (ops:Array Oper) (ks:List Kd):Bool :=
 backOk ops.toList 0 && orderGo ops (ops.toList.zip (ks ++ [.look none])) (masks ops.toList []) [] && lateOk ops (masks ops.toList []) ks.length (ops.toList.drop (ks.length + 1)) (ks.length + 1)
end
def frame0 (args:List AV):Fr:=fun t=>(args[t]?).getD (.tuple [])
def resultA (st:St) (fr:Fr):ResultVar→Option AV
 | .tmp t=>some (weakA (fr t))
 | .cell a t=>(loadA P st t (fr a)).map weakA
def resultsL (st:St) (fr:Fr):List ResultVar→Option (List AV)
 | []=>some []
 | r :: rs=>(resultA P st fr r).bind fun v=>(resultsL st fr rs).map (v :: ·)
def resultsA (fn:Func) (st:St) (fr:Fr):Option AV :=
 match resultsL P st fr fn.results.toList with
 | some [v]=>some v
 | some vs=>some (.tuple vs)
 | none=>none
end
end Go.AM
end
section
namespace Go.AM
open Go
structure Gh where
 imm:Nat→Nat
 fix:Nat→Prop
 ids:Nat→Option (Nat × Nat × Nat)
def Im (G:Gh) (w:World) (b o:Nat) (l:List Value):Prop :=
 o + l.length≤G.imm b∧∀ i c,l[i]? = some c→w.cell? ⟨b,o + i,none⟩ = some c
def MapAt (w:World) (b:Nat) (ks:List ByteArray) (vs:List Value):Prop :=
 ∃ es clock,w.heap[b]? = some (.map es clock)∧es.toList.map (·.key) = ks.map .string∧es.toList.map (·.val) = vs
def flatC (cs:List Value):List Value:=cs.flatMap (·.cells.toList)
mutual
def V (G:Gh) (w:World):AV→Value→Prop
 | .sc v,c=>c = v
 | .agg cs,c=>∃ l,c = .agg ⟨l⟩∧VL G w cs l
 | .tuple vs,c=>∃ l,c = .tuple ⟨l⟩∧VL G w vs l
 | .ptr id off,c=>∃ b x,G.ids id = some (b,x)∧c = .pointer (some ⟨b,off,none⟩)
 | .cptr cs off,c=>∃ b o l,c = .pointer (some ⟨b,o + off,none⟩)∧VL G w cs l∧Im G w b o l
 | .slice xs sp,c=>∃ a cap,c = .slice a xs.length cap∧xs.length≤cap∧cap≤maxLen∧(a = none→cap = 0)∧((sp = .full→cap = xs.length)∧(sp = .nil→a = none)) ∧
   (((∃ k,sp = .tok k)→xs≠[])∧∀ k m,sp = .room k m→xs = []∧0 < m∧∃ b,a = some ⟨b,0,none⟩∧G.ids k = some (b,0,cap * m)) ∧
   (xs≠[]→∃ b o n cs,a = some ⟨b,o,none⟩∧VL G w xs cs∧(∀ c ∈ cs,c.cells.size = n)∧0 < n∧Im G w b o (flatC cs) ∧
    ∀ k,sp = .tok k→o = 0∧G.ids k = some (b,o + xs.length * n,o + cap * n))
 | .fn f a b,c=>∃ l1 l2,c = .func (.func f) ⟨l1⟩ ⟨l2⟩∧VL G w a l1∧VL G w b l2
 | .iface t v,c=>∃ c',c = .iface t c'∧V G w v c'
 | .cmap ks vs,c=>∃ b l,c = .map (some b)∧G.fix b∧MapAt w b ks l∧VL G w vs l
 | .map id,c=>∃ b x,G.ids id = some (b,x)∧c = .map (some b)
 | .arr id n _,c=>∃ b x cap,G.ids id = some (b,x)∧c = .slice (some ⟨b,0,none⟩) n cap∧n≤cap∧cap≤maxLen
def VL (G:Gh) (w:World):List AV→List Value→Prop
 | [],l=>l = []
 | v :: r,l=>∃ c l',l = c :: l'∧V G w v c∧VL G w r l'
end
structure Grows (G:Gh) (w:World) (G':Gh) (w':World):Prop where
 imm:∀ b,G.imm b≤G'.imm b
 cell:∀ b i,i < G.imm b→w'.cell? ⟨b,i,none⟩ = w.cell? ⟨b,i,none⟩
 fix:∀ b,G.fix b→G'.fix b
 block:∀ b,G.fix b→w'.heap[b]? = w.heap[b]?
theorem Grows.refl (G:Gh) (w:World):Grows G w G w:=⟨fun _=>Nat.le_refl _,fun _ _ _=>rfl,fun _ h=>h,fun _ _=>rfl⟩
theorem Grows.trans {G G' G'':Gh} {w w' w'':World} (h:Grows G w G' w') (k:Grows G' w' G'' w''):Grows G w G'' w'' :=
 ⟨fun b=>Nat.le_trans (h.imm b) (k.imm b),fun b i hi=>(k.cell b i (Nat.lt_of_lt_of_le hi (h.imm b))).trans (h.cell b i hi),
  fun b hb=>k.fix b (h.fix b hb),fun b hb=>(k.block b (h.fix b hb)).trans (h.block b hb)⟩
theorem Im.mono {G G':Gh} {w w':World} {b o:Nat} {l:List Value} (h:Im G w b o l) (g:Grows G w G' w'):Im G' w' b o l:=by
 refine ⟨Nat.le_trans h.1 (g.imm b),fun i c hi=>?_⟩
 have hl:i < l.length:=(List.getElem?_eq_some_iff.1 hi).1
 have:=h.1
 rw [g.cell b (o + i) (by omega)]
 exact h.2 i c hi
theorem MapAt.mono {G G':Gh} {w w':World} {b:Nat} {ks:List ByteArray} {vs:List Value} (h:MapAt w b ks vs) (hf:G.fix b) (g:Grows G w G' w'):MapAt w' b ks vs:=by
 obtain ⟨es,cl,h1,h2,h3⟩:=h
 exact ⟨es,cl,(g.block b hf).trans h1,h2,h3⟩
def IdsIn (G G':Gh):Prop:=∀ (id:Nat) x,G.ids id = some x→G'.ids id = some x
mutual
theorem V.mono {G G':Gh} {w w':World} (g:Grows G w G' w') (hi:IdsIn G G'):(v:AV)→(c:Value)→V G w v c→V G' w' v c
 | .sc v,c,h=>by simpa only [V] using h
 | .agg cs,c,h=>by
  simp only [V] at h ⊢
  obtain ⟨l,h1,h2⟩:=h
  exact ⟨l,h1,VL.mono g hi cs l h2⟩
 | .tuple cs,c,h=>by
  simp only [V] at h ⊢
  obtain ⟨l,h1,h2⟩:=h
  exact ⟨l,h1,VL.mono g hi cs l h2⟩
 | .ptr id off,c,h=>by
  simp only [V] at h ⊢
  obtain ⟨b,x,h1,h2⟩:=h
  exact ⟨b,x,hi _ _ h1,h2⟩
 | .cptr cs off,c,h=>by
  simp only [V] at h ⊢
  obtain ⟨b,o,l,h1,h2,h3⟩:=h
  exact ⟨b,o,l,h1,VL.mono g hi cs l h2,h3.mono g⟩
 | .slice xs sp,c,h=>by
  simp only [V] at h ⊢
  obtain ⟨a,cap,h1,h2,h3,h4,h5,h6,h7⟩:=h
  refine ⟨a,cap,h1,h2,h3,h4,h5,⟨h6.1,fun k m hk=>?_⟩,fun hx=>?_⟩
  ·obtain ⟨e1,e2,b,e3,e4⟩:=h6.2 k m hk
   exact ⟨e1,e2,b,e3,hi _ _ e4⟩
  obtain ⟨b,o,n,cs,e1,e2,e3,e4,e5,e6⟩:=h7 hx
  exact ⟨b,o,n,cs,e1,VL.mono g hi xs cs e2,e3,e4,e5.mono g,fun k hk=>⟨(e6 k hk).1,hi _ _ (e6 k hk).2⟩⟩
 | .fn f a b,c,h=>by
  simp only [V] at h ⊢
  obtain ⟨l1,l2,h1,h2,h3⟩:=h
  exact ⟨l1,l2,h1,VL.mono g hi a l1 h2,VL.mono g hi b l2 h3⟩
 | .iface t v,c,h=>by
  simp only [V] at h ⊢
  obtain ⟨c',h1,h2⟩:=h
  exact ⟨c',h1,V.mono g hi v c' h2⟩
 | .cmap ks vs,c,h=>by
  simp only [V] at h ⊢
  obtain ⟨b,l,h1,h2,h3,h4⟩:=h
  exact ⟨b,l,h1,g.fix _ h2,h3.mono h2 g,VL.mono g hi vs l h4⟩
 | .map id,c,h=>by
  simp only [V] at h ⊢
  obtain ⟨b,x,h1,h2⟩:=h
  exact ⟨b,x,hi _ _ h1,h2⟩
 | .arr id n k,c,h=>by
  simp only [V] at h ⊢
  obtain ⟨b,x,cap,h1,h2⟩:=h
  exact ⟨b,x,cap,hi _ _ h1,h2⟩
theorem VL.mono {G G':Gh} {w w':World} (g:Grows G w G' w') (hi:IdsIn G G'):(vs:List AV)→(l:List Value)→VL G w vs l→VL G' w' vs l
 | [],l,h=>by simpa only [VL] using h
 | v :: r,l,h=>by
  simp only [VL] at h ⊢
  obtain ⟨c,l',h1,h2,h3⟩:=h
  exact ⟨c,l',h1,V.mono g hi v c h2,VL.mono g hi r l' h3⟩
end
theorem V_shut {G:Gh} {w:World} {v:AV} {c:Value} (h:V G w v c):V G w (shutV v) c:=by
 unfold shutV
 split
 ·simp only [V] at h ⊢
  obtain ⟨a,cap,h1,h2,h3,h4,h5,h6,h7⟩:=h
  refine ⟨a,cap,h1,h2,h3,h4,by simp,by simp,fun hx=>?_⟩
  obtain ⟨b,o,n,cs,e1,e2,e3,e4,e5,e6⟩:=h7 hx
  exact ⟨b,o,n,cs,e1,e2,e3,e4,e5,by simp⟩
 ·exact h
theorem VL_shut {G:Gh} {w:World}:{vs:List AV}→{l:List Value}→VL G w vs l→VL G w (vs.map shutV) l
 | [],l,h=>h
 | v :: r,l,h=>by
  simp only [VL,List.map_cons] at h ⊢
  obtain ⟨c,l',h1,h2,h3⟩:=h
  exact ⟨c,l',h1,V_shut h2,VL_shut h3⟩
theorem V_weakA {G:Gh} {w:World} {v:AV} {c:Value} (h:V G w v c):V G w (weakA v) c:=by
 unfold weakA
 split
 ·simp only [V] at h ⊢
  obtain ⟨l,h1,h2⟩:=h
  exact ⟨l,h1,VL_shut h2⟩
 ·exact h
theorem V_fullV {G:Gh} {w:World} {v:AV} {c:Value} (h:V G w v c):V G w (fullV v) c:=by
 unfold fullV
 split
 ·exact V_shut h
 ·exact h
theorem VL_fullV {G:Gh} {w:World}:{vs:List AV}→{l:List Value}→VL G w vs l→VL G w (vs.map fullV) l
 | [],l,h=>h
 | v :: r,l,h=>by
  simp only [VL,List.map_cons] at h ⊢
  obtain ⟨c,l',h1,h2,h3⟩:=h
  exact ⟨c,l',h1,V_fullV h2,VL_fullV h3⟩
theorem V_weakF {G:Gh} {w:World} {v:AV} {c:Value} (h:V G w v c):V G w (weakF v) c:=by
 unfold weakF
 split
 ·simp only [V] at h ⊢
  obtain ⟨l,h1,h2⟩:=h
  exact ⟨l,h1,VL_fullV h2⟩
 ·exact h
theorem V_weakE {G:Gh} {w:World} {v:AV} {c:Value} (h:V G w v c):V G w (weakE v) c:=V_shut (V_weakA h)
end Go.AM
end
section
namespace Go.AM
open Go
def AO.alive:AO→Prop
 | .dead=>False
 | .hole=>False
 | _=>True
def ObjOk (G:Gh) (w:World) (e:Nat × Nat × Nat):AO→Prop
 | .cells T cs=>∃ l,w.heap[e.1]? = some (.cells ⟨l⟩ T (0,0))∧VL G w cs l∧G.imm e.1 = 0∧¬ G.fix e.1
 | .arr T cs=>∃ l ex,w.heap[e.1]? = some (.cells ⟨l ++ ex⟩ T (0,0))∧VL G w cs l∧G.imm e.1 = 0∧¬ G.fix e.1
 | .live T0=>∃ arr T,w.heap[e.1]? = some (.cells arr T (0,0))∧(∀ t,T0 = some t→T = t)∧arr.size = e.2.2∧e.2.1≤e.2.2∧G.imm e.1 = e.2.1∧¬ G.fix e.1
 | .dead=>True
 | .hole=>True
 | .map ks vs=>∃ l,MapAt w e.1 ks l∧VL G w vs l∧G.imm e.1 = 0∧¬ G.fix e.1
theorem fill_len (st:St) (o:AO):fill st st.length o = st ++ [o]:=by simp [fill]
theorem fill_len' (st:St) (k:Nat) (x o:AO):fill (st.set k x) st.length o = st.set k x ++ [o]:=by
 have:=fill_len (st.set k x) o
 rwa [List.length_set] at this
theorem fresh_len (st:St):Fresh st st.length:=fun o h=>by simp at h
theorem fresh_set {st:St} {k i:Nat} {x:AO} (h:Fresh st i) (hk:i≠k):Fresh (st.set k x) i:=fun o ho=>by
 rw [List.getElem?_set,if_neg (fun e=>hk e.symm)] at ho
 exact h o ho
theorem fill_same (st:St) (i:Nat) (o:AO):(fill st i o)[i]? = some o:=by
 unfold fill
 split
 ·rename_i h; simp [h]
 ·rename_i h
  rw [List.getElem?_append_right (by omega),List.getElem?_append_right (by simp)]
  simp
theorem fill_old {st:St} {i j:Nat} {o y:AO} (hj:j≠i) (h:st[j]? = some y):(fill st i o)[j]? = some y:=by
 have hlt:j < st.length:=(List.getElem?_eq_some_iff.1 h).1
 unfold fill
 split
 ·rw [List.getElem?_set,if_neg (fun e=>hj e.symm)]; exact h
 ·rw [List.getElem?_append_left hlt]; exact h
theorem fill_get {st:St} {i j:Nat} {o y:AO} (h:(fill st i o)[j]? = some y):(j = i∧y = o)∨(j≠i∧(st[j]? = some y∨(st[j]? = none∧y = .hole))):=by
 by_cases hj:j = i
 ·subst hj
  rw [fill_same] at h
  exact .inl ⟨rfl,(Option.some.inj h).symm⟩
 ·refine .inr ⟨hj,?_⟩
  unfold fill at h
  split at h
  ·rw [List.getElem?_set,if_neg (fun e=>hj e.symm)] at h; exact .inl h
  ·rename_i hi
   rcases Nat.lt_or_ge j st.length with hlt | hge
   ·rw [List.getElem?_append_left hlt] at h; exact .inl h
   ·refine .inr ⟨List.getElem?_eq_none hge,?_⟩
    rw [List.getElem?_append_right hge] at h
    rcases Nat.lt_or_ge (j - st.length) (i - st.length) with h1 | h1
    ·rw [List.getElem?_append_left (by simpa using h1),List.getElem?_replicate,if_pos h1] at h
     exact (Option.some.inj h).symm
    ·rw [List.getElem?_append_right (by simpa using h1),List.getElem?_eq_none (by simp; omega)] at h
     cases h
theorem fill_alive {st:St} {i j:Nat} {o y:AO} (h:(fill st i o)[j]? = some y) (ha:y.alive):(j = i∧y = o)∨(j≠i∧st[j]? = some y):=by
 rcases fill_get h with h | ⟨h,h1 | ⟨_,rfl⟩⟩
 ·exact .inl h
 ·exact .inr ⟨h,h1⟩
 ·exact ha.elim
theorem fresh_fill {st:St} {i j:Nat} {o:AO} (h:Fresh (fill st i o) j) (hj:j≠i):Fresh st j:=fun y hy=>h y (fill_old hj hy)
theorem alive_not_fresh {st:St} {i:Nat} {o:AO} (h:st[i]? = some o) (ha:o.alive):¬ Fresh st i:=fun hf=>by
 have:=hf o h
 subst this
 exact ha
structure Sok (G:Gh) (w:World) (st:St):Prop where
 len:∀ i,Fresh st i→G.ids i = none
 obj:∀ (id:Nat) (o:AO) (e:Nat × Nat × Nat),st[id]? = some o→G.ids id = some e→ObjOk G w e o
 inj:∀ (i j:Nat) (oi oj:AO) (ei ej:Nat × Nat × Nat),i≠j→st[i]? = some oi→st[j]? = some oj→oi.alive→oj.alive→G.ids i = some ei→G.ids j = some ej→ei.1≠ej.1
 immLt:∀ b,0 < G.imm b→b < w.heap.size
 fixLt:∀ b,G.fix b→b < w.heap.size
def Own (G:Gh) (st:St) (b:Nat):Prop:=∃ (id:Nat) (o:AO) (e:Nat × Nat × Nat),st[id]? = some o∧o.alive∧G.ids id = some e∧e.1 = b
structure Ext (G:Gh) (w:World) (st:St) (G':Gh) (w':World) (st':St):Prop where
 grows:Grows G w G' w'
 ids:IdsIn G G'
 os:w'.os = w.os
 tape:w'.tape = w.tape
 output:w'.output = w.output
 size:w.heap.size≤w'.heap.size
 block:∀ b,b < w.heap.size→¬ Own G st b→w'.heap[b]? = w.heap[b]?
 own:∀ b,b < w.heap.size→Own G' st' b→Own G st b
 immS:∀ b,b < w.heap.size→¬ Own G st b→G'.imm b = G.imm b
 fixS:∀ b,b < w.heap.size→G'.fix b→G.fix b
theorem Ext.refl (G:Gh) (w:World) (st:St):Ext G w st G w st:=⟨.refl G w,fun _ _ h=>h,rfl,rfl,rfl,Nat.le_refl _,fun _ _ _=>rfl,fun _ _ h=>h,fun _ _ _=>rfl,fun _ _ h=>h⟩
theorem Ext.trans {G G' G'':Gh} {w w' w'':World} {st st' st'':St} (h:Ext G w st G' w' st') (k:Ext G' w' st' G'' w'' st''):Ext G w st G'' w'' st'' :=
 ⟨h.grows.trans k.grows,fun i x hx=>k.ids i x (h.ids i x hx),k.os.trans h.os,k.tape.trans h.tape,k.output.trans h.output,Nat.le_trans h.size k.size,
  fun b hb ho=>(k.block b (Nat.lt_of_lt_of_le hb h.size) (fun o=>ho (h.own b hb o))).trans (h.block b hb ho),
  fun b hb ho=>h.own b hb (k.own b (Nat.lt_of_lt_of_le hb h.size) ho),
  fun b hb ho=>(k.immS b (Nat.lt_of_lt_of_le hb h.size) (fun o=>ho (h.own b hb o))).trans (h.immS b hb ho),
  fun b hb hf=>h.fixS b hb (k.fixS b (Nat.lt_of_lt_of_le hb h.size) hf)⟩
theorem Ext.v {G G':Gh} {w w':World} {st st':St} (h:Ext G w st G' w' st') {v:AV} {c:Value} (hv:V G w v c):V G' w' v c:=V.mono h.grows h.ids v c hv
theorem Ext.vl {G G':Gh} {w w':World} {st st':St} (h:Ext G w st G' w' st') {v:List AV} {c:List Value} (hv:VL G w v c):VL G' w' v c:=VL.mono h.grows h.ids v c hv
theorem Ext.below {G G':Gh} {w w':World} {st':St} (h:Ext G w [] G' w' st'):RowKit.Below w.heap.size w w' :=
 ⟨h.os,h.tape,h.output,h.size,fun k hk=>h.block k hk (by rintro ⟨id,o,e,h1,_⟩; simp at h1)⟩
theorem VL.length {G:Gh} {w:World}:{vs:List AV}→{l:List Value}→VL G w vs l→l.length = vs.length
 | [],l,h=>by simp only [VL] at h; simp [h]
 | v :: r,l,h=>by
  simp only [VL] at h
  obtain ⟨c,l',rfl,_,h3⟩:=h
  simp [VL.length h3]
theorem VL.get {G:Gh} {w:World}:{vs:List AV}→{l:List Value}→VL G w vs l→∀ (i:Nat) v,vs[i]? = some v→∃ c,l[i]? = some c∧V G w v c
 | [],l,h,i,v,hi=>by simp at hi
 | v :: r,l,h,i,u,hi=>by
  simp only [VL] at h
  obtain ⟨c,l',rfl,h2,h3⟩:=h
  cases i with
  | zero=>simp at hi; subst hi; exact ⟨c,by simp,h2⟩
  | succ i=>simp at hi; simpa using VL.get h3 i u hi
theorem VL.take {G:Gh} {w:World}:{vs:List AV}→{l:List Value}→VL G w vs l→∀ n,VL G w (vs.take n) (l.take n)
 | [],l,h,n=>by simp only [VL] at h; subst h; simp [VL]
 | v :: r,l,h,n=>by
  simp only [VL] at h
  obtain ⟨c,l',rfl,h2,h3⟩:=h
  cases n with
  | zero=>simp [VL]
  | succ n=>simp only [List.take_succ_cons,VL]; exact ⟨c,_,rfl,h2,VL.take h3 n⟩
theorem VL.drop {G:Gh} {w:World}:{vs:List AV}→{l:List Value}→VL G w vs l→∀ n,VL G w (vs.drop n) (l.drop n)
 | [],l,h,n=>by simp only [VL] at h; subst h; simp [VL]
 | v :: r,l,h,n=>by
  cases n with
  | zero=>simpa using h
  | succ n =>
   simp only [VL] at h
   obtain ⟨c,l',rfl,h2,h3⟩:=h
   simpa using VL.drop h3 n
theorem VL.append {G:Gh} {w:World}:{vs us:List AV}→{l m:List Value}→VL G w vs l→VL G w us m→VL G w (vs ++ us) (l ++ m)
 | [],us,l,m,h,k=>by simp only [VL] at h; subst h; simpa using k
 | v :: r,us,l,m,h,k=>by
  simp only [VL] at h
  obtain ⟨c,l',rfl,h2,h3⟩:=h
  simp only [List.cons_append,VL]
  exact ⟨c,_,rfl,h2,VL.append h3 k⟩
theorem VL.put {G:Gh} {w:World} {cs vs:List AV} {l m:List Value} (h:VL G w cs l) (k:VL G w vs m) (off:Nat) :
  VL G w (putCells cs off vs) (l.take off ++ (m ++ l.drop (off + m.length))):=by
 unfold putCells
 rw [k.length]
 exact (h.take off).append (k.append (h.drop _))
theorem VL.nil {G:Gh} {w:World}:VL G w [] []:=by simp [VL]
theorem VL.cons {G:Gh} {w:World} {v:AV} {c:Value} {vs:List AV} {l:List Value} (h:V G w v c) (k:VL G w vs l):VL G w (v :: vs) (c :: l):=by
 simp only [VL]; exact ⟨c,l,rfl,h,k⟩
theorem VL.of_map {α:Type} {G:Gh} {w:World} {f:α→AV} {g:α→Value}:(l:List α)→(∀ x ∈ l,V G w (f x) (g x))→VL G w (l.map f) (l.map g)
 | [],_=>by simp [VL]
 | x :: r,h=>by
  simp only [List.map_cons]
  exact .cons (h x (by simp)) (VL.of_map r fun y hy=>h y (by simp [hy]))
theorem V_scal (G:Gh) (w:World) (v:Value):V G w (scal v) v:=by
 unfold scal
 split
 ·simp only [V]
  exact ⟨none,0,rfl,by simp,by simp,fun _=>rfl,by simp,by simp,by simp⟩
 ·simp [V]
theorem V_ofConst (G:Gh) (w:World) (v:Value):V G w (ofConst v) v:=by
 unfold ofConst
 split
 ·rename_i cs
  simp only [V]
  refine ⟨cs.toList,rfl,?_⟩
  have:=VL.of_map (G:=G) (w:=w) (f:=scal) (g:=id) cs.toList (fun x _=>V_scal G w x)
  simpa using this
 ·exact V_scal G w v
theorem VL_conc {G:Gh} {w:World}:{cs:List AV}→{l m:List Value}→VL G w cs l→concL cs = some m→l = m
 | [],l,m,h,k=>by simp only [VL] at h; simp [concL] at k; subst h; exact k.symm
 | .sc v :: r,l,m,h,k=>by
  simp only [VL,V] at h
  obtain ⟨c,l',rfl,rfl,h3⟩:=h
  simp only [concL,Option.map_eq_some_iff] at k
  obtain ⟨m',hm,rfl⟩:=k
  rw [VL_conc h3 hm]
 | .agg _ :: r,l,m,h,k=>by simp [concL] at k
 | .tuple _ :: r,l,m,h,k=>by simp [concL] at k
 | .ptr _ _ :: r,l,m,h,k=>by simp [concL] at k
 | .cptr _ _ :: r,l,m,h,k=>by simp [concL] at k
 | .slice _ _ :: r,l,m,h,k=>by simp [concL] at k
 | .fn _ _ _ :: r,l,m,h,k=>by simp [concL] at k
 | .iface _ _ :: r,l,m,h,k=>by simp [concL] at k
 | .cmap _ _ :: r,l,m,h,k=>by simp [concL] at k
 | .map _ :: r,l,m,h,k=>by simp [concL] at k
 | .arr _ _ _ :: r,l,m,h,k=>by simp [concL] at k
theorem V_conc {G:Gh} {w:World} {u:AV} {c d:Value} (h:V G w u c) (k:u.conc = some d):c = d:=by
 cases u with
 | sc v=>simp only [V] at h; simp [AV.conc] at k; exact h.trans k
 | agg cs =>
  simp only [V] at h
  obtain ⟨l,rfl,h2⟩:=h
  simp only [AV.conc,Option.map_eq_some_iff] at k
  obtain ⟨m,hm,rfl⟩:=k
  rw [VL_conc h2 hm]
 | _=>simp [AV.conc] at k
theorem pureRun_run {α:Type} {P:Program} (w:World):{s:Sem α}→{a:α}→pureRun P s = some a→s.run P w = .ok a w
 | .pure a,b,h=>by simp [pureRun] at h; subst h; rfl
 | .program k,b,h=>by simp only [pureRun] at h; simp only [Sem.run]; exact pureRun_run w h
 | .mark _ k,b,h=>by simp only [pureRun] at h; simp only [Sem.run]; exact pureRun_run w h
 | .load ..,b,h=>by simp [pureRun] at h
 | .store ..,b,h=>by simp [pureRun] at h
 | .new ..,b,h=>by simp [pureRun] at h
 | .shape ..,b,h=>by simp [pureRun] at h
 | .freeze ..,b,h=>by simp [pureRun] at h
 | .frozen ..,b,h=>by simp [pureRun] at h
 | .getObj ..,b,h=>by simp [pureRun] at h
 | .setObj ..,b,h=>by simp [pureRun] at h
 | .choose ..,b,h=>by simp [pureRun] at h
 | .sys ..,b,h=>by simp [pureRun] at h
 | .halt _,b,h=>by simp [pureRun] at h
theorem V_cells {G:Gh} {w:World} {u:AV} {c:Value} {vs:List AV} (h:V G w u c) (k:u.cells? = some vs):VL G w vs c.cells.toList:=by
 cases u with
 | agg cs =>
  simp only [V] at h
  obtain ⟨l,rfl,h2⟩:=h
  simp only [AV.cells?,Option.some.injEq] at k
  subst k
  simpa [Value.cells] using h2
 | tuple _=>simp [AV.cells?] at k
 | sc v =>
  have hv:=h
  simp only [V] at h
  subst h
  cases c <;> simp [AV.cells?] at k <;> subst k <;> simpa [Value.cells,VL] using hv
 | ptr a b=>simp only [AV.cells?,Option.some.injEq] at k; subst k; have hv:=h; simp only [V] at h; obtain ⟨b,x,_,rfl⟩:=h; exact .cons hv .nil
 | cptr a b=>simp only [AV.cells?,Option.some.injEq] at k; subst k; have hv:=h; simp only [V] at h; obtain ⟨b,o,l,rfl,_⟩:=h; exact .cons hv .nil
 | slice a b=>simp only [AV.cells?,Option.some.injEq] at k; subst k; have hv:=h; simp only [V] at h; obtain ⟨a,cap,rfl,_⟩:=h; exact .cons hv .nil
 | fn a b d=>simp only [AV.cells?,Option.some.injEq] at k; subst k; have hv:=h; simp only [V] at h; obtain ⟨l1,l2,rfl,_⟩:=h; exact .cons hv .nil
 | iface a b=>simp only [AV.cells?,Option.some.injEq] at k; subst k; have hv:=h; simp only [V] at h; obtain ⟨c',rfl,_⟩:=h; exact .cons hv .nil
 | cmap a b=>simp only [AV.cells?,Option.some.injEq] at k; subst k; have hv:=h; simp only [V] at h; obtain ⟨b,l,rfl,_⟩:=h; exact .cons hv .nil
 | map a=>simp only [AV.cells?,Option.some.injEq] at k; subst k; have hv:=h; simp only [V] at h; obtain ⟨b,x,_,rfl⟩:=h; exact .cons hv .nil
 | arr a b d=>simp only [AV.cells?,Option.some.injEq] at k; subst k; have hv:=h; simp only [V] at h; obtain ⟨b,x,cap,_,rfl,_⟩:=h; exact .cons hv .nil
theorem V_one {G:Gh} {w:World} {u:AV} {c:Value} (h:V G w u c) (k:u.one = true):c.oneCell' = true:=by
 cases u with
 | agg cs=>simp [AV.one] at k
 | tuple _=>simp [AV.one] at k
 | sc v=>simp only [V] at h; subst h; cases c <;> simp_all [AV.one,Value.oneCell']
 | ptr a b=>simp only [V] at h; obtain ⟨b,x,_,rfl⟩:=h; rfl
 | cptr a b=>simp only [V] at h; obtain ⟨b,o,l,rfl,_⟩:=h; rfl
 | slice a b=>simp only [V] at h; obtain ⟨a,cap,rfl,_⟩:=h; rfl
 | fn a b d=>simp only [V] at h; obtain ⟨l1,l2,rfl,_⟩:=h; rfl
 | iface a b=>simp only [V] at h; obtain ⟨c',rfl,_⟩:=h; rfl
 | cmap a b=>simp only [V] at h; obtain ⟨b,l,rfl,_⟩:=h; rfl
 | map a=>simp only [V] at h; obtain ⟨b,x,_,rfl⟩:=h; rfl
 | arr a b d=>simp only [V] at h; obtain ⟨b,x,cap,_,rfl,_⟩:=h; rfl
theorem VL_one {G:Gh} {w:World}:{vs:List AV}→{l:List Value}→VL G w vs l→vs.all AV.one = true→∀ c ∈ l,c.oneCell' = true
 | [],l,h,_,c,hc=>by simp only [VL] at h; subst h; simp at hc
 | v :: r,l,h,k,c,hc=>by
  simp only [VL] at h
  obtain ⟨d,l',rfl,h2,h3⟩:=h
  simp only [List.all_cons,Bool.and_eq_true] at k
  rcases List.mem_cons.1 hc with rfl | hc
  ·exact V_one h2 k.1
  ·exact VL_one h3 k.2 c hc
end Go.AM
end
section
namespace Go.AM
open Go
section
variable {P:Program} {G:Gh} {w:World} {st:St}
theorem run_size {t:TypeId} {n:Nat} (h:size? P t = some n):(sizeOf t).run P w = .ok n w:=pureRun_run w h
theorem run_isAgg {t:TypeId} {b:Bool} (h:isAgg? P t = some b):(isAgg t).run P w = .ok b w:=pureRun_run w h
theorem pickA_ok {c a b r:AV} {cc ca cb:Value} (h:pickA c a b = some r) (hc:V G w c cc) (ha:V G w a ca) (hb:V G w b cb) :
  ∃ t,cc = .bool t∧V G w r (if t then ca else cb):=by
 unfold pickA at h
 split at h
 ·rename_i t
  simp only [V] at hc
  refine ⟨t,hc,?_⟩
  simp only [Option.some.injEq] at h
  subst h
  cases t <;> simpa
 ·cases h
theorem scalA_ok {u v r:AV} {cu cv:Value} {k:Value→Value→Sem Value} (h:scalA P u v k = some r) (hu:V G w u cu) (hv:V G w v cv) :
  ∃ c,(k cu cv).run P w = .ok c w∧V G w r c:=by
 unfold scalA at h
 split at h
 ·rename_i du dv h1 h2
  obtain rfl:=V_conc hu h1
  obtain rfl:=V_conc hv h2
  simp only [Option.map_eq_some_iff] at h
  obtain ⟨c,hc,rfl⟩:=h
  exact ⟨c,pureRun_run w hc,V_ofConst G w c⟩
 ·cases h
theorem scal1A_ok {u r:AV} {cu:Value} {k:Value→Sem Value} (h:scal1A P u k = some r) (hu:V G w u cu) :
  ∃ c,(k cu).run P w = .ok c w∧V G w r c:=by
 unfold scal1A at h
 split at h
 ·rename_i du h1
  obtain rfl:=V_conc hu h1
  simp only [Option.map_eq_some_iff] at h
  obtain ⟨c,hc,rfl⟩:=h
  exact ⟨c,pureRun_run w hc,V_ofConst G w c⟩
 ·cases h
theorem ptrT_ok {t:TypeId} (h:ptrT P t = true):∃ e n,P.underlying t = some (.pointer e)∧size? P e = some n∧0 < n:=by
 unfold ptrT at h
 split at h
 ·rename_i e h1
  split at h
  ·rename_i n h2
   exact ⟨e,n,h1,h2,of_decide_eq_true h⟩
  ·cases h
 ·cases h
theorem run_equal_ptr {t:TypeId} {b i j:Nat} (h:ptrT P t = true) :
  (Op.equal t (.pointer (some ⟨b,i,none⟩)) (.pointer (some ⟨b,j,none⟩))).run P w = .ok (decide (i = j)) w:=by
 obtain ⟨e,n,h1,h2,h3⟩:=ptrT_ok h
 have hs:=run_size (w:=w) h2
 have hn:¬ n = 0:=by omega
 unfold Op.equal Op.maxDepth Op.equalIn
 simp only [Sem.run_bind,run_underlying h1,Result.andThen_ok,hs,hn,ne_eq,not_false_eq_true,if_true,sameAddr,beq_self_eq_true,Sem.run_pure]
 congr 1
 by_cases hij:i = j <;> simp [hij]
theorem run_equal_nil {t:TypeId} {a:Addr} (h:ptrT P t = true) :
  (Op.equal t (.pointer (some a)) (.pointer none)).run P w = .ok false w:=by
 obtain ⟨e,n,h1,h2,h3⟩:=ptrT_ok h
 unfold Op.equal Op.maxDepth Op.equalIn
 simp [run_underlying h1]
theorem ptrEqA_ok {op:BinOp} {b:Bool} {r:AV} {t:TypeId} {x y:Operand} {p q:Option Addr} (h:ptrEqA op b = some r)
  (he:(Op.equal t (.pointer p) (.pointer q)).run P w = .ok b w) :
  ∃ c,(do eqGuard op t x y (.pointer p) (.pointer q); binOp op t (.pointer p) (.pointer q)).run P w = .ok c w∧V G w r c:=by
 unfold ptrEqA at h
 split at h
 ·simp only [Option.some.injEq] at h
  subst h
  refine ⟨.bool b,?_,by simp [V]⟩
  simp [eqGuard,binOp,he]
 ·simp only [Option.some.injEq] at h
  subst h
  refine ⟨.bool (!b),?_,by simp [V]⟩
  simp [eqGuard,binOp,he]
 ·cases h
theorem ifaceEq_ok {op:BinOp} {r:AV} {t t':TypeId} {x y:Operand} {p:Value} (h:ptrEqA op false = some r) (ht:ifaceT P t = true) :
  ∃ c,(do eqGuard op t x y (.iface t' p) .nilIface; binOp op t (.iface t' p) .nilIface).run P w = .ok c w∧V G w r c:=by
 have he:(Op.equal t (.iface t' p) .nilIface).run P w = .ok false w:=by
  unfold ifaceT at ht
  split at ht
  ·rename_i ms hu
   unfold Op.equal Op.maxDepth Op.equalIn
   simp [run_underlying hu]
  ·cases ht
 unfold ptrEqA at h
 split at h
 ·simp only [Option.some.injEq] at h
  subst h
  refine ⟨.bool false,?_,by simp [V]⟩
  simp [eqGuard,binOp,he]
 ·simp only [Option.some.injEq] at h
  subst h
  refine ⟨.bool true,?_,by simp [V]⟩
  simp [eqGuard,binOp,he]
 ·cases h
theorem cat_eq (a b:ByteArray):a ++ b = bs (a.data.toList ++ b.data.toList):=by
 apply ByteArray.ext
 rw [ByteArray.data_append]
 apply Array.ext'
 simp [bs]
theorem strBinA_ok {op:BinOp} {t:TypeId} {x y:Operand} {a b:ByteArray} {r:AV} (h:strBinA P op t x y a b = some r) :
  ∃ c,(do eqGuard op t x y (.string a) (.string b); binOp op t (.string a) (.string b)).run P w = .ok c w∧V G w r c:=by
 unfold strBinA at h
 split at h
 ·simp only [Option.some.injEq] at h
  subst h
  exact ⟨.bool (strEq a b),by simp [eqGuard,binOp,Op.stringOp,Lib.toList_data,strEq],by simp [V]⟩
 ·simp only [Option.some.injEq] at h
  subst h
  exact ⟨.bool (!strEq a b),by simp [eqGuard,binOp,Op.stringOp,Lib.toList_data,strEq],by simp [V]⟩
 ·simp only [Option.map_eq_some_iff,catS] at h
  obtain ⟨s,h1,rfl⟩:=h
  split at h1
  ·rename_i hle
   simp only [Option.some.injEq] at h1
   subst h1
   refine ⟨.string (a ++ b),?_,by simp only [V]; rw [cat_eq]⟩
   have hn:((a.size:Int) + (b.size:Int)≤9223372036854775807):=by omega
   simp [eqGuard,binOp,Op.stringOp,hn]
  ·cases h1
 ·exact scalA_ok h (by simp [V]) (by simp [V])
theorem binA_ok {op:BinOp} {t:TypeId} {x y:Operand} {u v r:AV} {cu cv:Value} (h:binA P op t x y u v = some r) (hu:V G w u cu) (hv:V G w v cv) :
  ∃ c,(do eqGuard op t x y cu cv; binOp op t cu cv).run P w = .ok c w∧V G w r c:=by
 unfold binA at h
 split at h
 ·rename_i i j i' j'
  split at h
  ·rename_i hc
   obtain ⟨rfl,ht⟩:=hc
   simp only [V] at hu hv
   obtain ⟨b,z,h1,rfl⟩:=hu
   obtain ⟨b',z',h2,rfl⟩:=hv
   rw [h1] at h2
   simp only [Option.some.injEq,Prod.mk.injEq] at h2
   obtain ⟨rfl,_⟩:=h2
   exact ptrEqA_ok h (run_equal_ptr ht)
  ·cases h
 ·split at h
  ·rename_i ht
   simp only [V] at hu hv
   obtain ⟨b,z,h1,rfl⟩:=hu
   subst hv
   exact ptrEqA_ok h (run_equal_nil ht)
  ·cases h
 ·simp only [V] at hu hv
  subst hu hv
  exact strBinA_ok h
 ·split at h
  ·rename_i ht
   simp only [V] at hu hv
   obtain ⟨c',rfl,_⟩:=hu
   subst hv
   exact ifaceEq_ok h ht
  ·cases h
 ·exact scalA_ok h hu hv
theorem loadC_ok {t:TypeId} {cs:List AV} {off:Nat} {v:AV} {l:List Value} (h:loadC P t cs off = some v) (hl:VL G w cs l) :
  (∃ n,isAgg? P t = some true∧size? P t = some n∧off + n≤l.length∧V G w v (.agg ⟨(l.drop off).take n⟩)) ∨
  (∃ c,isAgg? P t = some false∧l[off]? = some c∧V G w v c):=by
 unfold loadC at h
 split at h
 ·rename_i n h1 h2
  split at h
  ·rename_i hle
   simp only [Option.some.injEq] at h
   subst h
   refine .inl ⟨n,h1,h2,by rw [hl.length]; exact hle,?_⟩
   simp only [V]
   exact ⟨_,rfl,(hl.drop off).take n⟩
  ·cases h
 ·rename_i n h1 h2
  obtain ⟨c,hc,hv⟩:=hl.get off v h
  exact .inr ⟨c,h1,hc,hv⟩
 ·cases h
theorem run_loadVar_known {t:TypeId} {cs:List AV} {off b o:Nat} {v:AV} {l:List Value} (h:loadC P t cs off = some v) (hl:VL G w cs l)
  (hc:∀ i c,l[i]? = some c→w.cell? ⟨b,o + i,none⟩ = some c) :
  ∃ c,(loadVar t ⟨b,o + off,none⟩).run P w = .ok c w∧V G w v c:=by
 have hadd:∀ j,(⟨b,o + off,none⟩:Addr).add j = ⟨b,o + off + j,none⟩:=fun j=>by unfold Addr.add; split <;> simp_all
 rcases loadC_ok h hl with ⟨n,h1,h2,h3,h4⟩ | ⟨c,h1,h2,h3⟩
 ·refine ⟨_,?_,h4⟩
  have hlen:((l.drop off).take n).length = n:=by simp; omega
  have:=run_loadCells_list (P:=P) w ⟨b,o + off,none⟩ ((l.drop off).take n) (fun j c hj=>by
   rw [hadd]
   rw [List.getElem?_take] at hj
   split at hj
   ·rw [List.getElem?_drop] at hj
    have:=hc _ _ hj
    rwa [← Nat.add_assoc] at this
   ·cases hj)
  rw [hlen] at this
  simp only [loadVar,Sem.run_bind,run_isAgg h1,Result.andThen_ok,if_true,run_size h2,this,Sem.run_pure]
 ·refine ⟨c,?_,h3⟩
  have:=hc _ _ h2
  simp only [loadVar,Sem.run_bind,run_isAgg h1,Result.andThen_ok,Bool.false_eq_true,if_false]
  simp [this]
theorem loadA_ok {t:TypeId} {u v:AV} {cu:Value} (h:loadA P st t u = some v) (hu:V G w u cu) (hs:Sok G w st) :
  ∃ c,(Instr.loadAt t cu).run P w = .ok c w∧V G w v c:=by
 unfold loadA at h
 split at h
 ·rename_i cs off
  simp only [V] at hu
  obtain ⟨b,o,l,rfl,h2,h3⟩:=hu
  obtain ⟨c,hc,hv⟩:=run_loadVar_known (o:=o) h h2 h3.2
  exact ⟨c,by simpa [Instr.loadAt,Instr.sureAddr] using hc,hv⟩
 ·rename_i id off
  split at h
  ·rename_i T cs hst
   simp only [V] at hu
   obtain ⟨b,x,hid,rfl⟩:=hu
   obtain ⟨l,hh,hl,_⟩:=hs.obj id _ _ hst hid
   obtain ⟨c,hc,hv⟩:=run_loadVar_known (b:=b) (o:=0) h hl (fun i c hi=>by simp [World.cell?,hh,hi])
   exact ⟨c,by simpa [Instr.loadAt,Instr.sureAddr] using hc,hv⟩
  ·rename_i T cs hst
   simp only [V] at hu
   obtain ⟨b,x,hid,rfl⟩:=hu
   obtain ⟨l,ex,hh,hl,_⟩:=hs.obj id _ _ hst hid
   obtain ⟨c,hc,hv⟩:=run_loadVar_known (b:=b) (o:=0) h hl (fun i c hi=>by
    have hi2:(l ++ ex)[i]? = some c:=by rw [List.getElem?_append_left (List.getElem?_eq_some_iff.1 hi).1]; exact hi
    simp [World.cell?,hh,hi2])
   exact ⟨c,by simpa [Instr.loadAt,Instr.sureAddr] using hc,hv⟩
  ·cases h
 ·cases h
theorem fieldOf_ok {t:TypeId} {i:Nat} {fd:Field} (h:fieldOf P t i = some fd):∃ fs,P.underlying t = some (.struct fs)∧fs[i]? = some fd:=by
 unfold fieldOf at h
 split at h
 ·rename_i fs hf
  exact ⟨fs,hf,h⟩
 ·cases h
theorem addr_add (b o j:Nat):(⟨b,o,none⟩:Addr).add j = ⟨b,o + j,none⟩:=by unfold Addr.add; split <;> simp_all
theorem fieldAddrA_ok {s:TypeId} {u v:AV} {i:Nat} {cu:Value} (h:fieldAddrA P s u i = some v) (hu:V G w u cu) :
  ∃ c,(Instr.fieldAt s cu i).run P w = .ok c w∧V G w v c:=by
 unfold fieldAddrA at h
 split at h
 ·rename_i fd hfd
  obtain ⟨fs,hs,hf⟩:=fieldOf_ok hfd
  split at h
  ·rename_i n hn
   split at h
   ·cases h
   ·rename_i hz
    split at h
    ·rename_i cs off
     simp only [Option.some.injEq] at h
     subst h
     simp only [V] at hu
     obtain ⟨b,o,l,rfl,h2,h3⟩:=hu
     refine ⟨.pointer (some ⟨b,o + off + fd.offset,none⟩),?_,?_⟩
     ·simp [Instr.fieldAt,run_underlying hs,hf,Instr.sureAddr,fieldPlace,run_size hn,hz,addr_add]
     ·simp only [V]
      exact ⟨b,o,l,by rw [Nat.add_assoc],h2,h3⟩
    ·rename_i id off
     simp only [Option.some.injEq] at h
     subst h
     simp only [V] at hu
     obtain ⟨b,x,hid,rfl⟩:=hu
     refine ⟨.pointer (some ⟨b,off + fd.offset,none⟩),?_,?_⟩
     ·simp [Instr.fieldAt,run_underlying hs,hf,Instr.sureAddr,fieldPlace,run_size hn,hz,addr_add]
     ·simp only [V]
      exact ⟨b,x,hid,rfl⟩
    ·cases h
  ·cases h
 ·cases h
theorem part_ok {t:TypeId} {cs:List AV} {off:Nat} {v:AV} {l:List Value} (h:loadC P t cs off = some v) (hl:VL G w cs l) :
  ∃ c,(part t ⟨l⟩ off).run P w = .ok c w∧V G w v c:=by
 rcases loadC_ok h hl with ⟨n,h1,h2,h3,h4⟩ | ⟨c,h1,h2,h3⟩
 ·refine ⟨_,?_,h4⟩
  simp only [part,Sem.run_bind,run_isAgg h1,Result.andThen_ok,if_true,run_size h2,Sem.run_pure]
  congr 2
  simp [List.extract_eq_take_drop]
 ·refine ⟨c,?_,h3⟩
  simp [part,run_isAgg h1,h2]
theorem fieldA_ok {t:TypeId} {u v:AV} {i:Nat} {cu:Value} (h:fieldA P t u i = some v) (hu:V G w u cu) :
  ∃ c,(Instr.field t cu i).run P w = .ok c w∧V G w v c:=by
 unfold fieldA at h
 split at h
 ·rename_i fd cs hfd
  obtain ⟨fs,hs,hf⟩:=fieldOf_ok hfd
  simp only [V] at hu
  obtain ⟨l,rfl,h2⟩:=hu
  obtain ⟨c,hc,hv⟩:=part_ok h h2
  exact ⟨c,by simp [Instr.field,run_underlying hs,hf,asAgg,hc],hv⟩
 ·cases h
end
end Go.AM
end
section
namespace Go.AM
open Go
theorem flatC_length {n:Nat}:(cs:List Value)→(∀ c ∈ cs,c.cells.size = n)→(flatC cs).length = cs.length * n
 | [],_=>by simp [flatC]
 | c :: r,h=>by
  have h1:=h c (by simp)
  have ih:=flatC_length r (fun x hx=>h x (by simp [hx]))
  simp only [flatC,List.flatMap_cons,List.length_append,Array.length_toList,h1] at ih ⊢
  rw [ih,List.length_cons,Nat.add_mul]
  omega
theorem flatC_get {n:Nat}:(cs:List Value)→(∀ c ∈ cs,c.cells.size = n)→∀ (i:Nat) c,cs[i]? = some c→∀ j,j < n→(flatC cs)[i * n + j]? = c.cells.toList[j]?
 | [],_,i,c,hi,_,_=>by simp at hi
 | d :: r,h,i,c,hi,j,hj=>by
  have h1:=h d (by simp)
  have h2:∀ x ∈ r,x.cells.size = n:=fun x hx=>h x (by simp [hx])
  simp only [flatC,List.flatMap_cons]
  cases i with
  | zero =>
   simp at hi
   subst hi
   rw [List.getElem?_append_left (by simp [h1]; omega)]
   simp
  | succ i =>
   simp at hi
   have ih:=flatC_get r h2 i c hi j hj
   rw [List.getElem?_append_right (by simp [h1,Nat.add_mul]; omega)]
   have e:(i + 1) * n + j - d.cells.toList.length = i * n + j:=by simp [h1,Nat.add_mul]; omega
   rw [e]
   exact ih
theorem flatC_append (a b:List Value):flatC (a ++ b) = flatC a ++ flatC b:=by simp [flatC]
theorem flatC_drop {n:Nat}:(cs:List Value)→(∀ c ∈ cs,c.cells.size = n)→∀ k,flatC (cs.drop k) = (flatC cs).drop (k * n)
 | [],_,k=>by simp [flatC]
 | d :: r,h,0=>by simp
 | d :: r,h,k + 1=>by
  have h1:=h d (by simp)
  have ih:=flatC_drop r (fun x hx=>h x (by simp [hx])) k
  simp only [List.drop_succ_cons,ih]
  simp only [flatC,List.flatMap_cons]
  rw [List.drop_append,Nat.add_mul]
  simp only [Array.length_toList,h1,Nat.one_mul]
  have e:k * n + n - n = k * n:=by omega
  have hd:List.drop (k * n + n) d.cells.toList = []:=List.drop_eq_nil_of_le (by rw [Array.length_toList]; omega)
  rw [e,hd]
  simp
theorem flatC_take {n:Nat}:(cs:List Value)→(∀ c ∈ cs,c.cells.size = n)→∀ k,flatC (cs.take k) = (flatC cs).take (k * n)
 | [],_,k=>by simp [flatC]
 | d :: r,h,0=>by simp [flatC]
 | d :: r,h,k + 1=>by
  have h1:=h d (by simp)
  have ih:=flatC_take r (fun x hx=>h x (by simp [hx])) k
  simp only [List.take_succ_cons]
  simp only [flatC,List.flatMap_cons] at ih ⊢
  rw [ih,List.take_append,Nat.add_mul]
  simp only [Array.length_toList,h1,Nat.one_mul]
  have e:k * n + n - n = k * n:=by omega
  have hd:List.take (k * n + n) d.cells.toList = d.cells.toList:=List.take_of_length_le (by rw [Array.length_toList]; omega)
  rw [e,hd]
section
variable {P:Program} {G:Gh} {w:World} {st:St}
theorem Im.sub {b o:Nat} {l:List Value} (h:Im G w b o l) (k n:Nat) (hk:k≤l.length):Im G w b (o + k) ((l.drop k).take n):=by
 have h1:=h.1
 refine ⟨by simp; omega,fun i c hi=>?_⟩
 rw [List.getElem?_take] at hi
 split at hi
 ·rw [List.getElem?_drop] at hi
  have:=h.2 _ _ hi
  rwa [← Nat.add_assoc] at this
 ·cases hi
theorem VL_mem_cells {xs:List AV} {cs:List Value} {n:Nat} (h:VL G w xs cs) (hs:sized n xs = true):∀ c ∈ cs,c.cells.size = n∧∀ x ∈ c.cells.toList,x.oneCell' = true:=by
 induction xs generalizing cs with
 | nil=>simp only [VL] at h; subst h; simp
 | cons v r ih =>
  simp only [VL] at h
  obtain ⟨c,l',rfl,h2,h3⟩:=h
  simp only [sized,List.all_cons,Bool.and_eq_true] at hs
  intro d hd
  rcases List.mem_cons.1 hd with rfl | hd
  ·obtain ⟨h4,_⟩:=hs
   split at h4
   ·rename_i cs' hcs
    simp only [Bool.and_eq_true,beq_iff_eq] at h4
    have hv:=V_cells h2 hcs
    have:=hv.length
    refine ⟨by rw [Array.length_toList] at this; omega,VL_one hv h4.2⟩
   ·cases h4
  ·exact ih h3 hs.2 d hd
theorem indexAddrA_ok {t:TypeId} {u ix v:AV} {cu cx:Value} (h:indexAddrA P t u ix = some v) (hu:V G w u cu) (hx:V G w ix cx) :
  ∃ c,(Instr.indexAt t cu cx).run P w = .ok c w∧V G w v c:=by
 unfold indexAddrA at h
 split at h
 ·rename_i k i
  simp only [V] at hx
  subst hx
  split at h
  ·rename_i e xs sp ht
   split at h
   ·rename_i n v0 hn hv0
    split at h
    ·rename_i hc
     obtain ⟨hi,hn0⟩:=hc
     unfold elemPtrA at h
     split at h
     ·rename_i cs hcs
      split at h
      ·rename_i hcl
       simp only [Option.some.injEq] at h
       subst h
       simp only [V] at hu
       obtain ⟨a,cap,rfl,h1,h2,h3,h4,h5,h6⟩:=hu
       have hne:xs≠[]:=by rintro rfl; simp at hv0
       obtain ⟨b,o,n',es,rfl,e2,e3,e4,e5,e6⟩:=h6 hne
       obtain ⟨ce,hce,hve⟩:=e2.get _ _ hv0
       have hvc:=V_cells hve hcs
       have hlen:=hvc.length
       have hmem:ce ∈ es:=List.mem_of_getElem? hce
       have hnn:n' = n:=by have:=e3 ce hmem; rw [Array.length_toList] at hlen; omega
       subst hnn
       have hlt:i.toNat < xs.length:=(List.getElem?_eq_some_iff.1 hv0).1
       have hil:i < (xs.length:Int):=by omega
       refine ⟨.pointer (some ⟨b,o + i.toNat * n',none⟩),?_,?_⟩
       ·simp [Instr.indexAt,asIntOf,run_underlying ht,hi,hil,run_size hn,addr_add]
       ·simp only [V]
        refine ⟨b,o + i.toNat * n',ce.cells.toList,rfl,hvc,?_,fun j c hj=>?_⟩
        ·have hfl:=flatC_length es e3
         have hel:=e2.length
         have:=e5.1
         rw [hfl,hel] at this
         rw [hlen,hcl]
         have:(i.toNat + 1) * n'≤xs.length * n':=Nat.mul_le_mul_right _ hlt
         rw [Nat.add_mul] at this
         omega
        ·have hjn:j < n':=by
          have:=(List.getElem?_eq_some_iff.1 hj).1
          rw [hlen] at this; omega
         have:=flatC_get es e3 _ _ hce j hjn
         rw [hj] at this
         have:=e5.2 _ _ this
         rwa [← Nat.add_assoc] at this
      ·cases h
     ·cases h
    ·cases h
   ·cases h
  ·rename_i len e cs off ht
   split at h
   ·rename_i n hn
    split at h
    ·rename_i hc
     simp only [Option.some.injEq] at h
     subst h
     simp only [V] at hu
     obtain ⟨b,o,l,rfl,h2,h3⟩:=hu
     refine ⟨.pointer (some ⟨b,o + off + i.toNat * n,none⟩),?_,?_⟩
     ·simp [Instr.indexAt,asIntOf,run_underlying ht,hc,run_size hn,addr_add,Instr.sureAddr]
     ·simp only [V]
      exact ⟨b,o,l,by rw [Nat.add_assoc],h2,h3⟩
    ·cases h
   ·cases h
  ·rename_i len e id off ht
   split at h
   ·rename_i n hn
    split at h
    ·rename_i hc
     simp only [Option.some.injEq] at h
     subst h
     simp only [V] at hu
     obtain ⟨b,x,hid,rfl⟩:=hu
     refine ⟨.pointer (some ⟨b,off + i.toNat * n,none⟩),?_,?_⟩
     ·simp [Instr.indexAt,asIntOf,run_underlying ht,hc,run_size hn,addr_add,Instr.sureAddr]
     ·simp only [V]
      exact ⟨b,x,hid,rfl⟩
    ·cases h
   ·cases h
  ·rename_i e id n k' ht
   split at h
   ·rename_i m hn
    split at h
    ·rename_i hc
     obtain ⟨rfl,hi,hil⟩:=hc
     simp only [Option.some.injEq] at h
     subst h
     simp only [V] at hu
     obtain ⟨b,x,cap,hid,rfl,_⟩:=hu
     refine ⟨.pointer (some ⟨b,i.toNat * m,none⟩),?_,?_⟩
     ·simp [Instr.indexAt,asIntOf,run_underlying ht,hi,hil,run_size hn,addr_add]
     ·simp only [V]
      exact ⟨b,x,hid,rfl⟩
    ·cases h
   ·cases h
  ·cases h
 ·cases h
theorem indexA_ok {t:TypeId} {u ix v:AV} {cu cx:Value} (h:indexA P t u ix = some v) (hu:V G w u cu) (hx:V G w ix cx) :
  ∃ c,(Instr.index t cu cx).run P w = .ok c w∧V G w v c:=by
 unfold indexA at h
 split at h
 ·rename_i cs
  split at h
  ·rename_i k i len e ht
   split at h
   ·rename_i n hn
    split at h
    ·rename_i hc
     simp only [V] at hx hu
     subst hx
     obtain ⟨l,rfl,hl⟩:=hu
     obtain ⟨c,hc',hv⟩:=part_ok h hl
     exact ⟨c,by simp [Instr.index,asIntOf,run_underlying ht,hc,run_size hn,hc'],hv⟩
    ·cases h
   ·cases h
  ·cases h
 ·exact scalA_ok h hu hx
theorem V_slice_sub {xs:List AV} {sp sp':Spare} {a:Option Addr} {cap:Nat} {e:TypeId} {n l h:Nat} (hu:V G w (.slice xs sp) (.slice a xs.length cap)) (hs:sized n xs = true) (hn0:0 < n)
  (hl:l≤h) (hh:h≤xs.length) (_he:size? P e = some n) (hsp:sp' = .shut∨(sp' = .full∧sp = .full∧h = xs.length)) :
  V G w (.slice ((xs.drop l).take (h - l)) sp') (.slice (if cap = l then a else a.map (·.add (l * n))) (h - l) (cap - l)):=by
 simp only [V] at hu ⊢
 obtain ⟨a',cap',e0,h1,h2,h3,h4,h5,h6⟩:=hu
 simp only [Value.slice.injEq,true_and] at e0
 obtain ⟨rfl,rfl⟩:=e0
 have hlen:((xs.drop l).take (h - l)).length = h - l:=by simp; omega
 refine ⟨_,_,by rw [hlen],by rw [hlen]; omega,by omega,?_,?_,?_,?_⟩
 ·intro ha
  split at ha
  ·have:=h3 ha; omega
  ·have:a = none:=by cases a <;> simp_all
   have:=h3 this; omega
 ·refine ⟨fun hf=>?_,fun hf=>?_⟩
  ·rw [hlen]
   rcases hsp with rfl | ⟨_,rfl,rfl⟩
   ·cases hf
   ·have:=h4.1 rfl; omega
  ·rcases hsp with rfl | ⟨h0,_,_⟩
   ·cases hf
   ·rw [h0] at hf; cases hf
 ·refine ⟨?_,fun k m hk=>?_⟩
  ·rintro ⟨k,rfl⟩
   rcases hsp with hk | ⟨hk,_⟩ <;> cases hk
  ·rcases hsp with hk' | ⟨hk',_⟩ <;> rw [hk'] at hk <;> cases hk
 ·intro hne
  have hlt:l < h:=by
   rcases Nat.lt_or_ge l h with hlt | hge
   ·exact hlt
   ·exfalso; apply hne; apply List.eq_nil_of_length_eq_zero; rw [hlen]; omega
  obtain ⟨b,o,n',es,rfl,e2,e3,e4,e5,e6⟩:=h6 (by rintro rfl; simp at hh; omega)
  have hel:=e2.length
  have hnn:n' = n:=by
   have hm:=VL_mem_cells e2 hs
   have:∃ c,c ∈ es:=by
    cases es with
    | nil=>simp at hel; omega
    | cons c r=>exact ⟨c,by simp⟩
   obtain ⟨c,hc⟩:=this
   have:=(hm c hc).1
   have:=e3 c hc
   omega
  subst hnn
  refine ⟨b,o + l * n',n',(es.drop l).take (h - l),?_,(e2.drop l).take _,fun c hc=>e3 c (List.mem_of_mem_drop (List.mem_of_mem_take hc)),e4,?_,?_⟩
  ·rw [if_neg (by omega)]
   simp [addr_add]
  ·have hfl:=flatC_length es e3
   have hd:=flatC_drop es e3 l
   have ht:=flatC_take (es.drop l) (fun c hc=>e3 c (List.mem_of_mem_drop hc)) (h - l)
   rw [ht,hd]
   exact e5.sub (l * n') _ (by rw [hfl,hel]; exact Nat.mul_le_mul_right _ (by omega))
  ·intro k hk
   rcases hsp with hk' | ⟨hk',_⟩ <;> rw [hk'] at hk <;> cases hk
theorem elemOfSlice_ok {t e:TypeId} (h:elemOfSlice P t = some e):P.underlying t = some (.slice e):=by
 unfold elemOfSlice at h
 split at h
 ·rename_i e' he
  simp only [Option.some.injEq] at h
  rw [he,h]
 ·cases h
theorem sliceBound_run {k:IntKind} {i:Int} {y:Nat} {code:BoundsCode} (h0:0≤i) (h1:i≤y):(Instr.sliceBound (.int k i) y code).run P w = .ok i.toNat w:=by
 simp [Instr.sliceBound,asIntOf,h0,h1]
theorem sliceXsA_ok {t e:TypeId} {xs:List AV} {sp:Spare} {lo hi mx:Option AV} {v:AV} {cu:Value} {clo chi cmx:Option Value} {n:Nat}
  (h:sliceXsA xs sp lo hi mx = some v) (hu:V G w (.slice xs sp) cu) (hs:sized n xs = true) (hn0:0 < n) (he:elemOfSlice P t = some e) (hn:size? P e = some n)
  (hlo:∀ x,lo = some x→∃ c,clo = some c∧V G w x c) (hlo0:lo = none→clo = none) (hhi:∀ x,hi = some x→∃ c,chi = some c∧V G w x c) (hhi0:hi = none→chi = none) (hmx0:mx = none→cmx = none) :
  ∃ c,(Instr.sliceAt t cu clo chi cmx).run P w = .ok c w∧V G w v c:=by
 have ht:=elemOfSlice_ok he
 have hu':=hu
 simp only [V] at hu'
 obtain ⟨a,cap,rfl,h1,h2,h3,h4,h5,h6⟩:=hu'
 unfold sliceXsA at h
 split at h
 ·rename_i k l
  split at h
  ·rename_i hc
   simp only [Option.some.injEq] at h
   subst h
   obtain ⟨c,rfl,hv⟩:=hlo _ rfl
   simp only [V] at hv
   subst hv
   rw [hhi0 rfl,hmx0 rfl]
   refine ⟨.slice (if cap = l.toNat then a else a.map (·.add (l.toNat * n))) (xs.length - l.toNat) (cap - l.toNat),?_,?_⟩
   ·simp only [Instr.sliceAt,Instr.slice,Instr.sliceBounds,Sem.run_bind,run_underlying ht,Result.andThen_ok,Sem.run_pure]
    simp [sliceBound_run hc.1 hc.2,run_size hn]
   ·have:=V_slice_sub (P:=P) (sp':=if sp = .full then .full else .shut) (l:=l.toNat) (h:=xs.length) hu hs hn0 (by omega) (by omega) hn (by by_cases hf:sp = .full <;> simp [hf])
    have e1:(xs.drop l.toNat).take (xs.length - l.toNat) = xs.drop l.toNat:=List.take_of_length_le (by simp)
    rwa [e1] at this
  ·cases h
 ·rename_i k hgh
  split at h
  ·rename_i hc
   simp only [Option.some.injEq] at h
   subst h
   obtain ⟨c,rfl,hv⟩:=hhi _ rfl
   simp only [V] at hv
   subst hv
   rw [hlo0 rfl,hmx0 rfl]
   refine ⟨.slice (if cap = 0 then a else a.map (·.add (0 * n))) (hgh.toNat - 0) (cap - 0),?_,?_⟩
   ·simp only [Instr.sliceAt,Instr.slice,Instr.sliceBounds,Sem.run_bind,run_underlying ht,Result.andThen_ok,Sem.run_pure]
    simp [sliceBound_run (P:=P) (w:=w) (k:=k) (y:=cap) (code:=.sliceAcap) hc.1 (by omega),run_size hn]
   ·have:=V_slice_sub (P:=P) (sp':=.shut) (l:=0) (h:=hgh.toNat) hu hs hn0 (by omega) (by omega) hn (.inl rfl)
    simpa using this
  ·cases h
 ·rename_i k l k' hgh
  split at h
  ·rename_i hc
   simp only [Option.some.injEq] at h
   subst h
   obtain ⟨c,rfl,hv⟩:=hhi _ rfl
   simp only [V] at hv
   subst hv
   obtain ⟨c,rfl,hv⟩:=hlo _ rfl
   simp only [V] at hv
   subst hv
   rw [hmx0 rfl]
   refine ⟨.slice (if cap = l.toNat then a else a.map (·.add (l.toNat * n))) (hgh.toNat - l.toNat) (cap - l.toNat),?_,?_⟩
   ·simp only [Instr.sliceAt,Instr.slice,Instr.sliceBounds,Sem.run_bind,run_underlying ht,Result.andThen_ok,Sem.run_pure]
    simp [sliceBound_run (P:=P) (w:=w) (k:=k') (y:=cap) (code:=.sliceAcap) (i:=hgh) (by omega) (by omega),sliceBound_run (P:=P) (w:=w) (k:=k) (y:=hgh.toNat) (code:=.sliceB) (i:=l) (by omega) (by omega),run_size hn]
   ·exact V_slice_sub (P:=P) (sp':=.shut) (l:=l.toNat) (h:=hgh.toNat) hu hs hn0 (by omega) (by omega) hn (.inl rfl)
  ·cases h
 ·simp only [Option.some.injEq] at h
  subst h
  rw [hlo0 rfl,hhi0 rfl,hmx0 rfl]
  refine ⟨.slice a xs.length cap,?_,hu⟩
  simp only [Instr.sliceAt,Instr.slice,Instr.sliceBounds,Sem.run_bind,run_underlying ht,Result.andThen_ok,Sem.run_pure]
  simp only [run_size hn,Result.andThen_ok,Nat.sub_zero,Nat.zero_mul]
  congr 2
  by_cases hc0:cap = 0
  ·simp [hc0]
  ·simp only [hc0,if_false]
   cases a <;> simp [Addr.add]
 ·cases h
end
end Go.AM
end
section
namespace Go.AM
open Go
structure Push (w:World) (o:Obj) (w':World):Prop where
 heap:w'.heap = w.heap.push o
 os:w'.os = w.os
 tape:w'.tape = w.tape
 output:w'.output = w.output
theorem Push.alloc (w:World) (o:Obj):Push w o (w.alloc o):=⟨rfl,rfl,rfl,rfl⟩
theorem Push.drewAlloc (w:World) (o:Obj):Push w o (w.drew.alloc o):=⟨rfl,rfl,rfl,rfl⟩
section
variable {G:Gh} {w w':World} {st:St} {o:Obj}
theorem Push.size (h:Push w o w'):w'.heap.size = w.heap.size + 1:=by rw [h.heap]; simp
theorem Push.new (h:Push w o w'):w'.heap[w.heap.size]? = some o:=by rw [h.heap]; simp
theorem Push.old (h:Push w o w') {b:Nat} (hb:b < w.heap.size):w'.heap[b]? = w.heap[b]?:=by rw [h.heap,Array.getElem?_push,if_neg (Nat.ne_of_lt hb)]
theorem Push.cell (h:Push w o w') {b:Nat} (hb:b < w.heap.size) (i:Nat) (s:Option Nat):w'.cell? ⟨b,i,s⟩ = w.cell? ⟨b,i,s⟩:=by
 unfold World.cell?; rw [h.old hb]
def Gh.setImm (G:Gh) (b k:Nat):Gh:={ G with imm:=fun x=>if x = b then k else G.imm x }
def Gh.addId (G:Gh) (i:Nat) (e:Nat × Nat × Nat):Gh:={ G with ids:=fun j=>if j = i then some e else G.ids j }
theorem IdsIn.refl (G:Gh):IdsIn G G:=fun _ _ h=>h
theorem IdsIn.addId {G:Gh} {i:Nat} (hi:G.ids i = none) (e:Nat × Nat × Nat):IdsIn G (G.addId i e):=fun j x h=>by
 have:j≠i:=fun e=>by rw [e,hi] at h; cases h
 show (if j = i then some e else G.ids j) = some x
 rw [if_neg this]
 exact h
theorem addId_same {G:Gh} {i:Nat} {e:Nat × Nat × Nat}:(G.addId i e).ids i = some e:=if_pos rfl
theorem Sok.imm_new (hs:Sok G w st):G.imm w.heap.size = 0:=by
 rcases Nat.eq_zero_or_pos (G.imm w.heap.size) with h | h
 ·exact h
 ·have:=hs.immLt _ h; omega
theorem Sok.fix_new (hs:Sok G w st):¬ G.fix w.heap.size:=fun h=>by have:=hs.fixLt _ h; omega
theorem ObjOk.lt {e:Nat × Nat × Nat} {x:AO} (h:ObjOk G w e x) (ha:x.alive):e.1 < w.heap.size:=by
 cases x with
 | cells T cs=>obtain ⟨l,h1,_⟩:=h; exact (Array.getElem?_eq_some_iff.1 h1).1
 | arr T cs=>obtain ⟨l,ex,h1,_⟩:=h; exact (Array.getElem?_eq_some_iff.1 h1).1
 | live T0=>obtain ⟨l,T,h1,_⟩:=h; exact (Array.getElem?_eq_some_iff.1 h1).1
 | dead=>exact ha.elim
 | hole=>exact ha.elim
 | map ks vs=>obtain ⟨l,⟨es,cl,h1,_⟩,_⟩:=h; exact (Array.getElem?_eq_some_iff.1 h1).1
theorem ObjOk.move {G':Gh} {e:Nat × Nat × Nat} {x:AO} (h:ObjOk G w e x) (hg:Grows G w G' w') (hi:IdsIn G G') (hb:x.alive→w'.heap[e.1]? = w.heap[e.1]?)
  (him:x.alive→G'.imm e.1 = G.imm e.1) (hfx:x.alive→(G'.fix e.1→G.fix e.1)):ObjOk G' w' e x:=by
 cases x with
 | cells T cs =>
  obtain ⟨l,h1,h2,h3,h4⟩:=h
  exact ⟨l,(hb trivial).trans h1,VL.mono hg hi _ _ h2,(him trivial).trans h3,fun h=>h4 (hfx trivial h)⟩
 | arr T cs =>
  obtain ⟨l,ex,h1,h2,h3,h4⟩:=h
  exact ⟨l,ex,(hb trivial).trans h1,VL.mono hg hi _ _ h2,(him trivial).trans h3,fun h=>h4 (hfx trivial h)⟩
 | live T0 =>
  obtain ⟨l,T,h1,h0,h2,h3,h4,h5⟩:=h
  exact ⟨l,T,(hb trivial).trans h1,h0,h2,h3,(him trivial).trans h4,fun h=>h5 (hfx trivial h)⟩
 | dead=>trivial
 | hole=>trivial
 | map ks vs =>
  obtain ⟨l,⟨es,cl,h1,h2,h3⟩,h4,h5,h6⟩:=h
  exact ⟨l,⟨es,cl,(hb trivial).trans h1,h2,h3⟩,VL.mono hg hi _ _ h4,(him trivial).trans h5,fun h=>h6 (hfx trivial h)⟩
theorem Sok.alive_lt (hs:Sok G w st) {id:Nat} {x:AO} {e:Nat × Nat × Nat} (h1:st[id]? = some x) (h2:G.ids id = some e) (ha:x.alive):e.1 < w.heap.size :=
 (hs.obj id x e h1 h2).lt ha
theorem push_grows (hs:Sok G w st) (hp:Push w o w') (k:Nat):Grows G w (G.setImm w.heap.size k) w':=by
 have h0:=hs.imm_new
 refine ⟨fun b=>?_,fun b i hi=>?_,fun b h=>h,fun b h=>hp.old (hs.fixLt b h)⟩
 ·show G.imm b≤if b = w.heap.size then k else G.imm b
  split
  ·subst_vars; omega
  ·exact Nat.le_refl _
 ·exact hp.cell (hs.immLt b (by omega)) i none
theorem push_imm (hs:Sok G w st) (hp:Push w o w') (k:Nat):Sok (G.setImm w.heap.size k) w' st∧Ext G w st (G.setImm w.heap.size k) w' st:=by
 have hg:=push_grows hs hp k
 refine ⟨⟨hs.len,fun id x e h1 h2=>?_,hs.inj,fun b hb=>?_,fun b hb=>?_⟩,⟨hg,fun _ _ h=>h,hp.os,hp.tape,hp.output,by rw [hp.size]; omega,fun b hb _=>hp.old hb,fun b _ h=>h,fun b hb _=>if_neg (by omega),fun b _ h=>h⟩⟩
 ·have ho:=hs.obj id x e h1 h2
  refine ho.move hg (fun _ _ h=>h) (fun ha=>hp.old (ho.lt ha)) (fun ha=>?_) (fun _ h=>h)
  show (if e.1 = w.heap.size then k else G.imm e.1) = _
  rw [if_neg (by have:=ho.lt ha; omega)]
 ·have:0 < (if b = w.heap.size then k else G.imm b):=hb
  rw [hp.size]
  split at this
  ·omega
  ·have:=hs.immLt b this; omega
 ·rw [hp.size]; have:=hs.fixLt b hb; omega
theorem getElem?_snoc {α:Type} {l:List α} {a x:α} {i:Nat} (h:(l ++ [a])[i]? = some x):l[i]? = some x∨(i = l.length∧x = a):=by
 rcases Nat.lt_or_ge i l.length with hlt | hge
 ·rw [List.getElem?_append_left hlt] at h; exact .inl h
 ·rw [List.getElem?_append_right hge] at h
  have:i - l.length = 0:=by
   rcases Nat.eq_zero_or_pos (i - l.length) with h0 | h0
   ·exact h0
   ·rw [List.getElem?_eq_none (by simp; omega)] at h; cases h
  rw [this] at h
  simp at h
  exact .inr ⟨by omega,h.symm⟩
theorem push_objI (hs:Sok G w st) {n:Nat} (hn:Fresh st n) (hp:Push w o w') (k c:Nat) (x:AO) (hxa:x.alive) (hx:∀ G',G' = (G.setImm w.heap.size k).addId n (w.heap.size,k,c)→Grows G w G' w'→IdsIn G G'→ObjOk G' w' (w.heap.size,k,c) x) :
  Sok ((G.setImm w.heap.size k).addId n (w.heap.size,k,c)) w' (fill st n x)∧Ext G w st ((G.setImm w.heap.size k).addId n (w.heap.size,k,c)) w' (fill st n x):=by
 have hg0:=push_grows hs hp k
 have hg:Grows G w ((G.setImm w.heap.size k).addId n (w.heap.size,k,c)) w':=⟨hg0.imm,hg0.cell,hg0.fix,hg0.block⟩
 have hni:G.ids n = none:=hs.len n hn
 have hi:IdsIn G ((G.setImm w.heap.size k).addId n (w.heap.size,k,c)):=IdsIn.addId (G:=G.setImm w.heap.size k) hni _
 obtain ⟨hs0,_⟩:=push_imm hs hp k
 have hids:∀ j,((G.setImm w.heap.size k).addId n (w.heap.size,k,c)).ids j = if j = n then some (w.heap.size,k,c) else G.ids j:=fun _=>rfl
 refine ⟨⟨fun j hj=>?_,fun id y e h1 h2=>?_,fun i j oi oj ei ej hij h1 h2 a1 a2 e1 e2=>?_,hs0.immLt,hs0.fixLt⟩,⟨hg,hi,hp.os,hp.tape,hp.output,by rw [hp.size]; omega,fun b hb _=>hp.old hb,fun b hb h=>?_,fun b hb _=>if_neg (by omega),fun b _ h=>h⟩⟩
 ·by_cases h:j = n
  ·subst h
   exact absurd hj (alive_not_fresh (fill_same ..) hxa)
  ·rw [hids,if_neg h]
   exact hs.len j (fresh_fill hj h)
 ·rw [hids] at h2
  rcases fill_get h1 with ⟨rfl,rfl⟩ | ⟨hne,h1 | ⟨_,rfl⟩⟩
  ·rw [if_pos rfl] at h2
   cases h2
   exact hx _ rfl hg hi
  ·rw [if_neg hne] at h2
   have ho:=hs.obj id y e h1 h2
   refine ho.move hg hi (fun ha=>hp.old (ho.lt ha)) (fun ha=>?_) (fun _ h=>h)
   show (if e.1 = w.heap.size then k else G.imm e.1) = _
   rw [if_neg (by have:=ho.lt ha; omega)]
  ·trivial
 ·rw [hids] at e1 e2
  rcases fill_alive h1 a1 with ⟨rfl,rfl⟩ | ⟨n1,k1⟩ <;> rcases fill_alive h2 a2 with ⟨rfl,rfl⟩ | ⟨n2,k2⟩
  ·exact absurd rfl hij
  ·rw [if_pos rfl] at e1
   rw [if_neg n2] at e2
   cases e1
   have:=hs.alive_lt k2 e2 a2; show w.heap.size≠ej.1; omega
  ·rw [if_neg n1] at e1
   rw [if_pos rfl] at e2
   cases e2
   have:=hs.alive_lt k1 e1 a1; show ei.1≠w.heap.size; omega
  ·rw [if_neg n1] at e1
   rw [if_neg n2] at e2
   exact hs.inj i j oi oj ei ej hij k1 k2 a1 a2 e1 e2
 ·obtain ⟨id,y,e,h1,ha,h2,rfl⟩:=h
  rw [hids] at h2
  rcases fill_alive h1 ha with ⟨rfl,rfl⟩ | ⟨n1,k1⟩
  ·rw [if_pos rfl] at h2
   cases h2
   simp at hb
  ·rw [if_neg n1] at h2
   exact ⟨id,y,e,k1,ha,h2,rfl⟩
theorem push_obj (hs:Sok G w st) (hp:Push w o w') (k c:Nat) (x:AO) (hxa:x.alive) (hx:∀ G',G' = (G.setImm w.heap.size k).addId st.length (w.heap.size,k,c)→Grows G w G' w'→IdsIn G G'→ObjOk G' w' (w.heap.size,k,c) x) :
  Sok ((G.setImm w.heap.size k).addId st.length (w.heap.size,k,c)) w' (st ++ [x])∧Ext G w st ((G.setImm w.heap.size k).addId st.length (w.heap.size,k,c)) w' (st ++ [x]):=by
 rw [← fill_len]
 exact push_objI hs (fresh_len st) hp k c x hxa hx
theorem kill_ok (hs:Sok G w st) (k:Nat):Sok G w (st.set k .dead)∧Ext G w st G w (st.set k .dead):=by
 refine ⟨⟨fun i hi=>hs.len i fun y hy=>?_,fun id x e h1 h2=>?_,fun i j oi oj ei ej hij h1 h2 a1 a2 e1 e2=>?_,hs.immLt,hs.fixLt⟩,⟨.refl G w,fun _ _ h=>h,rfl,rfl,rfl,Nat.le_refl _,fun _ _ _=>rfl,fun b _ h=>?_,fun _ _ _=>rfl,fun _ _ h=>h⟩⟩
 ·by_cases hik:k = i
  ·subst hik
   have:=hi .dead (by rw [List.getElem?_set,if_pos rfl,if_pos (List.getElem?_eq_some_iff.1 hy).1])
   cases this
  ·exact hi y (by rw [List.getElem?_set,if_neg hik]; exact hy)
 ·rw [List.getElem?_set] at h1
  split at h1
  ·split at h1
   ·simp at h1; subst h1; trivial
   ·cases h1
  ·exact hs.obj id x e h1 h2
 ·rw [List.getElem?_set] at h1 h2
  split at h1
  ·split at h1
   ·simp at h1; subst h1; exact a1.elim
   ·cases h1
  ·split at h2
   ·split at h2
    ·simp at h2; subst h2; exact a2.elim
    ·cases h2
   ·exact hs.inj i j oi oj ei ej hij h1 h2 a1 a2 e1 e2
 ·obtain ⟨id,y,e,h1,ha,h2,rfl⟩:=h
  rw [List.getElem?_set] at h1
  split at h1
  ·split at h1
   ·simp at h1; subst h1; exact ha.elim
   ·cases h1
  ·exact ⟨id,y,e,h1,ha,h2,rfl⟩
theorem write_ok (hs:Sok G w st) {id:Nat} {old new:AO} {e:Nat × Nat × Nat} (h1:st[id]? = some old) (ha:old.alive) (h2:G.ids id = some e) {w1:World}
  (him:G.imm e.1 = 0) (hfx:¬ G.fix e.1) (hoth:∀ b,b≠e.1→w1.heap[b]? = w.heap[b]?) (hsz:w1.heap.size = w.heap.size) (hos:w1.os = w.os) (htp:w1.tape = w.tape) (hout:w1.output = w.output)
  (hnew:Grows G w G w1→ObjOk G w1 e new) (hna:new.alive:=by trivial):Sok G w1 (st.set id new)∧Ext G w st G w1 (st.set id new):=by
 have hg:Grows G w G w1:=⟨fun _=>Nat.le_refl _,fun b i hi=>by
   unfold World.cell?; rw [hoth b (by rintro rfl; omega)],fun _ h=>h,fun b h=>hoth b (by rintro rfl; exact hfx h)⟩
 have hlt:id < st.length:=(List.getElem?_eq_some_iff.1 h1).1
 have hset:∀ i x,(st.set id new)[i]? = some x→(i = id∧x = new)∨(i≠id∧st[i]? = some x):=fun i x h=>by
  rw [List.getElem?_set] at h
  split at h
  ·rename_i hi
   simp at h
   exact .inl ⟨hi.symm,h.symm⟩
  ·rename_i hi
   exact .inr ⟨fun e=>hi e.symm,h⟩
 refine ⟨⟨fun i hi=>hs.len i fun y hy=>(by
   by_cases hik:id = i
   ·subst hik
    have:=hi new (by rw [List.getElem?_set,if_pos rfl,if_pos hlt])
    subst this
    exact hna.elim
   ·exact hi y (by rw [List.getElem?_set,if_neg hik]; exact hy)),fun i x e' hx he=>?_,fun i j oi oj ei ej hij hi hj a1 a2 e1 e2=>?_,fun b hb=>by rw [hsz]; exact hs.immLt b hb,fun b hb=>by rw [hsz]; exact hs.fixLt b hb⟩,⟨hg,fun _ _ h=>h,hos,htp,hout,by omega,fun b hb ho=>?_,fun b _ h=>?_,fun _ _ _=>rfl,fun _ _ h=>h⟩⟩
 ·rcases hset i x hx with ⟨rfl,rfl⟩ | ⟨hne,hx⟩
  ·rw [h2] at he; cases he; exact hnew hg
  ·have ho:=hs.obj i x e' hx he
   refine ho.move hg (fun _ _ h=>h) (fun hax=>hoth _ ?_) (fun _=>rfl) (fun _ h=>h)
   exact fun heq=>hs.inj i id x old e' e hne hx h1 hax ha he h2 heq
 ·rcases hset i oi hi with ⟨q1,_⟩ | ⟨_,k1⟩ <;> rcases hset j oj hj with ⟨q2,_⟩ | ⟨_,k2⟩
  ·exact absurd (q1.trans q2.symm) hij
  ·subst q1; exact hs.inj i j old oj ei ej hij h1 k2 ha a2 e1 e2
  ·subst q2; exact hs.inj i j oi old ei ej hij k1 h1 a1 ha e1 e2
  ·exact hs.inj i j oi oj ei ej hij k1 k2 a1 a2 e1 e2
 ·exact hoth b (fun heq=>ho ⟨id,old,e,h1,ha,h2,heq.symm⟩)
 ·obtain ⟨i,y,e',hx,hax,he,rfl⟩:=h
  rcases hset i y hx with ⟨rfl,rfl⟩ | ⟨_,hx⟩
  ·exact ⟨i,old,e',h1,ha,he,rfl⟩
  ·exact ⟨i,y,e',hx,hax,he,rfl⟩
end
end Go.AM
end
section
namespace Go.AM
open Go
section
variable {P:Program} {G:Gh} {w:World} {st:St}
theorem storeA_ok {t:TypeId} {u v:AV} {cu cv:Value} {st':St} (h:storeA P st t u v = some st') (hu:V G w u cu) (hv:V G w v cv) (hs:Sok G w st) :
  ∃ w1,(Instr.storeAt t cu cv).run P w = .ok () w1∧Sok G w1 st'∧Ext G w st G w1 st':=by
 unfold storeA at h
 split at h
 ·rename_i id off vs n hvs hn
  split at h
  ·rename_i T cs hst
   split at h
   ·rename_i hc
    obtain ⟨hl,hle,hone⟩:=hc
    simp only [Option.some.injEq] at h
    subst h
    simp only [V] at hu
    obtain ⟨b,x,hid,rfl⟩:=hu
    obtain ⟨l,hh,hvl,him,hfx⟩:=hs.obj id _ _ hst hid
    have hcl:=V_cells hv hvs
    have hlen:=hcl.length
    have hll:=hvl.length
    have hrun:=run_storeCells_at P b off T cv.cells.toList 0 ⟨l⟩ w hh (by show off + 0 + _≤l.length; omega) (VL_one hcl hone)
    have hsz:cv.cells.size = n:=by rw [← Array.length_toList]; omega
    refine ⟨w.setRow b (l.take off ++ (cv.cells.toList ++ l.drop (off + cv.cells.toList.length))).toArray,?_,?_⟩
    ·simp only [Nat.add_zero,List.append_assoc] at hrun
     simp only [Instr.storeAt,Instr.sureAddr,storeVar,Sem.run_bind,Sem.run_pure,Result.andThen_ok,run_size hn,hsz,ne_eq,not_true_eq_false,if_false,Sem.run_ite]
     exact hrun
    ·exact write_ok hs hst trivial hid him hfx (fun k hk=>setRow_other w b k _ hk) (by simp [World.setRow]) rfl rfl rfl (fun hg=>by
      refine ⟨_,setRow_heap w b _ _ T _ hh,VL.mono hg (fun _ _ h=>h) _ _ (hvl.put hcl off),him,hfx⟩)
   ·cases h
  ·rename_i T cs hst
   split at h
   ·rename_i hc
    obtain ⟨hl,hle,hone⟩:=hc
    simp only [Option.some.injEq] at h
    subst h
    simp only [V] at hu
    obtain ⟨b,x,hid,rfl⟩:=hu
    obtain ⟨l,ex,hh,hvl,him,hfx⟩:=hs.obj id _ _ hst hid
    have hcl:=V_cells hv hvs
    have hlen:=hcl.length
    have hll:=hvl.length
    have hrun:=run_storeCells_at P b off T cv.cells.toList 0 ⟨l ++ ex⟩ w hh (by show off + 0 + _≤(l ++ ex).length; rw [List.length_append]; omega) (VL_one hcl hone)
    have htd:(l ++ ex).take off ++ (cv.cells.toList ++ (l ++ ex).drop (off + cv.cells.toList.length)) = (l.take off ++ (cv.cells.toList ++ l.drop (off + cv.cells.toList.length))) ++ ex:=by
     rw [List.take_append_of_le_length (by omega),List.drop_append_of_le_length (by omega)]
     simp only [List.append_assoc]
    have hsz:cv.cells.size = n:=by rw [← Array.length_toList]; omega
    refine ⟨w.setRow b ((l.take off ++ (cv.cells.toList ++ l.drop (off + cv.cells.toList.length))) ++ ex).toArray,?_,?_⟩
    ·simp only [Nat.add_zero,List.append_assoc] at hrun
     rw [htd] at hrun
     simp only [Instr.storeAt,Instr.sureAddr,storeVar,Sem.run_bind,Sem.run_pure,Result.andThen_ok,run_size hn,hsz,ne_eq,not_true_eq_false,if_false,Sem.run_ite]
     exact hrun
    ·exact write_ok hs hst trivial hid him hfx (fun k hk=>setRow_other w b k _ hk) (by simp [World.setRow]) rfl rfl rfl (fun hg=>by
      refine ⟨_,ex,setRow_heap w b _ _ T _ hh,VL.mono hg (fun _ _ h=>h) _ _ (hvl.put hcl off),him,hfx⟩)
   ·cases h
  ·cases h
 ·cases h
theorem allocI_ok {i:Nat} (hi:Fresh st i) {t:TypeId} {v:AV} {st':St} (x:Value) (h:allocI P st i t = some (v,st')) (hs:Sok G w st) :
  ∃ c w1 G1,(Instr.alloc t true x).run P w = .ok c w1∧V G1 w1 v c∧Sok G1 w1 st'∧Ext G w st G1 w1 st':=by
 unfold allocI at h
 split at h
 ·rename_i cs hcs
  split at h
  ·simp only [Option.some.injEq,Prod.mk.injEq] at h
   obtain ⟨rfl,rfl⟩:=h
   simp only [Option.bind_eq_some_iff,zeroA,Option.map_eq_some_iff] at hcs
   obtain ⟨z',⟨z,hz,rfl⟩,hzc⟩:=hcs
   have hrz:=pureRun_run w hz
   have hzl:=V_cells (V_ofConst G w z) hzc
   obtain ⟨h1,h2⟩:=push_objI hs hi (Push.alloc w (.cells z.cells t)) 0 0 (.cells t cs) trivial (fun G' hG' hg hi=>by
    subst hG'
    refine ⟨z.cells.toList,?_,VL.mono hg hi _ _ hzl,?_,?_⟩
    ·exact (Push.alloc w (.cells z.cells t)).new
    ·show (if w.heap.size = w.heap.size then 0 else _) = 0; simp
    ·exact hs.fix_new)
   refine ⟨.pointer (some ⟨w.heap.size,0,none⟩),_,_,?_,?_,h1,h2⟩
   ·simp only [Instr.alloc,Sem.run_bind,hrz,Result.andThen_ok,newVar,newRow,newObj,Sem.run_pure]
    rfl
   ·simp only [V]
    refine ⟨w.heap.size,(0,0),?_,rfl⟩
    exact addId_same
  ·cases h
 ·cases h
theorem allocA_ok {t:TypeId} {v:AV} {st':St} (x:Value) (h:allocA P st t = some (v,st')) (hs:Sok G w st) :
  ∃ c w1 G1,(Instr.alloc t true x).run P w = .ok c w1∧V G1 w1 v c∧Sok G1 w1 st'∧Ext G w st G1 w1 st':=allocI_ok (fresh_len st) x h hs
theorem boxA_ok {b:Bool} {t:TypeId} {u v:AV} {cu:Value} {st':St} (h:boxA t b st u = some (v,st')) (hu:V G w u cu) (hs:Sok G w st) :
  ∃ c w1 G1,(Instr.box t cu).run P w = .ok c w1∧V G1 w1 v c∧Sok G1 w1 st'∧Ext G w st G1 w1 st':=by
 unfold boxA at h
 split at h
 ·rename_i cs hcs
  have hcl:=V_cells hu hcs
  have hrun:(Instr.box t cu).run P w = .ok (.pointer (some ⟨w.heap.size,0,none⟩)) (w.alloc (.cells cu.cells t)):=by
   simp only [Instr.box,Sem.run_bind,newVar,newRow,newObj,Sem.run_pure]
   rfl
  split at h
  ·split at h
   ·simp only [Option.some.injEq,Prod.mk.injEq] at h
    obtain ⟨rfl,rfl⟩:=h
    obtain ⟨h1,h2⟩:=push_obj hs (Push.alloc w (.cells cu.cells t)) 0 0 (.cells t cs) trivial (fun G' hG' hg hi=>by
     subst hG'
     refine ⟨cu.cells.toList,?_,VL.mono hg hi _ _ hcl,?_,?_⟩
     ·exact (Push.alloc w (.cells cu.cells t)).new
     ·show (if w.heap.size = w.heap.size then 0 else _) = 0; simp
     ·exact hs.fix_new)
    refine ⟨_,_,_,hrun,?_,h1,h2⟩
    simp only [V]
    refine ⟨w.heap.size,(0,0),?_,rfl⟩
    exact addId_same
   ·simp only [Option.some.injEq,Prod.mk.injEq] at h
    obtain ⟨rfl,rfl⟩:=h
    obtain ⟨h1,h2⟩:=push_imm hs (Push.alloc w (.cells cu.cells t)) cu.cells.size
    refine ⟨_,_,_,hrun,?_,h1,h2⟩
    simp only [V]
    refine ⟨w.heap.size,0,cu.cells.toList,rfl,h2.vl hcl,?_,fun i c hi=>?_⟩
    ·show _≤if w.heap.size = w.heap.size then _ else _
     simp
    ·have:=(Push.alloc w (.cells cu.cells t)).new
     simp only [World.cell?,this]
     simpa using hi
  ·cases h
 ·cases h
theorem foldl_put (off:Nat):(l:List Value)→(i:Nat)→(cells:Array Value)→off + i + l.length≤cells.size →
  (l.zipIdx i).foldl (fun cs (x:Value × Nat)=>cs.setIfInBounds (off + x.2) x.1) cells = (cells.toList.take (off + i) ++ (l ++ cells.toList.drop (off + i + l.length))).toArray
 | [],i,cells,_=>by simp
 | v :: r,i,cells,h=>by
  simp only [List.zipIdx_cons,List.foldl_cons]
  rw [foldl_put off r (i + 1) _ (by simp at h ⊢; omega)]
  congr 1
  simp only [List.length_cons] at h
  apply List.ext_getElem?
  intro k
  simp only [Array.toList_setIfInBounds]
  have hsz:cells.toList.length = cells.size:=by simp
  have t1:(List.take (off + (i + 1)) (cells.toList.set (off + i) v)) = List.take (off + i) cells.toList ++ [v]:=by
   rw [show off + (i + 1) = off + i + 1 by omega,List.take_set,List.take_succ_eq_append_getElem (by rw [hsz]; omega),List.set_append_right _ _ (by simp; omega)]
   simp
   have:off + i - min (off + i) cells.size = 0:=by omega
   rw [this]; simp
  have t2:List.drop (off + (i + 1) + r.length) (cells.toList.set (off + i) v) = List.drop (off + i + (r.length + 1)) cells.toList:=by
   rw [List.drop_set_of_lt (by omega)]
   congr 1; omega
  rw [t1,t2]
  simp
theorem fill_step {v:Value} {off:Nat} {cells:Array Value} (h:off + v.cells.size≤cells.size) :
  v.cells.zipIdx.foldl (fun cs (x:Value × Nat)=>cs.setIfInBounds (off + x.2) x.1) cells = (cells.toList.take off ++ (v.cells.toList ++ cells.toList.drop (off + v.cells.size))).toArray:=by
 have:=foldl_put off v.cells.toList 0 cells (by simpa using h)
 simp only [Nat.add_zero,Array.length_toList] at this
 rw [← this,← Array.foldl_toList]
 congr 1
 simp
def PartsOk (G:Gh) (w:World) (ps:List (Nat × AV)) (cs:List (Nat × Value)):Prop:=ps.map (·.1) = cs.map (·.1)∧VL G w (ps.map (·.2)) (cs.map (·.2))
theorem fillA_ok {place:Nat→Option (Nat × Nat)}:(ps:List (Nat × AV))→(cs:List (Nat × Value))→(cells:List AV)→(l:List Value)→(r:List AV) →
  fillA place cells ps = some r→PartsOk G w ps cs→VL G w cells l→∃ m,Instr.fill place ⟨l⟩ cs = some ⟨m⟩∧VL G w r m
 | [],cs,cells,l,r,h,hp,hl=>by
  obtain ⟨hp1,hp2⟩:=hp
  have:cs = []:=by cases cs <;> simp_all
  subst this
  simp only [fillA,Option.some.injEq] at h
  subst h
  exact ⟨l,rfl,hl⟩
 | (i,v) :: ps,cs,cells,l,r,h,hp,hl=>by
  obtain ⟨hp1,hp2⟩:=hp
  cases cs with
  | nil=>simp at hp1
  | cons c cs =>
   obtain ⟨i',c⟩:=c
   simp only [List.map_cons,List.cons.injEq,VL] at hp1 hp2
   obtain ⟨hii,hp1⟩:=hp1
   obtain ⟨d,l',⟨hd,hl''⟩,hvd,hvl⟩:=hp2
   subst hii hd hl''
   simp only [fillA] at h
   split at h
   ·rename_i off size vs hpl hvs
    split at h
    ·cases h
    ·rename_i hc
     have hcl:=V_cells hvd hvs
     have hlen:=hcl.length
     have hll:=hl.length
     simp only [Array.length_toList] at hlen
     have hc1:vs.length = size:=by omega
     have hc2:off + vs.length≤cells.length:=by omega
     have hput:=hl.put hcl off
     obtain ⟨m,hm1,hm2⟩:=fillA_ok ps cs _ _ r h ⟨hp1,hvl⟩ hput
     refine ⟨m,?_,hm2⟩
     simp only [Instr.fill,hpl]
     rw [if_neg (by simp; omega)]
     have hfs:=fill_step (v:=c) (off:=off) (cells:=⟨l⟩) (by show _≤l.length; omega)
     simp only [Array.length_toList] at hm1
     rw [← hm1]
     congr 1
   ·cases h
theorem placesA_ok:(fs:List Field)→(ps:List (Nat × Nat))→placesA P fs = some ps→(fs.mapM fun f=>do pure (f.offset,← sizeOf f.type):Sem _).run P w = .ok ps w
 | [],ps,h=>by simp [placesA] at h; subst h; rfl
 | f :: r,ps,h=>by
  simp only [placesA,Option.bind_eq_some_iff,Option.map_eq_some_iff] at h
  obtain ⟨n,hn,ps',hps,rfl⟩:=h
  have ih:=placesA_ok r ps' hps
  simp only [List.mapM_cons,Sem.run_bind,run_size hn,Result.andThen_ok,Sem.run_pure,ih]
theorem buildA_ok {t:TypeId} {ps:List (Nat × AV)} {cs:List (Nat × Value)} {v:AV} (h:buildA P t ps = some v) (hp:PartsOk G w ps cs) :
  ∃ c,(Instr.build t cs.toArray).run P w = .ok c w∧V G w v c:=by
 unfold buildA at h
 split at h
 ·rename_i zero fields hz ht
  simp only [Option.bind_eq_some_iff,zeroA,Option.map_eq_some_iff] at hz
  obtain ⟨z',⟨z,hz,rfl⟩,hzc⟩:=hz
  split at h
  ·rename_i pl hpl
   simp only [Option.map_eq_some_iff] at h
   obtain ⟨r,hr,rfl⟩:=h
   obtain ⟨m,hm,hv⟩:=fillA_ok ps cs zero _ r hr hp (V_cells (V_ofConst G w z) hzc)
   refine ⟨.agg ⟨m⟩,?_,by simp only [V]; exact ⟨m,rfl,hv⟩⟩
   have hpl':=placesA_ok (w:=w) _ _ hpl
   simp only [Instr.build,Sem.run_bind,pureRun_run w hz,Result.andThen_ok,run_underlying ht,Array.mapM_eq_mapM_toList,Sem.run_map,hpl']
   have e:(fun i:Nat=>(List.toArray pl)[i]?) = fun i:Nat=>pl[i]?:=by funext i; simp
   rw [e]
   have hm':Instr.fill (fun i=>pl[i]?) z.cells cs = some ⟨m⟩:=by simpa using hm
   simp [hm']
  ·cases h
 ·rename_i zero n0 e hz ht
  simp only [Option.bind_eq_some_iff,zeroA,Option.map_eq_some_iff] at hz
  obtain ⟨z',⟨z,hz,rfl⟩,hzc⟩:=hz
  split at h
  ·rename_i n hn
   simp only [Option.map_eq_some_iff] at h
   obtain ⟨r,hr,rfl⟩:=h
   obtain ⟨m,hm,hv⟩:=fillA_ok ps cs zero _ r hr hp (V_cells (V_ofConst G w z) hzc)
   refine ⟨.agg ⟨m⟩,?_,by simp only [V]; exact ⟨m,rfl,hv⟩⟩
   have hm':Instr.fill (fun i=>some (i * n,n)) z.cells cs = some ⟨m⟩:=by simpa using hm
   simp [Instr.build,pureRun_run w hz,run_underlying ht,run_size hn,hm']
  ·cases h
 ·cases h
end
end Go.AM
end
section
namespace Go.AM
open Go
section
variable {P:Program} {G:Gh} {w:World} {st:St}
theorem flatC_set {n:Nat}:(cs:List Value)→(∀ c ∈ cs,c.cells.size = n)→∀ (i:Nat) (d:Value),d.cells.size = n→i < cs.length →
  flatC (cs.set i d) = (flatC cs).take (i * n) ++ (d.cells.toList ++ (flatC cs).drop (i * n + n))
 | [],_,i,d,_,hi=>by simp at hi
 | c :: r,h,0,d,hd,_=>by
  have h1:=h c (by simp)
  simp only [List.set_cons_zero,flatC,List.flatMap_cons,Nat.zero_mul,List.take_zero,List.nil_append,Nat.zero_add]
  rw [List.drop_append,List.drop_eq_nil_of_le (by rw [Array.length_toList]; omega)]
  simp [h1]
 | c :: r,h,i + 1,d,hd,hi=>by
  have h1:=h c (by simp)
  have ih:=flatC_set r (fun x hx=>h x (by simp [hx])) i d hd (by simpa using hi)
  have e:flatC (c :: r) = c.cells.toList ++ flatC r:=by simp [flatC]
  have e2:flatC ((c :: r).set (i + 1) d) = c.cells.toList ++ flatC (r.set i d):=by simp [flatC]
  rw [e2,ih,e,List.take_append,List.drop_append]
  have l1:c.cells.toList.length = n:=by simpa using h1
  have q1:List.take (i * n + 1 * n) c.cells.toList = c.cells.toList:=List.take_of_length_le (by omega)
  have q2:List.drop (i * n + 1 * n + n) c.cells.toList = []:=List.drop_eq_nil_of_le (by omega)
  rw [l1,Nat.add_mul,q1,q2]
  have e3:i * n + 1 * n - n = i * n:=by omega
  have e4:i * n + 1 * n + n - n = i * n + n:=by omega
  rw [e3,e4]
  simp
theorem VL.set {xs:List AV} {cs:List Value} (h:VL G w xs cs) {v:AV} {c:Value} (hv:V G w v c) (i:Nat):VL G w (xs.set i v) (cs.set i c):=by
 induction xs generalizing cs i with
 | nil=>simp only [VL] at h; subst h; simp [VL]
 | cons x r ih =>
  simp only [VL] at h
  obtain ⟨d,l',rfl,h2,h3⟩:=h
  cases i with
  | zero=>simpa using VL.cons hv h3
  | succ i=>simpa using VL.cons h2 (ih h3 i)
theorem setAll_ok {n:Nat}:(ps:List (Nat × AV))→(cs:List (Nat × Value))→(xs:List AV)→(es:List Value)→(r:List AV) →
  setAll xs ps = some r→sized n r = true→PartsOk G w ps cs→(∀ p ∈ ps,sized n [p.2] = true)→VL G w xs es→(∀ c ∈ es,c.cells.size = n) →
  ∃ m,Instr.fill (fun i=>some (i * n,n)) ⟨flatC es⟩ cs = some ⟨flatC m⟩∧VL G w r m∧(∀ c ∈ m,c.cells.size = n)
 | [],cs,xs,es,r,h,_,hp,_,hx,hn=>by
  obtain ⟨hp1,hp2⟩:=hp
  have:cs = []:=by cases cs <;> simp_all
  subst this
  simp only [setAll,Option.some.injEq] at h
  subst h
  exact ⟨es,rfl,hx,hn⟩
 | (i,v) :: ps,cs,xs,es,r,h,hsz,hp,hps,hx,hn=>by
  obtain ⟨hp1,hp2⟩:=hp
  cases cs with
  | nil=>simp at hp1
  | cons c cs =>
   obtain ⟨i',c⟩:=c
   simp only [List.map_cons,List.cons.injEq,VL] at hp1 hp2
   obtain ⟨hii,hp1⟩:=hp1
   obtain ⟨d,l',⟨hd,hl''⟩,hvd,hvl⟩:=hp2
   subst hii hd hl''
   simp only [setAll] at h
   split at h
   ·rename_i hi
    have hc:c.cells.size = n:=(VL_mem_cells (VL.cons hvd VL.nil) (hps (i,v) (by simp)) c (by simp)).1
    have hxl:=hx.length
    obtain ⟨m,hm1,hm2,hm3⟩:=setAll_ok ps cs _ _ r h hsz ⟨hp1,hvl⟩ (fun p hp=>hps p (by simp [hp])) (hx.set hvd i) (fun y hy=>by
     rcases List.mem_or_eq_of_mem_set hy with hy | rfl
     ·exact hn y hy
     ·exact hc)
    refine ⟨m,?_,hm2,hm3⟩
    have hfl:=flatC_length es hn
    have hmul:(i + 1) * n≤es.length * n:=Nat.mul_le_mul_right _ (by omega)
    rw [Nat.add_mul] at hmul
    simp only [Instr.fill]
    rw [if_neg (by simp [hc,hfl]; omega)]
    have hfs:=fill_step (v:=c) (off:=i * n) (cells:=⟨flatC es⟩) (by show _≤(flatC es).length; rw [hc,hfl]; omega)
    rw [← hm1]
    rw [flatC_set es hn i c hc (by omega)]
    rw [hc] at hfs
    congr 1
   ·cases h
theorem range_zero (zero:Array Value) (len:Nat):((Array.range (len * zero.size)).map (fun k=>zero[k % zero.size]!)).toList = (List.replicate len zero.toList).flatten:=by
 induction len with
 | zero=>simp
 | succ k ih =>
  have e:(k + 1) * zero.size = k * zero.size + zero.size:=by rw [Nat.add_mul]; omega
  rw [e,List.replicate_succ',List.flatten_append,← ih]
  simp only [Array.toList_map,Array.toList_range,List.range_add,List.map_append,List.map_map]
  congr 1
  simp only [List.flatten_cons,List.flatten_nil,List.append_nil]
  apply List.ext_getElem (by simp)
  intro j h1 h2
  simp only [List.length_map,List.length_range] at h1
  simp only [List.getElem_map,List.getElem_range,Function.comp]
  have:(k * zero.size + j) % zero.size = j:=by rw [Nat.mul_comm,Nat.mul_add_mod]; exact Nat.mod_eq_of_lt h1
  rw [this,getElem!_pos zero j h1]
  simp
theorem VL_replicate {v:AV} {c:Value} (h:V G w v c):(k:Nat)→VL G w (List.replicate k v) (List.replicate k c)
 | 0=>VL.nil
 | k + 1=>VL.cons h (VL_replicate h k)
theorem buildSliceA_ok {t:TypeId} {len:Nat} {ps:List (Nat × AV)} {cs:List (Nat × Value)} {v:AV} (h:buildSliceA P t len ps = some v) (hp:PartsOk G w ps cs) (hs:Sok G w st) :
  ∃ c w1 G1,(Instr.buildSlice t len cs.toArray).run P w = .ok c w1∧V G1 w1 v c∧Sok G1 w1 st∧Ext G w st G1 w1 st:=by
 unfold buildSliceA at h
 split at h
 ·cases h
 ·rename_i e he
  have ht:=elemOfSlice_ok he
  split at h
  ·rename_i z n hz hn
   split at h
   ·rename_i hc
    split at h
    ·rename_i xs hxs
     split at h
     ·rename_i hsz
      obtain ⟨hps,hsz⟩:=hsz
      simp only [Option.some.injEq] at h
      subst h
      simp only [zeroA,Option.map_eq_some_iff] at hz
      obtain ⟨z0,hz,rfl⟩:=hz
      have hzr:=pureRun_run w hz
      have hz1:=V_ofConst G w z0
      have hzc:z0.cells.size = n:=(VL_mem_cells (VL.cons hz1 VL.nil) hps.2 z0 (by simp)).1
      obtain ⟨m,hm1,hm2,hm3⟩:=setAll_ok ps cs _ _ xs hxs hsz hp (fun p hp=>by
       have:=hps.1
       simp only [List.all_eq_true] at this
       exact this p hp) (VL_replicate hz1 len) (fun c hc=>by rw [List.eq_of_mem_replicate hc]; exact hzc)
      have hml:=hm2.length
      have hlen:xs.length = len:=by
       have:∀ (ps:List (Nat × AV)) (a b:List AV),setAll a ps = some b→b.length = a.length:=by
        intro ps
        induction ps with
        | nil=>intro a b h; simp [setAll] at h; rw [h]
        | cons p r ih =>
         intro a b h
         simp only [setAll] at h
         split at h
         ·rw [ih _ _ h]; simp
         ·cases h
       have:=this ps _ _ hxs
       simpa using this
      have hfl:=flatC_length m hm3
      obtain ⟨h1,h2⟩:=push_imm hs (Push.alloc w (.cells ⟨flatC m⟩ e)) (flatC m).length
      refine ⟨.slice (some ⟨w.heap.size,0,none⟩) len len,w.alloc (.cells ⟨flatC m⟩ e),_,?_,?_,h1,h2⟩
      ·have hr:((Array.range (len * n)).map (fun k=>z0.cells[k % z0.cells.size]!)) = ⟨flatC (List.replicate len z0)⟩:=by
        apply Array.ext'
        have:=range_zero z0.cells len
        rw [hzc] at this
        rw [hzc,this]
        simp [flatC,List.flatMap]
       have hbig:¬ 16777216 < len * n:=by omega
       simp only [Instr.buildSlice,Sem.run_bind,run_underlying ht,Result.andThen_ok,run_size hn]
       simp only [Nat.reducePow,gt_iff_lt,hbig,if_false,Sem.run_ite]
       by_cases hl0:len * n = 0
       ·have hl00:len = 0:=by
         rcases Nat.eq_zero_or_pos len with h | h
         ·exact h
         ·have:=Nat.mul_pos h hc.2; omega
        subst hl00
        simp only [Nat.zero_mul,if_true]
        have hm0:Instr.fill (fun i=>some (i * n,n)) #[] cs = some ⟨flatC m⟩:=by simpa [flatC] using hm1
        have hr0:(Array.range 0).map (fun k=>(#[]:Array Value)[k % (#[]:Array Value).size]!) = #[]:=Array.eq_empty_of_size_eq_zero (by simp)
        simp only [hr0,hm0,Sem.run_bind,newRow,newObj,Sem.run_pure,Result.andThen_ok]
        rfl
       ·simp only [hl0,if_false,hzr,Result.andThen_ok,Sem.run_pure,Sem.run_bind]
        rw [hr,hm1]
        simp only [newRow,newObj,Sem.run_bind,Sem.run_pure]
        rfl
      ·simp only [V]
       refine ⟨some ⟨w.heap.size,0,none⟩,len,by rw [hlen],by omega,?_,by simp,⟨fun _=>by rw [hlen],by simp⟩,by simp,fun _=>?_⟩
       ·have:len≤len * n:=Nat.le_mul_of_pos_right _ hc.2
        simp only [maxLen]; omega
       ·refine ⟨w.heap.size,0,n,m,rfl,h2.vl hm2,hm3,hc.2,⟨?_,fun i c hi=>?_⟩,by simp⟩
        ·show _≤if w.heap.size = w.heap.size then _ else _
         simp
        ·have:=(Push.alloc w (.cells ⟨flatC m⟩ e)).new
         simp only [World.cell?,this]
         simpa using hi
     ·cases h
    ·cases h
   ·cases h
  ·cases h
theorem ifaceA_ok {t:TypeId} {u v:AV} {cu:Value} (h:ifaceA P t u = some v) (hu:V G w u cu):∃ c,(Instr.makeInterface t cu).run P w = .ok c w∧V G w v c:=by
 unfold ifaceA at h
 split at h
 ·cases h
 ·rename_i d hd hne
  simp only [Option.some.injEq] at h
  subst h
  refine ⟨.iface t cu,?_,by simp only [V]; exact ⟨cu,rfl,hu⟩⟩
  simp only [Instr.makeInterface,Sem.run_bind,run_underlying hne,Result.andThen_ok]
  rfl
 ·cases h
theorem extractA_ok {u v:AV} {i:Nat} {cu:Value} (h:extractA u i = some v) (hu:V G w u cu):∃ c,(Instr.extract cu i).run P w = .ok c w∧V G w v c:=by
 unfold extractA at h
 split at h
 ·rename_i vs
  simp only [V] at hu
  obtain ⟨l,rfl,hl⟩:=hu
  obtain ⟨c,hc,hv⟩:=hl.get i v h
  exact ⟨c,by simp [Instr.extract,hc],hv⟩
 ·cases h
theorem lenA_ok {t ty:TypeId} {u v:AV} {cu:Value} (h:lenA P t u = some v) (hu:V G w u cu):∃ c,(Builtin.len_ #[t] ty #[cu]).run P w = .ok c w∧V G w v c:=by
 unfold lenA at h
 split at h
 ·rename_i xs sp e ht
  simp only [Option.some.injEq] at h
  subst h
  simp only [V] at hu
  obtain ⟨a,cap,rfl,_⟩:=hu
  exact ⟨.int .i64 xs.length,by simp [Builtin.len_,run_underlying ht,goInt],by simp [V]⟩
 ·rename_i e1 n1 k1 e ht
  simp only [Option.some.injEq] at h
  subst h
  simp only [V] at hu
  obtain ⟨b,x,cap,_,rfl,_⟩:=hu
  exact ⟨.int .i64 n1,by simp [Builtin.len_,run_underlying ht,goInt],by simp [V]⟩
 ·rename_i s ht
  simp only [Option.some.injEq] at h
  subst h
  simp only [V] at hu
  subst hu
  exact ⟨.int .i64 s.size,by simp [Builtin.len_,run_underlying ht,goInt],by simp [V]⟩
 ·cases h
end
end Go.AM
end
section
namespace Go.AM
open Go
section
variable {P:Program} {G:Gh} {w:World} {st:St}
theorem strMap_ok {t vt:TypeId} (h:strMap P t = some vt):∃ k,P.underlying t = some (.map k vt)∧P.underlying k = some .string:=by
 unfold strMap at h
 split at h
 ·rename_i k v hm
  split at h
  ·rename_i hk
   simp only [Option.some.injEq] at h
   subst h
   exact ⟨k,hm,hk⟩
  ·cases h
 ·cases h
theorem checkKey_run {k:TypeId} {b:Bool} {s:ByteArray} (h:P.underlying k = some .string):(Instr.checkKey b 10000 k (.string s)).run P w = .ok () w:=by
 unfold Instr.checkKey
 simp [run_underlying h]
theorem findNow_str (s:ByteArray):(es:List MapEntry)→(ks:List ByteArray)→(i:Nat)→es.map (·.key) = ks.map .string →
  Instr.findNow .string (.string s) es i = some ((ks.findIdx? (s == ·)).bind fun j=>(es[j]?).map fun e=>(i + j,e.val))
 | [],ks,i,h=>by
  have:ks = []:=by cases ks <;> simp_all
  subst this
  simp [Instr.findNow]
 | e :: es,ks,i,h=>by
  cases ks with
  | nil=>simp at h
  | cons k ks =>
   simp only [List.map_cons,List.cons.injEq] at h
   have ih:=findNow_str s es ks (i + 1) h.2
   simp only [Instr.findNow,h.1,Instr.sameNow]
   cases hs:(s == k) with
   | true=>simp [List.findIdx?_cons,hs]
   | false =>
    simp only [ih,List.findIdx?_cons,hs]
    cases ks.findIdx? (s == ·) with
    | none=>simp
    | some j=>simp; cases es[j]? <;> simp; omega
theorem findKey_run {k:TypeId} {s:ByteArray} {es:List MapEntry} {ks:List ByteArray} (h:P.underlying k = some .string) (hk:es.map (·.key) = ks.map .string) :
  (Instr.findKey k (.string s) es).run P w = .ok ((ks.findIdx? (s == ·)).bind fun j=>(es[j]?).map fun e=>(j,e.val)) w:=by
 have:=findNow_str s es ks 0 hk
 simp only [Nat.zero_add] at this
 simp only [Instr.findKey,Sem.run_bind,run_underlying h,Result.andThen_ok,this,Sem.run_pure]
theorem lookupA_ok {t:TypeId} {m k v:AV} {cm ck:Value} (h:lookupA P t m k = some v) (hm:V G w m cm) (hk:V G w k ck) :
  ∃ c,(Instr.lookup t cm ck false).run P w = .ok c w∧V G w v c:=by
 unfold lookupA at h
 split at h
 ·rename_i ks vs s
  split at h
  ·rename_i vt ht
   obtain ⟨kt,h1,h2⟩:=strMap_ok ht
   simp only [V] at hm hk
   subst hk
   obtain ⟨b,l,rfl,hfx,⟨es,cl,hh,hks,hvs⟩,hvl⟩:=hm
   have hget:(getObj b).run P w = .ok (.map es cl) w:=by simp [getObj,Sem.run,hh]
   have hfk:=findKey_run (w:=w) (s:=s) h2 hks
   split at h
   ·rename_i i hi
    obtain ⟨c,hc,hv⟩:=hvl.get i v h
    refine ⟨c,?_,hv⟩
    rw [← hvs,List.getElem?_map] at hc
    simp only [Option.map_eq_some_iff] at hc
    obtain ⟨e,he,rfl⟩:=hc
    simp only [hi,Option.bind_some,he,Option.map_some] at hfk
    simp only [Instr.lookup,Sem.run_bind,run_underlying h1,Result.andThen_ok,hget,Sem.run_pure,checkKey_run h2,hfk]
    rfl
   ·rename_i hi
    simp only [zeroA,Option.map_eq_some_iff] at h
    obtain ⟨z,hz,rfl⟩:=h
    refine ⟨z,?_,V_ofConst G w z⟩
    simp only [hi,Option.bind_none] at hfk
    simp only [Instr.lookup,Sem.run_bind,run_underlying h1,Result.andThen_ok,hget,Sem.run_pure,checkKey_run h2,hfk,pureRun_run w hz]
    rfl
  ·cases h
 ·cases h
theorem makeMapA_ok {t:TypeId} (hs:Sok G w st) :
  ∃ c w1 G1,(Instr.makeMap t none).run P w = .ok c w1∧V G1 w1 (.map st.length) c∧Sok G1 w1 (st ++ [.map [] []])∧Ext G w st G1 w1 (st ++ [.map [] []]):=by
 obtain ⟨h1,h2⟩:=push_obj hs (Push.alloc w (.map #[] 0)) 0 0 (.map [] []) trivial (fun G' hG' hg hi=>by
  subst hG'
  refine ⟨[],⟨#[],0,(Push.alloc w (.map #[] 0)).new,by simp,by simp⟩,VL.nil,?_,hs.fix_new⟩
  show (if w.heap.size = w.heap.size then 0 else _) = 0; simp)
 refine ⟨.map (some w.heap.size),_,_,?_,?_,h1,h2⟩
 ·simp only [Instr.makeMap,newObj,Sem.run_bind,Sem.run_pure]
  rfl
 ·simp only [V]
  refine ⟨w.heap.size,(0,0),?_,rfl⟩
  exact addId_same
theorem makeMapR_ok {t vt:TypeId} {k:IntKind} {n:Int} (ht:strMap P t = some vt) (hs:Sok G w st) :
  ∃ c w1 G1,(Instr.makeMap t (some (.int k n))).run P w = .ok c w1∧V G1 w1 (.map st.length) c∧Sok G1 w1 (st ++ [.map [] []])∧Ext G w st G1 w1 (st ++ [.map [] []]):=by
 obtain ⟨kt,h1,h2⟩:=strMap_ok ht
 obtain ⟨c,w1,G1,h3,h4⟩:=makeMapA_ok (P:=P) (t:=t) hs
 refine ⟨c,w1,G1,?_,h4⟩
 simp only [Instr.makeMap,newObj,Sem.run_bind,Sem.run_pure] at h3 ⊢
 simp only [run_underlying h1,Result.andThen_ok,asInt,asIntOf,Sem.run_bind,Sem.run_pure]
 exact h3
theorem mapUpdateA_ok {t:TypeId} {m k v:AV} {cm ck cv:Value} {st':St} (h:mapUpdateA P st t m k v = some st') (hm:V G w m cm) (hk:V G w k ck) (hv:V G w v cv) (hs:Sok G w st) :
  ∃ w1,(Instr.mapUpdate t cm ck cv).run P w = .ok () w1∧Sok G w1 st'∧Ext G w st G w1 st':=by
 unfold mapUpdateA at h
 split at h
 ·rename_i id s
  split at h
  ·rename_i ks vs vt hst ht
   obtain ⟨kt,h1,h2⟩:=strMap_ok ht
   split at h
   ·cases h
   ·rename_i hc
    simp only [Option.some.injEq] at h
    subst h
    simp only [V] at hm hk
    subst hk
    obtain ⟨b,x,hid,rfl⟩:=hm
    obtain ⟨l,⟨es,cl,hh,hks,hvs⟩,hvl,him,hfx⟩:=hs.obj id _ _ hst hid
    have hget:(getObj b).run P w = .ok (.map es cl) w:=by simp [getObj,Sem.run,hh]
    have hfk:=findKey_run (w:=w) (s:=s) h2 hks
    have hno:ks.findIdx? (s == ·) = none:=by
     rw [List.findIdx?_eq_none_iff]
     intro y hy
     cases hsy:(s == y) with
     | false=>rfl
     | true=>exfalso; apply hc; simp only [Bool.or_eq_true,List.any_eq_true]; exact .inl ⟨y,hy,hsy⟩
    simp only [hno,Option.bind_none] at hfk
    have hb:b < w.heap.size:=(Array.getElem?_eq_some_iff.1 hh).1
    refine ⟨{ w with heap:=w.heap.setIfInBounds b (.map (es.push { key:=.string s,val:=cv,born:=cl }) (cl + 1)) },?_,?_⟩
    ·simp only [Instr.mapUpdate,Sem.run_bind,run_underlying h1,Result.andThen_ok,hget,checkKey_run h2,hfk]
     simp [setObj,Sem.run,hh]
    ·refine write_ok hs hst trivial hid him hfx (fun k hk=>by simp [Ne.symm hk]) (by simp) rfl rfl rfl (fun hg=>?_)
     refine ⟨l ++ [cv],⟨es.push { key:=.string s,val:=cv,born:=cl },cl + 1,?_,by simp [hks],by simp [hvs]⟩,?_,him,hfx⟩
     ·simp [hb]
     ·exact (VL.mono hg (fun _ _ h=>h) _ _ hvl).append (VL.cons (V.mono hg (fun _ _ h=>h) _ _ hv) VL.nil)
  ·cases h
 ·cases h
theorem avBytes_ok:(xs:List AV)→(l:List UInt8)→(cs:List Value)→avBytes xs = some l→VL G w xs cs→cs = l.map fun b=>.int .u8 b.toNat
 | [],l,cs,h,hv=>by simp [avBytes] at h; simp only [VL] at hv; subst h hv; rfl
 | x :: r,l,cs,h,hv=>by
  simp only [VL] at hv
  obtain ⟨c,l',rfl,h2,h3⟩:=hv
  unfold avBytes at h
  split at h
  ·rename_i heq; cases heq
  ·rename_i n r' heq
   simp only [List.cons.injEq] at heq
   obtain ⟨rfl,rfl⟩:=heq
   split at h
   ·rename_i hn
    simp only [Option.map_eq_some_iff] at h
    obtain ⟨l2,hl2,rfl⟩:=h
    simp only [V] at h2
    subst h2
    rw [avBytes_ok _ l2 l' hl2 h3]
    simp only [List.map_cons,List.cons.injEq,Value.int.injEq,true_and,and_true]
    have:(UInt8.ofNat n.toNat).toNat = n.toNat:=by
     simp only [UInt8.toNat_ofNat']
     omega
    rw [this]; omega
   ·cases h
  ·cases h
theorem forIn_bytes {F:Value→ByteArray→Sem (ForInStep ByteArray)} (hF:∀ (b:UInt8) r,F (.int .u8 (b.toNat:Int)) r = pure (.yield (r.push b))):(l:List UInt8)→(s:ByteArray) →
  (forIn (m:=Sem) (l.map fun b=>Value.int .u8 (b.toNat:Int)) s F).run P w = .ok (l.foldl ByteArray.push s) w
 | [],s=>by simp
 | b :: l,s=>by
  have ih:=forIn_bytes hF l (s.push b)
  simp only [List.map_cons,List.forIn_cons,Sem.run_bind,hF,Sem.run_pure,Result.andThen_ok,List.foldl_cons]
  exact ih
theorem foldl_push_data:(l:List UInt8)→(s:ByteArray)→(l.foldl ByteArray.push s).data = s.data ++ l.toArray
 | [],s=>by simp
 | b :: l,s=>by
  rw [List.foldl_cons,foldl_push_data l]
  simp [ByteArray.push]
theorem foldl_push (l:List UInt8):l.foldl ByteArray.push ByteArray.empty = ⟨l.toArray⟩:=by
 have:=foldl_push_data l ByteArray.empty
 cases h:l.foldl ByteArray.push ByteArray.empty with
 | mk d=>rw [h] at this; simp at this; rw [this]
theorem bytesToStrA_ok {src dst:TypeId} {xs:List AV} {sp:Spare} {v:AV} {cu:Value} (h:bytesToStrA P src dst xs = some v) (hu:V G w (.slice xs sp) cu) :
  ∃ c,(convert src dst cu).run P w = .ok c w∧V G w v c:=by
 unfold bytesToStrA at h
 split at h
 ·rename_i e h1 h2
  split at h
  ·rename_i l h3 h4
   simp only [Option.some.injEq] at h
   subst h
   simp only [V] at hu
   obtain ⟨a,cap,rfl,k1,k2,k3,k4,k5,k6⟩:=hu
   refine ⟨.string ⟨l.toArray⟩,?_,by simp [V]⟩
   have hconv:(convert src dst (.slice a xs.length cap)).run P w = (Conv.bytesToString (.slice a xs.length cap)).run P w:=by
    unfold convert
    simp only [Sem.run_bind,run_underlying h1,run_underlying h2,Result.andThen_ok]
    simp only [run_underlying h3,Result.andThen_ok]
   rw [hconv]
   have hlx:l.length = xs.length:=by
    have:∀ (xs:List AV) (l:List UInt8),avBytes xs = some l→l.length = xs.length:=by
     intro xs
     induction xs with
     | nil=>intro l h; simp [avBytes] at h; subst h; rfl
     | cons x r ih =>
      intro l h
      unfold avBytes at h
      split at h
      ·rename_i heq; cases heq
      ·rename_i n r' heq
       simp only [List.cons.injEq] at heq
       obtain ⟨rfl,rfl⟩:=heq
       split at h
       ·simp only [Option.map_eq_some_iff] at h
        obtain ⟨l2,hl2,rfl⟩:=h
        simp [ih l2 hl2]
       ·cases h
      ·cases h
    exact this xs l h4
   cases a with
   | none =>
    have:xs = []:=by have:=k3 rfl; exact List.eq_nil_of_length_eq_zero (by omega)
    subst this
    simp at hlx
    subst hlx
    rfl
   | some ad =>
    have hload:(loadCells ad xs.length).run P w = .ok (l.map fun b=>Value.int .u8 (b.toNat:Int)).toArray w:=by
     by_cases hx:xs = []
     ·subst hx
      simp at hlx
      subst hlx
      rfl
     ·obtain ⟨b,o,n,cs,e1,e2,e3,e4,e5,e6⟩:=k6 hx
      simp only [Option.some.injEq] at e1
      subst e1
      have hcs:=avBytes_ok xs l cs h4 e2
      have hfl:flatC cs = cs:=by
       rw [hcs]
       clear hcs
       have:∀ l:List UInt8,flatC (l.map fun b=>Value.int .u8 (b.toNat:Int)) = l.map fun b=>Value.int .u8 (b.toNat:Int):=by
        intro l
        induction l with
        | nil=>rfl
        | cons b l ih =>
         simp only [flatC] at ih
         simp only [flatC,List.map_cons,List.flatMap_cons,ih]
         rfl
       exact this l
      have:=run_loadCells_list (P:=P) w ⟨b,o,none⟩ cs (fun j c hj=>by
       rw [addr_add]
       exact e5.2 j c (by rw [hfl]; exact hj))
      rw [e2.length,hcs] at this
      exact this
    simp only [Conv.bytesToString,Sem.run_bind,hload,Result.andThen_ok]
    simp only [List.forIn_toArray]
    rw [forIn_bytes (fun b r=>by simp) l ByteArray.empty,foldl_push]
    rfl
  ·cases h
 ·cases h
end
end Go.AM
end
section
namespace Go.AM
open Go
section
variable {P:Program} {G:Gh} {w:World} {st:St}
theorem roomOk_ok {e:TypeId} {n:Nat} (h:roomOk P e n = true):∃ i z,P.info? e = some i∧i.zero = some z∧n * i.bytes≤140737488355328∧0 < i.bytes∧0 < i.size∧n≤4611686018427387904∧z.cells.size = i.size:=by
 unfold roomOk at h
 split at h
 ·rename_i i hi
  split at h
  ·rename_i z hz
   simp only [Bool.and_eq_true,decide_eq_true_eq,beq_iff_eq] at h
   exact ⟨i,z,hi,hz,h.1.1.1.1,h.1.1.1.2,h.1.1.2,h.1.2,h.2⟩
  ·cases h
 ·cases h
theorem size_of_info {e:TypeId} {n:Nat} {i:TypeInfo} (h:size? P e = some n) (hi:P.info? e = some i):n = i.size:=by
 have:=pureRun_run (P:=P) default h
 simp [sizeOf,typeInfo,hi] at this
 exact this.symm
theorem VL_bytes (s:ByteArray):VL G w (bytesAV s) (s.data.toList.map fun b=>.int .u8 (b.toNat:Int)) :=
 VL.of_map _ (fun x _=>by simp [V])
theorem newsA_ok {e:TypeId} {src:AV} {ys:List AV} {cs:Value} {n:Nat} (h:newsA P e src = some ys) (hv:V G w src cs) (hs:sized n ys = true) :
  ∃ ces,VL G w ys ces∧(∀ c ∈ ces,c.cells.size = n∧∀ x ∈ c.cells.toList,x.oneCell' = true)∧(∀ w',(Builtin.lenOf cs).run P w' = .ok ys.length w') ∧
   ∀ w',(∀ a,w'.cell? a = w.cell? a)→(Builtin.firstCells n ys.length cs).run P w' = .ok (flatC ces).toArray w':=by
 unfold newsA at h
 split at h
 ·rename_i ys' sp
  simp only [Option.some.injEq] at h
  subst h
  simp only [V] at hv
  obtain ⟨a,cap,rfl,k1,k2,k3,k4,k5,k6⟩:=hv
  by_cases hy:ys' = []
  ·subst hy
   refine ⟨[],VL.nil,by simp,fun _=>rfl,fun w' _=>?_⟩
   cases a <;> simp [Builtin.firstCells,loadCells,loadCellsFrom,flatC]
  ·obtain ⟨b,o,n',ces,rfl,e2,e3,e4,e5,e6⟩:=k6 hy
   have hm:=VL_mem_cells e2 hs
   refine ⟨ces,e2,hm,fun _=>rfl,fun w' hw=>?_⟩
   have hfl:=flatC_length ces (fun c hc=>(hm c hc).1)
   have:=run_loadCells_list (P:=P) w' ⟨b,o,none⟩ (flatC ces) (fun j c hj=>by
    rw [addr_add,hw]
    exact e5.2 j c hj)
   rw [hfl,e2.length] at this
   simpa [Builtin.firstCells] using this
 ·rename_i s
  split at h
  ·rename_i he
   simp only [Option.some.injEq] at h
   subst h
   simp only [V] at hv
   subst hv
   have hvl:=VL_bytes (G:=G) (w:=w) s
   have hm:=VL_mem_cells hvl hs
   refine ⟨_,hvl,hm,fun _=>by simp [Builtin.lenOf,bytesAV],fun w' _=>?_⟩
   have hfl:∀ l:List UInt8,flatC (l.map fun b=>Value.int .u8 (b.toNat:Int)) = l.map fun b=>Value.int .u8 (b.toNat:Int):=by
    intro l
    induction l with
    | nil=>rfl
    | cons b l ih =>
     simp only [flatC] at ih
     simp only [flatC,List.map_cons,List.flatMap_cons,ih]
     rfl
   rw [hfl]
   have hsz:s.size = s.data.size:=rfl
   simp only [Builtin.firstCells,bytesAV,List.length_map,Array.length_toList,Sem.run_pure]
   congr 1
   apply Array.ext'
   have:s.extract 0 s.data.size = s:=by rw [← hsz]; simp
   rw [this]
   simp
  ·cases h
 ·cases h
theorem srcT_ok {ut:TypeDesc} (h:srcT ut = true):(∃ e,ut = .slice e)∨ut = .string:=by
 cases ut <;> simp_all [srcT]
theorem run_append_in {t t2 ty e:TypeId} {i:TypeInfo} {ut:TypeDesc} (ht:P.underlying t = some (.slice e)) (hi:P.info? e = some i) (hu2:P.underlying t2 = some ut) (hni:srcT ut = true)
  {base:Option Addr} {sLen sCap m:Nat} {x:Value} {news:List Value} (hlen:(Builtin.lenOf x).run P w = .ok m w) (hf:(Builtin.firstCells i.size m x).run P w = .ok news.toArray w) (hroom:sLen + m≤sCap) {w1:World}
  (hst:∀ a,base = some a→(storeCells (a.add (sLen * i.size)) news).run P w = .ok () w1) (hno:base = none→w1 = w) :
  (Builtin.append_ #[t,t2] ty #[.slice base sLen sCap,x]).run P w = .ok (.slice base (sLen + m) sCap) w1:=by
 rcases srcT_ok hni with ⟨e2,rfl⟩ | rfl
 all_goals
  cases base with
  | none =>
   have:=hno rfl
   subst this
   simp [Builtin.append_,run_underlying ht,run_underlying hu2,sizeOf,typeInfo,hi,hlen,hroom,hf]
  | some a =>
   have hs:=hst a rfl
   simp [Builtin.append_,run_underlying ht,run_underlying hu2,sizeOf,typeInfo,hi,hlen,hroom,hf,hs]
theorem run_append_out {t t2 ty e:TypeId} {i:TypeInfo} {ut:TypeDesc} {z:Value} (ht:P.underlying t = some (.slice e)) (hi:P.info? e = some i) (hz:i.zero = some z) (hu2:P.underlying t2 = some ut) (hni:srcT ut = true)
  {base:Option Addr} {sLen sCap m:Nat} {x:Value} {olds news:List Value} (hlen:(Builtin.lenOf x).run P w = .ok m w) (hf:(Builtin.firstCells i.size m x).run P w.drew = .ok news.toArray w.drew)
  (hfo:(Builtin.firstCells i.size sLen (.slice base sLen sCap)).run P w.drew = .ok olds.toArray w.drew)
  (hroom:sCap < sLen + m) (h63:((sLen + m:Nat):Int)≤9223372036854775807) (hfit:Builtin.nextslicecap (sLen + m) sCap * i.bytes≤281474976710656) :
  (Builtin.append_ #[t,t2] ty #[.slice base sLen sCap,x]).run P w = .ok (.slice (some ⟨w.heap.size,0,none⟩) (sLen + m) (grownCap w (sLen + m) sCap e))
    (w.drew.alloc (.cells (olds.toArray ++ news.toArray ++ Builtin.zeroCells z.cells (grownCap w (sLen + m) sCap e - (sLen + m))) e)):=by
 have hn:¬ (sLen + m≤sCap):=by omega
 have h63':¬ (9223372036854775807 < ((sLen:Int) + (m:Int))):=by omega
 have h48':¬ (281474976710656 < Builtin.nextslicecap (sLen + m) sCap * i.bytes):=by omega
 rcases srcT_ok hni with ⟨e2,rfl⟩ | rfl
 all_goals
  simp [Builtin.append_,run_underlying ht,run_underlying hu2,sizeOf,typeInfo,zeroValue,hi,hz,hlen,hn,h63',h48',Question.forced,hf,hfo,newRow,grownCap]
  congr 2
  apply Array.ext'
  simp
theorem regrow_ok (hs:Sok G w st) {n:Nat} (hn:Fresh st n) {k b te tc:Nat} {arr:Array Value} {T:TypeId} {T0 T1:Option TypeId} (hT:∀ t,T1 = some t→T0 = some t) {news:List Value} (h1:st[k]? = some (.live T0)) (h2:G.ids k = some (b,te,tc))
  (hh:w.heap[b]? = some (.cells arr T (0,0))) (hfit:te + news.length≤tc) :
  let w1:=w.setRow b (arr.toList.take te ++ news ++ arr.toList.drop (te + news.length)).toArray
  let G1:=(G.setImm b (te + news.length)).addId n (b,te + news.length,tc)
  Sok G1 w1 (fill (st.set k .dead) n (.live T1))∧Ext G w st G1 w1 (fill (st.set k .dead) n (.live T1))∧(∀ i c,news[i]? = some c→w1.cell? ⟨b,te + i,none⟩ = some c):=by
 intro w1 G1
 obtain ⟨arr',T',hh',hTT,hsz,hle,him,hfx⟩:=hs.obj k _ _ h1 h2
 simp only at hh' hsz hle him hfx
 rw [hh] at hh'
 simp only [Option.some.injEq,Obj.cells.injEq,and_true] at hh'
 obtain ⟨rfl,rfl⟩:=hh'
 have hkn:k≠n:=fun e=>alive_not_fresh h1 trivial (e ▸ hn)
 have hb:b < w.heap.size:=(Array.getElem?_eq_some_iff.1 hh).1
 have hw1:w1.heap[b]? = some (.cells (arr.toList.take te ++ news ++ arr.toList.drop (te + news.length)).toArray T (0,0)):=setRow_heap w b arr _ T _ hh
 have hoth:∀ x,x≠b→w1.heap[x]? = w.heap[x]?:=fun x hx=>setRow_other w b x _ hx
 have hsize:w1.heap.size = w.heap.size:=by simp [w1,World.setRow]
 have hal:arr.toList.length = arr.size:=by simp
 have hg:Grows G w G1 w1:=by
  refine ⟨fun x=>?_,fun x i hi=>?_,fun x h=>h,fun x h=>hoth x (by rintro rfl; exact hfx h)⟩
  ·show G.imm x≤if x = b then te + news.length else G.imm x
   split
   ·subst_vars; omega
   ·exact Nat.le_refl _
  ·by_cases hx:x = b
   ·subst hx
    rw [him] at hi
    simp only [World.cell?,hw1,hh]
    simp only [List.getElem?_toArray,Option.isSome_none,Bool.false_eq_true,if_false]
    rw [List.append_assoc,List.getElem?_append_left (by simp; omega),List.getElem?_take,if_pos hi]
    simp
   ·simp only [World.cell?,hoth x hx]
 have hids:∀ j,G1.ids j = if j = n then some (b,te + news.length,tc) else G.ids j:=fun _=>rfl
 have hi:IdsIn G G1:=IdsIn.addId (G:=G.setImm b (te + news.length)) (hs.len n hn) _
 have hset:∀ i x,(st.set k .dead)[i]? = some x→(i = k∧x = .dead)∨(i≠k∧st[i]? = some x):=fun i x h=>by
  rw [List.getElem?_set] at h
  split at h
  ·rename_i hik
   split at h
   ·simp at h
    exact .inl ⟨hik.symm,h.symm⟩
   ·cases h
  ·rename_i hik
   exact .inr ⟨fun e=>hik e.symm,h⟩
 have hall:∀ i x,(fill (st.set k .dead) n (.live T1))[i]? = some x→x.alive→(i = n∧x = .live T1)∨(i≠n∧i≠k∧st[i]? = some x):=fun i x h ha=>by
  rcases fill_alive h ha with h | ⟨h,h3⟩
  ·exact .inl h
  ·rcases hset i x h3 with ⟨_,rfl⟩ | ⟨h4,h5⟩
   ·exact ha.elim
   ·exact .inr ⟨h,h4,h5⟩
 have hother:∀ (i:Nat) x e,i≠k→st[i]? = some x→x.alive→G.ids i = some e→e.1≠b:=fun i x e hik hx ha he=>hs.inj i k x (.live T0) e (b,te,tc) hik hx h1 ha trivial he h2
 refine ⟨⟨fun j hj=>?_,fun i x e hx he=>?_,fun i j oi oj ei ej hij hi' hj a1 a2 e1 e2=>?_,fun x hx=>?_,fun x hx=>by rw [hsize]; exact hs.fixLt x hx⟩,⟨hg,hi,rfl,rfl,rfl,by omega,fun x hx ho=>?_,fun x hx h=>?_,fun x hx ho=>if_neg (by rintro rfl; exact ho ⟨k,.live T0,_,h1,trivial,h2,rfl⟩),fun x _ h=>h⟩,fun i c hi=>?_⟩
 ·by_cases hjn:j = n
  ·subst hjn
   exact absurd hj (alive_not_fresh (fill_same ..) (by trivial))
  ·rw [hids,if_neg hjn]
   have h3:=fresh_fill hj hjn
   refine hs.len j fun y hy=>?_
   by_cases hjk:j = k
   ·subst hjk
    have:=h3 .dead (by rw [List.getElem?_set,if_pos rfl,if_pos (List.getElem?_eq_some_iff.1 hy).1])
    cases this
   ·exact h3 y (by rw [List.getElem?_set,if_neg (fun e=>hjk e.symm)]; exact hy)
 ·by_cases hxa:x.alive
  ·rw [hids] at he
   rcases hall i x hx hxa with ⟨rfl,rfl⟩ | ⟨hin,hik,hx⟩
   ·rw [if_pos rfl] at he
    cases he
    refine ⟨_,T,hw1,fun t ht=>hTT t (hT t ht),?_,hfit,?_,hfx⟩
    ·simp; omega
    ·show (if b = b then _ else _) = _; simp
   ·rw [if_neg hin] at he
    have ho:=hs.obj i x e hx he
    refine ho.move hg hi (fun ha=>hoth _ (hother i x e hik hx ha he)) (fun ha=>?_) (fun _ h=>h)
    show (if e.1 = b then _ else G.imm e.1) = _
    rw [if_neg (hother i x e hik hx ha he)]
  ·cases x with
   | dead=>trivial
   | hole=>trivial
   | _=>exact absurd trivial hxa
 ·rw [hids] at e1 e2
  rcases hall i oi hi' a1 with ⟨rfl,_⟩ | ⟨n1,m1,k1⟩ <;> rcases hall j oj hj a2 with ⟨rfl,_⟩ | ⟨n2,m2,k2⟩
  ·exact absurd rfl hij
  ·rw [if_pos rfl] at e1
   rw [if_neg n2] at e2
   cases e1
   exact (hother j oj ej m2 k2 a2 e2).symm
  ·rw [if_neg n1] at e1
   rw [if_pos rfl] at e2
   cases e2
   exact hother i oi ei m1 k1 a1 e1
  ·rw [if_neg n1] at e1
   rw [if_neg n2] at e2
   exact hs.inj i j oi oj ei ej hij k1 k2 a1 a2 e1 e2
 ·rw [hsize]
  have:0 < (if x = b then te + news.length else G.imm x):=hx
  split at this
  ·subst_vars; exact hb
  ·exact hs.immLt x this
 ·exact hoth x (by rintro rfl; exact ho ⟨k,.live T0,_,h1,trivial,h2,rfl⟩)
 ·obtain ⟨i,y,e,hx',hax,he,rfl⟩:=h
  rw [hids] at he
  rcases hall i y hx' hax with ⟨rfl,_⟩ | ⟨n1,_,k1⟩
  ·rw [if_pos rfl] at he
   cases he
   exact ⟨k,.live T0,_,h1,trivial,h2,rfl⟩
  ·rw [if_neg n1] at he
   exact ⟨i,y,e,k1,hax,he,rfl⟩
 ·have hlt:i < news.length:=(List.getElem?_eq_some_iff.1 hi).1
  simp only [World.cell?,hw1,List.getElem?_toArray,Option.isSome_none,Bool.false_eq_true,if_false]
  have:(arr.toList.take te).length = te:=by simp; omega
  rw [List.append_assoc,List.getElem?_append_right (by omega),this,List.getElem?_append_left (by omega)]
  have:te + i - te = i:=by omega
  rw [this,hi]
theorem appendI_ok {j0:Nat} (hj0:Fresh st j0) {t t2 ty:TypeId} {u src v:AV} {cu cs:Value} {st':St} (h:appendI P st j0 t t2 u src = some (v,st')) (hu:V G w u cu) (hsrc:V G w src cs) (hs:Sok G w st) :
  ∃ c w1 G1,(Builtin.append_ #[t,t2] ty #[cu,cs]).run P w = .ok c w1∧V G1 w1 v c∧Sok G1 w1 st'∧Ext G w st G1 w1 st':=by
 unfold appendI at h
 split at h
 ·rename_i xs sp e he
  have ht:=elemOfSlice_ok he
  split at h
  ·rename_i ys n ut hys hn hut
   split at h
   ·rename_i hc
    obtain ⟨hsx,hsy,hroom,hni⟩:=hc
    obtain ⟨i,z,hi,hz,hby,hb0,hn0,h62,hzs⟩:=roomOk_ok hroom
    obtain rfl:=size_of_info hn hi
    obtain ⟨ces,hvy,hmy,hlen,hfirst⟩:=newsA_ok hys hsrc hsy
    have hcl:=hvy.length
    have hfl:=flatC_length ces (fun c hc=>(hmy c hc).1)
    rw [hcl] at hfl
    have hu0:=hu
    simp only [V] at hu
    obtain ⟨a,cap,rfl,k1,k2,k3,k4,k5,k6⟩:=hu
    obtain ⟨es,hvx,hmx,hold⟩:∃ es,VL G w xs es∧(∀ c ∈ es,c.cells.size = i.size)∧(Builtin.firstCells i.size xs.length (.slice a xs.length cap)).run P w.drew = .ok (flatC es).toArray w.drew:=by
     obtain ⟨es,h1,h2,_,h4⟩:=newsA_ok (P:=P) (e:=e) (src:=.slice xs sp) (n:=i.size) rfl hu0 hsx
     exact ⟨es,h1,fun c hc=>(h2 c hc).1,h4 w.drew (fun _=>rfl)⟩
    have hel:=hvx.length
    have hfx:=flatC_length es hmx
    rw [hel] at hfx
    have hmm:∀ c ∈ es ++ ces,c.cells.size = i.size:=fun c hc=>by
     rcases List.mem_append.1 hc with hc | hc
     ·exact hmx c hc
     ·exact (hmy c hc).1
    have out:∀ (st1:St) (T1:Option TypeId),(∀ t,T1 = some t→e = t)→Fresh st1 j0→Sok G w st1→Ext G w st G w st1→cap < xs.length + ys.length→∃ c w1 G1,(Builtin.append_ #[t,t2] ty #[.slice a xs.length cap,cs]).run P w = .ok c w1∧V G1 w1 (.slice (xs ++ ys) (.tok j0)) c∧Sok G1 w1 (fill st1 j0 (.live T1))∧Ext G w st G1 w1 (fill st1 j0 (.live T1)):=by
     intro st1 T1 hT1 hf1 hs1 hx1 hlt
     have hrun:=run_append_out (w:=w) (ty:=ty) ht hi hz hut hni (hlen w) (hfirst w.drew (fun _=>rfl)) hold hlt (by omega) (growslice_fits hlt hby)
     have hge:=grownCap_ge w (xs.length + ys.length) cap e
     have hle:=grownCap_le_maxLen w (xs.length + ys.length) cap e (by simp only [maxLen]; omega)
     generalize grownCap w (xs.length + ys.length) cap e = nc at hrun hge hle
     have hcells:(flatC es).toArray ++ (flatC ces).toArray ++ Builtin.zeroCells z.cells (nc - (xs.length + ys.length)) = ((flatC es ++ flatC ces) ++ (Builtin.zeroCells z.cells (nc - (xs.length + ys.length))).toList).toArray:=by
      apply Array.ext'; simp
     rw [hcells] at hrun
     have hzl:(Builtin.zeroCells z.cells (nc - (xs.length + ys.length))).toList.length = (nc - (xs.length + ys.length)) * i.size:=by
      rw [Array.length_toList,size_zeroCells,hzs]
     generalize (Builtin.zeroCells z.cells (nc - (xs.length + ys.length))).toList = zl at hrun hzl
     have hp:=Push.drewAlloc w (.cells ((flatC es ++ flatC ces) ++ zl).toArray e)
     have htot:((flatC es ++ flatC ces) ++ zl).length = nc * i.size:=by
      simp only [List.length_append,hfx,hfl,hzl,← Nat.add_mul]
      congr 1; omega
     have hle2:(xs.length + ys.length) * i.size≤nc * i.size:=Nat.mul_le_mul_right _ hge
     obtain ⟨h1,h2⟩:=push_objI hs1 hf1 hp ((xs.length + ys.length) * i.size) (nc * i.size) (.live T1) trivial (fun G' hG' hg hi'=>by
      subst hG'
      refine ⟨_,e,hp.new,hT1,by simpa using htot,hle2,?_,hs1.fix_new⟩
      show (if w.heap.size = w.heap.size then _ else _) = _
      simp)
     refine ⟨_,_,_,hrun,?_,h1,hx1.trans h2⟩
     simp only [V]
     refine ⟨_,nc,by rw [List.length_append],by rw [List.length_append]; omega,hle,by simp,by simp,⟨fun _ hnil=>?_,by simp⟩,fun _=>?_⟩
     ·have:=congrArg List.length hnil
      simp at this
      have h3:=k1
      simp [this.1,this.2] at hlt
     ·refine ⟨w.heap.size,0,i.size,es ++ ces,rfl,h2.vl (hvx.append hvy),hmm,hn0,⟨?_,fun j c hj=>?_⟩,fun k hk=>⟨rfl,?_⟩⟩
      ·show _≤if w.heap.size = w.heap.size then _ else _
       rw [flatC_append,List.length_append,hfx,hfl,if_pos rfl,Nat.add_mul]
       omega
      ·simp only [World.cell?,hp.new,List.getElem?_toArray,Nat.zero_add,Option.isSome_none,Bool.false_eq_true,if_false]
       rw [flatC_append] at hj
       rw [List.getElem?_append_left (List.getElem?_eq_some_iff.1 hj).1]
       exact hj
      ·simp only [Spare.tok.injEq] at hk
       subst hk
       exact addId_same.trans (by rw [List.length_append]; simp)
    unfold growI at h
    split at h
    ·-- no room known
     have hcap:=k4.1 rfl
     split at h
     ·rename_i hy
      have hy0:ys = []:=List.isEmpty_iff.1 hy
      subst hy0
      simp only [Option.some.injEq,Prod.mk.injEq] at h
      obtain ⟨rfl,rfl⟩:=h
      have hce:ces = []:=List.eq_nil_of_length_eq_zero (by simpa using hcl)
      subst hce
      have hrun:=run_append_in (w:=w) (ty:=ty) (base:=a) (sLen:=xs.length) (sCap:=cap) (m:=0) (news:=[]) (w1:=w) ht hi hut hni (hlen w) (by simpa [flatC] using hfirst w (fun _=>rfl)) (by omega) (fun _ _=>rfl) (fun _=>rfl)
      exact ⟨_,w,G,hrun,hu0,hs,Ext.refl _ _ _⟩
     ·rename_i hy
      simp only [Option.some.injEq,Prod.mk.injEq] at h
      obtain ⟨rfl,rfl⟩:=h
      have:0 < ys.length:=by
       cases ys with
       | nil=>simp at hy
       | cons _ _=>simp
      exact out st (some e) (fun t ht=>by simpa using ht) hj0 hs (Ext.refl _ _ _) (by omega)
    ·-- nil
     have hcap:cap = xs.length:=by have:=k3 (k4.2 rfl); omega
     split at h
     ·rename_i hy
      have hy0:ys = []:=List.isEmpty_iff.1 hy
      subst hy0
      simp only [Option.some.injEq,Prod.mk.injEq] at h
      obtain ⟨rfl,rfl⟩:=h
      have hce:ces = []:=List.eq_nil_of_length_eq_zero (by simpa using hcl)
      subst hce
      have hrun:=run_append_in (w:=w) (ty:=ty) (base:=a) (sLen:=xs.length) (sCap:=cap) (m:=0) (news:=[]) (w1:=w) ht hi hut hni (hlen w) (by simpa [flatC] using hfirst w (fun _=>rfl)) (by omega) (fun _ _=>rfl) (fun _=>rfl)
      exact ⟨_,w,G,hrun,hu0,hs,Ext.refl _ _ _⟩
     ·rename_i hy
      simp only [Option.some.injEq,Prod.mk.injEq] at h
      obtain ⟨rfl,rfl⟩:=h
      have:0 < ys.length:=by
       cases ys with
       | nil=>simp at hy
       | cons _ _=>simp
      exact out st (some e) (fun t ht=>by simpa using ht) hj0 hs (Ext.refl _ _ _) (by omega)
    ·rename_i k
     split at h
     ·rename_i T0 hk
      simp only [Option.some.injEq,Prod.mk.injEq] at h
      obtain ⟨rfl,rfl⟩:=h
      have hxne:=k5.1 ⟨k,rfl⟩
      obtain ⟨b,o,n',es',rfl,e2,e3,e4,e5,e6⟩:=k6 hxne
      obtain ⟨ho0,hid⟩:=e6 k rfl
      have hnn:n' = i.size:=by
       have hm:=VL_mem_cells e2 hsx
       have:∃ c,c ∈ es':=by
        cases es' with
        | nil=>have:=e2.length; simp at this; exact absurd (List.eq_nil_of_length_eq_zero this.symm) hxne
        | cons c r=>exact ⟨c,by simp⟩
       obtain ⟨c,hc⟩:=this
       have:=(hm c hc).1
       have:=e3 c hc
       omega
      subst hnn
      by_cases hroom2:xs.length + ys.length≤cap
      ·obtain ⟨arr,T,hh,hTT,hasz,hle,him,hfx2⟩:=hs.obj k _ _ hk hid
       simp only at hh hasz hle him hfx2
       have hmul:(xs.length + ys.length) * i.size≤cap * i.size:=Nat.mul_le_mul_right _ hroom2
       rw [Nat.add_mul] at hmul
       obtain ⟨h1,h2,h3⟩:=regrow_ok hs hj0 (T1:=keepT T0 e) (fun t ht=>by unfold keepT at ht; split at ht <;> simp_all) hk hid hh (news:=flatC ces) (by rw [hfl]; omega)
       have hst:=run_storeCells_at P b (o + xs.length * i.size) T (flatC ces) 0 arr w hh (by rw [hfl,hasz]; omega) (fun c hc=>by
        simp only [flatC,List.mem_flatMap] at hc
        obtain ⟨d,hd,hcd⟩:=hc
        exact (hmy d hd).2 c hcd)
       simp only [Nat.add_zero] at hst
       have hrun:=run_append_in (w:=w) (ty:=ty) (base:=some ⟨b,o,none⟩) (sLen:=xs.length) (sCap:=cap) ht hi hut hni (hlen w) (hfirst w (fun _=>rfl)) hroom2 (fun a ha=>by
        simp only [Option.some.injEq] at ha
        subst ha
        rw [addr_add]
        exact hst) (fun h=>by cases h)
       refine ⟨_,_,(G.setImm b (o + xs.length * i.size + (flatC ces).length)).addId j0 (b,o + xs.length * i.size + (flatC ces).length,o + cap * i.size),hrun,?_,?_,?_⟩
       ·simp only [V]
        refine ⟨_,cap,by rw [List.length_append],by rw [List.length_append]; omega,k2,by simp,by simp,⟨fun _ hnil=>?_,by simp⟩,fun _=>?_⟩
        ·simp at hnil; exact hxne hnil.1
        ·refine ⟨b,o,i.size,es' ++ ces,rfl,(h2.vl e2).append (h2.vl hvy),fun c hc=>?_,hn0,⟨?_,fun j c hj=>?_⟩,fun k' hk'=>⟨ho0,?_⟩⟩
         ·rcases List.mem_append.1 hc with hc | hc
          ·exact e3 c hc
          ·exact (hmy c hc).1
         ·show _≤if b = b then _ else _
          rw [if_pos rfl,flatC_append,List.length_append,flatC_length es' e3,e2.length]
          omega
         ·rw [flatC_append] at hj
          have hel':=flatC_length es' e3
          rw [e2.length] at hel'
          rcases Nat.lt_or_ge j (flatC es').length with hlt | hge
          ·rw [List.getElem?_append_left hlt] at hj
           exact (e5.mono h2.grows).2 j c hj
          ·rw [List.getElem?_append_right hge] at hj
           have:=h3 _ _ hj
           have e7:o + xs.length * i.size + (j - (flatC es').length) = o + j:=by omega
           rw [e7] at this
           exact this
         ·simp only [Spare.tok.injEq] at hk'
          subst hk'
          refine addId_same.trans ?_
          simp only [List.length_append,hfl,Nat.add_mul,Nat.add_assoc]
       ·exact h1
       ·exact h2
      ·obtain ⟨hs1,hx1⟩:=kill_ok hs k
       have:=out (st.set k .dead) (keepT T0 e) (fun t ht=>by unfold keepT at ht; split at ht <;> simp_all) (fresh_set hj0 (fun e=>alive_not_fresh hk trivial (e ▸ hj0))) hs1 hx1 (by omega)
       simpa using this
     ·cases h
    ·rename_i k m
     split at h
     ·rename_i T0 hk
      split at h
      ·rename_i hmn
       subst hmn
       obtain ⟨hx0,_,b,ha,hid⟩:=k5.2 k _ rfl
       subst hx0 ha
       split at h
       ·rename_i hy
        have hy0:ys = []:=List.isEmpty_iff.1 hy
        subst hy0
        simp only [Option.some.injEq,Prod.mk.injEq] at h
        obtain ⟨rfl,rfl⟩:=h
        have hce:ces = []:=List.eq_nil_of_length_eq_zero (by simpa using hcl)
        subst hce
        have hrun:=run_append_in (w:=w) (ty:=ty) (base:=some ⟨b,0,none⟩) (sLen:=0) (sCap:=cap) (m:=0) (news:=[]) (w1:=w) ht hi hut hni (hlen w) (by simpa [flatC] using hfirst w (fun _=>rfl)) (by omega) (fun _ _=>rfl) (fun h=>by cases h)
        exact ⟨_,w,G,hrun,hu0,hs,Ext.refl _ _ _⟩
       ·rename_i hy
        simp only [Option.some.injEq,Prod.mk.injEq] at h
        obtain ⟨rfl,rfl⟩:=h
        have hyp:ys≠[]:=by rintro rfl; simp at hy
        by_cases hroom2:ys.length≤cap
        ·obtain ⟨arr,T,hh,hTT,hasz,hle,him,hfx2⟩:=hs.obj k _ _ hk hid
         simp only at hh hasz hle him hfx2
         have hmul:ys.length * i.size≤cap * i.size:=Nat.mul_le_mul_right _ hroom2
         obtain ⟨h1,h2,h3⟩:=regrow_ok hs hj0 (T1:=keepT T0 e) (fun t ht=>by unfold keepT at ht; split at ht <;> simp_all) hk hid hh (news:=flatC ces) (by rw [hfl]; omega)
         have hst:=run_storeCells_at P b 0 T (flatC ces) 0 arr w hh (by rw [hfl,hasz]; omega) (fun c hc=>by
          simp only [flatC,List.mem_flatMap] at hc
          obtain ⟨d,hd,hcd⟩:=hc
          exact (hmy d hd).2 c hcd)
         simp only [Nat.add_zero] at hst
         have hrun:=run_append_in (w:=w) (ty:=ty) (base:=some ⟨b,0,none⟩) (sLen:=0) (sCap:=cap) ht hi hut hni (hlen w) (hfirst w (fun _=>rfl)) (by omega) (fun a ha=>by
          simp only [Option.some.injEq] at ha
          subst ha
          rw [addr_add,Nat.zero_mul]
          exact hst) (fun h=>by cases h)
         simp only [List.nil_append,List.length_nil,Nat.zero_add] at hrun h1 h2 h3 ⊢
         refine ⟨_,_,(G.setImm b (flatC ces).length).addId j0 (b,(flatC ces).length,cap * i.size),hrun,?_,?_,?_⟩
         ·simp only [V]
          refine ⟨_,cap,rfl,hroom2,k2,by simp,by simp,⟨fun _=>hyp,by simp⟩,fun _=>?_⟩
          refine ⟨b,0,i.size,ces,rfl,h2.vl hvy,fun c hc=>(hmy c hc).1,hn0,⟨?_,fun j c hj=>?_⟩,fun k' hk'=>⟨rfl,?_⟩⟩
          ·show _≤if b = b then _ else _
           rw [if_pos rfl]
           omega
          ·have:=h3 _ _ hj
           simpa using this
          ·simp only [Spare.tok.injEq] at hk'
           subst hk'
           refine addId_same.trans ?_
           simp only [hfl,Nat.zero_add]
         ·exact h1
         ·exact h2
        ·obtain ⟨hs1,hx1⟩:=kill_ok hs k
         have:=out (st.set k .dead) (keepT T0 e) (fun t ht=>by unfold keepT at ht; split at ht <;> simp_all) (fresh_set hj0 (fun e=>alive_not_fresh hk trivial (e ▸ hj0))) hs1 hx1 (by simp only [List.length_nil]; omega)
         simpa using this
      ·cases h
     ·cases h
    ·cases h
   ·cases h
  ·cases h
 ·cases h
theorem appendA_ok {t t2 ty:TypeId} {u src v:AV} {cu cs:Value} {st':St} (h:appendA P st t t2 u src = some (v,st')) (hu:V G w u cu) (hsrc:V G w src cs) (hs:Sok G w st) :
  ∃ c w1 G1,(Builtin.append_ #[t,t2] ty #[cu,cs]).run P w = .ok c w1∧V G1 w1 v c∧Sok G1 w1 st'∧Ext G w st G1 w1 st':=appendI_ok (fresh_len st) h hu hsrc hs
theorem cellsL_ok:(ys:List AV)→(ces:List Value)→(cs:List AV)→cellsL ys = some cs→VL G w ys ces→VL G w cs (flatC ces)
 | [],ces,cs,h,hv=>by
  simp only [cellsL,Option.some.injEq] at h
  subst h
  simp only [VL] at hv
  subst hv
  simp [flatC,VL]
 | v :: r,ces,cs,h,hv=>by
  simp only [VL] at hv
  obtain ⟨c,l',rfl,h1,h2⟩:=hv
  simp only [cellsL] at h
  split at h
  ·rename_i ds
   simp only [Option.map_eq_some_iff] at h
   obtain ⟨cs',h3,rfl⟩:=h
   have h4:=cellsL_ok r l' cs' h3 h2
   simp only [V] at h1
   obtain ⟨l,rfl,h5⟩:=h1
   have:flatC (.agg ⟨l⟩ :: l') = l ++ flatC l':=by simp [flatC,Value.cells]
   rw [this]
   exact h5.append h4
  ·cases h
theorem appendO_ok {t t2 ty:TypeId} {u src v:AV} {cu cs:Value} {st':St} (h:appendO P st t t2 u src = some (v,st')) (hu:V G w u cu) (hsrc:V G w src cs) (hs:Sok G w st) :
  ∃ c w1 G1,(Builtin.append_ #[t,t2] ty #[cu,cs]).run P w = .ok c w1∧V G1 w1 v c∧Sok G1 w1 st'∧Ext G w st G1 w1 st':=by
 unfold appendO at h
 split at h
 ·rename_i sp e he
  have ht:=elemOfSlice_ok he
  split at h
  ·rename_i ys sp2 n ut hn hut
   split at h
   ·rename_i hc
    obtain ⟨hsp,hye,hsy,hroom,hni⟩:=hc
    simp only [Option.map_eq_some_iff,Prod.mk.injEq] at h
    obtain ⟨cls,hcl0,rfl,rfl⟩:=h
    obtain ⟨i,z,hi,hz,hby,hb0,hn0,h62,hzs⟩:=roomOk_ok hroom
    obtain rfl:=size_of_info hn hi
    obtain ⟨ces,hvy,hmy,hlen,hfirst⟩:=newsA_ok (P:=P) (e:=e) (src:=.slice ys sp2) (n:=i.size) rfl hsrc hsy
    have hcl:=hvy.length
    have hfl:=flatC_length ces (fun c hc=>(hmy c hc).1)
    rw [hcl] at hfl
    simp only [V] at hu
    obtain ⟨a,cap,rfl,k1,k2,k3,k4,k5,k6⟩:=hu
    have hcap:cap = 0:=by
     rcases hsp with rfl | rfl
     ·simpa using k4.1 rfl
     ·exact k3 (k4.2 rfl)
    subst hcap
    have hy0:0 < ys.length:=by
     cases ys with
     | nil=>simp at hye
     | cons _ _=>simp
    have hold:(Builtin.firstCells i.size 0 (.slice a 0 0)).run P w.drew = .ok ([]:List Value).toArray w.drew:=by
     obtain ⟨es,h1,h2,_,h4⟩:=newsA_ok (P:=P) (w:=w) (G:=G) (e:=e) (src:=.slice [] sp) (n:=i.size) (cs:=.slice a 0 0) rfl (by simp only [V]; exact ⟨a,0,rfl,by simp,by simp,fun _=>rfl,k4,k5,k6⟩) rfl
     have:es = []:=by simpa [VL] using h1
     subst this
     exact h4 w.drew (fun _=>rfl)
    have hrun:=run_append_out (w:=w) (ty:=ty) (base:=a) (sLen:=0) (sCap:=0) (olds:=[]) ht hi hz hut hni (hlen w) (hfirst w.drew (fun _=>rfl)) hold (by omega) (by omega) (growslice_fits (by omega) (by simpa using hby))
    have hge:=grownCap_ge w (0 + ys.length) 0 e
    have hle:=grownCap_le_maxLen w (0 + ys.length) 0 e (by simp only [maxLen]; omega)
    generalize grownCap w (0 + ys.length) 0 e = nc at hrun hge hle
    have hcells:([]:List Value).toArray ++ (flatC ces).toArray ++ Builtin.zeroCells z.cells (nc - (0 + ys.length)) = (flatC ces ++ (Builtin.zeroCells z.cells (nc - (0 + ys.length))).toList).toArray:=by
     apply Array.ext'; simp
    rw [hcells] at hrun
    generalize (Builtin.zeroCells z.cells (nc - (0 + ys.length))).toList = zl at hrun
    have hp:=Push.drewAlloc w (.cells (flatC ces ++ zl).toArray e)
    have hvc:=cellsL_ok ys ces cls hcl0 hvy
    obtain ⟨h1,h2⟩:=push_obj hs hp 0 0 (.arr e cls) trivial (fun G' hG' hg hi'=>by
     subst hG'
     refine ⟨flatC ces,zl,hp.new,VL.mono hg hi' _ _ hvc,?_,hs.fix_new⟩
     show (if w.heap.size = w.heap.size then 0 else _) = 0
     simp)
    refine ⟨_,_,_,hrun,?_,h1,h2⟩
    simp only [V]
    refine ⟨w.heap.size,(0,0),nc,?_,by rw [Nat.zero_add],by omega,hle⟩
    exact addId_same
   ·cases h
  ·cases h
 ·cases h
theorem makeSliceA_ok {t:TypeId} {u c v:AV} {cu cc:Value} {st':St} (h:makeSliceA P st t u c = some (v,st')) (hu:V G w u cu) (hc:V G w c cc) (hs:Sok G w st) :
  ∃ c' w1 G1,(Instr.makeSlice t cu cc).run P w = .ok c' w1∧V G1 w1 v c'∧Sok G1 w1 st'∧Ext G w st G1 w1 st':=by
 unfold makeSliceA at h
 split at h
 ·rename_i k1 l k2 n e he
  have ht:=elemOfSlice_ok he
  split at h
  ·rename_i m hn
   split at h
   ·rename_i hcond
    obtain ⟨rfl,h0,hroom⟩:=hcond
    simp only [Option.some.injEq,Prod.mk.injEq] at h
    obtain ⟨rfl,rfl⟩:=h
    obtain ⟨i,z,hi,hz,hby,hb0,hn0,h62,hzs⟩:=roomOk_ok hroom
    obtain rfl:=size_of_info hn hi
    simp only [V] at hu hc
    subst hu hc
    obtain ⟨N,rfl⟩:∃ N:Nat,n = N:=⟨n.toNat,by omega⟩
    simp only [Int.toNat_natCast] at hby h62
    have hb:(i.bytes:Int) * (N:Int)≤281474976710656:=by
     have h1:i.bytes * N≤140737488355328:=by rw [Nat.mul_comm]; exact hby
     have h2:((i.bytes * N:Nat):Int)≤281474976710656:=by omega
     rwa [Int.natCast_mul] at h2
    have hrun:=run_make (P:=P) w t e i z ht hi hz k1 k2 0 (N:Int) (Int.le_refl _) (by omega) hb (by omega)
    simp only [Int.toNat_zero,Int.toNat_natCast] at hrun
    have hp:=Push.alloc w (.cells (madeCells z.cells (N * i.size)) e)
    obtain ⟨h1,h2⟩:=push_obj hs hp 0 (N * i.size) (.live (some e)) trivial (fun G' hG' hg hi'=>by
     subst hG'
     refine ⟨_,e,hp.new,fun t ht=>by simpa using ht,size_madeCells _ _,Nat.zero_le _,?_,hs.fix_new⟩
     show (if w.heap.size = w.heap.size then _ else _) = _
     simp)
    refine ⟨_,_,_,hrun,?_,h1,h2⟩
    simp only [V]
    refine ⟨_,N,rfl,Nat.zero_le _,by simp only [maxLen]; omega,by simp,by simp,⟨by simp,fun k m hk=>?_⟩,fun h=>absurd rfl h⟩
    simp only [Spare.room.injEq] at hk
    obtain ⟨rfl,rfl⟩:=hk
    refine ⟨by trivial,hn0,w.heap.size,rfl,?_⟩
    exact addId_same
   ·cases h
  ·cases h
 ·cases h
end
end Go.AM
end
section
namespace Go.AM
open Go
section
variable {P:Program} {G:Gh} {w:World} {st:St}
def Fits (G:Gh) (w:World) (fr:Fr) (a:Act) (n:Nat):Prop:=a.tmps.size = n∧∀ t,V G w (fr t) (a.tmps.getD t undef)
def GlobOk (A:Ann) (G:Gh) (w:World):Prop:=∀ g cs,A.glob g = some cs→cs.all AV.isSc = true∧V G w (.cptr cs 0) (.pointer (some ⟨g,0,none⟩))∧G.fix g∧∃ c T fz,w.heap[g]? = some (.cells c T fz)∧c.size = cs.length
theorem Fits.mono {G':Gh} {w':World} {st':St} {fr:Fr} {a:Act} {n:Nat} (h:Fits G w fr a n) (hx:Ext G w st G' w' st'):Fits G' w' fr a n:=⟨h.1,fun t=>hx.v (h.2 t)⟩
theorem GlobOk.mono {G':Gh} {w':World} {st':St} {A:Ann} (h:GlobOk A G w) (hx:Ext G w st G' w' st'):GlobOk A G' w':=fun g cs hg=>⟨(h g cs hg).1,hx.v (h g cs hg).2.1,hx.grows.fix g (h g cs hg).2.2.1,by rw [hx.grows.block g (h g cs hg).2.2.1]; exact (h g cs hg).2.2.2⟩
theorem Fits.put {fr:Fr} {a:Act} {n:Nat} {d:Option Tmp} {v:AV} {c:Value} (h:Fits G w fr a n) (hd:∀ t,d = some t→t < n) (hv:V G w v c):Fits G w (put fr d v) (a.put d c) n:=by
 cases d with
 | none=>exact h
 | some d =>
  have hlt:d < a.tmps.size:=by rw [h.1]; exact hd d rfl
  refine ⟨by simp [Act.put,h.1],fun t=>?_⟩
  show V G w (if t = d then v else fr t) _
  by_cases ht:t = d
  ·subst ht
   simp [Act.put,Array.getD,hlt]
   exact hv
  ·have:=h.2 t
   simp only [if_neg ht]
   simp only [Act.put,Array.getD_eq_getD_getElem?] at this ⊢
   rw [Array.getElem?_setIfInBounds,if_neg (fun e=>ht e.symm)]
   exact this
theorem evA_ok {A:Ann} {fr:Fr} {a:Act} {n:Nat} (h:Fits G w fr a n) (hg:GlobOk A G w) (x:Operand):V G w (evA A fr x) (a.eval x):=by
 cases x with
 | tmp t=>exact h.2 t
 | const v=>exact V_ofConst G w v
 | global g =>
  simp only [evA,Act.eval]
  split
  ·rename_i cs hc
   exact (hg g cs hc).2.1
  ·simp [V]
 | func f=>simp only [evA,Act.eval,V]; exact ⟨[],[],rfl,by simp [VL],by simp [VL]⟩
theorem evL_ok {A:Ann} {fr:Fr} {a:Act} {n:Nat} (h:Fits G w fr a n) (hg:GlobOk A G w) (l:List Operand):VL G w (l.map (evA A fr)) (l.map a.eval) :=
 VL.of_map l fun x _=>evA_ok h hg x
theorem parts_ok {A:Ann} {fr:Fr} {a:Act} {n:Nat} (h:Fits G w fr a n) (hg:GlobOk A G w) (l:List (Nat × Operand)):PartsOk G w (l.map fun p=>(p.1,evA A fr p.2)) (l.map fun p=>(p.1,a.eval p.2)):=by
 refine ⟨by simp,?_⟩
 simp only [List.map_map]
 exact VL.of_map l fun x _=>evA_ok h hg x.2
theorem partsW_ok {A:Ann} {fr:Fr} {a:Act} {n:Nat} (h:Fits G w fr a n) (hg:GlobOk A G w) (l:List (Nat × Operand)):PartsOk G w (l.map fun p=>(p.1,weakE (evA A fr p.2))) (l.map fun p=>(p.1,a.eval p.2)):=by
 refine ⟨by simp,?_⟩
 simp only [List.map_map]
 exact VL.of_map l fun x _=>V_weakE (evA_ok h hg x.2)
def Went (P:Program) (G:Gh) (w:World) (st:St) (m:Sem Next) (v:AV) (st':St):Prop :=
 ∃ nx w1 G1,m.run P w = .ok nx w1∧((∃ c,nx = .value c∧V G1 w1 v c)∨(nx = .skip∧v = .tuple []))∧Sok G1 w1 st'∧Ext G w st G1 w1 st'
theorem Went.value {m:Sem Value} {v:AV} {c:Value} (hs:Sok G w st) (h:m.run P w = .ok c w) (hv:V G w v c):Went P G w st (do pure (.value (← m))) v st :=
 ⟨.value c,w,G,by simp [h],.inl ⟨c,rfl,hv⟩,hs,Ext.refl _ _ _⟩
theorem Went.value' {m:Sem Value} {v:AV} {st':St} (h:∃ c w1 G1,m.run P w = .ok c w1∧V G1 w1 v c∧Sok G1 w1 st'∧Ext G w st G1 w1 st'):Went P G w st (do pure (.value (← m))) v st':=by
 obtain ⟨c,w1,G1,h1,h2,h3,h4⟩:=h
 exact ⟨.value c,w1,G1,by simp [h1],.inl ⟨c,rfl,h2⟩,h3,h4⟩
theorem Went.unit {m:Sem Unit} {st':St} (h:∃ w1,m.run P w = .ok () w1∧Sok G w1 st'∧Ext G w st G w1 st'):Went P G w st (do m; pure .skip) (.tuple []) st':=by
 obtain ⟨w1,h1,h3,h4⟩:=h
 exact ⟨.skip,w1,G,by simp [h1],.inr ⟨rfl,rfl⟩,h3,h4⟩
theorem same_ok {r:Option AV} {v:AV} {st':St} (h:same st r = some (v,st')):r = some v∧st' = st:=by
 simp only [same,Option.map_eq_some_iff,Prod.mk.injEq] at h
 obtain ⟨v',h1,rfl,rfl⟩:=h
 exact ⟨h1,rfl⟩
theorem opt_ok {A:Ann} {fr:Fr} {a:Act} {n:Nat} (h:Fits G w fr a n) (hg:GlobOk A G w) (o:Option Operand):∀ x,o.map (evA A fr) = some x→∃ c,o.map a.eval = some c∧V G w x c:=by
 intro x hx
 cases o with
 | none=>simp at hx
 | some y=>simp at hx; subst hx; exact ⟨_,rfl,evA_ok h hg y⟩
theorem sliceA_ok {t:TypeId} {u v:AV} {cu:Value} {A:Ann} {fr:Fr} {a:Act} {n:Nat} {lo hi mx:Option Operand} (hf:Fits G w fr a n) (hg:GlobOk A G w)
  (h:sliceA P t u (lo.map (evA A fr)) (hi.map (evA A fr)) (mx.map (evA A fr)) = some v) (hu:V G w u cu) :
  ∃ c,(Instr.sliceAt t cu (lo.map a.eval) (hi.map a.eval) (mx.map a.eval)).run P w = .ok c w∧V G w v c:=by
 have hlo:=opt_ok hf hg lo
 have hhi:=opt_ok hf hg hi
 unfold sliceA at h
 split at h
 ·rename_i u'
  simp only [V] at hu
  subst hu
  unfold sliceStrA at h
  split at h
  ·rename_i e1 e2 e3
   simp only [Option.map_eq_none_iff] at e1 e2 e3
   subst e1 e2 e3
   simp only [Option.map_eq_some_iff] at h
   obtain ⟨c,hc,rfl⟩:=h
   exact ⟨c,pureRun_run w hc,V_ofConst G w c⟩
  ·rename_i l e1 e2 e3
   obtain ⟨cl,hcl,hv⟩:=hlo _ e1
   simp only [Option.map_eq_none_iff] at e2 e3
   subst e2 e3
   simp only [V] at hv
   subst hv
   simp only [Option.map_eq_some_iff] at h
   obtain ⟨c,hc,rfl⟩:=h
   exact ⟨c,by rw [hcl]; exact pureRun_run w hc,V_ofConst G w c⟩
  ·rename_i l e1 e2 e3
   obtain ⟨cl,hcl,hv⟩:=hhi _ e2
   simp only [Option.map_eq_none_iff] at e1 e3
   subst e1 e3
   simp only [V] at hv
   subst hv
   simp only [Option.map_eq_some_iff] at h
   obtain ⟨c,hc,rfl⟩:=h
   exact ⟨c,by rw [hcl]; exact pureRun_run w hc,V_ofConst G w c⟩
  ·rename_i l h' e1 e2 e3
   obtain ⟨cl,hcl,hv⟩:=hlo _ e1
   obtain ⟨ch,hch,hv2⟩:=hhi _ e2
   simp only [Option.map_eq_none_iff] at e3
   subst e3
   simp only [V] at hv hv2
   subst hv hv2
   simp only [Option.map_eq_some_iff] at h
   obtain ⟨c,hc,rfl⟩:=h
   exact ⟨c,by rw [hcl,hch]; exact pureRun_run w hc,V_ofConst G w c⟩
  ·cases h
 ·rename_i xs sp
  split at h
  ·cases h
  ·rename_i e he
   split at h
   ·cases h
   ·rename_i sz hn
    split at h
    ·rename_i hc
     exact sliceXsA_ok h hu hc.1 hc.2 he hn hlo (by simp) hhi (by simp) (by simp)
    ·cases h
 ·cases h
theorem nilCheckA_ok {u v:AV} {cu:Value} {o:Oper} {a:Act} {x:Operand} (ho:o.op = .nilCheck x) (h:nilCheckA u = some v) (hu:V G w u cu) (he:a.eval x = cu) (hs:Sok G w st):Went P G w st (execOp a.eval o) v st:=by
 have hres:∀ c,V G w v c→(execOp a.eval o).run P w = .ok (.value c) w→Went P G w st (execOp a.eval o) v st:=fun c hv hr=>⟨.value c,w,G,hr,.inl ⟨c,rfl,hv⟩,hs,Ext.refl _ _ _⟩
 unfold nilCheckA at h
 split at h
 ·simp only [Option.some.injEq] at h
  subst h
  have hu':=hu
  simp only [V] at hu
  obtain ⟨b,y,h1,h2⟩:=hu
  exact hres cu hu' (by simp [execOp,ho,he,h2])
 ·simp only [Option.some.injEq] at h
  subst h
  have hu':=hu
  simp only [V] at hu
  obtain ⟨b,o',l,h1,h2⟩:=hu
  exact hres cu hu' (by simp [execOp,ho,he,h1])
 ·simp only [Option.some.injEq] at h
  subst h
  have hu':=hu
  simp only [V] at hu
  obtain ⟨l1,l2,h1,h2⟩:=hu
  exact hres cu hu' (by simp [execOp,ho,he,h1])
 ·cases h
end
end Go.AM
end
section
namespace Go.AM
open Go
section
variable {P:Program} {G:Gh} {w:World} {st:St}
theorem opA_ok {A:Ann} {f:FuncId} {fr:Fr} {a:Act} {n:Nat} {o:Oper} {v:AV} {st':St} (h:opA P A f fr st o = some (v,st')) (hf:Fits G w fr a n) (hg:GlobOk A G w) (hs:Sok G w st) :
  Went P G w st (execOp a.eval o) v st':=by
 have hev:=evA_ok hf hg
 unfold opA at h
 split at h
 ·rename_i x ho
  simp only [Option.some.injEq,Prod.mk.injEq] at h
  obtain ⟨rfl,rfl⟩:=h
  exact ⟨.value (a.eval x),w,G,by simp [execOp,ho],.inl ⟨_,rfl,hev x⟩,hs,Ext.refl _ _ _⟩
 ·rename_i x ho
  simp only [Option.some.injEq,Prod.mk.injEq] at h
  obtain ⟨rfl,rfl⟩:=h
  exact ⟨.value (a.eval x),w,G,by simp [execOp,ho],.inl ⟨_,rfl,hev x⟩,hs,Ext.refl _ _ _⟩
 ·rename_i c x y ho
  obtain ⟨h2,rfl⟩:=same_ok h
  obtain ⟨t,ht,hv⟩:=pickA_ok h2 (hev c) (hev x) (hev y)
  exact ⟨.value (if t then a.eval x else a.eval y),w,G,by cases t <;> simp [execOp,ho,ht,asBool],.inl ⟨_,rfl,hv⟩,hs,Ext.refl _ _ _⟩
 ·rename_i op t x y _ ho
  obtain ⟨h2,rfl⟩:=same_ok h
  obtain ⟨c,hc,hv⟩:=binA_ok h2 (hev x) (hev y)
  simp only [execOp,ho]
  exact .value hs hc hv
 ·rename_i op _ x ho
  obtain ⟨h2,rfl⟩:=same_ok h
  obtain ⟨c,hc,hv⟩:=scal1A_ok h2 (hev x)
  simp only [execOp,ho]
  exact .value hs hc hv
 ·rename_i src dst x ho
  obtain ⟨h2,rfl⟩:=same_ok h
  simp only [execOp,ho]
  have hx:=hev x
  unfold convA at h2
  split at h2
  ·rename_i xs sp heq
   rw [heq] at hx
   obtain ⟨c,hc,hv⟩:=bytesToStrA_ok h2 hx
   exact .value hs hc hv
  ·obtain ⟨c,hc,hv⟩:=scal1A_ok h2 hx
   exact .value hs hc hv
 ·rename_i t x ho
  obtain ⟨h2,rfl⟩:=same_ok h
  obtain ⟨v0,h3,rfl⟩:=Option.map_eq_some_iff.1 h2
  obtain ⟨c,hc,hv⟩:=loadA_ok h3 (hev x) hs
  simp only [execOp,ho]
  exact .value hs hc (V_weakA hv)
 ·rename_i t x y ho
  simp only [Option.map_eq_some_iff,Prod.mk.injEq] at h
  obtain ⟨s,h,rfl,rfl⟩:=h
  simp only [execOp,ho]
  exact .unit (storeA_ok h (hev x) (hev y) hs)
 ·rename_i t ho
  simp only [execOp,ho]
  exact .value' (allocA_ok _ h hs)
 ·rename_i t x ho
  simp only [execOp,ho]
  split at h
  ·exact .value' (boxA_ok h (hev x) hs)
  ·cases h
 ·rename_i t parts ho
  obtain ⟨h2,rfl⟩:=same_ok h
  obtain ⟨v0,h3,rfl⟩:=Option.map_eq_some_iff.1 h2
  obtain ⟨c,hc,hv⟩:=buildA_ok h3 (parts_ok hf hg parts.toList)
  simp only [execOp,ho]
  refine .value hs ?_ (V_weakF hv)
  rw [← hc]
  congr 2
  apply Array.ext'
  simp
 ·rename_i t len parts ho
  obtain ⟨h2,rfl⟩:=same_ok h
  obtain ⟨c,w1,G1,hc,hr⟩:=buildSliceA_ok h2 (partsW_ok hf hg parts.toList) hs
  simp only [execOp,ho]
  refine .value' ⟨c,w1,G1,?_,hr⟩
  rw [← hc]
  congr 2
  apply Array.ext'
  simp
 ·rename_i s x i ho
  obtain ⟨h2,rfl⟩:=same_ok h
  obtain ⟨c,hc,hv⟩:=fieldAddrA_ok h2 (hev x)
  simp only [execOp,ho]
  exact .value hs hc hv
 ·rename_i s x i ho
  obtain ⟨h2,rfl⟩:=same_ok h
  obtain ⟨c,hc,hv⟩:=fieldA_ok h2 (hev x)
  simp only [execOp,ho]
  exact .value hs hc hv
 ·rename_i t x ix ho
  obtain ⟨h2,rfl⟩:=same_ok h
  obtain ⟨c,hc,hv⟩:=indexAddrA_ok h2 (hev x) (hev ix)
  simp only [execOp,ho]
  exact .value hs hc hv
 ·rename_i t x ix ho
  obtain ⟨h2,rfl⟩:=same_ok h
  obtain ⟨c,hc,hv⟩:=indexA_ok h2 (hev x) (hev ix)
  simp only [execOp,ho]
  exact .value hs hc hv
 ·rename_i t x lo hi mx ho
  obtain ⟨h2,rfl⟩:=same_ok h
  obtain ⟨c,hc,hv⟩:=sliceA_ok hf hg h2 (hev x)
  simp only [execOp,ho]
  exact .value hs hc hv
 ·rename_i g first cap ho
  simp only [Option.some.injEq,Prod.mk.injEq] at h
  obtain ⟨rfl,rfl⟩:=h
  refine ⟨.value (.func (.func g) (first.map a.eval) (cap.map a.eval)),w,G,by simp [execOp,ho,Instr.makeFunc],.inl ⟨_,rfl,?_⟩,hs,Ext.refl _ _ _⟩
  simp only [V]
  exact ⟨first.toList.map a.eval,cap.toList.map a.eval,by congr 1 <;> (apply Array.ext'; simp),evL_ok hf hg _,evL_ok hf hg _⟩
 ·rename_i t x ho
  obtain ⟨h2,rfl⟩:=same_ok h
  obtain ⟨c,hc,hv⟩:=ifaceA_ok h2 (hev x)
  simp only [execOp,ho]
  exact .value hs hc hv
 ·rename_i x i ho
  obtain ⟨h2,rfl⟩:=same_ok h
  obtain ⟨c,hc,hv⟩:=extractA_ok (P:=P) h2 (hev x)
  simp only [execOp,ho]
  exact .value hs hc hv
 ·rename_i x xt t ho
  obtain ⟨h2,rfl⟩:=same_ok h
  have hx:=hev x
  unfold assertA at h2
  split at h2
  ·cases h2
  ·rename_i ud hni hu
   split at h2
   ·rename_i t' v hx'
    split at h2
    ·rename_i ht
     subst ht
     simp only [Option.some.injEq] at h2
     subst h2
     rw [hx'] at hx
     simp only [V] at hx
     obtain ⟨c,hc,hv⟩:=hx
     simp only [execOp,ho,hc]
     refine .value hs (c:=.tuple #[c,.bool true]) ?_ (by simp only [V]; exact ⟨[c,.bool true],rfl,.cons hv (.cons (by simp [V]) .nil)⟩)
     unfold Instr.typeAssert
     simp only [Sem.run_bind,run_underlying hu,Result.andThen_ok]
     cases ud <;> first | exact absurd rfl (hni _) | simp
    ·cases h2
   ·cases h2
  ·cases h2
 ·rename_i x ho
  obtain ⟨h2,rfl⟩:=same_ok h
  exact nilCheckA_ok ho h2 (hev x) rfl hs
 ·rename_i t ho
  split at h
  ·simp only [Option.some.injEq,Prod.mk.injEq] at h
   obtain ⟨rfl,rfl⟩:=h
   simp only [execOp,ho]
   exact .value' (makeMapA_ok hs)
  ·cases h
 ·rename_i t k n ho
  split at h
  ·rename_i vt ht
   simp only [Option.some.injEq,Prod.mk.injEq] at h
   obtain ⟨rfl,rfl⟩:=h
   simp only [execOp,ho]
   exact .value' (makeMapR_ok ht hs)
  ·cases h
 ·rename_i t l c ho
  simp only [execOp,ho]
  exact .value' (makeSliceA_ok h (hev l) (hev c) hs)
 ·rename_i t m k x ho
  simp only [Option.map_eq_some_iff,Prod.mk.injEq] at h
  obtain ⟨s,h,rfl,rfl⟩:=h
  simp only [execOp,ho]
  exact .unit (mapUpdateA_ok h (hev m) (hev k) (hev x) hs)
 ·rename_i t m k ho
  obtain ⟨h2,rfl⟩:=same_ok h
  obtain ⟨c,hc,hv⟩:=lookupA_ok h2 (hev m) (hev k)
  simp only [execOp,ho]
  exact .value hs hc hv
 ·rename_i x t ho
  obtain ⟨h2,rfl⟩:=same_ok h
  obtain ⟨c,hc,hv⟩:=lenA_ok (ty:=o.type) h2 (hev x)
  refine ⟨.value c,w,G,?_,.inl ⟨c,rfl,hv⟩,hs,Ext.refl _ _ _⟩
  simp [execOp,ho,resolve,invoke,builtin,hc]
 ·rename_i x y t t2 ho
  split at h
  ·obtain ⟨c,w1,G1,hc,hv,h1,h2⟩:=appendO_ok (ty:=o.type) h (hev x) (hev y) hs
   refine ⟨.value c,w1,G1,?_,.inl ⟨c,rfl,hv⟩,h1,h2⟩
   simp [execOp,ho,resolve,invoke,builtin,hc]
  ·obtain ⟨c,w1,G1,hc,hv,h1,h2⟩:=appendA_ok (ty:=o.type) h (hev x) (hev y) hs
   refine ⟨.value c,w1,G1,?_,.inl ⟨c,rfl,hv⟩,h1,h2⟩
   simp [execOp,ho,resolve,invoke,builtin,hc]
 ·cases h
end
end Go.AM
end
section
namespace Go.AM
open Go
section
variable {P:Program}
def Enters (P : Program) (g : FuncId) : Prop := ∃ fn c, P.funcs[g]? = some fn ∧ fn.body = some c ∧ (fn.name == "runtime.NumGoroutine") = false
theorem run_callFunc {g:FuncId} {args:Array Value} {w:World} (h:Enters P g):(callFunc g args).run P w = .ok (.enter g args) w:=by
 obtain ⟨fn,c,h1,h2,h3⟩:=h
 have h4 : ¬ fn.name = "runtime.NumGoroutine" := by simpa using h3
 simp [callFunc,program,Sem.run,h1,h2,h4]
def entry (c:Value):List PanicEntry:=[{ v:=c,recovered:=false }]
def Gotten (G:Gh) (w:World) (st:St) (got:Got) (st':St) (e:Ending) (w':World):Prop :=
 ∃ G',Ext G w st G' w' st'∧Sok G' w' st'∧match got with
  | .ret v=>∃ c,e = .returned c∧V G' w' v c
  | .panic v=>∃ c,e = .panicked (entry c)∧V G' w' v c
def R (P:Program) (A:Ann) (g:FuncId) (args:List AV) (st:St) (got:Got) (st':St):Prop :=
 Enters P g∧∀ G w cargs,VL G w args cargs→Sok G w st→GlobOk A G w→Calls P g ⟨cargs⟩ w (Gotten G w st got st')
def ExOk (G:Gh) (w:World):Ex→Exit→Prop
 | .normal,e=>e = .normal
 | .exit id,e=>e = .exit id
 | .ret,e=>e = .ret
 | .panic v,e=>∃ c,e = .panic (entry c)∧V G w v c
def FitsEx (ex:Ex) (G:Gh) (w:World) (fr:Fr) (a:Act) (n:Nat):Prop:=(∀ v,ex≠.panic v)→Fits G w fr a n
def Post (G:Gh) (w:World) (st:St) (n:Nat) (d:List Deferred) (r:Ex × Fr × St) (e:Exit) (a':Act) (w':World):Prop :=
 ∃ G',Ext G w st G' w' r.2.2∧Sok G' w' r.2.2∧FitsEx r.1 G' w' r.2.1 a' n∧a'.defers = d∧ExOk G' w' r.1 e
theorem Post.back {G G1:Gh} {w w1:World} {st st1:St} {n:Nat} {d:List Deferred} {r:Ex × Fr × St} {e:Exit} {a':Act} {w':World} (hx:Ext G w st G1 w1 st1) (h:Post G1 w1 st1 n d r e a' w'):Post G w st n d r e a' w':=by
 obtain ⟨G',h1,h2⟩:=h
 exact ⟨G',hx.trans h1,h2⟩
theorem put_defers (a:Act) (d:Option Tmp) (v:Value):(a.put d v).defers = a.defers:=by cases d <;> rfl
theorem wantedA_ok {G:Gh} {w:World} {ops:Array Oper} {fr:Fr} {a:Act} {n:Nat} {o:Oper} {b:Bool} (h:wantedA ops fr o = some b) (hf:Fits G w fr a n):Region.wanted o (yielded ops a.tmps) = b:=by
 unfold wantedA at h
 unfold Region.wanted
 split at h
 ·rename_i hg
  simp only [Option.some.injEq] at h
  subst h
  simp [hg]
 ·rename_i j want hg
  simp only [hg]
  split at h
  ·rename_i d hd
   have hv:=hf.2 d
   split at h
   ·rename_i t ht
    simp only [Option.some.injEq] at h
    subst h
    rw [ht] at hv
    simp only [V,Array.getD_eq_getD_getElem?] at hv
    have:a.tmps[d]? = some (.bool t):=by
     cases he:a.tmps[d]? with
     | none=>rw [he] at hv; simp [undef] at hv
     | some x=>rw [he] at hv; simp at hv; rw [hv]
    simp [yielded,hd,this]
   ·rename_i ht
    simp only [Option.some.injEq] at h
    subst h
    rw [ht] at hv
    simp only [V,VL,Array.getD_eq_getD_getElem?] at hv
    obtain ⟨l,hv,rfl⟩:=hv
    cases he:a.tmps[d]? with
    | none=>simp [yielded,hd,he]
    | some x=>rw [he] at hv; simp at hv; subst hv; simp [yielded,hd,he]
   ·cases h
  ·cases h
theorem calleeA_ok {A:Ann} {G:Gh} {w:World} {fr:Fr} {a:Act} {n:Nat} {o:Oper} {g:FuncId} {args:List AV} (h:calleeA A fr o = some (g,args)) (hf:Fits G w fr a n) (hg:GlobOk A G w) (he:Enters P g) :
  ∃ cargs,VL G w args cargs∧(execOp a.eval o).run P w = .ok (.enter g ⟨cargs⟩) w:=by
 unfold calleeA at h
 split at h
 ·rename_i x as' _ ho
  split at h
  ·rename_i g' first cap hx
   simp only [Option.some.injEq,Prod.mk.injEq] at h
   obtain ⟨rfl,rfl⟩:=h
   have hv:=evA_ok hf hg x
   rw [hx] at hv
   simp only [V] at hv
   obtain ⟨l1,l2,h1,h2,h3⟩:=hv
   refine ⟨l1 ++ as'.toList.map a.eval ++ l2,(h2.append (evL_ok hf hg _)).append h3,?_⟩
   simp only [execOp,ho,resolve,h1,Deferred.ofValue,Sem.run_bind,Sem.run_pure,Result.andThen_ok,invoke,run_callFunc he]
   congr 2
   apply Array.ext'
   simp
  ·cases h
 ·cases h
section
variable (P:Program) (A:Ann) (f:FuncId) (ops:Array Oper)
def Kept (st st':St) (a:Nat):Prop:=∀ o,o≠.hole→st[a]? = some o→st'[a]? = some o
inductive NewA (fr:Fr) (st:St) (o:Oper) (i:Nat):Bool→AV→St→Prop where
 | alloc {t:TypeId} {v:AV} {st':St}:o.op = .alloc t→allocI P st i t = some (v,st')→NewA fr st o i false v st'
 | app {x y:Operand} {t t2:TypeId} {v:AV} {st':St}:o.op = .call { callee:=.builtin .append,args:=⟨[x,y]⟩,argTypes:=⟨[t,t2]⟩ }→appendI P st i t t2 (evA A fr x) (evA A fr y) = some (v,st')→NewA fr st o i true v st'
inductive StepR (fr:Fr) (st:St) (o:Oper):AV→St→Kd→Prop where
 | skip:wantedA ops fr o = some false→StepR fr st o (.tuple []) st .calm
 | op {v:AV} {st':St}:wantedA ops fr o = some true→calleeA A fr o = none→opA P A f fr st o = some (v,st')→StepR fr st o v st' (kindA A f fr o)
 | opk {v:AV} {st':St} (l:List Nat):wantedA ops fr o = some true→calleeA A fr o = none→opA P A f fr st o = some (v,st')→(∀ i ∈ l,st'[i]? = st[i]?)→StepR fr st o v st' (.keep l)
 | pure {v:AV} {g:FuncId} {args:List AV}:wantedA ops fr o = some true→calleeA A fr o = some (g,args)→(∀ s,R P A g args s (.ret v) s)→StepR fr st o v st .calm
 | look {v:AV} {g:FuncId} {args:List AV}:wantedA ops fr o = some true→calleeA A fr o = some (g,args)→R P A g args st (.ret v) st→StepR fr st o v st (.look none)
 | call {v:AV} {st':St} {g:FuncId} {args:List AV} (l:List Nat):wantedA ops fr o = some true→calleeA A fr o = some (g,args)→R P A g args st (.ret v) st'→(∀ i ∈ l,st'[i]? = st[i]?)→StepR fr st o v st' (.keep l)
 | new {v:AV} {st':St} {T:Bool} (i:Nat) (l:List Nat):wantedA ops fr o = some true→Fresh st i→NewA P A fr st o i T v st'→(∀ a ∈ l,Kept st st' a∧Kept st' st a)→StepR fr st o v st' (.new T l)
inductive PanicS (fr:Fr) (st:St) (o:Oper):AV→St→Prop where
 | call {v:AV} {st':St} {g:FuncId} {args:List AV}:wantedA ops fr o = some true→calleeA A fr o = some (g,args)→R P A g args st (.panic v) st'→PanicS fr st o v st'
 | op {x:Operand} {t:TypeId} {v:AV}:wantedA ops fr o = some true→calleeA A fr o = none→o.op = .panic x→evA A fr x = .iface t v→PanicS fr st o (.iface t v) st
inductive RunR:List Oper→Fr→St→Fr→St→List Kd→Prop where
 | nil {fr:Fr} {st:St}:RunR [] fr st fr st []
 | cons {o:Oper} {l:List Oper} {fr fr':Fr} {st st1 st':St} {v:AV} {k:Kd} {ks:List Kd}:StepR P A f ops fr st o v st1 k→RunR l (put fr o.dst v) st1 fr' st' ks→RunR (o :: l) fr st fr' st' (k :: ks)
def RunE (l:List Oper) (fr:Fr) (st:St) (e:Option AV) (fr':Fr) (st':St) (ks:List Kd):Prop :=
 match e with
 | none=>RunR P A f ops l fr st fr' st' ks
 | some v=>∃ l1 o l2 st1,l = l1 ++ o :: l2∧RunR P A f ops l1 fr st fr' st1 ks∧PanicS P A ops fr' st1 o v st'
end
section
variable {A:Ann} {f:FuncId} {ops:Array Oper}
theorem newA_ok {i:Nat} {T:Bool} {G:Gh} {w:World} {fr:Fr} {st:St} {a:Act} {n:Nat} {o:Oper} {v:AV} {st':St} (hi:Fresh st i) (h:NewA P A fr st o i T v st') (hf:Fits G w fr a n) (hg:GlobOk A G w) (hs:Sok G w st) :
  Went P G w st (execOp a.eval o) v st':=by
 have hev:=evA_ok hf hg
 cases h with
 | alloc ho h =>
  simp only [execOp,ho]
  exact .value' (allocI_ok hi _ h hs)
 | @app x y t t2 _ _ ho h =>
  obtain ⟨c,w1,G1,hc,hv,h1,h2⟩:=appendI_ok hi (ty:=o.type) h (hev x) (hev y) hs
  refine ⟨.value c,w1,G1,?_,.inl ⟨c,rfl,hv⟩,h1,h2⟩
  simp [execOp,ho,resolve,invoke,builtin,hc]
theorem step_ok {n:Nat} {i:Nat} {o:Oper} (ho:ops[i]? = some o) (hdo:∀ d,o.dst = some d→d < n) {fr:Fr} {st st1:St} {v:AV} {k:Kd} (h:StepR P A f ops fr st o v st1 k)
  {G:Gh} {w:World} {a:Act} {Q:Exit→Act→World→Prop} {K:Act→World→Prop} (hf:Fits G w fr a n) (hg:GlobOk A G w) (hs:Sok G w st)
  (hK:∀ G1 w1 a1,Ext G w st G1 w1 st1→Sok G1 w1 st1→Fits G1 w1 (put fr o.dst v) a1 n→a1.defers = a.defers→K a1 w1):wpOp P ops Q i K a w:=by
 have hcall:∀ g args,wantedA ops fr o = some true→calleeA A fr o = some (g,args)→R P A g args st (.ret v) st1→wpOp P ops Q i K a w:=fun g args hw hcal hr=>by
  unfold wpOp
  rw [ho]
  simp only
  rw [wantedA_ok hw hf]
  simp only [if_true]
  left
  unfold Oper.wp
  obtain ⟨hen,hcs⟩:=hr
  obtain ⟨cargs,hva,hrun⟩:=calleeA_ok (P:=P) hcal hf hg hen
  rw [hrun,Oper.upon_enter]
  refine (hcs G w cargs hva hs hg).mono ?_
  rintro e w' ⟨G',hx,hs',c,rfl,hv⟩
  exact hK G' w' _ hx hs' ((hf.mono hx).put (d:=o.dst) hdo hv) (put_defers _ _ _)
 have hop':wantedA ops fr o = some true→Went P G w st (execOp a.eval o) v st1→wpOp P ops Q i K a w:=fun hw hop=>by
  unfold wpOp
  rw [ho]
  simp only
  rw [wantedA_ok hw hf]
  simp only [if_true]
  left
  unfold Oper.wp
  obtain ⟨nx,w1,G1,hrun,hnx,hs1,hx⟩:=hop
  rw [hrun]
  rcases hnx with ⟨c,rfl,hv⟩ | ⟨rfl,hv0⟩
  ·rw [Oper.upon_value]
   exact hK G1 w1 _ hx hs1 ((hf.mono hx).put (d:=o.dst) hdo hv) (put_defers _ _ _)
  ·rw [Oper.upon_skip]
   subst hv0
   exact hK G1 w1 _ hx hs1 ((hf.mono hx).put (d:=o.dst) (v:=.tuple []) (c:=undef) hdo (by simp only [V]; exact ⟨[],rfl,VL.nil⟩)) (put_defers _ _ _)
 cases h with
 | skip hw =>
  unfold wpOp
  rw [ho]
  simp only
  rw [wantedA_ok hw hf]
  simp only [Bool.false_eq_true,if_false]
  exact hK G w _ (Ext.refl _ _ _) hs (hf.put (d:=o.dst) (v:=.tuple []) (c:=undef) hdo (by simp only [V]; exact ⟨[],rfl,VL.nil⟩)) (put_defers _ _ _)
 | op hw hc hop=>exact hop' hw (opA_ok hop hf hg hs)
 | opk l hw hc hop hl=>exact hop' hw (opA_ok hop hf hg hs)
 | new j l hw hj hn hl=>exact hop' hw (newA_ok hj hn hf hg hs)
 | pure hw hcal hr=>exact hcall _ _ hw hcal (hr st)
 | look hw hcal hr=>exact hcall _ _ hw hcal hr
 | call l hw hcal hr hl=>exact hcall _ _ hw hcal hr
theorem panic_ok {n:Nat} {i:Nat} {o:Oper} (ho:ops[i]? = some o) {fr:Fr} {st st1:St} {v:AV} (h:PanicS P A ops fr st o v st1)
  {G:Gh} {w:World} {a:Act} {Q:Exit→Act→World→Prop} {K:Act→World→Prop} (hf:Fits G w fr a n) (hg:GlobOk A G w) (hs:Sok G w st) {fr0:Fr}
  (hQ:∀ e a' w',Post G w st n a.defers (.panic v,fr0,st1) e a' w'→Q e a' w'):wpOp P ops Q i K a w:=by
 unfold wpOp
 rw [ho]
 simp only
 cases h with
 | call hw hcal hr =>
  rw [wantedA_ok hw hf]
  simp only [if_true]
  left
  unfold Oper.wp
  obtain ⟨hen,hcs⟩:=hr
  obtain ⟨cargs,hva,hrun⟩:=calleeA_ok (P:=P) hcal hf hg hen
  rw [hrun,Oper.upon_enter]
  refine (hcs G w cargs hva hs hg).mono ?_
  rintro e w' ⟨G',hx,hs',c,rfl,hv⟩
  exact hQ _ _ _ ⟨G',hx,hs',fun h=>absurd rfl (h v),rfl,c,rfl,hv⟩
 | @op x t v hw hcal hop hx =>
  rw [wantedA_ok hw hf]
  simp only [if_true]
  left
  unfold Oper.wp
  have hv:=evA_ok hf hg x
  have hv0:=hv
  rw [hx] at hv
  simp only [V] at hv
  obtain ⟨c',hc',hv'⟩:=hv
  have hrun:(execOp a.eval o).run P w = .halt (.panic (a.eval x)) w:=by simp [execOp,hop,hc',Instr.panic,goPanic]
  rw [hrun,Oper.upon_panic]
  rw [hx] at hv0
  exact hQ _ _ _ ⟨G,Ext.refl _ _ _,hs,fun h=>absurd rfl (h _),rfl,a.eval x,rfl,hv0⟩
theorem panic_call {n:Nat} {i:Nat} {o:Oper} (ho:ops[i]? = some o) {fr:Fr} {st st1:St} {v:AV} {g:FuncId} {args:List AV} (hw:wantedA ops fr o = some true) (hcal:calleeA A fr o = some (g,args)) (hr:R P A g args st (.panic v) st1)
  {G:Gh} {w:World} {a:Act} {Q:Exit→Act→World→Prop} {K:Act→World→Prop} (hf:Fits G w fr a n) (hg:GlobOk A G w) (hs:Sok G w st)
  (hQ:∀ c G' w',Ext G w st G' w' st1→Sok G' w' st1→V G' w' v c→Fits G' w' fr a n→Q (.panic (entry c)) a w'):wpOp P ops Q i K a w:=by
 unfold wpOp
 rw [ho]
 simp only
 rw [wantedA_ok hw hf]
 simp only [if_true]
 left
 unfold Oper.wp
 obtain ⟨hen,hcs⟩:=hr
 obtain ⟨cargs,hva,hrun⟩:=calleeA_ok (P:=P) hcal hf hg hen
 rw [hrun,Oper.upon_enter]
 refine (hcs G w cargs hva hs hg).mono ?_
 rintro e w' ⟨G',hx,hs',c,rfl,hv⟩
 exact hQ c G' w' hx hs' hv (hf.mono hx)
def exE:Option AV→Ex
 | none=>.normal
 | some v=>.panic v
theorem runE_ok {n:Nat}:∀ (l:List Nat),(∀ i ∈ l,∃ o,ops[i]? = some o∧∀ d,o.dst = some d→d < n)→∀ fr st e fr' st' ks G w a (Q:Exit→Act→World→Prop),RunE P A f ops (l.filterMap (ops[·]?)) fr st e fr' st' ks →
   Fits G w fr a n→GlobOk A G w→Sok G w st→(∀ e' a' w',Post G w st n a.defers (exE e,fr',st') e' a' w'→Q e' a' w')→wpOps P ops Q l a w
 | [],_,fr,st,e,fr',st',ks,G,w,a,Q,h,hf,hg,hs,hq=>by
  simp only [List.filterMap_nil] at h
  cases e with
  | none=>cases h; exact hq _ _ _ ⟨G,Ext.refl _ _ _,hs,fun _=>hf,rfl,rfl⟩
  | some v =>
   obtain ⟨l1,o,l2,st1,h1,_⟩:=h
   simp at h1
 | i :: rest,hd,fr,st,e,fr',st',ks,G,w,a,Q,h,hf,hg,hs,hq=>by
  have hrest:∀ i ∈ rest,∃ o,ops[i]? = some o∧∀ d,o.dst = some d→d < n:=fun j hj=>hd j (by simp [hj])
  obtain ⟨o,ho,hdo⟩:=hd i (by simp)
  rw [wpOps_cons]
  simp only [List.filterMap_cons,ho] at h
  have go:∀ {v st1 k ks'},StepR P A f ops fr st o v st1 k→RunE P A f ops (rest.filterMap (ops[·]?)) (put fr o.dst v) st1 e fr' st' ks'→wpOp P ops Q i (wpOps P ops Q rest) a w:=fun h1 h2 =>
   step_ok ho hdo h1 hf hg hs fun G1 w1 a1 hx hs1 hf1 hd1=>runE_ok rest hrest _ _ e fr' st' _ G1 w1 a1 Q h2 hf1 (hg.mono hx) hs1 fun e' a' w' hp=>hq e' a' w' (by rw [← hd1]; exact hp.back hx)
  cases e with
  | none =>
   cases h with
   | cons h1 h2=>exact go h1 h2
  | some v =>
   obtain ⟨l1,o',l2,st1,h1,h2,h3⟩:=h
   cases l1 with
   | nil =>
    simp only [List.nil_append,List.cons.injEq] at h1
    obtain ⟨rfl,rfl⟩:=h1
    cases h2
    exact panic_ok ho h3 hf hg hs hq
   | cons x l1 =>
    simp only [List.cons_append,List.cons.injEq] at h1
    obtain ⟨rfl,h1⟩:=h1
    cases h2 with
    | cons h4 h5=>exact go h4 ⟨l1,o',l2,st1,h1,h5,h3⟩
end
end
end Go.AM
end
section
namespace Go.AM
open Go
section
variable {P:Program} {A:Ann} {f:FuncId} {ops:Array Oper}
theorem opA_congr {fr fr':Fr} {st:St} {o:Oper} (h:∀ x ∈ o.op.operands,evA A fr x = evA A fr' x):opA P A f fr st o = opA P A f fr' st o:=by
 obtain ⟨dst,op,type,pos,after,guard⟩:=o
 have pairs:∀ ps:Array (Nat × Operand),(∀ x ∈ (ps.toList.map (·.2)).toArray,evA A fr x = evA A fr' x) →
   (ps.toList.map fun p=>(p.1,evA A fr p.2)) = (ps.toList.map fun p=>(p.1,evA A fr' p.2)):=fun ps hp =>
  List.map_congr_left fun p hm=>by
   rw [hp p.2 (by simp; exact ⟨p.1,by simpa using hm⟩)]
 have pairsW:∀ ps:Array (Nat × Operand),(∀ x ∈ (ps.toList.map (·.2)).toArray,evA A fr x = evA A fr' x) →
   (ps.toList.map fun p=>(p.1,weakE (evA A fr p.2))) = (ps.toList.map fun p=>(p.1,weakE (evA A fr' p.2))):=fun ps hp =>
  List.map_congr_left fun p hm=>by
   rw [hp p.2 (by simp; exact ⟨p.1,by simpa using hm⟩)]
 have lists:∀ ps:Array Operand,(∀ x ∈ ps,evA A fr x = evA A fr' x)→ps.toList.map (evA A fr) = ps.toList.map (evA A fr'):=fun ps hp =>
  List.map_congr_left fun p hm=>hp p (by simpa using hm)
 cases op <;> simp only [Op.operands] at h <;> simp only [opA]
 case move x=>rw [h x (by simp)]
 case assign x=>rw [h x (by simp)]
 case pick c a b=>rw [h c (by simp),h a (by simp),h b (by simp)]
 case binOp op t x y _=>rw [h x (by simp),h y (by simp)]
 case unOp op t x=>rw [h x (by simp)]
 case convert s d x=>rw [h x (by simp)]
 case load t x=>rw [h x (by simp)]
 case store t x y=>rw [h x (by simp),h y (by simp)]
 case box t x=>rw [h x (by simp)]
 case build t ps=>rw [pairs ps h]
 case buildSlice t n ps=>rw [pairsW ps h]
 case fieldAddr s x i=>rw [h x (by simp)]
 case field s x i=>rw [h x (by simp)]
 case indexAddr t x i=>rw [h x (by simp),h i (by simp)]
 case index t x i=>rw [h x (by simp),h i (by simp)]
 case slice t x lo hi mx =>
  rw [h x (by simp)]
  have e1:lo.map (evA A fr) = lo.map (evA A fr'):=by cases lo with | none=>rfl | some y=>simp [h y (by simp)]
  have e2:hi.map (evA A fr) = hi.map (evA A fr'):=by cases hi with | none=>rfl | some y=>simp [h y (by simp)]
  have e3:mx.map (evA A fr) = mx.map (evA A fr'):=by cases mx with | none=>rfl | some y=>simp [h y (by simp)]
  rw [e1,e2,e3]
 case makeFunc fn first cap =>
  have e1:=lists first (fun x hx=>h x (by simp [hx]))
  have e2:=lists cap (fun x hx=>h x (by simp [hx]))
  cases fn <;> simp only [e1,e2]
 case makeInterface t x=>rw [h x (by simp)]
 case extract x i=>rw [h x (by simp)]
 case typeAssert x xt t ok=>cases ok <;> simp only [h x (by simp)]
 case nilCheck x=>rw [h x (by simp)]
 case makeMap t r =>
  cases r with
  | none=>rfl
  | some x=>cases x with
   | const v=>cases v <;> rfl
   | _=>rfl
 case makeSlice t l c=>rw [h l (by simp),h c (by simp)]
 case mapUpdate t m k v=>rw [h m (by simp),h k (by simp),h v (by simp)]
 case lookup t m k ok=>cases ok <;> simp only [h m (by simp),h k (by simp)]
 case call c =>
  obtain ⟨callee,args,argTypes⟩:=c
  simp only [Call.operands] at h
  cases callee with
  | value x=>rfl
  | invoke r m=>rfl
  | builtin b =>
   obtain ⟨args⟩:=args
   obtain ⟨ts⟩:=argTypes
   cases b <;> try rfl
   ·rcases args with _ | ⟨x,_ | ⟨y,_ | ⟨z,r⟩⟩⟩ <;> rcases ts with _ | ⟨t,_ | ⟨t2,_ | ⟨t3,r2⟩⟩⟩ <;> try rfl
    simp only
    rw [h x (by simp),h y (by simp)]
   ·rcases args with _ | ⟨x,_ | ⟨y,r⟩⟩ <;> rcases ts with _ | ⟨t,_ | ⟨t2,r2⟩⟩ <;> try rfl
    simp only
    rw [h x (by simp)]
theorem calleeA_congr {fr fr':Fr} {o:Oper} (h:∀ x ∈ o.op.operands,evA A fr x = evA A fr' x):calleeA A fr o = calleeA A fr' o:=by
 obtain ⟨dst,op,type,pos,after,guard⟩:=o
 cases op <;> try rfl
 rename_i c
 obtain ⟨callee,args,argTypes⟩:=c
 simp only [Op.operands,Call.operands] at h
 cases callee with
 | value x =>
  simp only [calleeA]
  have e:args.toList.map (evA A fr) = args.toList.map (evA A fr'):=List.map_congr_left fun p hm=>h p (by simp; exact .inr (by simpa using hm))
  rw [h x (by simp),e]
 | invoke r m=>rfl
 | builtin b=>rfl
theorem kindA_congr {fr fr':Fr} {o:Oper} (h:∀ x ∈ o.op.operands,evA A fr x = evA A fr' x):kindA A f fr o = kindA A f fr' o:=by
 unfold kindA
 obtain ⟨dst,op,type,pos,after,guard⟩:=o
 cases op <;> try rfl
 case load t x=>simp only [Op.operands] at h; simp only [h x (by simp)]
 case store t x y=>simp only [Op.operands] at h; simp only [h x (by simp)]
 case call c =>
  obtain ⟨callee,args,argTypes⟩:=c
  cases callee with
  | value x=>rfl
  | invoke r m=>rfl
  | builtin b=>cases b <;> rfl
theorem evA_agree {fr fr':Fr} {o:Oper} (h:∀ t ∈ o.looksAt ops,fr t = fr' t):∀ x ∈ o.op.operands,evA A fr x = evA A fr' x:=by
 intro x hx
 cases x with
 | tmp t=>exact h t (by simp only [Oper.looksAt,List.mem_append,List.mem_filterMap]; exact .inl ⟨.tmp t,by simpa using hx,rfl⟩)
 | _=>rfl
theorem wanted_agree {fr fr':Fr} {o:Oper} (h:∀ t ∈ o.looksAt ops,fr t = fr' t):wantedA ops fr o = wantedA ops fr' o:=by
 unfold wantedA
 cases hg:o.guard with
 | none=>rfl
 | some q =>
  obtain ⟨j,want⟩:=q
  simp only
  cases hd:(ops[j]?).bind (·.dst) with
  | none=>rfl
  | some d =>
   have:fr d = fr' d:=h d (by simp only [Oper.looksAt,hg,hd,List.mem_append]; exact .inr (by simp))
   simp only [this]
theorem step_congr {fr fr':Fr} {st st':St} {o:Oper} {v:AV} {k:Kd} (h:∀ t ∈ o.looksAt ops,fr t = fr' t) (hs:StepR P A f ops fr st o v st' k):StepR P A f ops fr' st o v st' k:=by
 have he:=evA_agree (A:=A) h
 have hw:=wanted_agree h
 have hc:=calleeA_congr he
 cases hs with
 | skip h1=>exact .skip (hw ▸ h1)
 | op h1 h2 h3=>rw [kindA_congr (f:=f) he]; exact .op (hw ▸ h1) (hc ▸ h2) ((opA_congr he) ▸ h3)
 | opk l h1 h2 h3 h4=>exact .opk l (hw ▸ h1) (hc ▸ h2) ((opA_congr he) ▸ h3) h4
 | pure h1 h2 h3=>exact .pure (hw ▸ h1) (hc ▸ h2) h3
 | look h1 h2 h3=>exact .look (hw ▸ h1) (hc ▸ h2) h3
 | call l h1 h2 h3 h4=>exact .call l (hw ▸ h1) (hc ▸ h2) h3 h4
 | new i l h1 h2 h3 h4 =>
  refine .new i l (hw ▸ h1) h2 ?_ h4
  cases h3 with
  | alloc ho h=>exact .alloc ho h
  | @app x y t t2 _ _ ho h =>
   refine .app ho ?_
   rw [← he x (by rw [ho]; simp [Op.operands,Call.operands]),← he y (by rw [ho]; simp [Op.operands,Call.operands])]
   exact h
theorem panic_congr {fr fr':Fr} {st st':St} {o:Oper} {v:AV} (h:∀ t ∈ o.looksAt ops,fr t = fr' t) (hs:PanicS P A ops fr st o v st'):PanicS P A ops fr' st o v st':=by
 have he:=evA_agree (A:=A) h
 have hw:=wanted_agree h
 have hc:=calleeA_congr he
 cases hs with
 | call h1 h2 h3=>exact .call (hw ▸ h1) (hc ▸ h2) h3
 | @op x t v h1 h2 h3 h4 =>
  have hx:evA A fr x = evA A fr' x:=he x (by rw [h3]; simp [Op.operands])
  exact .op (hw ▸ h1) (hc ▸ h2) h3 (hx ▸ h4)
theorem put_agree {fr:Fr} {o:Oper} {d:Option Tmp} {v:AV} (h:∀ t,d = some t→t ∉ o.looksAt ops):∀ t ∈ o.looksAt ops,fr t = put fr d v t:=by
 intro t ht
 cases d with
 | none=>rfl
 | some d=>show fr t = if t = d then v else fr t; rw [if_neg (by rintro rfl; exact h t rfl ht)]
theorem step_put_iff {fr:Fr} {st st':St} {o:Oper} {d:Option Tmp} {v u:AV} {k:Kd} (h:∀ t,d = some t→t ∉ o.looksAt ops):StepR P A f ops (put fr d v) st o u st' k ↔ StepR P A f ops fr st o u st' k :=
 ⟨step_congr fun t ht=>(put_agree h t ht).symm,step_congr (put_agree h)⟩
theorem put_comm {fr:Fr} {d d':Option Tmp} {v v':AV} (h:∀ t,d = some t→d'≠some t):put (put fr d v) d' v' = put (put fr d' v') d v:=by
 cases d with
 | none=>rfl
 | some t =>
  cases d' with
  | none=>rfl
  | some t' =>
   have hne:t≠t':=fun e=>h t rfl (by rw [e])
   funext x
   show (if x = t' then v' else if x = t then v else fr x) = (if x = t then v else if x = t' then v' else fr x)
   by_cases h1:x = t <;> by_cases h2:x = t' <;> simp_all
theorem same_iff {st st':St} {r:Option AV} {v:AV} (h:same st r = some (v,st')):st' = st∧∀ s2,same s2 r = some (v,s2):=by
 obtain ⟨h1,h2⟩:=same_ok h
 exact ⟨h2,fun s2=>by simp [same,h1]⟩
theorem opA_calm {fr:Fr} {st st':St} {o:Oper} {v:AV} (hk:kindA A f fr o = 0) (h:opA P A f fr st o = some (v,st')):st' = st∧∀ s2,opA P A f fr s2 o = some (v,s2):=by
 obtain ⟨dst,op,type,pos,after,guard⟩:=o
 cases op <;> simp only [opA] at h ⊢ <;> try exact same_iff h
 case move x=>simp only [Option.some.injEq,Prod.mk.injEq] at h ⊢; exact ⟨h.2.symm,fun s2=>⟨h.1,trivial⟩⟩
 case assign x=>simp only [Option.some.injEq,Prod.mk.injEq] at h ⊢; exact ⟨h.2.symm,fun s2=>⟨h.1,trivial⟩⟩
 case load t x =>
  simp only [kindA] at hk
  split at hk
  ·rename_i cs off hx
   rw [hx] at h ⊢
   exact same_iff h
  ·cases hk
  ·cases hk
 case store t x y=>simp only [kindA] at hk; split at hk <;> cases hk
 case alloc t=>cases hk
 case box t x =>
  simp only [kindA] at hk
  cases dst with
  | some d =>
   simp only at h hk ⊢
   split at hk
   ·cases hk
   ·rename_i hb
    simp only [Bool.not_eq_true] at hb
    simp only [hb,boxA] at h ⊢
    split at h
    ·split at h
     ·rename_i hone
      simp only [Bool.false_eq_true,if_false,Option.some.injEq,Prod.mk.injEq] at h
      exact ⟨h.2.symm,fun s2=>by simp [hone,h.1]⟩
     ·cases h
    ·cases h
  | none=>cases hk
 case makeFunc fn first cap =>
  cases fn with
  | func g=>simp only [Option.some.injEq,Prod.mk.injEq] at h ⊢; exact ⟨h.2.symm,fun s2=>⟨h.1,trivial⟩⟩
  | _=>cases h
 case makeMap t r=>cases hk
 case makeSlice t l c=>cases hk
 case mapUpdate t m k v=>cases hk
 case lookup t m k ok=>cases ok <;> simp only at h ⊢ <;> first | exact same_iff h | cases h
 case typeAssert x xt t ok=>cases ok <;> simp only at h ⊢ <;> first | exact same_iff h | cases h
 case call c =>
  obtain ⟨callee,args,argTypes⟩:=c
  cases callee with
  | value x=>cases h
  | invoke r m=>cases h
  | builtin b =>
   obtain ⟨args⟩:=args
   obtain ⟨ts⟩:=argTypes
   cases b <;> try (cases h; done)
   ·cases hk
   ·rcases args with _ | ⟨x,_ | ⟨y,r⟩⟩ <;> rcases ts with _ | ⟨t,_ | ⟨t2,r2⟩⟩ <;> simp only at h ⊢ <;> first | exact same_iff h | cases h
 all_goals (cases h)
theorem opA_looks {fr:Fr} {st st':St} {o:Oper} {v:AV} {q:Option Nat} (hk:kindA A f fr o = .look q) (h:opA P A f fr st o = some (v,st')):st' = st:=by
 obtain ⟨dst,op,type,pos,after,guard⟩:=o
 cases op <;> simp only [kindA] at hk <;> try (cases hk; done)
 case load t x=>simp only [opA] at h; exact (same_ok h).2
 case store t x y=>split at hk <;> cases hk
 case box t x=>split at hk <;> (try split at hk) <;> cases hk
 case call c =>
  obtain ⟨callee,args,argTypes⟩:=c
  cases callee with
  | value x=>simp only [opA] at h; cases h
  | invoke r m=>cases hk
  | builtin b=>cases b <;> cases hk
theorem opA_look {fr:Fr} {st st':St} {o:Oper} {v:AV} {i:Nat} (hk:kindA A f fr o = .look (some i)) (h:opA P A f fr st o = some (v,st')):∀ s2:St,Kept st s2 i→opA P A f fr s2 o = some (v,s2):=by
 obtain ⟨dst,op,type,pos,after,guard⟩:=o
 cases op <;> simp only [kindA] at hk <;> try (cases hk; done)
 case load t x =>
  intro s2 hs
  simp only [opA] at h ⊢
  split at hk
  ·cases hk
  ·rename_i id off hx
   obtain rfl:id = i:=by simpa using hk
   rw [hx] at h ⊢
   obtain ⟨h1,h2⟩:=same_ok h
   have:loadA P s2 t (.ptr id off) = loadA P st t (.ptr id off):=by
    obtain ⟨v0,h3,_⟩:=Option.map_eq_some_iff.1 h1
    unfold loadA at h3
    simp only at h3
    split at h3
    ·rename_i T cs hst
     simp only [loadA,hst,hs (.cells T cs) (by simp) hst]
    ·rename_i T cs hst
     simp only [loadA,hst,hs (.arr T cs) (by simp) hst]
    ·cases h3
   rw [this]
   simp [same,h1]
  ·cases hk
 case store t x y=>split at hk <;> cases hk
 case box t x=>split at hk <;> (try split at hk) <;> cases hk
 case call c =>
  obtain ⟨callee,args,argTypes⟩:=c
  cases callee with
  | value x=>simp only [opA] at h; cases h
  | invoke r m=>cases hk
  | builtin b=>cases b <;> cases hk
theorem opA_put {fr:Fr} {st st':St} {o:Oper} {v:AV} {i:Nat} (hk:kindA A f fr o = .put i) (h:opA P A f fr st o = some (v,st')):∃ q,st' = st.set i q∧∀ s2:St,s2[i]? = st[i]?→opA P A f fr s2 o = some (v,s2.set i q):=by
 obtain ⟨dst,op,type,pos,after,guard⟩:=o
 cases op <;> simp only [kindA] at hk <;> try (cases hk; done)
 case load t x=>split at hk <;> cases hk
 case store t x y =>
  split at hk
  ·rename_i id off hx
   obtain rfl:id = i:=by simpa using hk
   simp only [opA,hx,Option.map_eq_some_iff,Prod.mk.injEq] at h ⊢
   obtain ⟨s,hs,rfl,rfl⟩:=h
   unfold storeA at hs
   split at hs
   ·rename_i id' off' vs n hu hvs hn
    simp only [AV.ptr.injEq] at hu
    obtain ⟨rfl,rfl⟩:=hu
    split at hs
    ·rename_i T cs hst
     split at hs
     ·rename_i hc
      simp only [Option.some.injEq] at hs
      refine ⟨_,hs.symm,fun s2 h2=>⟨_,?_,rfl,rfl⟩⟩
      simp only [storeA,hvs,hn,h2,hst,if_pos hc]
     ·cases hs
    ·rename_i T cs hst
     split at hs
     ·rename_i hc
      simp only [Option.some.injEq] at hs
      refine ⟨_,hs.symm,fun s2 h2=>⟨_,?_,rfl,rfl⟩⟩
      simp only [storeA,hvs,hn,h2,hst,if_pos hc]
     ·cases hs
    ·cases hs
   ·cases hs
  ·cases hk
 case box t x=>split at hk <;> (try split at hk) <;> cases hk
 case call c =>
  obtain ⟨callee,args,argTypes⟩:=c
  cases callee with
  | value x=>simp only [opA] at h; cases h
  | invoke r m=>cases hk
  | builtin b=>cases b <;> cases hk
end
end Go.AM
end
section
namespace Go.AM
open Go
section
variable {P:Program} {A:Ann} {f:FuncId} {ops:Array Oper}
theorem kind_keep {fr:Fr} {o:Oper} {l:List Nat} (h:kindA A f fr o = .keep l):l = []:=by
 obtain ⟨dst,op,type,pos,after,guard⟩:=o
 cases op <;> simp only [kindA] at h
 case load t x=>split at h <;> cases h
 case store t x y=>split at h <;> cases h; rfl
 case box t x=>split at h <;> (try split at h) <;> cases h <;> rfl
 case call c =>
  obtain ⟨callee,args,argTypes⟩:=c
  cases callee with
  | value x=>cases h; rfl
  | invoke r m=>cases h; rfl
  | builtin b=>cases b <;> cases h <;> rfl
 all_goals (cases h <;> rfl)
theorem step_calm {fr:Fr} {st s':St} {o:Oper} {v:AV} {k:Kd} (h:StepR P A f ops fr st o v s' k) (hk:k = .calm):s' = st∧∀ s2,StepR P A f ops fr s2 o v s2 .calm:=by
 cases h with
 | skip hw=>exact ⟨rfl,fun s2=>.skip hw⟩
 | op hw hc hop =>
  obtain ⟨h1,h2⟩:=opA_calm hk hop
  exact ⟨h1,fun s2=>hk ▸ .op hw hc (h2 s2)⟩
 | opk l hw hc hop hl=>cases hk
 | pure hw hc hr=>exact ⟨rfl,fun s2=>.pure hw hc hr⟩
 | look hw hc hr=>cases hk
 | call l hw hc hr hl=>cases hk
 | new i l hw hi hn hl=>cases hk
theorem step_looks {fr:Fr} {st s':St} {o:Oper} {v:AV} {q:Option Nat} {k:Kd} (h:StepR P A f ops fr st o v s' k) (hk:k = .look q):s' = st:=by
 cases h with
 | skip hw=>rfl
 | op hw hc hop=>exact opA_looks hk hop
 | opk l hw hc hop hl=>cases hk
 | pure hw hc hr=>rfl
 | look hw hc hr=>rfl
 | call l hw hc hr hl=>cases hk
 | new i l hw hi hn hl=>cases hk
theorem step_look {fr:Fr} {st s':St} {o:Oper} {v:AV} {i:Nat} {k:Kd} (h:StepR P A f ops fr st o v s' k) (hk:k = .look (some i)):∀ s2:St,Kept st s2 i→StepR P A f ops fr s2 o v s2 (.look (some i)):=by
 intro s2 hs
 cases h with
 | skip hw=>cases hk
 | op hw hc hop=>exact hk ▸ .op hw hc (opA_look hk hop s2 hs)
 | opk l hw hc hop hl=>cases hk
 | pure hw hc hr=>cases hk
 | look hw hc hr=>cases hk
 | call l hw hc hr hl=>cases hk
 | new i l hw hi hn hl=>cases hk
theorem step_put {fr:Fr} {st s':St} {o:Oper} {v:AV} {i:Nat} {k:Kd} (h:StepR P A f ops fr st o v s' k) (hk:k = .put i):∃ q,s' = st.set i q∧∀ s2:St,s2[i]? = st[i]?→StepR P A f ops fr s2 o v (s2.set i q) (.put i):=by
 cases h with
 | skip hw=>cases hk
 | op hw hc hop =>
  obtain ⟨q,h1,h2⟩:=opA_put hk hop
  exact ⟨q,h1,fun s2 hs=>hk ▸ .op hw hc (h2 s2 hs)⟩
 | opk l hw hc hop hl=>cases hk
 | pure hw hc hr=>cases hk
 | look hw hc hr=>cases hk
 | call l hw hc hr hl=>cases hk
 | new i l hw hi hn hl=>cases hk
theorem step_keep {fr:Fr} {st s':St} {o:Oper} {v:AV} {l:List Nat} {k:Kd} (h:StepR P A f ops fr st o v s' k) (hk:k = .keep l):∀ i ∈ l,s'[i]? = st[i]?:=by
 cases h with
 | skip hw=>cases hk
 | op hw hc hop=>rw [kind_keep hk]; intro i hi; cases hi
 | opk l' hw hc hop hl=>cases hk; exact hl
 | pure hw hc hr=>cases hk
 | look hw hc hr=>cases hk
 | call l' hw hc hr hl=>cases hk; exact hl
 | new i l hw hi hn hl=>cases hk
theorem Kept.of_eq {s s':St} {a:Nat} (h:s'[a]? = s[a]?):Kept s s' a:=fun _ _ ho=>h.trans ho
theorem fill_at (st:St) (i k:Nat) (o:AO):(fill st i o)[k]? = if k = i then some o else if k < st.length then st[k]? else if k < i then some .hole else none:=by
 by_cases h:k = i
 ·rw [if_pos h,h,fill_same]
 ·rw [if_neg h]
  by_cases hk:k < st.length
  ·rw [if_pos hk,List.getElem?_eq_getElem hk]
   exact fill_old h (List.getElem?_eq_getElem hk)
  ·rw [if_neg hk]
   unfold fill
   by_cases hi:i < st.length
   ·rw [if_pos hi,if_neg (by omega),List.getElem?_eq_none (by simp; omega)]
   ·rw [if_neg hi,List.getElem?_append_right (by omega)]
    by_cases hki:k < i
    ·rw [if_pos hki,List.getElem?_append_left (by simp; omega),List.getElem?_replicate,if_pos (by omega)]
    ·rw [if_neg hki,List.getElem?_eq_none (by simp; omega)]
theorem fill_length (st:St) (i:Nat) (o:AO):(fill st i o).length = max st.length (i + 1):=by
 unfold fill
 split <;> simp <;> omega
theorem fill_comm {st:St} {i j:Nat} {a b:AO} (h:i≠j):fill (fill st i a) j b = fill (fill st j b) i a:=by
 apply List.ext_getElem?
 intro k
 simp only [fill_at,fill_length]
 by_cases h1:k = i
 ·have:k≠j:=by omega
  simp only [h1,if_true,if_neg h]
  split <;> (try split) <;> first | rfl | omega
 ·by_cases h2:k = j
  ·simp only [h2,if_true,if_neg (Ne.symm h)]
   split <;> (try split) <;> first | rfl | omega
  ·simp only [if_neg h1,if_neg h2]
   by_cases h3:k < st.length
   ·rw [if_pos (by omega),if_pos h3,if_pos (by omega),if_pos h3]
   ·simp only [if_neg h3]
    split <;> split <;> (try split) <;> (try split) <;> first | rfl | omega
theorem fill_set {st:St} {i k:Nat} {a x:AO} (h:k≠i) (hk:k < st.length):(fill st i a).set k x = fill (st.set k x) i a:=by
 apply List.ext_getElem?
 intro m
 rw [List.getElem?_set,fill_at,fill_at,List.getElem?_set,List.length_set,fill_length]
 by_cases h1:k = m
 ·subst h1
  rw [if_pos rfl,if_pos (by omega),if_neg h,if_pos hk,if_pos rfl,if_pos hk]
 ·rw [if_neg h1,if_neg h1]
theorem fresh_fill' {st:St} {i j:Nat} {o:AO} (h:Fresh st i) (hj:i≠j):Fresh (fill st j o) i:=fun y hy=>by
 rcases fill_get hy with ⟨e,_⟩ | ⟨_,h1 | ⟨_,h1⟩⟩
 ·exact absurd e hj
 ·exact h y h1
 ·exact h1
theorem Kept.fill {s s':St} {a j:Nat} {c:AO} (h:Kept s s' a):Kept (fill s j c) (fill s' j c) a:=fun o ho h1=>by
 rcases fill_get h1 with ⟨rfl,rfl⟩ | ⟨hne,h1 | ⟨_,rfl⟩⟩
 ·exact fill_same ..
 ·exact fill_old hne (h o ho h1)
 ·exact absurd rfl ho
theorem Kept.unfill {s s':St} {a j:Nat} {c:AO} (hf:Fresh s j) (h:Kept (Go.AM.fill s j c) (Go.AM.fill s' j c) a):Kept s s' a:=fun o ho h1=>by
 by_cases hne:a = j
 ·subst hne
  exact absurd (hf o h1) ho
 ·rcases fill_get (h o ho (fill_old hne h1)) with ⟨e,_⟩ | ⟨_,h2 | ⟨_,rfl⟩⟩
  ·exact absurd e hne
  ·exact h2
  ·exact absurd rfl ho
theorem alloc_spec {st st':St} {i:Nat} {t:TypeId} {v:AV} (h:allocI P st i t = some (v,st')):∃ c:AO,c≠.hole∧c.alive∧(∀ T,c≠.live T)∧st' = fill st i c∧∀ s,allocI P s i t = some (v,fill s i c):=by
 unfold allocI at h ⊢
 split at h
 ·rename_i cs hcs
  split at h
  ·rename_i ho
   simp only [Option.some.injEq,Prod.mk.injEq] at h
   obtain ⟨rfl,rfl⟩:=h
   exact ⟨.cells t cs,by simp,trivial,by simp,rfl,fun s=>by rw [if_pos ho]⟩
  ·cases h
 ·cases h
theorem grow_spec {st st':St} {i n:Nat} {e:TypeId} {xs ys:List AV} {sp:Spare} {v:AV} (h:growI e n st i xs ys sp = some (v,st')) :
  (st' = st∧(∀ i',growI e n st i' xs ys sp = some (v,st))∧(∀ i' j c,Fresh st j→growI e n (fill st j c) i' xs ys sp = some (v,fill st j c))∧∀ i' j c s,(∀ T,c≠.live T)→st = fill s j c→Fresh s j→growI e n s i' xs ys sp = some (v,s)) ∨
  ∃ T1,(st' = fill st i (.live T1)∧∀ s,growI e n s i xs ys sp = some (v,fill s i (.live T1))) ∨
   (∃ k T,st[k]? = some (.live T)∧st' = fill (st.set k .dead) i (.live T1)∧∀ s,s[k]? = some (.live T)→growI e n s i xs ys sp = some (v,fill (s.set k .dead) i (.live T1))):=by
 cases sp with
 | full =>
  simp only [growI] at h ⊢
  by_cases hy:ys.isEmpty = true
  ·simp only [if_pos hy,Option.some.injEq,Prod.mk.injEq] at h ⊢
   obtain ⟨rfl,rfl⟩:=h
   exact .inl ⟨rfl,by simp,by simp,by simp⟩
  ·simp only [if_neg hy,Option.some.injEq,Prod.mk.injEq] at h ⊢
   obtain ⟨rfl,rfl⟩:=h
   exact .inr ⟨_,.inl ⟨rfl,by simp⟩⟩
 | nil =>
  simp only [growI] at h ⊢
  by_cases hy:ys.isEmpty = true
  ·simp only [if_pos hy,Option.some.injEq,Prod.mk.injEq] at h ⊢
   obtain ⟨rfl,rfl⟩:=h
   exact .inl ⟨rfl,by simp,by simp,by simp⟩
  ·simp only [if_neg hy,Option.some.injEq,Prod.mk.injEq] at h ⊢
   obtain ⟨rfl,rfl⟩:=h
   exact .inr ⟨_,.inl ⟨rfl,by simp⟩⟩
 | tok k =>
  simp only [growI] at h ⊢
  split at h
  ·rename_i T hk
   simp only [Option.some.injEq,Prod.mk.injEq] at h
   obtain ⟨rfl,rfl⟩:=h
   exact .inr ⟨_,.inr ⟨k,T,hk,rfl,fun s hs=>by simp only [hs]⟩⟩
  ·cases h
 | room k m =>
  simp only [growI] at h ⊢
  split at h
  ·rename_i T hk
   by_cases hm:m = n
   ·simp only [if_pos hm] at h ⊢
    by_cases hy:ys.isEmpty = true
    ·simp only [if_pos hy,Option.some.injEq,Prod.mk.injEq] at h ⊢
     obtain ⟨rfl,rfl⟩:=h
     refine .inl ⟨rfl,fun _=>by simp,fun i' j c hj=>?_,fun i' j c s hc hs hj=>?_⟩
     ·have hkj:k≠j:=fun e=>alive_not_fresh hk trivial (e ▸ hj)
      simp only [fill_old hkj hk]
     ·subst hs
      rcases fill_alive hk trivial with ⟨_,e⟩ | ⟨_,hk'⟩
      ·exact absurd e.symm (hc T)
      ·simp only [hk']
    ·simp only [if_neg hy,Option.some.injEq,Prod.mk.injEq] at h ⊢
     obtain ⟨rfl,rfl⟩:=h
     exact .inr ⟨_,.inr ⟨k,T,hk,rfl,fun s hs=>by simp only [hs]⟩⟩
   ·simp only [if_neg hm] at h
    cases h
  ·cases h
 | shut=>cases h
theorem append_grow {st st':St} {i:Nat} {t t2:TypeId} {u src v:AV} (h:appendI P st i t t2 u src = some (v,st')) :
  ∃ e n xs ys sp,growI e n st i xs ys sp = some (v,st')∧∀ s i',appendI P s i' t t2 u src = growI e n s i' xs ys sp:=by
 unfold appendI at h ⊢
 split at h
 ·rename_i xs sp e he
  split at h
  ·rename_i ys n ut h1 h2 h3
   split at h
   ·rename_i hc
    exact ⟨e,n,xs,ys,sp,h,fun s i'=>by simp only [if_pos hc]⟩
   ·cases h
  ·cases h
 ·cases h
theorem app_alloc {st s1 s2:St} {i j:Nat} {t t2 t3:TypeId} {u src v v':AV} (hi:Fresh st i) (hx:appendI P st i t t2 u src = some (v,s1)) (hj:Fresh s1 j) (hy:allocI P s1 j t3 = some (v',s2)) :
  ∃ c i',c≠.hole∧Fresh st j∧s2 = fill s1 j c∧allocI P st j t3 = some (v',fill st j c)∧Fresh (fill st j c) i'∧appendI P (fill st j c) i' t t2 u src = some (v,s2):=by
 obtain ⟨c,hc,hca,hcl,rfl,hya⟩:=alloc_spec hy
 obtain ⟨e,n,xs,ys,sp,hg,ha⟩:=append_grow hx
 rcases grow_spec hg with ⟨rfl,_,h2,_⟩ | ⟨T1,⟨rfl,h2⟩ | ⟨k,T,hk,rfl,h2⟩⟩
 ·exact ⟨c,_,hc,hj,rfl,hya _,fresh_len _,by rw [ha]; exact h2 _ j c hj⟩
 ·have hij:j≠i:=fun e=>alive_not_fresh (fill_same ..) (show AO.alive (.live T1) from trivial) (e ▸ hj)
  exact ⟨c,i,hc,fresh_fill hj hij,rfl,hya _,fresh_fill' hi (Ne.symm hij),by rw [ha,h2,fill_comm hij]⟩
 ·have hij:j≠i:=fun e=>alive_not_fresh (fill_same ..) (show AO.alive (.live T1) from trivial) (e ▸ hj)
  have hf:=fresh_fill hj hij
  have hkl:k < st.length:=(List.getElem?_eq_some_iff.1 hk).1
  have hf2:Fresh st j:=fun y hy=>by
   by_cases hjk:k = j
   ·subst hjk
    have:=hf .dead (by rw [List.getElem?_set,if_pos rfl,if_pos hkl])
    cases this
   ·exact hf y (by rw [List.getElem?_set,if_neg hjk]; exact hy)
  have hkj:k≠j:=fun e=>alive_not_fresh hk trivial (e ▸ hf2)
  exact ⟨c,i,hc,hf2,rfl,hya _,fresh_fill' hi (Ne.symm hij),by rw [ha,h2 _ (fill_old hkj hk),fill_set hkj hkl,fill_comm hij]⟩
theorem alloc_app {st s1 s2:St} {i j:Nat} {t t2 t3:TypeId} {u src v v':AV} (hi:Fresh st i) (hx:allocI P st i t3 = some (v',s1)) (hj:Fresh s1 j) (hy:appendI P s1 j t t2 u src = some (v,s2)) :
  ∃ c s1',c≠.hole∧Fresh st j∧s1 = fill st i c∧s2 = fill s1' i c∧appendI P st j t t2 u src = some (v,s1')∧Fresh s1' i∧allocI P s1' i t3 = some (v',s2):=by
 obtain ⟨c,hc,hca,hcl,rfl,hxa⟩:=alloc_spec hx
 obtain ⟨e,n,xs,ys,sp,hg,ha⟩:=append_grow hy
 have hij:j≠i:=fun e=>alive_not_fresh (fill_same ..) hca (e ▸ hj)
 have hf:=fresh_fill hj hij
 rcases grow_spec hg with ⟨rfl,_,_,h2⟩ | ⟨T1,⟨rfl,h2⟩ | ⟨k,T,hk,rfl,h2⟩⟩
 ·exact ⟨c,st,hc,hf,rfl,rfl,by rw [ha]; exact h2 _ i c st hcl rfl hi,hi,hxa _⟩
 ·exact ⟨c,_,hc,hf,rfl,fill_comm (Ne.symm hij),by rw [ha,h2],fresh_fill' hi (Ne.symm hij),by rw [hxa,fill_comm (Ne.symm hij)]⟩
 ·rcases fill_alive hk trivial with ⟨_,e⟩ | ⟨hki,hk'⟩
  ·exact absurd e.symm (hcl T)
  ·have hkl:k < st.length:=(List.getElem?_eq_some_iff.1 hk').1
   have e:fill ((fill st i c).set k .dead) j (.live T1) = fill (fill (st.set k .dead) j (.live T1)) i c:=by rw [fill_set hki hkl,fill_comm (Ne.symm hij)]
   exact ⟨c,_,hc,hf,rfl,e,by rw [ha,h2 _ hk'],fresh_fill' (fresh_set hi (Ne.symm hki)) (Ne.symm hij),by rw [hxa,e]⟩
theorem alloc_alloc {st s1 s2:St} {i j:Nat} {t t3:TypeId} {v v':AV} (hi:Fresh st i) (hx:allocI P st i t3 = some (v',s1)) (hj:Fresh s1 j) (hy:allocI P s1 j t = some (v,s2)) :
  ∃ c d,c≠.hole∧d≠.hole∧Fresh st j∧i≠j∧s1 = fill st i c∧s2 = fill (fill st j d) i c∧allocI P st j t = some (v,fill st j d)∧Fresh (fill st j d) i∧allocI P (fill st j d) i t3 = some (v',s2):=by
 obtain ⟨c,hc,hca,_,rfl,hxa⟩:=alloc_spec hx
 obtain ⟨d,hd,hda,_,rfl,hya⟩:=alloc_spec hy
 have hij:j≠i:=fun e=>alive_not_fresh (fill_same ..) hca (e ▸ hj)
 exact ⟨c,d,hc,hd,fresh_fill hj hij,Ne.symm hij,rfl,fill_comm (Ne.symm hij),hya _,fresh_fill' hi (Ne.symm hij),by rw [hxa,fill_comm (Ne.symm hij)]⟩
theorem kept_alloc {s:St} {i a:Nat} {c:AO} (h:a≠i):Kept s (fill s i c) a∧Kept (fill s i c) s a :=
 ⟨fun o _ ho=>fill_old h ho,fun o hn ho=>by
  rcases fill_get ho with ⟨e,_⟩ | ⟨_,h1 | ⟨_,rfl⟩⟩
  ·exact absurd e h
  ·exact h1
  ·exact absurd rfl hn⟩
theorem kept_ne {s:St} {i a:Nat} {c:AO} (hc:c≠.hole) (hf:Fresh s i) (h:Kept (fill s i c) s a):a≠i:=fun e=>by
 subst e
 exact hc (hf c (h c hc (fill_same ..)))
theorem new_swap {x y:Oper} {fr:Fr} {st s1 s2:St} {vx vy:AV} {a b:Bool} {lx ly:List Nat} (hx:StepR P A f ops fr st x vx s1 (.new a lx)) (hy:StepR P A f ops fr s1 y vy s2 (.new b ly)) (hab:(a && b) = false) :
  ∃ s1',StepR P A f ops fr st y vy s1' (.new b ly)∧StepR P A f ops fr s1' x vx s2 (.new a lx):=by
 generalize hkx:Kd.new a lx = kx at hx
 generalize hky:Kd.new b ly = ky at hy
 cases hx with
 | new i l hw hi hn hl =>
  cases hkx
  cases hy with
  | new j m hw' hj hn' hm =>
   cases hky
   cases hn with
   | alloc ho h =>
    cases hn' with
    | alloc ho' h' =>
     obtain ⟨c,d,hc,hd,hf,hij,rfl,rfl,h3,h4,h5⟩:=alloc_alloc hi h hj h'
     refine ⟨_,.new j ly hw' hf (.alloc ho' h3) fun q hq=>kept_alloc ?_,.new i lx hw h4 (.alloc ho h5) fun q hq=>kept_alloc (kept_ne hc hi (hl q hq).2)⟩
     have h6:=(hm q hq).2
     rw [← fill_comm hij] at h6
     exact kept_ne hd hj h6
    | app ho' h' =>
     obtain ⟨c,s1',hc,hf,rfl,rfl,h3,h4,h5⟩:=alloc_app hi h hj h'
     exact ⟨_,.new j ly hw' hf (.app ho' h3) fun q hq=>⟨(hm q hq).1.unfill hi,(hm q hq).2.unfill h4⟩,.new i lx hw h4 (.alloc ho h5) fun q hq=>kept_alloc (kept_ne hc hi (hl q hq).2)⟩
   | app ho h =>
    cases hn' with
    | alloc ho' h' =>
     obtain ⟨c,i',hc,hf,rfl,h3,h4,h5⟩:=app_alloc hi h hj h'
     exact ⟨_,.new j ly hw' hf (.alloc ho' h3) fun q hq=>kept_alloc (kept_ne hc hj (hm q hq).2),.new i' lx hw h4 (.app ho h5) fun q hq=>⟨(hl q hq).1.fill,(hl q hq).2.fill⟩⟩
    | app ho' h'=>simp at hab
  | op hw' hc hop =>
   unfold kindA at hky
   repeat' split at hky
   all_goals cases hky
  | _=>cases hky
 | op hw hc hop =>
  unfold kindA at hkx
  repeat' split at hkx
  all_goals cases hkx
 | _=>cases hkx
theorem step_new_keep {fr:Fr} {st s':St} {o:Oper} {v:AV} {T:Bool} {l:List Nat} (h:StepR P A f ops fr st o v s' (.new T l)):∀ a ∈ l,Kept st s' a∧Kept s' st a:=by
 generalize hk:Kd.new T l = k at h
 cases h with
 | new i l hw hi hn hl=>cases hk; exact hl
 | op hw hc hop =>
  unfold kindA at hk
  repeat' split at hk
  all_goals cases hk
 | _=>cases hk
theorem swap_ok {x y:Oper} {fr:Fr} {st s1 s2:St} {vx vy:AV} {j k:Kd} (hx:StepR P A f ops fr st x vx s1 j) (hy:StepR P A f ops (put fr x.dst vx) s1 y vy s2 k)
  (hfr:free ops x y j k = true):∃ s1',StepR P A f ops fr st y vy s1' k∧StepR P A f ops (put fr y.dst vy) s1' x vx s2 j∧put (put fr x.dst vx) y.dst vy = put (put fr y.dst vy) x.dst vx:=by
 simp only [free,Bool.and_eq_true,Bool.not_eq_true'] at hfr
 obtain ⟨ha,hcl⟩:=hfr
 obtain ⟨a1,a2,a3⟩:=Oper.apart_spec ha
 rw [step_put_iff a1] at hy
 have e1:∀ s s',StepR P A f ops (put fr y.dst vy) s x vx s' j ↔ StepR P A f ops fr s x vx s' j:=fun s s'=>step_put_iff a3
 have e2:=put_comm (fr:=fr) (v:=vx) (v':=vy) a2
 cases j with
 | calm =>
  obtain ⟨rfl,h2⟩:=step_calm hx rfl
  exact ⟨s2,hy,(e1 _ _).2 (h2 s2),e2⟩
 | look p =>
  cases k with
  | calm =>
   obtain ⟨rfl,h2⟩:=step_calm hy rfl
   exact ⟨st,h2 st,(e1 _ _).2 hx,e2⟩
  | look q =>
   obtain rfl:=step_looks hx rfl
   obtain rfl:=step_looks hy rfl
   exact ⟨_,hy,(e1 _ _).2 hx,e2⟩
  | put b =>
   cases p with
   | none=>simp [clash] at hcl
   | some a =>
    have hne:a≠b:=by simpa [clash] using hcl
    obtain rfl:=step_looks hx rfl
    obtain ⟨q,rfl,h2⟩:=step_put hy rfl
    exact ⟨_,hy,(e1 _ _).2 (step_look hx rfl _ (.of_eq (by rw [List.getElem?_set_ne (Ne.symm hne)]))),e2⟩
  | keep l =>
   cases p with
   | none=>simp [clash] at hcl
   | some a =>
    have hm:a ∈ l:=by simpa [clash] using hcl
    obtain rfl:=step_looks hx rfl
    exact ⟨_,hy,(e1 _ _).2 (step_look hx rfl _ (.of_eq (step_keep hy rfl a hm))),e2⟩
  | new T l =>
   cases p with
   | none=>simp [clash] at hcl
   | some a =>
    have hm:a ∈ l:=by simpa [clash] using hcl
    obtain rfl:=step_looks hx rfl
    exact ⟨_,hy,(e1 _ _).2 (step_look hx rfl _ (step_new_keep hy a hm).1),e2⟩
 | put a =>
  cases k with
  | calm =>
   obtain ⟨rfl,h2⟩:=step_calm hy rfl
   exact ⟨st,h2 st,(e1 _ _).2 hx,e2⟩
  | look q =>
   cases q with
   | none=>simp [clash] at hcl
   | some b =>
    have hne:a≠b:=by simpa [clash] using hcl
    obtain ⟨q,rfl,h2⟩:=step_put hx rfl
    obtain rfl:=step_looks hy rfl
    exact ⟨st,step_look hy rfl st (.of_eq (by rw [List.getElem?_set_ne hne])),(e1 _ _).2 hx,e2⟩
  | put b =>
   have hne:a≠b:=by simpa [clash] using hcl
   obtain ⟨q,rfl,h2⟩:=step_put hx rfl
   obtain ⟨r,rfl,h3⟩:=step_put hy rfl
   refine ⟨st.set b r,h3 st (by rw [List.getElem?_set_ne hne]),?_,e2⟩
   have:=h2 (st.set b r) (by rw [List.getElem?_set_ne (Ne.symm hne)])
   rw [List.set_comm _ _ (Ne.symm hne)] at this
   exact (e1 _ _).2 this
  | keep l=>simp [clash] at hcl
  | new T l=>simp [clash] at hcl
 | keep l =>
  cases k with
  | calm =>
   obtain ⟨rfl,h2⟩:=step_calm hy rfl
   exact ⟨st,h2 st,(e1 _ _).2 hx,e2⟩
  | look q =>
   cases q with
   | none=>simp [clash] at hcl
   | some b =>
    have hm:b ∈ l:=by simpa [clash] using hcl
    obtain rfl:=step_looks hy rfl
    exact ⟨st,step_look hy rfl st (.of_eq (step_keep hx rfl b hm).symm),(e1 _ _).2 hx,e2⟩
  | put b=>simp [clash] at hcl
  | keep m=>simp [clash] at hcl
  | new T m=>simp [clash] at hcl
 | new T l =>
  cases k with
  | calm =>
   obtain ⟨rfl,h2⟩:=step_calm hy rfl
   exact ⟨st,h2 st,(e1 _ _).2 hx,e2⟩
  | look q =>
   cases q with
   | none=>simp [clash] at hcl
   | some b =>
    have hm:b ∈ l:=by simpa [clash] using hcl
    obtain rfl:=step_looks hy rfl
    exact ⟨st,step_look hy rfl st (step_new_keep hx b hm).2,(e1 _ _).2 hx,e2⟩
  | put b=>simp [clash] at hcl
  | keep m=>simp [clash] at hcl
  | new T' m =>
   obtain ⟨s1',h1,h2⟩:=new_swap hx hy (by simpa [clash] using hcl)
   exact ⟨s1',h1,(e1 _ _).2 h2,e2⟩
theorem run_length {l:List Oper} {fr fr':Fr} {st st':St} {ks:List Kd} (h:RunR P A f ops l fr st fr' st' ks):ks.length = l.length:=by
 induction h with
 | nil=>rfl
 | cons _ _ ih=>simp [ih]
theorem front_ok {o:Oper} {k:Kd}:(l1 l2:List Oper)→(k1 k2:List Kd)→k1.length = l1.length→∀ (fr fr':Fr) (st st':St),
  RunR P A f ops (l1 ++ o :: l2) fr st fr' st' (k1 ++ k :: k2)→(∀ p ∈ l1.zip k1,free ops p.1 o p.2 k = true)→RunR P A f ops (o :: (l1 ++ l2)) fr st fr' st' (k :: (k1 ++ k2))
 | [],l2,k1,k2,hl,fr,fr',st,st',h,_=>by
  have:k1 = []:=List.eq_nil_of_length_eq_zero hl
  subst this
  simpa using h
 | x :: l1,l2,k1,k2,hl,fr,fr',st,st',h,hfr=>by
  cases k1 with
  | nil=>simp at hl
  | cons j k1 =>
   simp only [List.cons_append] at h ⊢
   cases h with
   | cons hx hr =>
    have ih:=front_ok l1 l2 k1 k2 (by simpa using hl) _ _ _ _ hr (fun p hp=>hfr p (by simp [hp]))
    cases ih with
    | cons ho hr2 =>
     obtain ⟨s3,h1,h2,h3⟩:=swap_ok hx ho (hfr (x,j) (by simp))
     rw [h3] at hr2
     exact .cons h1 (.cons h2 hr2)
theorem run_apart {d:Option Tmp} {v:AV}:{l:List Oper}→{fr fr':Fr}→{st st':St}→{ks:List Kd}→RunR P A f ops l fr st fr' st' ks→(∀ p ∈ l,(∀ t,d = some t→t ∉ p.looksAt ops)∧∀ t,d = some t→p.dst≠some t) →
  RunR P A f ops l (put fr d v) st (put fr' d v) st' ks
 | _,_,_,_,_,_,.nil,_=>.nil
 | _,_,_,_,_,_,.cons (o:=o) hx hr,hp=>by
  have h1:=hp o (by simp)
  refine .cons ((step_put_iff h1.1).2 hx) ?_
  have:=run_apart (v:=v) hr (fun p hq=>hp p (by simp [hq]))
  rwa [put_comm (fun t ht h=>h1.2 t h ht)] at this
theorem looks_still:{l:List Oper}→{fr fr':Fr}→{st st':St}→{ks:List Kd}→RunR P A f ops l fr st fr' st' ks→(∀ k ∈ ks,clash k (.look none) = false)→st' = st
 | _,_,_,_,_,_,.nil,_=>rfl
 | _,_,_,_,_,_,.cons (k:=k) hx hr,hk=>by
  have h1:=looks_still hr (fun k hq=>hk k (by simp [hq]))
  subst h1
  have h2:=hk k (by simp)
  cases k with
  | calm=>exact (step_calm hx rfl).1
  | look q=>exact step_looks hx rfl
  | put i=>simp [clash] at h2
  | keep l=>simp [clash] at h2
  | new T l=>simp [clash] at h2
end
end Go.AM
end
section
namespace Go.AM
open Go
section
variable {P:Program} {A:Ann} {f:FuncId} {ops:Array Oper}
theorem edgeMask_bit {acc:List Nat} {x:Nat}:(l:List Edge)→(edgeMask acc l).testBit x = true→∃ e ∈ l,Region.binds .any e = true∧(e.on = x∨(acc.getD e.on 0).testBit x = true)
 | [],h=>by simp [edgeMask] at h
 | e :: r,h=>by
  unfold edgeMask at h
  split at h
  ·rename_i hb
   simp only [Nat.testBit_or,Bool.or_eq_true,Nat.testBit_two_pow,decide_eq_true_eq] at h
   rcases h with h | h | h
   ·obtain ⟨e',h1,h2⟩:=edgeMask_bit r h
    exact ⟨e',by simp [h1],h2⟩
   ·exact ⟨e,by simp,hb,.inl h⟩
   ·exact ⟨e,by simp,hb,.inr h⟩
  ·obtain ⟨e',h1,h2⟩:=edgeMask_bit r h
   exact ⟨e',by simp [h1],h2⟩
theorem masks_prefix:(l:List Oper)→(acc:List Nat)→∃ r,masks l acc = acc ++ r∧r.length = l.length
 | [],acc=>⟨[],by simp [masks]⟩
 | o :: l,acc=>by
  obtain ⟨r,h,hl⟩:=masks_prefix l (acc ++ [edgeMask acc o.after.toList])
  exact ⟨edgeMask acc o.after.toList :: r,by simp [masks,h],by simp [hl]⟩
theorem masks_at:(l:List Oper)→(acc:List Nat)→∀ (j:Nat) o,l[j]? = some o→∀ x,((masks l acc).getD (acc.length + j) 0).testBit x = true →
  ∃ e ∈ o.after.toList,Region.binds .any e = true∧(e.on = x∨((masks l acc).getD e.on 0).testBit x = true)
 | [],acc,j,o,hj,_,_=>by simp at hj
 | o' :: l,acc,0,o,hj,x,hx=>by
  simp at hj
  subst hj
  obtain ⟨r,h,_⟩:=masks_prefix l (acc ++ [edgeMask acc o'.after.toList])
  have hm:masks (o' :: l) acc = acc ++ edgeMask acc o'.after.toList :: r:=by simp [masks,h]
  rw [hm] at hx
  simp [List.getD_eq_getElem?_getD] at hx
  obtain ⟨e,h1,h2,h3⟩:=edgeMask_bit _ hx
  refine ⟨e,h1,h2,?_⟩
  rcases h3 with h3 | h3
  ·exact .inl h3
  ·refine .inr ?_
   rw [hm]
   rcases Nat.lt_or_ge e.on acc.length with hlt | hge
   ·simpa [List.getD_eq_getElem?_getD,List.getElem?_append_left hlt] using h3
   ·rw [List.getD_eq_getElem?_getD,List.getElem?_eq_none hge] at h3
    simp at h3
 | o' :: l,acc,j + 1,o,hj,x,hx=>by
  have hj':l[j]? = some o:=by simpa using hj
  have hm:masks (o' :: l) acc = masks l (acc ++ [edgeMask acc o'.after.toList]):=rfl
  rw [hm] at hx ⊢
  exact masks_at l _ j o hj' x (by
   have e:(acc ++ [edgeMask acc o'.after.toList]).length + j = acc.length + (j + 1):=by simp; omega
   rw [e]; exact hx)
theorem pairOk_at {m:Nat} {y:Oper} {k:Kd}:(l:List (Oper × Kd))→(i:Nat)→pairOk ops m y k l i = true→∀ (p:Nat) q,l[p]? = some q→m.testBit (i + p) = true∨free ops q.1 y q.2 k = true
 | [],i,_,p,q,hp=>by simp at hp
 | (x,j) :: r,i,h,p,q,hp=>by
  simp only [pairOk,Bool.and_eq_true,Bool.or_eq_true] at h
  cases p with
  | zero=>simp at hp; subst hp; simpa using h.1
  | succ p =>
   have:=pairOk_at r (i + 1) h.2 p q (by simpa using hp)
   have e:i + 1 + p = i + (p + 1):=by omega
   rwa [e] at this
theorem orderGo_at:(r:List (Oper × Kd))→(ms:List Nat)→(done:List (Oper × Kd))→r.length≤ms.length→orderGo ops r ms done = true →
  ∀ (j:Nat) y k,r[j]? = some (y,k)→∀ (p:Nat) q,(done ++ r)[p]? = some q→p < done.length + j→(ms.getD j 0).testBit p = true∨free ops q.1 y q.2 k = true
 | [],ms,done,_,_,j,y,k,hj,_,_,_,_=>by simp at hj
 | (y',k') :: r,ms,done,hl,h,j,y,k,hj,p,q,hp,hlt=>by
  cases ms with
  | nil=>simp at hl
  | cons m ms =>
   simp only [orderGo,Bool.and_eq_true] at h
   cases j with
   | zero =>
    simp at hj
    obtain ⟨rfl,rfl⟩:=hj
    rw [List.getElem?_append_left (by omega)] at hp
    have:=pairOk_at done 0 h.1 p q hp
    simpa using this
   | succ j =>
    have:=orderGo_at r ms (done ++ [(y',k')]) (by simpa using hl) h.2 j y k (by simpa using hj) p q (by simpa using hp) (by simp; omega)
    simpa using this
theorem backOk_at:(l:List Oper)→(i:Nat)→backOk l i = true→∀ (j:Nat) o,l[j]? = some o→∀ e ∈ o.after.toList,Region.binds .any e = true→e.on < i + j
 | [],i,_,j,o,hj=>by simp at hj
 | o' :: l,i,h,j,o,hj=>by
  simp only [backOk,Bool.and_eq_true,List.all_eq_true] at h
  cases j with
  | zero =>
   simp at hj
   subst hj
   intro e he hb
   have:=h.1 e he
   simp [hb] at this
   omega
  | succ j =>
   intro e he hb
   have:=backOk_at l (i + 1) h.2 j o (by simpa using hj) e he hb
   omega
def left (ops:Array Oper) (listed:Array Bool):List Nat:=(List.range ops.size).filter fun i=>!listed.getD i true
theorem mem_left {listed:Array Bool} {i:Nat}:i ∈ left ops listed ↔ i < ops.size∧listed.getD i true = false:=by
 simp [left]
theorem left_set {listed:Array Bool} {i:Nat} {l1 l2:List Nat} (hsz:listed.size = ops.size) (h:left ops listed = l1 ++ i :: l2):left ops (listed.setIfInBounds i true) = l1 ++ l2:=by
 have hnd:(left ops listed).Nodup:=List.Pairwise.filter _ List.nodup_range
 rw [h] at hnd
 have hi:i ∈ left ops listed:=by rw [h]; simp
 have hlt:=(mem_left.1 hi).1
 have e:left ops (listed.setIfInBounds i true) = (left ops listed).filter (·≠i):=by
  unfold left
  rw [List.filter_filter]
  apply List.filter_congr
  intro x _
  by_cases hx:x = i
  ·subst hx
   simp [hsz,hlt]
  ·simp only [Array.getD_eq_getD_getElem?,Array.getElem?_setIfInBounds,if_neg (fun e=>hx e.symm:¬ i = x)]
   simp [hx]
 rw [e,h,List.filter_append,List.filter_cons]
 simp only [ne_eq,not_true_eq_false,decide_false,Bool.false_eq_true,if_false]
 rw [List.nodup_append] at hnd
 have h1:l1.filter (fun x=>decide (¬ x = i)) = l1:=List.filter_eq_self.2 fun x hx=>by
  have:=hnd.2.2 x hx i (by simp)
  simpa using this
 have h2:l2.filter (fun x=>decide (¬ x = i)) = l2:=List.filter_eq_self.2 fun x hx=>by
  have:=(List.nodup_cons.1 hnd.2.1).1
  simp
  rintro rfl
  exact this hx
 rw [h1,h2]
theorem fm_map:(l:List Nat)→(∀ x ∈ l,x < ops.size)→l.filterMap (ops[·]?) = l.map (fun x=>ops.getD x default)
 | [],_=>rfl
 | x :: r,h=>by
  have hx:=h x (by simp)
  rw [List.filterMap_cons,Array.getElem?_eq_getElem hx]
  simp only [List.map_cons]
  rw [fm_map r (fun y hy=>h y (by simp [hy]))]
  simp [Array.getD,hx]
theorem zip_map_mem {α β:Type} {g:Nat→α} {κ:Nat→β} {p:α × β}:(l:List Nat)→p ∈ (l.map g).zip (l.map κ)→∃ x ∈ l,p = (g x,κ x)
 | [],h=>by simp at h
 | x :: r,h=>by
  simp only [List.map_cons,List.zip_cons_cons,List.mem_cons] at h
  rcases h with rfl | h
  ·exact ⟨x,by simp,rfl⟩
  ·obtain ⟨y,hy,e⟩:=zip_map_mem r h
   exact ⟨y,by simp [hy],e⟩
theorem wpAny_ok {n:Nat} (hd:∀ (i:Nat) o,ops[i]? = some o→∀ d,o.dst = some d→d < n) {κ:Nat→Kd}
  (hback:∀ (j:Nat) o,ops[j]? = some o→∀ e ∈ o.after.toList,Region.binds .any e = true→e.on < j)
  (hpair:∀ (i j:Nat) x y,i < j→ops[i]? = some x→ops[j]? = some y→((masks ops.toList []).getD j 0).testBit i = true∨free ops x y (κ i) (κ j) = true) {fr':Fr} {st':St} :
  ∀ (fuel:Nat) (listed:Array Bool) (fr:Fr) (st:St) G w a (Q:Exit→Act→World→Prop),listed.size = ops.size→(left ops listed).length≤fuel →
   (∀ j,listed.getD j true = true→j < ops.size→∀ x,((masks ops.toList []).getD j 0).testBit x = true→x < ops.size→listed.getD x true = true) →
   RunR P A f ops ((left ops listed).filterMap (ops[·]?)) fr st fr' st' ((left ops listed).map κ)→Fits G w fr a n→GlobOk A G w→Sok G w st →
   (∀ a' w',Post G w st n a.defers (.normal,fr',st') .normal a' w'→Q .normal a' w')→wpAny P .any ops Q fuel listed a w:=by
 intro fuel
 induction fuel with
 | zero =>
  intro listed fr st G w a Q hsz hlen hdn hrun hf hg hs hq
  have hnil:left ops listed = []:=List.eq_nil_of_length_eq_zero (by omega)
  rw [hnil] at hrun
  cases hrun
  refine ⟨?_,hq _ _ ⟨G,Ext.refl _ _ _,hs,fun _=>hf,rfl,rfl⟩⟩
  apply List.eq_nil_iff_forall_not_mem.2
  intro i hi
  simp only [Region.ready,List.mem_filter,List.mem_range,Bool.and_eq_true,Bool.not_eq_true'] at hi
  have:i ∈ left ops listed:=mem_left.2 ⟨hi.1,hi.2.1⟩
  rw [hnil] at this
  simp at this
 | succ fuel ih =>
  intro listed fr st G w a Q hsz hlen hdn hrun hf hg hs hq
  constructor
  ·intro hready
   have hnil:left ops listed = []:=by
    cases hl:left ops listed with
    | nil=>rfl
    | cons i r =>
     exfalso
     have hi:i ∈ left ops listed:=by rw [hl]; simp
     obtain ⟨hi1,hi2⟩:=mem_left.1 hi
     have:i ∈ Region.ready .any ops listed:=by
      simp only [Region.ready,List.mem_filter,List.mem_range,Bool.and_eq_true,Bool.not_eq_true']
      refine ⟨hi1,hi2,?_⟩
      rw [Array.getElem?_eq_getElem hi1]
      simp only [Option.map_some,Option.getD_some,Array.all_eq_true_iff_forall_mem]
      intro e he
      by_cases hb:Region.binds .any e = true
      ·simp only [hb,Bool.not_true,Bool.false_or]
       have hlt:=hback i _ (Array.getElem?_eq_getElem hi1) e (by simpa using he) hb
       have hsorted:∀ x ∈ left ops listed,i≤x:=by
        have hp:(left ops listed).Pairwise (· < ·):=List.Pairwise.filter _ List.pairwise_lt_range
        rw [hl] at hp ⊢
        intro x hx
        rcases List.mem_cons.1 hx with rfl | hx
        ·exact Nat.le_refl _
        ·exact Nat.le_of_lt ((List.pairwise_cons.1 hp).1 x hx)
       have hel:e.on < ops.size:=by omega
       cases hge:listed.getD e.on true with
       | false =>
        have:=hsorted e.on (mem_left.2 ⟨hel,hge⟩)
        omega
       | true =>
        rw [Array.getD_eq_getD_getElem?,Array.getElem?_eq_getElem (by omega)] at hge ⊢
        simpa using hge
      ·simp at hb; simp [hb]
     rw [hready] at this
     simp at this
   rw [hnil] at hrun
   cases hrun
   exact hq _ _ ⟨G,Ext.refl _ _ _,hs,fun _=>hf,rfl,rfl⟩
  ·intro i hi
   simp only [Region.ready,List.mem_filter,List.mem_range,Bool.and_eq_true,Bool.not_eq_true'] at hi
   obtain ⟨hi1,hi2,hi3⟩:=hi
   have ho:ops[i]? = some ops[i]:=Array.getElem?_eq_getElem hi1
   rw [ho] at hi3
   simp only [Option.map_some,Option.getD_some,Array.all_eq_true_iff_forall_mem] at hi3
   have hedge:∀ e ∈ ops[i].after.toList,Region.binds .any e = true→e.on < ops.size∧listed.getD e.on true = true:=fun e he hb=>by
    have hlt:=hback i _ ho e he hb
    refine ⟨by omega,?_⟩
    have:=hi3 e (by simpa using he)
    simp only [hb,Bool.not_true,Bool.false_or] at this
    rw [Array.getD_eq_getD_getElem?,Array.getElem?_eq_getElem (by omega)] at this ⊢
    simpa using this
   have hbits:∀ x,((masks ops.toList []).getD i 0).testBit x = true→x < ops.size→listed.getD x true = true:=fun x hx hxs=>by
    have hx':((masks ops.toList []).getD (([]:List Nat).length + i) 0).testBit x = true:=by simpa using hx
    obtain ⟨e,h1,h2,h3⟩:=masks_at ops.toList [] i ops[i] (by simp [hi1]) x hx'
    obtain ⟨h4,h5⟩:=hedge e h1 h2
    rcases h3 with rfl | h3
    ·exact h5
    ·exact hdn e.on h5 h4 x h3 hxs
   have hmem:i ∈ left ops listed:=mem_left.2 ⟨hi1,hi2⟩
   obtain ⟨l1,l2,hl⟩:=List.append_of_mem hmem
   have hp:(left ops listed).Pairwise (· < ·):=List.Pairwise.filter _ List.pairwise_lt_range
   rw [hl] at hrun hp
   rw [List.filterMap_append,List.filterMap_cons,ho] at hrun
   simp only [List.map_append,List.map_cons] at hrun
   have hl1:∀ x ∈ l1,x < ops.size∧listed.getD x true = false:=fun x hx=>mem_left.1 (by rw [hl]; simp [hx])
   have hfm:l1.filterMap (ops[·]?) = l1.map (fun x=>ops.getD x default):=fm_map l1 (fun x hx=>(hl1 x hx).1)
   have hfront:=front_ok (P:=P) (f:=f) (l1.filterMap (ops[·]?)) (l2.filterMap (ops[·]?)) (l1.map κ) (l2.map κ) (by rw [hfm]; simp) fr fr' st st' hrun (fun p hp'=>by
    rw [hfm] at hp'
    obtain ⟨x,hx,rfl⟩:=zip_map_mem l1 hp'
    simp only
    obtain ⟨hx1,hx2⟩:=hl1 x hx
    have hlt:x < i:=(List.pairwise_append.1 hp).2.2 x hx i (by simp)
    have hox:ops[x]? = some (ops.getD x default):=by simp [hx1]
    rcases hpair x i _ _ hlt hox ho with hb | hb
    ·have:=hbits x hb hx1
     rw [hx2] at this
     cases this
    ·simpa using hb)
   cases hfront with
   | @cons _ _ _ _ _ s1 _ v k _ hstep hrun2 =>
   refine step_ok ho (hd i _ ho) hstep hf hg hs ?_
   intro G1 w1 a1 hx1 hs1 hf1 hd1
   have hls:=left_set hsz hl
   refine ih (listed.setIfInBounds i true) _ s1 G1 w1 a1 Q (by simp [hsz]) ?_ ?_ ?_ hf1 (hg.mono hx1) hs1 ?_
   ·rw [hls]; rw [hl] at hlen; simp at hlen ⊢; omega
   ·intro j hj hjs x hx hxs
    by_cases hxi:x = i
    ·subst hxi
     simp [hsz,hxs]
    ·rw [Array.getD_eq_getD_getElem?,Array.getElem?_setIfInBounds,if_neg (fun e=>hxi e.symm),← Array.getD_eq_getD_getElem?]
     by_cases hji:j = i
     ·subst hji
      exact hbits x hx hxs
     ·rw [Array.getD_eq_getD_getElem?,Array.getElem?_setIfInBounds,if_neg (fun e=>hji e.symm),← Array.getD_eq_getD_getElem?] at hj
      exact hdn j hj hjs x hx hxs
   ·rw [hls,List.filterMap_append,List.map_append]; exact hrun2
   ·intro a' w' hpst
    exact hq a' w' (by rw [← hd1]; exact hpst.back hx1)
theorem ready_of {listed:Array Bool} {i:Nat} (hi:i ∈ Region.ready .any ops listed):i < ops.size∧listed.getD i true = false∧∀ o,ops[i]? = some o→∀ e ∈ o.after.toList,Region.binds .any e = true→listed.getD e.on false = true:=by
 simp only [Region.ready,List.mem_filter,List.mem_range,Bool.and_eq_true,Bool.not_eq_true'] at hi
 obtain ⟨hi1,hi2,hi3⟩:=hi
 refine ⟨hi1,hi2,fun o ho e he hb=>?_⟩
 rw [ho] at hi3
 simp only [Option.map_some,Option.getD_some,Array.all_eq_true_iff_forall_mem] at hi3
 have:=hi3 e (by simpa using he)
 simpa [hb] using this
theorem least_ready (hback:∀ (j:Nat) o,ops[j]? = some o→∀ e ∈ o.after.toList,Region.binds .any e = true→e.on < j) {listed:Array Bool} (hsz:listed.size = ops.size) {i:Nat} {r:List Nat} (hl:left ops listed = i :: r):i ∈ Region.ready .any ops listed:=by
 have hi:i ∈ left ops listed:=by rw [hl]; simp
 obtain ⟨hi1,hi2⟩:=mem_left.1 hi
 simp only [Region.ready,List.mem_filter,List.mem_range,Bool.and_eq_true,Bool.not_eq_true']
 refine ⟨hi1,hi2,?_⟩
 rw [Array.getElem?_eq_getElem hi1]
 simp only [Option.map_some,Option.getD_some,Array.all_eq_true_iff_forall_mem]
 intro e he
 by_cases hb:Region.binds .any e = true
 ·simp only [hb,Bool.not_true,Bool.false_or]
  have hlt:=hback i _ (Array.getElem?_eq_getElem hi1) e (by simpa using he) hb
  have hsorted:∀ x ∈ left ops listed,i≤x:=by
   have hp:(left ops listed).Pairwise (· < ·):=List.Pairwise.filter _ List.pairwise_lt_range
   rw [hl] at hp ⊢
   intro x hx
   rcases List.mem_cons.1 hx with rfl | hx
   ·exact Nat.le_refl _
   ·exact Nat.le_of_lt ((List.pairwise_cons.1 hp).1 x hx)
  have hel:e.on < ops.size:=by omega
  cases hge:listed.getD e.on true with
  | false =>
   have:=hsorted e.on (mem_left.2 ⟨hel,hge⟩)
   omega
  | true =>
   rw [Array.getD_eq_getD_getElem?,Array.getElem?_eq_getElem (by omega)] at hge ⊢
   simpa using hge
 ·simp at hb; simp [hb]
def leftB (ops:Array Oper) (listed:Array Bool) (k:Nat):List Nat:=(left ops listed).filter (· < k)
theorem leftB_split {listed:Array Bool} {k i:Nat} (hi:i ∈ left ops listed) (hik:i < k):∃ l1 l2,leftB ops listed k = l1 ++ i :: l2∧(∀ x ∈ l1,x < i):=by
 have hm:i ∈ leftB ops listed k:=by simp [leftB,hi,hik]
 obtain ⟨l1,l2,hl⟩:=List.append_of_mem hm
 refine ⟨l1,l2,hl,fun x hx=>?_⟩
 have hp:(leftB ops listed k).Pairwise (· < ·):=(List.Pairwise.filter _ List.pairwise_lt_range).filter _
 rw [hl] at hp
 exact (List.pairwise_append.1 hp).2.2 x hx i (by simp)
theorem leftB_eq {listed:Array Bool} {k:Nat}:leftB ops listed k = (List.range ops.size).filter fun i=>!listed.getD i true && decide (i < k):=by
 unfold leftB left
 rw [List.filter_filter]
 exact List.filter_congr fun x _=>by rw [Bool.and_comm]
theorem leftB_set {listed:Array Bool} {k i:Nat} {l1 l2:List Nat} (hsz:listed.size = ops.size) (h:leftB ops listed k = l1 ++ i :: l2):leftB ops (listed.setIfInBounds i true) k = l1 ++ l2:=by
 have hnd:(leftB ops listed k).Nodup:=(List.Pairwise.filter _ List.nodup_range).filter _
 rw [h] at hnd
 have hi:i ∈ leftB ops listed k:=by rw [h]; simp
 have hlt:i < ops.size:=by rw [leftB_eq] at hi; simp at hi; exact hi.1
 have e:leftB ops (listed.setIfInBounds i true) k = (leftB ops listed k).filter (·≠i):=by
  rw [leftB_eq,leftB_eq,List.filter_filter]
  apply List.filter_congr
  intro x _
  by_cases hx:x = i
  ·subst hx
   simp [hsz,hlt]
  ·simp only [Array.getD_eq_getD_getElem?,Array.getElem?_setIfInBounds,if_neg (fun e=>hx e.symm:¬ i = x)]
   simp [hx]
 rw [e,h,List.filter_append,List.filter_cons]
 simp only [ne_eq,not_true_eq_false,decide_false,Bool.false_eq_true,if_false]
 rw [List.nodup_append] at hnd
 have h1:l1.filter (fun x=>decide (¬ x = i)) = l1:=List.filter_eq_self.2 fun x hx=>by
  have:=hnd.2.2 x hx i (by simp)
  simpa using this
 have h2:l2.filter (fun x=>decide (¬ x = i)) = l2:=List.filter_eq_self.2 fun x hx=>by
  have:=(List.nodup_cons.1 hnd.2.1).1
  simp
  rintro rfl
  exact this hx
 rw [h1,h2]
theorem leftB_late {listed:Array Bool} {k i:Nat} (hik:k≤i):leftB ops (listed.setIfInBounds i true) k = leftB ops listed k:=by
 rw [leftB_eq,leftB_eq]
 apply List.filter_congr
 intro x _
 by_cases hx:i = x
 ·subst hx
  have:¬ i < k:=by omega
  simp [this]
 ·simp only [Array.getD_eq_getD_getElem?,Array.getElem?_setIfInBounds,if_neg hx]
theorem apartAll_at {o:Oper} {m:Nat}:(l:List Oper)→(i:Nat)→apartAll ops o m l i = true→∀ (p:Nat) q,l[p]? = some q→m.testBit (i + p) = true∨q.apart ops o = true
 | [],i,_,p,q,hp=>by simp at hp
 | x :: r,i,h,p,q,hp=>by
  simp only [apartAll,Bool.and_eq_true,Bool.or_eq_true] at h
  cases p with
  | zero=>simp at hp; subst hp; simpa using h.1
  | succ p =>
   have:=apartAll_at r (i + 1) h.2 p q (by simpa using hp)
   have e:i + 1 + p = i + (p + 1):=by omega
   rwa [e] at this
theorem lateOk_at {ms:List Nat} {k:Nat}:(l:List Oper)→(i:Nat)→lateOk ops ms k l i = true→∀ (p:Nat) q,l[p]? = some q→(ms.getD (i + p) 0).testBit k = true∨(idle q = true∧apartAll ops q (ms.getD (i + p) 0) (ops.toList.take (k + 1)) 0 = true)
 | [],i,_,p,q,hp=>by simp at hp
 | x :: r,i,h,p,q,hp=>by
  simp only [lateOk,Bool.and_eq_true,Bool.or_eq_true] at h
  cases p with
  | zero=>simp at hp; subst hp; simpa using h.1
  | succ p =>
   have:=lateOk_at r (i + 1) h.2 p q (by simpa using hp)
   have e:i + 1 + p = i + (p + 1):=by omega
   rwa [e] at this
theorem idle_step {o:Oper} (h:idle o = true) (fr:Fr) (st:St):∃ v k,StepR P A f ops fr st o v st k:=by
 obtain ⟨dst,op,type,pos,after,guard⟩:=o
 cases guard with
 | some q=>cases op <;> simp [idle] at h
 | none =>
  cases op <;> simp only [idle] at h <;> try (cases h; done)
  ·exact ⟨_,_,.op rfl rfl rfl⟩
  ·exact ⟨_,_,.op rfl rfl rfl⟩
theorem wpAny_panic {n:Nat} (hd:∀ (i:Nat) o,ops[i]? = some o→∀ d,o.dst = some d→d < n) {κ:Nat→Kd} {k:Nat} {ok:Oper} (hok:ops[k]? = some ok)
  (hback:∀ (j:Nat) o,ops[j]? = some o→∀ e ∈ o.after.toList,Region.binds .any e = true→e.on < j)
  (hpair:∀ (i j:Nat) x y,i < j→j < k→ops[i]? = some x→ops[j]? = some y→((masks ops.toList []).getD j 0).testBit i = true∨free ops x y (κ i) (κ j) = true)
  (hpk:∀ (i:Nat) x,i < k→ops[i]? = some x→((masks ops.toList []).getD k 0).testBit i = true∨free ops x ok (κ i) (.look none) = true)
  (hlate:∀ (j:Nat) y,k < j→ops[j]? = some y→((masks ops.toList []).getD j 0).testBit k = true∨(idle y = true∧∀ (i:Nat) x,i≤k→ops[i]? = some x→((masks ops.toList []).getD j 0).testBit i = true∨x.apart ops y = true)) {st':St} {v:AV} {fr0:Fr} :
  ∀ (fuel:Nat) (listed:Array Bool) (fr:Fr) (st:St) fr1 st1 G w a (Q:Exit→Act→World→Prop),listed.size = ops.size→(left ops listed).length≤fuel →
   (∀ j,listed.getD j true = true→j < ops.size→∀ x,((masks ops.toList []).getD j 0).testBit x = true→x < ops.size→listed.getD x true = true)→listed.getD k true = false →
   RunR P A f ops ((leftB ops listed k).filterMap (ops[·]?)) fr st fr1 st1 ((leftB ops listed k).map κ)→PanicS P A ops fr1 st1 ok v st'→Fits G w fr a n→GlobOk A G w→Sok G w st →
   (∀ e a' w',Post G w st n a.defers (.panic v,fr0,st') e a' w'→Q e a' w')→wpAny P .any ops Q fuel listed a w:=by
 intro fuel
 have hkn:k < ops.size:=(Array.getElem?_eq_some_iff.1 hok).1
 induction fuel with
 | zero =>
  intro listed fr st fr1 st1 G w a Q hsz hlen hdn hk hrun hp hf hg hs hq
  have hm:k ∈ left ops listed:=mem_left.2 ⟨hkn,hk⟩
  have hnil:left ops listed = []:=List.eq_nil_of_length_eq_zero (by omega)
  rw [hnil] at hm
  simp at hm
 | succ fuel ih =>
  intro listed fr st fr1 st1 G w a Q hsz hlen hdn hk hrun hp hf hg hs hq
  have hm:k ∈ left ops listed:=mem_left.2 ⟨hkn,hk⟩
  constructor
  ·intro hready
   cases hl:left ops listed with
   | nil=>rw [hl] at hm; simp at hm
   | cons i r =>
    have:=least_ready hback hsz hl
    rw [hready] at this
    simp at this
  ·intro i hi
   obtain ⟨hi1,hi2,hi3⟩:=ready_of hi
   have ho:ops[i]? = some ops[i]:=Array.getElem?_eq_getElem hi1
   have hbits:∀ x,((masks ops.toList []).getD i 0).testBit x = true→x < ops.size→listed.getD x true = true:=fun x hx hxs=>by
    have hx':((masks ops.toList []).getD (([]:List Nat).length + i) 0).testBit x = true:=by simpa using hx
    obtain ⟨e,h1,h2,h3⟩:=masks_at ops.toList [] i ops[i] (by simp [hi1]) x hx'
    have h4:e.on < ops.size:=by have:=hback i _ ho e h1 h2; omega
    have h5:listed.getD e.on true = true:=by
     have:=hi3 _ ho e h1 h2
     rw [Array.getD_eq_getD_getElem?,Array.getElem?_eq_getElem (by omega)] at this ⊢
     simpa using this
    rcases h3 with rfl | h3
    ·exact h5
    ·exact hdn e.on h5 h4 x h3 hxs
   have hmem:i ∈ left ops listed:=mem_left.2 ⟨hi1,hi2⟩
   have hdn2:∀ j,(listed.setIfInBounds i true).getD j true = true→j < ops.size→∀ x,((masks ops.toList []).getD j 0).testBit x = true→x < ops.size→(listed.setIfInBounds i true).getD x true = true:=by
    intro j hj hjs x hx hxs
    by_cases hxi:x = i
    ·subst hxi
     simp [hsz,hxs]
    ·rw [Array.getD_eq_getD_getElem?,Array.getElem?_setIfInBounds,if_neg (fun e=>hxi e.symm),← Array.getD_eq_getD_getElem?]
     by_cases hji:j = i
     ·subst hji
      exact hbits x hx hxs
     ·rw [Array.getD_eq_getD_getElem?,Array.getElem?_setIfInBounds,if_neg (fun e=>hji e.symm),← Array.getD_eq_getD_getElem?] at hj
      exact hdn j hj hjs x hx hxs
   have hlen2:(left ops (listed.setIfInBounds i true)).length≤fuel:=by
    obtain ⟨l1,l2,hl⟩:=List.append_of_mem hmem
    rw [left_set hsz hl]; rw [hl] at hlen; simp at hlen ⊢; omega
   have hB:∀ x ∈ leftB ops listed k,x < ops.size∧listed.getD x true = false∧x < k:=fun x hx=>by
    simp only [leftB,List.mem_filter,decide_eq_true_eq] at hx
    exact ⟨(mem_left.1 hx.1).1,(mem_left.1 hx.1).2,hx.2⟩
   rcases Nat.lt_trichotomy i k with hlt | rfl | hgt
   ·obtain ⟨l1,l2,hl,hl1⟩:=leftB_split hmem hlt
    have hB1:∀ x ∈ l1,x < ops.size∧listed.getD x true = false∧x < k:=fun x hx=>hB x (by rw [hl]; simp [hx])
    rw [hl,List.filterMap_append,List.filterMap_cons,ho] at hrun
    simp only [List.map_append,List.map_cons] at hrun
    have hfm:l1.filterMap (ops[·]?) = l1.map (fun x=>ops.getD x default):=fm_map l1 (fun x hx=>(hB1 x hx).1)
    have hfront:=front_ok (P:=P) (f:=f) (l1.filterMap (ops[·]?)) (l2.filterMap (ops[·]?)) (l1.map κ) (l2.map κ) (by rw [hfm]; simp) fr fr1 st st1 hrun (fun p hp'=>by
     rw [hfm] at hp'
     obtain ⟨x,hx,rfl⟩:=zip_map_mem l1 hp'
     simp only
     obtain ⟨hx1,hx2,_⟩:=hB1 x hx
     have hox:ops[x]? = some (ops.getD x default):=by simp [hx1]
     rcases hpair x i _ _ (hl1 x hx) hlt hox ho with hb | hb
     ·have:=hbits x hb hx1
      rw [hx2] at this
      cases this
     ·simpa using hb)
    cases hfront with
    | @cons _ _ _ _ _ s1 _ u _ _ hstep hrun2 =>
    refine step_ok ho (hd i _ ho) hstep hf hg hs ?_
    intro G1 w1 a1 hx1 hs1 hf1 hd1
    refine ih (listed.setIfInBounds i true) _ s1 fr1 st1 G1 w1 a1 Q (by simp [hsz]) hlen2 hdn2 ?_ ?_ hp hf1 (hg.mono hx1) hs1 ?_
    ·rw [Array.getD_eq_getD_getElem?,Array.getElem?_setIfInBounds,if_neg (by omega),← Array.getD_eq_getD_getElem?]; exact hk
    ·rw [leftB_set hsz hl,List.filterMap_append,List.map_append]; exact hrun2
    ·intro e a' w' hpst
     exact hq e a' w' (by rw [← hd1]; exact hpst.back hx1)
   ·rw [hok] at ho
    obtain rfl:=Option.some.inj ho
    have hfree:∀ x ∈ leftB ops listed i,free ops (ops.getD x default) ops[i] (κ x) (.look none) = true:=fun x hx=>by
     obtain ⟨hx1,hx2,hx3⟩:=hB x hx
     rcases hpk x _ hx3 (by simp [hx1]:ops[x]? = some (ops.getD x default)) with hb | hb
     ·have:=hbits x hb hx1
      rw [hx2] at this
      cases this
     ·exact hb
    have hstill:st1 = st:=looks_still hrun fun q hq=>by
     obtain ⟨x,hx,rfl⟩:=List.mem_map.1 hq
     have:=hfree x hx
     simp only [free,Bool.and_eq_true,Bool.not_eq_true'] at this
     exact this.2
    have hagree:∀ {l:List Oper} {fr fr1:Fr} {st st1:St} {ks:List Kd},RunR P A f ops l fr st fr1 st1 ks→(∀ p ∈ l,∀ t,p.dst = some t→t ∉ ops[i].looksAt ops)→∀ t ∈ ops[i].looksAt ops,fr1 t = fr t:=by
     intro l fr fr1 st st1 ks h
     induction h with
     | nil=>intro _ t _; rfl
     | cons hx hr ih2 =>
      intro hh t ht
      rw [ih2 (fun p hp=>hh p (by simp [hp])) t ht]
      exact (put_agree (fun t' ht'=>hh _ (by simp) t' ht') t ht).symm
    subst hstill
    refine panic_ok hok (panic_congr (hagree hrun fun p hp t ht=>?_) hp) hf hg hs hq
    have hfm:(leftB ops listed i).filterMap (ops[·]?) = (leftB ops listed i).map (fun x=>ops.getD x default):=fm_map _ (fun x hx=>(hB x hx).1)
    rw [hfm] at hp
    obtain ⟨x,hx,rfl⟩:=List.mem_map.1 hp
    have:=hfree x hx
    simp only [free,Bool.and_eq_true] at this
    exact (Oper.apart_spec this.1).1 t ht
   ·rcases hlate i _ hgt ho with hb | ⟨hidle,hap⟩
    ·have:=hbits k hb hkn
     rw [hk] at this
     cases this
    ·have hap2:∀ x,x≤k→x < ops.size→listed.getD x true = false→(ops.getD x default).apart ops ops[i] = true:=fun x hxk hxs hxl=>by
      rcases hap x _ hxk (by simp [hxs]:ops[x]? = some (ops.getD x default)) with hb | hb
      ·have:=hbits x hb hxs
       rw [hxl] at this
       cases this
      ·exact hb
     obtain ⟨u,q,hstep⟩:=idle_step (P:=P) (A:=A) (f:=f) (ops:=ops) hidle fr st
     refine step_ok ho (hd i _ ho) hstep hf hg hs ?_
     intro G1 w1 a1 hx1 hs1 hf1 hd1
     have hgd:ops.getD k default = ok:=by simp [Array.getD_eq_getD_getElem?,hok]
     refine ih (listed.setIfInBounds i true) _ st (put fr1 ops[i].dst u) st1 G1 w1 a1 Q (by simp [hsz]) hlen2 hdn2 ?_ ?_ ?_ hf1 (hg.mono hx1) hs1 ?_
     ·rw [Array.getD_eq_getD_getElem?,Array.getElem?_setIfInBounds,if_neg (by omega),← Array.getD_eq_getD_getElem?]; exact hk
     ·rw [leftB_late (by omega)]
      refine run_apart hrun fun p hp=>?_
      have hfm:(leftB ops listed k).filterMap (ops[·]?) = (leftB ops listed k).map (fun x=>ops.getD x default):=fm_map _ (fun x hx=>(hB x hx).1)
      rw [hfm] at hp
      obtain ⟨x,hx,rfl⟩:=List.mem_map.1 hp
      obtain ⟨hx1,hx2,hx3⟩:=hB x hx
      obtain ⟨_,b2,b3⟩:=Oper.apart_spec (hap2 x (by omega) hx1 hx2)
      exact ⟨b3,fun t ht h=>b2 t h ht⟩
     ·have:=hap2 k (Nat.le_refl _) hkn hk
      rw [hgd] at this
      exact panic_congr (put_agree (Oper.apart_spec this).2.2) hp
     ·intro e a' w' hpst
      exact hq e a' w' (by rw [← hd1]; exact hpst.back hx1)
end
end Go.AM
end
section
namespace Go.AM
open Go
section
variable {P:Program} {A:Ann} {f:FuncId}
theorem drew_ext {G:Gh} {w w':World} {st:St} (hs:Sok G w st) (hh:w'.heap = w.heap) (ho:w'.os = w.os) (ht:w'.tape = w.tape) (hu:w'.output = w.output):Sok G w' st∧Ext G w st G w' st:=by
 have hg:Grows G w G w':=⟨fun _=>Nat.le_refl _,fun b i _=>by simp [World.cell?,hh],fun _ h=>h,fun b _=>by rw [hh]⟩
 refine ⟨⟨hs.len,fun id o e h1 h2=>(hs.obj id o e h1 h2).move hg (fun _ _ h=>h) (fun _=>by rw [hh]) (fun _=>rfl) (fun _ h=>h),hs.inj,fun b hb=>by rw [hh]; exact hs.immLt b hb,fun b hb=>by rw [hh]; exact hs.fixLt b hb⟩,
  ⟨hg,fun _ _ h=>h,ho,ht,hu,by rw [hh]; exact Nat.le_refl _,fun b _ _=>by rw [hh],fun _ _ h=>h,fun _ _ _=>rfl,fun _ _ h=>h⟩⟩
def dstOk (n:Nat):Code→Bool
 | .region _ ops _=>ops.all fun o=>match o.dst with | some d=>decide (d < n) | none=>true
 | .seq a b=>dstOk n a && dstOk n b
 | .cond _ a b=>dstOk n a && dstOk n b
 | .block _ c=>dstOk n c
 | .loop c=>dstOk n c
 | .scope c=>dstOk n c
 | _=>true
theorem dstOk_region {n id:Nat} {ops:Array Oper} {b:Bool} (h:dstOk n (.region id ops b) = true) (i:Nat) (o:Oper) (ho:ops[i]? = some o) (d:Tmp) (hd:o.dst = some d):d < n:=by
 simp only [dstOk,Array.all_eq_true_iff_forall_mem] at h
 have:=h o (Array.mem_of_getElem? ho)
 rw [hd] at this
 simpa using this
def loopWp (P:Program) (c:Code) (Q:Exit→Act→World→Prop) (a:Act) (w:World):Prop :=
 ∀ (b:Frame) (k:List Item) (cs:List Frame),∃ e a' w',Q e a' w'∧Arrives P (lone (b.at a (.code c :: .inLoop c :: k)) cs w) b k cs e a' w'
theorem loopWp.wp {c:Code} {Q:Exit→Act→World→Prop} {a:Act} {w:World} (h:loopWp P c Q a w):(Code.loop c).wp P Q a w:=by
 intro b k cs
 obtain ⟨e,a',w',hq,harr⟩:=h b k cs
 exact ⟨e,a',w',hq,.of_steps (.one step_loop) harr⟩
theorem loopWp.round {c:Code} {Q:Exit→Act→World→Prop} {a:Act} {w:World} (h:c.wp P (Exit.then (loopWp P c Q) Q) a w):loopWp P c Q a w:=by
 intro b k cs
 obtain ⟨e,a₁,w₁,hq,harr⟩:=h b (.inLoop c :: k) cs
 cases e with
 | normal =>
  obtain ⟨e₂,a₂,w₂,hq₂,harr₂⟩:=hq b k cs
  exact ⟨e₂,a₂,w₂,hq₂,.of_steps (Steps.trans harr (.one step_inLoop)) harr₂⟩
 | exit id=>exact ⟨_,a₁,w₁,hq,.pass (x:=.inLoop c) rfl (fun _ _=>.inl (by simp)) harr⟩
 | goto l=>exact ⟨_,a₁,w₁,hq,.pass (x:=.inLoop c) rfl (fun _ _=>.inl (by simp)) harr⟩
 | ret=>exact ⟨_,a₁,w₁,hq,.pass (x:=.inLoop c) rfl (fun _ _=>.inl (by simp)) harr⟩
 | panic ch=>exact ⟨_,a₁,w₁,hq,.pass (x:=.inLoop c) rfl (fun _ _=>.inl (by simp)) harr⟩
 | outgrown=>exact ⟨_,a₁,w₁,hq,.pass (x:=.inLoop c) rfl (fun _ _=>.inl (by simp)) harr⟩
variable (P A)
def Sim (c:Code) (fr:Fr) (st:St) (r:Ex × Fr × St):Prop :=
 ∀ n,dstOk n c = true→∀ G w a (Q:Exit→Act→World→Prop),Fits G w fr a n→GlobOk A G w→Sok G w st→(∀ e a' w',Post G w st n a.defers r e a' w'→Q e a' w')→c.wp P Q a w
def SimL (c:Code) (fr:Fr) (st:St) (r:Ex × Fr × St):Prop :=
 ∀ n,dstOk n c = true→∀ G w a (Q:Exit→Act→World→Prop),Fits G w fr a n→GlobOk A G w→Sok G w st→(∀ e a' w',Post G w st n a.defers r e a' w'→Q e a' w')→loopWp P c Q a w
structure W (f:FuncId) (c:Code) (fr:Fr) (st:St) (Q:Ex→Fr→St→Prop):Prop where
 out:∃ e fr' st',Sim P A c fr st (e,fr',st')∧Q e fr' st'
structure WL (f:FuncId) (c:Code) (fr:Fr) (st:St) (Q:Ex→Fr→St→Prop):Prop where
 out:∃ e fr' st',SimL P A c fr st (e,fr',st')∧Q e fr' st'
variable {P A}
variable {fr:Fr} {st:St} {Q:Ex→Fr→St→Prop}
theorem W.mono {c:Code} {Q':Ex→Fr→St→Prop} (h:W P A f c fr st Q) (hq:∀ e fr st,Q e fr st→Q' e fr st):W P A f c fr st Q':=by
 obtain ⟨e,fr',st',h1,h2⟩:=h
 exact ⟨e,fr',st',h1,hq _ _ _ h2⟩
theorem W.use {c:Code} (h:W P A f c fr st Q):∃ e fr' st',Q e fr' st'∧∀ n,dstOk n c = true→∀ G w a (Q':Exit→Act→World→Prop),Fits G w fr a n→GlobOk A G w→Sok G w st→(∀ ex a' w',Post G w st n a.defers (e,fr',st') ex a' w'→Q' ex a' w')→c.wp P Q' a w:=by
 obtain ⟨e,fr',st',h1,h2⟩:=h
 exact ⟨e,fr',st',h2,h1⟩
theorem WL.mono {c:Code} {Q':Ex→Fr→St→Prop} (h:WL P A f c fr st Q) (hq:∀ e fr st,Q e fr st→Q' e fr st):WL P A f c fr st Q':=by
 obtain ⟨e,fr',st',h1,h2⟩:=h
 exact ⟨e,fr',st',h1,hq _ _ _ h2⟩
theorem W_skip (h:Q .normal fr st):W P A f .skip fr st Q:=⟨.normal,fr,st,fun _ _ G _ _ _ hf _ hs hq=>wp_skip (hq _ _ _ ⟨G,Ext.refl _ _ _,hs,fun _=>hf,rfl,rfl⟩),h⟩
theorem W_ret (h:Q .ret fr st):W P A f .ret fr st Q:=⟨.ret,fr,st,fun _ _ G _ _ _ hf _ hs hq=>wp_ret (hq _ _ _ ⟨G,Ext.refl _ _ _,hs,fun _=>hf,rfl,rfl⟩),h⟩
theorem W_exit {id:Nat} (h:Q (.exit id) fr st):W P A f (.exit id) fr st Q:=⟨.exit id,fr,st,fun _ _ G _ _ _ hf _ hs hq=>wp_exit (hq _ _ _ ⟨G,Ext.refl _ _ _,hs,fun _=>hf,rfl,rfl⟩),h⟩
theorem W_label {l:Nat} (h:Q .normal fr st):W P A f (.label l) fr st Q:=⟨.normal,fr,st,fun _ _ G _ _ _ hf _ hs hq=>wp_label (hq _ _ _ ⟨G,Ext.refl _ _ _,hs,fun _=>hf,rfl,rfl⟩),h⟩
abbrev onNormal (Q:Ex→Fr→St→Prop) (N:Fr→St→Prop):Ex→Fr→St→Prop
 | .normal=>N
 | e=>Q e
abbrev inBlk (id:Nat) (Q:Ex→Fr→St→Prop):Ex→Fr→St→Prop
 | .exit id'=>fun fr st=>if id' = id then Q .normal fr st else Q (.exit id') fr st
 | e=>Q e
theorem Post.fits {G:Gh} {w:World} {n:Nat} {d:List Deferred} {r:Fr × St} {e:Exit} {a':Act} {w':World} (h:Post G w st n d (.normal,r) e a' w'):e = .normal∧∃ G',Ext G w st G' w' r.2∧Sok G' w' r.2∧Fits G' w' r.1 a' n∧a'.defers = d:=by
 obtain ⟨G',h1,h2,h3,h4,h5⟩:=h
 exact ⟨h5,G',h1,h2,h3 (fun v hv=>nomatch hv),h4⟩
theorem sim_seq_out {a b:Code} {r:Ex × Fr × St} (h:Sim P A a fr st r) (hne:r.1≠.normal):Sim P A (.seq a b) fr st r:=by
 intro n hd G w act Q' hf hg hs hq
 simp only [dstOk,Bool.and_eq_true] at hd
 apply wp_seq
 refine h n hd.1 G w act _ hf hg hs ?_
 intro e a' w' hp
 have hp0:=hp
 obtain ⟨G',hx1,hs1,hf1,hd1,he⟩:=hp
 obtain ⟨ex,fr',st'⟩:=r
 cases ex with
 | normal=>exact absurd rfl hne
 | exit id=>simp only [ExOk] at he; subst he; exact hq _ _ _ hp0
 | ret=>simp only [ExOk] at he; subst he; exact hq _ _ _ hp0
 | panic v=>obtain ⟨c,rfl,_⟩:=he; exact hq _ _ _ hp0
theorem W_seq {a b:Code} (h:W P A f a fr st (onNormal Q fun fr st=>W P A f b fr st Q)):W P A f (.seq a b) fr st Q:=by
 obtain ⟨e,fr1,st1,h1,h2⟩:=h
 cases e with
 | normal =>
  obtain ⟨e2,fr2,st2,h3,h4⟩:=h2
  refine ⟨e2,fr2,st2,fun n hd G w act Q' hf hg hs hq=>?_,h4⟩
  simp only [dstOk,Bool.and_eq_true] at hd
  apply wp_seq
  refine h1 n hd.1 G w act _ hf hg hs ?_
  intro e a' w' hp
  obtain ⟨rfl,G',hx1,hs1,hf1,hd1⟩:=hp.fits
  simp only [Exit.then]
  exact h3 n hd.2 G' w' a' Q' hf1 (hg.mono hx1) hs1 (fun e a2 w2 hp=>hq e a2 w2 (by rw [← hd1]; exact hp.back hx1))
 | exit id=>exact ⟨_,_,_,sim_seq_out h1 (by simp),h2⟩
 | ret=>exact ⟨_,_,_,sim_seq_out h1 (by simp),h2⟩
 | panic v=>exact ⟨_,_,_,sim_seq_out h1 (by simp),h2⟩
theorem W_block {id:Nat} {c:Code} (h:W P A f c fr st (inBlk id Q)):W P A f (.block id c) fr st Q:=by
 obtain ⟨e,fr1,st1,h1,h2⟩:=h
 have go:∀ e2,(∀ G w n d ex a' w' (Q':Exit→Act→World→Prop),(∀ e a' w',Post G w st n d (e2,fr1,st1) e a' w'→Q' e a' w')→Post G w st n d (e,fr1,st1) ex a' w'→Exit.inBlock id Q' ex a' w')→Sim P A (.block id c) fr st (e2,fr1,st1):=fun e2 hk n hd G w act Q' hf hg hs hq=>by
  simp only [dstOk] at hd
  apply wp_block
  refine h1 n hd G w act _ hf hg hs ?_
  intro ex a' w' hp
  exact hk _ _ _ _ _ _ _ Q' hq hp
 cases e with
 | exit id' =>
  simp only [inBlk] at h2
  by_cases hid:id' = id
  ·rw [if_pos hid] at h2
   refine ⟨.normal,fr1,st1,go _ ?_,h2⟩
   rintro G w n d ex a' w' Q' hq ⟨G',hx1,hs1,hf1,hd1,he⟩
   simp only [ExOk] at he
   subst he
   simp only [Exit.inBlock,hid,if_true]
   exact hq _ _ _ ⟨G',hx1,hs1,fun _=>hf1 (by simp),hd1,rfl⟩
  ·rw [if_neg hid] at h2
   refine ⟨.exit id',fr1,st1,go _ ?_,h2⟩
   rintro G w n d ex a' w' Q' hq ⟨G',hx1,hs1,hf1,hd1,he⟩
   simp only [ExOk] at he
   subst he
   simp only [Exit.inBlock,if_neg hid]
   exact hq _ _ _ ⟨G',hx1,hs1,fun _=>hf1 (by simp),hd1,rfl⟩
 | normal =>
  refine ⟨_,fr1,st1,go _ ?_,h2⟩
  rintro G w n d ex a' w' Q' hq ⟨G',hx1,hs1,hf1,hd1,he⟩
  simp only [ExOk] at he
  subst he
  exact hq _ _ _ ⟨G',hx1,hs1,hf1,hd1,rfl⟩
 | ret =>
  refine ⟨_,fr1,st1,go _ ?_,h2⟩
  rintro G w n d ex a' w' Q' hq ⟨G',hx1,hs1,hf1,hd1,he⟩
  simp only [ExOk] at he
  subst he
  exact hq _ _ _ ⟨G',hx1,hs1,hf1,hd1,rfl⟩
 | panic v =>
  refine ⟨_,fr1,st1,go _ ?_,h2⟩
  rintro G w n d ex a' w' Q' hq ⟨G',hx1,hs1,hf1,hd1,c,rfl,hv⟩
  exact hq _ _ _ ⟨G',hx1,hs1,hf1,hd1,c,rfl,hv⟩
theorem W_scope {c:Code} (h:W P A f c fr st Q):W P A f (.scope c) fr st Q:=by
 obtain ⟨e,fr1,st1,h1,h2⟩:=h
 refine ⟨e,fr1,st1,fun n hd G w act Q' hf hg hs hq=>?_,h2⟩
 simp only [dstOk] at hd
 apply wp_scope_straight
 refine h1 n hd G w act _ hf hg hs ?_
 intro ex a' w' hp
 have hp0:=hp
 obtain ⟨G',hx1,hs1,hf1,hd1,he⟩:=hp
 cases e with
 | normal=>simp only [ExOk] at he; subst he; exact hq _ _ _ hp0
 | exit id'=>simp only [ExOk] at he; subst he; exact hq _ _ _ hp0
 | ret=>simp only [ExOk] at he; subst he; exact hq _ _ _ hp0
 | panic v=>obtain ⟨c,rfl,_⟩:=he; exact hq _ _ _ hp0
theorem W_cond {c:Operand} {x y:Code} (t:Bool) (hc:evA A fr c = .sc (.bool t)) (h:W P A f (if t then x else y) fr st Q):W P A f (.cond c x y) fr st Q:=by
 obtain ⟨e,fr1,st1,h1,h2⟩:=h
 refine ⟨e,fr1,st1,fun n hd G w act Q' hf hg hs hq=>?_,h2⟩
 simp only [dstOk,Bool.and_eq_true] at hd
 have hv:=evA_ok hf hg c
 rw [hc] at hv
 simp only [V] at hv
 cases t with
 | true=>exact wp_cond_true hv (h1 n hd.1 G w act _ hf hg hs hq)
 | false=>exact wp_cond_false hv (h1 n hd.2 G w act _ hf hg hs hq)
theorem W_loop {c:Code} (h:WL P A f c fr st Q):W P A f (.loop c) fr st Q:=by
 obtain ⟨e,fr1,st1,h1,h2⟩:=h
 refine ⟨e,fr1,st1,fun n hd G w act Q' hf hg hs hq=>?_,h2⟩
 simp only [dstOk] at hd
 exact (h1 n hd G w act Q' hf hg hs hq).wp
theorem simL_out {c:Code} {r:Ex × Fr × St} (h:Sim P A c fr st r) (hne:r.1≠.normal):SimL P A c fr st r:=by
 intro n hd G w act Q' hf hg hs hq
 apply loopWp.round
 refine h n hd G w act _ hf hg hs ?_
 intro e a' w' hp
 have hp0:=hp
 obtain ⟨G',hx1,hs1,hf1,hd1,he⟩:=hp
 obtain ⟨ex,fr',st'⟩:=r
 cases ex with
 | normal=>exact absurd rfl hne
 | exit id=>simp only [ExOk] at he; subst he; exact hq _ _ _ hp0
 | ret=>simp only [ExOk] at he; subst he; exact hq _ _ _ hp0
 | panic v=>obtain ⟨c,rfl,_⟩:=he; exact hq _ _ _ hp0
theorem WL_round {c:Code} (h:W P A f c fr st (onNormal Q fun fr st=>WL P A f c fr st Q)):WL P A f c fr st Q:=by
 obtain ⟨e,fr1,st1,h1,h2⟩:=h
 cases e with
 | normal =>
  obtain ⟨e2,fr2,st2,h3,h4⟩:=h2
  refine ⟨e2,fr2,st2,fun n hd G w act Q' hf hg hs hq=>?_,h4⟩
  apply loopWp.round
  refine h1 n hd G w act _ hf hg hs ?_
  intro e a' w' hp
  obtain ⟨rfl,G',hx1,hs1,hf1,hd1⟩:=hp.fits
  simp only [Exit.then]
  exact h3 n hd G' w' a' Q' hf1 (hg.mono hx1) hs1 (fun e a2 w2 hp=>hq e a2 w2 (by rw [← hd1]; exact hp.back hx1))
 | exit id=>exact ⟨_,_,_,simL_out h1 (by simp),h2⟩
 | ret=>exact ⟨_,_,_,simL_out h1 (by simp),h2⟩
 | panic v=>exact ⟨_,_,_,simL_out h1 (by simp),h2⟩
def WK (P:Program) (A:Ann) (f:FuncId) (ops:Array Oper) (l:List Oper) (fr:Fr) (st:St) (Q:Option AV→Fr→St→List Kd→Prop):Prop :=
 ∃ e fr' st' ks,RunE P A f ops l fr st e fr' st' ks∧Q e fr' st' ks
theorem toList_fm (ops:Array Oper):(List.range ops.size).filterMap (ops[·]?) = ops.toList:=by
 rw [fm_map _ (fun x hx=>List.mem_range.1 hx)]
 apply List.ext_getElem (by simp)
 intro i h1 h2
 simp at h2
 simp [h2]
theorem W_region {id:Nat} {ops:Array Oper} (h:WK P A f ops ops.toList fr st fun e fr st _=>Q (exE e) fr st):W P A f (.region id ops false) fr st Q:=by
 obtain ⟨e,fr1,st1,ks,h1,h2⟩:=h
 refine ⟨exE e,fr1,st1,fun n hd G w act Q' hf hg hs hq=>?_,h2⟩
 have hdd:=dstOk_region hd
 refine wp_region (runE_ok (f:=f) _ (fun i hi=>?_) fr st e fr1 st1 ks G w act Q' ?_ hf hg hs hq)
 ·have hi':=List.mem_range.1 hi
  exact ⟨ops[i],Array.getElem?_eq_getElem hi',fun d hd=>hdd i _ (Array.getElem?_eq_getElem hi') d hd⟩
 ·rw [toList_fm]
  exact h1
def drawOk (ops:Array Oper) (e:Option AV) (ks:List Kd):Prop :=
 match e with
 | none=>orderOk ops ks = true
 | some _=>panicOk ops ks = true
theorem ops_eq {ops:Array Oper} {k:Nat} {l1 l2:List Oper} {o:Oper} (h:ops.toList = l1 ++ o :: l2) (hk:l1.length = k):ops[k]? = some o∧ops.toList.take k = l1:=by
 have h1:ops.toList[k]? = some o:=by rw [h]; subst hk; simp
 refine ⟨by simpa using h1,?_⟩
 rw [h]
 subst hk
 simp
theorem W_draw (hm:P.follows .mixedOrders = true) {id:Nat} {ops:Array Oper} (h:WK P A f ops ops.toList fr st fun e fr' st' ks=>drawOk ops e ks∧Q (exE e) fr' st'):W P A f (.region id ops true) fr st Q:=by
 obtain ⟨e,fr1,st1,ks,h1,h2,h3⟩:=h
 refine ⟨exE e,fr1,st1,fun n hd G w act Q' hf hg hs hq=>?_,h3⟩
 have hdd:=dstOk_region hd
 obtain ⟨hs1,hx1⟩:=drew_ext (w':={ w with drawn:=w.drawn + 1 }) hs rfl rfl rfl rfl
 obtain ⟨ms,hms,hml⟩:=masks_prefix ops.toList []
 have hleft:left ops (Array.replicate ops.size false) = List.range ops.size:=by
  unfold left
  rw [List.filter_eq_self]
  intro i hi
  have:=List.mem_range.1 hi
  simp [this]
 have hzip:∀ (ks':List Kd) (q:Nat) z,q < ks'.length→ops[q]? = some z→(ops.toList.zip ks')[q]? = some (z,ks'.getD q 0):=fun ks' q z hl hz=>by
  have hzz:ops.toList[q]? = some z:=by simpa using hz
  have hkk:ks'[q]? = some (ks'.getD q 0):=by simp [List.getD_eq_getElem?_getD,hl]
  exact List.getElem?_zip_eq_some.2 ⟨hzz,hkk⟩
 cases e with
 | none =>
  simp only [drawOk,orderOk,Bool.and_eq_true] at h2
  obtain ⟨hbk,hgo⟩:=h2
  have hkl:=run_length h1
  simp only [Array.length_toList] at hkl
  have hkm:(List.range ops.size).map (fun i=>ks.getD i 0) = ks:=by
   apply List.ext_getElem (by simp [hkl])
   intro i h1 h2
   simp [List.getD_eq_getElem?_getD,h2]
  refine wp_region_any hm (wpAny_ok (f:=f) (κ:=fun i=>ks.getD i 0) (fr':=fr1) (st':=st1) hdd ?_ ?_ ops.size _ fr st G _ act Q' (by simp) (by rw [hleft]; simp) ?_ ?_ (hf.mono hx1) (hg.mono hx1) hs1 ?_)
  ·intro j o ho e he hb
   have:=backOk_at ops.toList 0 hbk j o (by simpa using ho) e he hb
   omega
  ·intro i j x y hij hx hy
   have hj:j < ops.size:=(Array.getElem?_eq_some_iff.1 hy).1
   rw [hms] at hgo ⊢
   simp only [List.nil_append] at hgo ⊢
   exact orderGo_at (ops:=ops) (ops.toList.zip ks) ms [] (by simp [hml,hkl]) hgo j y (ks.getD j 0) (hzip ks j y (by omega) hy) i (x,ks.getD i 0) (by simpa using hzip ks i x (by omega) hx) (by simp; omega)
  ·intro j hj hjs
   simp [hjs] at hj
  ·rw [hleft,toList_fm,hkm]
   exact h1
  ·intro a' w' hp
   exact hq _ _ _ (hp.back hx1)
 | some v =>
  obtain ⟨l1,o,l2,st0,hl,hrun,hpan⟩:=h1
  simp only [drawOk,panicOk,Bool.and_eq_true] at h2
  obtain ⟨⟨hbk,hgo⟩,hla⟩:=h2
  have hkl:=run_length hrun
  obtain ⟨hok,htk⟩:=ops_eq hl hkl.symm
  have hkn:ks.length < ops.size:=(Array.getElem?_eq_some_iff.1 hok).1
  have hB:leftB ops (Array.replicate ops.size false) ks.length = List.range ks.length:=by
   unfold leftB
   rw [hleft]
   have:List.range ops.size = List.range ks.length ++ (List.range (ops.size - ks.length)).map (ks.length + ·):=by
    rw [← List.range_add]; congr 1; omega
   rw [this,List.filter_append,List.filter_eq_self.2 (by simp),List.filter_eq_nil_iff.2 (by simp),List.append_nil]
  have hkm:(List.range ks.length).map (fun i=>(ks ++ [Kd.look none]).getD i 0) = ks:=by
   apply List.ext_getElem (by simp)
   intro i h1 h2
   simp [List.getD_eq_getElem?_getD,List.getElem?_append_left h2,h2]
  have hord:∀ (i j:Nat) x y,i < j→j≤ks.length→ops[i]? = some x→ops[j]? = some y→((masks ops.toList []).getD j 0).testBit i = true∨free ops x y ((ks ++ [Kd.look none]).getD i 0) ((ks ++ [Kd.look none]).getD j 0) = true:=fun i j x y hij hj hx hy=>by
   rw [hms] at hgo ⊢
   simp only [List.nil_append] at hgo ⊢
   have e1:=hzip (ks ++ [Kd.look none]) i x (by simp; omega) hx
   exact orderGo_at (ops:=ops) (ops.toList.zip (ks ++ [Kd.look none])) ms [] (by simp only [hml,List.length_zip]; omega) hgo j y _ (hzip _ j y (by simp; omega) hy) i (x,(ks ++ [Kd.look none]).getD i 0) (by rw [List.nil_append]; exact e1) (by simp; omega)
  have hlast:(ks ++ [Kd.look none]).getD ks.length 0 = .look none:=by simp [List.getD_eq_getElem?_getD]
  refine wp_region_any hm (wpAny_panic (f:=f) (fr0:=fr1) (κ:=fun i=>(ks ++ [Kd.look none]).getD i 0) (st':=st1) (v:=v) hdd hok ?_ ?_ ?_ ?_ ops.size _ fr st fr1 st0 G _ act Q' (by simp) (by rw [hleft]; simp) ?_ ?_ ?_ hpan (hf.mono hx1) (hg.mono hx1) hs1 ?_)
  ·intro j o ho e he hb
   have:=backOk_at ops.toList 0 hbk j o (by simpa using ho) e he hb
   omega
  ·intro i j x y hij hj hx hy
   exact hord i j x y hij (by omega) hx hy
  ·intro i x hi hx
   have:=hord i ks.length x o hi (Nat.le_refl _) hx hok
   rwa [hlast] at this
  ·intro j y hj hy
   have hyl:(ops.toList.drop (ks.length + 1))[j - (ks.length + 1)]? = some y:=by
    rw [List.getElem?_drop,show ks.length + 1 + (j - (ks.length + 1)) = j by omega]
    simpa using hy
   have:=lateOk_at (ops:=ops) _ _ hla _ y hyl
   rw [show ks.length + 1 + (j - (ks.length + 1)) = j by omega] at this
   rcases this with h | ⟨h,h'⟩
   ·exact .inl h
   ·refine .inr ⟨h,fun i x hi hx=>?_⟩
    have hxl:(ops.toList.take (ks.length + 1))[i]? = some x:=by
     rw [List.getElem?_take_of_lt (by omega)]
     simpa using hx
    have:=apartAll_at _ 0 h' i x hxl
    simpa using this
  ·intro j hj hjs
   simp [hjs] at hj
  ·simp [hkn]
  ·rw [hB,hkm]
   have:(List.range ks.length).filterMap (ops[·]?) = l1:=by
    rw [fm_map _ (fun x hx=>by have:=List.mem_range.1 hx; omega),← htk]
    apply List.ext_getElem (by simp; omega)
    intro i h1 h2
    simp at h1 h2
    simp [show i < ops.size by omega]
   rw [this]
   exact hrun
  ·intro e a' w' hp
   exact hq _ _ _ (hp.back hx1)
end
end Go.AM
end
section
namespace Go.AM
open Go
section
variable {G G':Gh} {w:World} {st:St}
theorem VL_sc (G':Gh):(vs:List AV)→(l:List Value)→vs.all AV.isSc = true→VL G w vs l→VL G' w vs l
 | [],l,_,h=>by simpa only [VL] using h
 | v :: r,l,hs,h=>by
  simp only [List.all_cons,Bool.and_eq_true] at hs
  simp only [VL] at h ⊢
  obtain ⟨c,l',h1,h2,h3⟩:=h
  refine ⟨c,l',h1,?_,VL_sc G' r l' hs.2 h3⟩
  cases v <;> simp_all [AV.isSc,V]
mutual
theorem strip0_ok (him:∀ b,G.imm b≤G'.imm b):(v v':AV)→(c:Value)→strip0 v = some v'→V G w v c→V G' w v' c
 | .sc v,v',c,h,hv=>by simp only [strip0,Option.some.injEq] at h; subst h; simpa only [V] using hv
 | .agg cs,v',c,h,hv=>by
  simp only [strip0,Option.map_eq_some_iff] at h
  obtain ⟨cs',h1,rfl⟩:=h
  simp only [V] at hv ⊢
  obtain ⟨l,rfl,h2⟩:=hv
  exact ⟨l,rfl,strip0L_ok him cs cs' l h1 h2⟩
 | .slice xs sp,v',c,h,hv=>by
  simp only [strip0,Option.map_eq_some_iff] at h
  obtain ⟨xs',h1,rfl⟩:=h
  have hlen:=strip0L_len xs xs' h1
  simp only [V] at hv ⊢
  obtain ⟨a,cap,rfl,k1,k2,k3,k4,k5,k6⟩:=hv
  refine ⟨a,cap,by rw [hlen],by rw [hlen]; exact k1,k2,k3,by simp,by simp,fun hne=>?_⟩
  obtain ⟨b,o,n,cs,e1,e2,e3,e4,e5,e6⟩:=k6 (by rintro rfl; simp at hlen; exact hne hlen)
  exact ⟨b,o,n,cs,e1,strip0L_ok him xs xs' cs h1 e2,e3,e4,⟨Nat.le_trans e5.1 (him b),e5.2⟩,by simp⟩
 | .tuple _,v',c,h,hv=>by simp [strip0] at h
 | .ptr _ _,v',c,h,hv=>by simp [strip0] at h
 | .cptr _ _,v',c,h,hv=>by simp [strip0] at h
 | .fn _ _ _,v',c,h,hv=>by simp [strip0] at h
 | .iface _ _,v',c,h,hv=>by simp [strip0] at h
 | .cmap _ _,v',c,h,hv=>by simp [strip0] at h
 | .map _,v',c,h,hv=>by simp [strip0] at h
 | .arr _ _ _,v',c,h,hv=>by simp [strip0] at h
theorem strip0L_ok (him:∀ b,G.imm b≤G'.imm b):(v v':List AV)→(c:List Value)→strip0L v = some v'→VL G w v c→VL G' w v' c
 | [],v',c,h,hv=>by simp only [strip0L,Option.some.injEq] at h; subst h; simpa only [VL] using hv
 | v :: r,v',c,h,hv=>by
  simp only [strip0L,Option.bind_eq_some_iff,Option.map_eq_some_iff] at h
  obtain ⟨u,h1,r',h2,rfl⟩:=h
  simp only [VL] at hv ⊢
  obtain ⟨d,l',rfl,h3,h4⟩:=hv
  exact ⟨d,l',rfl,strip0_ok him v u d h1 h3,strip0L_ok him r r' l' h2 h4⟩
theorem strip0L_len:(v v':List AV)→strip0L v = some v'→v'.length = v.length
 | [],v',h=>by simp only [strip0L,Option.some.injEq] at h; subst h; rfl
 | v :: r,v',h=>by
  simp only [strip0L,Option.bind_eq_some_iff,Option.map_eq_some_iff] at h
  obtain ⟨u,h1,r',h2,rfl⟩:=h
  simp [strip0L_len r r' h2]
end
theorem chunk_len (k:Nat):(n:Nat)→(l:List AV)→(chunk k n l).length = n
 | 0,_=>rfl
 | n + 1,l=>by simp [chunk,chunk_len k n]
theorem chunk_ok (k:Nat):(n:Nat)→(cs:List AV)→(l:List Value)→VL G' w cs l→l.length = n * k →
  ∃ us,VL G' w (chunk k n cs) us∧(∀ c ∈ us,c.cells.size = k)∧flatC us = l
 | 0,cs,l,h,hl=>⟨[],by simp [chunk,VL],by simp,by
   have:l = []:=List.eq_nil_of_length_eq_zero (by simpa using hl)
   rw [this]; rfl⟩
 | n + 1,cs,l,h,hl=>by
  rw [Nat.add_mul,Nat.one_mul] at hl
  obtain ⟨us,h1,h2,h3⟩:=chunk_ok k n (cs.drop k) (l.drop k) (h.drop k) (by rw [List.length_drop]; omega)
  have hk:(l.take k).length = k:=by rw [List.length_take]; omega
  refine ⟨.agg (l.take k).toArray :: us,?_,?_,?_⟩
  ·simp only [chunk]
   exact .cons (by simp only [V]; exact ⟨_,rfl,h.take k⟩) h1
  ·intro c hc
   rcases List.mem_cons.1 hc with rfl | hc
   ·simpa [Value.cells] using hk
   ·exact h2 c hc
  ·have:flatC (.agg (l.take k).toArray :: us) = l.take k ++ flatC us:=by simp [flatC,Value.cells]
   rw [this,h3,List.take_append_drop]
mutual
theorem strip_ok (him:∀ b,G.imm b≤G'.imm b) (hfx:∀ b,G.fix b→G'.fix b)
  (hmap:∀ (id:Nat) ks vs b x,st[id]? = some (.map ks vs)→G.ids id = some (b,x)→G'.fix b∧∃ l,MapAt w b ks l∧VL G w vs l)
  (hcel:∀ (id:Nat) T cs b x,st[id]? = some (.arr T cs)→G.ids id = some (b,x)→cs.length≤G'.imm b∧∃ l,VL G w cs l∧∀ i c,l[i]? = some c→w.cell? ⟨b,i,none⟩ = some c) :
  (v v':AV)→(c:Value)→strip st v = some v'→V G w v c→V G' w v' c
 | .sc v,v',c,h,hv=>by simp only [strip,Option.some.injEq] at h; subst h; simpa only [V] using hv
 | .agg cs,v',c,h,hv=>by
  simp only [strip,Option.map_eq_some_iff] at h
  obtain ⟨cs',h1,rfl⟩:=h
  simp only [V] at hv ⊢
  obtain ⟨l,rfl,h2⟩:=hv
  exact ⟨l,rfl,stripL_ok him hfx hmap hcel cs cs' l h1 h2⟩
 | .tuple cs,v',c,h,hv=>by
  simp only [strip,Option.map_eq_some_iff] at h
  obtain ⟨cs',h1,rfl⟩:=h
  simp only [V] at hv ⊢
  obtain ⟨l,rfl,h2⟩:=hv
  exact ⟨l,rfl,stripL_ok him hfx hmap hcel cs cs' l h1 h2⟩
 | .ptr _ _,v',c,h,hv=>by simp [strip] at h
 | .cptr cs off,v',c,h,hv=>by
  simp only [strip,Option.map_eq_some_iff] at h
  obtain ⟨cs',h1,rfl⟩:=h
  simp only [V] at hv ⊢
  obtain ⟨b,o,l,rfl,h2,h3⟩:=hv
  exact ⟨b,o,l,rfl,stripL_ok him hfx hmap hcel cs cs' l h1 h2,Nat.le_trans h3.1 (him b),h3.2⟩
 | .slice xs sp,v',c,h,hv=>by
  simp only [strip,Option.map_eq_some_iff] at h
  obtain ⟨xs',h1,rfl⟩:=h
  have hlen:=stripL_len xs xs' h1
  simp only [V] at hv ⊢
  obtain ⟨a,cap,rfl,k1,k2,k3,k4,k5,k6⟩:=hv
  refine ⟨a,cap,by rw [hlen],by rw [hlen]; exact k1,k2,k3,by simp,by simp,fun hne=>?_⟩
  obtain ⟨b,o,n,cs,e1,e2,e3,e4,e5,e6⟩:=k6 (by rintro rfl; simp at hlen; exact hne hlen)
  exact ⟨b,o,n,cs,e1,stripL_ok him hfx hmap hcel xs xs' cs h1 e2,e3,e4,⟨Nat.le_trans e5.1 (him b),e5.2⟩,by simp⟩
 | .fn f a b,v',c,h,hv=>by
  simp only [strip,Option.bind_eq_some_iff,Option.map_eq_some_iff] at h
  obtain ⟨a',h1,b',h2,rfl⟩:=h
  simp only [V] at hv ⊢
  obtain ⟨l1,l2,rfl,h3,h4⟩:=hv
  exact ⟨l1,l2,rfl,stripL_ok him hfx hmap hcel a a' l1 h1 h3,stripL_ok him hfx hmap hcel b b' l2 h2 h4⟩
 | .iface t v,v',c,h,hv=>by
  simp only [strip,Option.map_eq_some_iff] at h
  obtain ⟨u,h1,rfl⟩:=h
  simp only [V] at hv ⊢
  obtain ⟨c',rfl,h2⟩:=hv
  exact ⟨c',rfl,strip_ok him hfx hmap hcel v u c' h1 h2⟩
 | .cmap ks vs,v',c,h,hv=>by
  simp only [strip,Option.map_eq_some_iff] at h
  obtain ⟨vs',h1,rfl⟩:=h
  simp only [V] at hv ⊢
  obtain ⟨b,l,rfl,h2,h3,h4⟩:=hv
  exact ⟨b,l,rfl,hfx b h2,h3,stripL_ok him hfx hmap hcel vs vs' l h1 h4⟩
 | .map id,v',c,h,hv=>by
  simp only [strip] at h
  split at h
  ·rename_i ks vs hst
   split at h
   ·rename_i hsc
    simp only [Option.some.injEq] at h
    subst h
    simp only [V] at hv ⊢
    obtain ⟨b,x,hid,rfl⟩:=hv
    obtain ⟨h1,l,h2,h3⟩:=hmap id ks vs b x hst hid
    exact ⟨b,l,rfl,h1,h2,VL_sc G' vs l hsc h3⟩
   ·cases h
  ·cases h
 | .arr id n k,v',c,h,hv=>by
  simp only [strip] at h
  split at h
  ·rename_i T cs hst
   split at h
   ·rename_i hc
    obtain ⟨hlen,hk,hn⟩:=hc
    simp only [Option.map_eq_some_iff] at h
    obtain ⟨cs',h1,rfl⟩:=h
    simp only [V] at hv
    obtain ⟨b,x,cap,hid,rfl,hcap,hmx⟩:=hv
    obtain ⟨h2,l,h3,h4⟩:=hcel id T cs b x hst hid
    have h5:=strip0L_ok him cs cs' l h1 h3
    have hll:=h3.length
    obtain ⟨us,hu1,hu2,hu3⟩:=chunk_ok k n cs' l h5 (by rw [hll,hlen])
    have hul:=hu1.length
    rw [chunk_len] at hul
    simp only [V,chunk_len]
    refine ⟨some ⟨b,0,none⟩,cap,rfl,hcap,hmx,by simp,by simp,by simp,fun _=>⟨b,0,k,us,rfl,hu1,hu2,hk,⟨?_,fun i c hi=>?_⟩,by simp⟩⟩
    ·rw [hu3,hll]; omega
    ·rw [hu3] at hi
     rw [Nat.zero_add]
     exact h4 i c hi
   ·cases h
  ·cases h
theorem stripL_ok (him:∀ b,G.imm b≤G'.imm b) (hfx:∀ b,G.fix b→G'.fix b)
  (hmap:∀ (id:Nat) ks vs b x,st[id]? = some (.map ks vs)→G.ids id = some (b,x)→G'.fix b∧∃ l,MapAt w b ks l∧VL G w vs l)
  (hcel:∀ (id:Nat) T cs b x,st[id]? = some (.arr T cs)→G.ids id = some (b,x)→cs.length≤G'.imm b∧∃ l,VL G w cs l∧∀ i c,l[i]? = some c→w.cell? ⟨b,i,none⟩ = some c) :
  (v v':List AV)→(c:List Value)→stripL st v = some v'→VL G w v c→VL G' w v' c
 | [],v',c,h,hv=>by simp only [stripL,Option.some.injEq] at h; subst h; simpa only [VL] using hv
 | v :: r,v',c,h,hv=>by
  simp only [stripL,Option.bind_eq_some_iff,Option.map_eq_some_iff] at h
  obtain ⟨u,h1,r',h2,rfl⟩:=h
  simp only [VL] at hv ⊢
  obtain ⟨d,l',rfl,h3,h4⟩:=hv
  exact ⟨d,l',rfl,strip_ok him hfx hmap hcel v u d h1 h3,stripL_ok him hfx hmap hcel r r' l' h2 h4⟩
theorem stripL_len:(v v':List AV)→stripL st v = some v'→v'.length = v.length
 | [],v',h=>by simp only [stripL,Option.some.injEq] at h; subst h; rfl
 | v :: r,v',h=>by
  simp only [stripL,Option.bind_eq_some_iff,Option.map_eq_some_iff] at h
  obtain ⟨u,h1,r',h2,rfl⟩:=h
  simp [stripL_len r r' h2]
end
end
section
variable {P:Program} {A:Ann}
theorem asAddr_run {st:St} {t:TypeId} {u v:AV} {cu:Value} {G:Gh} {w:World} (h:loadA P st t u = some v) (hu:V G w u cu) (hs:Sok G w st):∃ c,(do loadVar t (← asAddr cu):Sem Value).run P w = .ok c w∧V G w v c:=by
 obtain ⟨c,hc,hv⟩:=loadA_ok h hu hs
 refine ⟨c,?_,hv⟩
 unfold loadA at h
 split at h
 ·simp only [V] at hu
  obtain ⟨b,o,l,rfl,_⟩:=hu
  simpa [Instr.loadAt,Instr.sureAddr,asAddr] using hc
 ·simp only [V] at hu
  obtain ⟨b,x,_,rfl⟩:=hu
  simpa [Instr.loadAt,Instr.sureAddr,asAddr] using hc
 ·cases h
theorem results_ok {G:Gh} {w:World} {st:St} {fr:Fr} {a:Act} {n:Nat} (hf:Fits G w fr a n) (hs:Sok G w st):(l:List ResultVar)→(vs:List AV)→resultsL P st fr l = some vs →
  ∃ cs,(l.mapM (fun | .tmp t=>pure (a.tmps.getD t undef) | .cell x t=>do loadVar t (← asAddr (a.tmps.getD x undef))):Sem (List Value)).run P w = .ok cs w∧VL G w vs cs
 | [],vs,h=>by simp only [resultsL,Option.some.injEq] at h; subst h; exact ⟨[],rfl,VL.nil⟩
 | r :: l,vs,h=>by
  simp only [resultsL,Option.bind_eq_some_iff,Option.map_eq_some_iff] at h
  obtain ⟨v,h1,vs',h2,rfl⟩:=h
  obtain ⟨cs,hc,hv⟩:=results_ok hf hs l vs' h2
  cases r with
  | tmp t =>
   simp only [resultA,Option.some.injEq] at h1
   subst h1
   refine ⟨a.tmps.getD t undef :: cs,?_,VL.cons (V_weakA (hf.2 t)) hv⟩
   simp only [List.mapM_cons,Sem.run_bind,Sem.run_pure,Result.andThen_ok,hc]
  | cell x t =>
   simp only [resultA,Option.map_eq_some_iff] at h1
   obtain ⟨v0,h1,rfl⟩:=h1
   obtain ⟨c,hc1,hv1⟩:=asAddr_run h1 (hf.2 x) hs
   refine ⟨c :: cs,?_,VL.cons (V_weakA hv1) hv⟩
   rw [List.mapM_cons]
   simp only
   rw [Sem.run_bind,hc1]
   simp only [Result.andThen_ok,Sem.run_bind,hc,Sem.run_pure]
theorem resultsA_ok {fn:Func} {G:Gh} {w:World} {st:St} {fr:Fr} {a:Act} {n:Nat} {v:AV} (h:resultsA P fn st fr = some v) (hf:Fits G w fr a n) (hs:Sok G w st):∃ c,(results fn a.tmps).run P w = .ok c w∧V G w v c:=by
 unfold resultsA at h
 have key:∀ vs,resultsL P st fr fn.results.toList = some vs→∃ cs,(results fn a.tmps).run P w = .ok (if h:cs.length = 1 then cs[0]'(by omega) else .tuple ⟨cs⟩) w∧VL G w vs cs:=fun vs hvs=>by
  obtain ⟨cs,hc,hv⟩:=results_ok (a:=a) hf hs _ vs hvs
  refine ⟨cs,?_,hv⟩
  unfold results
  simp only [Sem.run_bind,Array.mapM_eq_mapM_toList,Sem.run_map]
  refine Eq.trans (congrArg (fun r=>Result.andThen (Result.andThen r _) _) hc) ?_
  simp only [Result.andThen_ok]
  by_cases h1:cs.length = 1
  ·simp [h1]
  ·simp [h1]
 split at h
 ·rename_i u hvs
  simp only [Option.some.injEq] at h
  subst h
  obtain ⟨cs,hr,hv⟩:=key _ hvs
  simp only [VL] at hv
  obtain ⟨c,l',rfl,h1,rfl⟩:=hv
  exact ⟨c,by simpa using hr,h1⟩
 ·rename_i vs hne hvs
  simp only [Option.some.injEq] at h
  subst h
  obtain ⟨cs,hr,hv⟩:=key _ hvs
  have hl:=hv.length
  have:¬ cs.length = 1:=by
   intro h1
   rw [h1] at hl
   cases vs with
   | nil=>simp at hl
   | cons x r=>cases r with
    | nil=>exact hne x rfl
    | cons y r=>simp at hl
  rw [dif_neg this] at hr
  exact ⟨_,hr,by simp only [V]; exact ⟨cs,rfl,hv⟩⟩
 ·cases h
end
end Go.AM
end
