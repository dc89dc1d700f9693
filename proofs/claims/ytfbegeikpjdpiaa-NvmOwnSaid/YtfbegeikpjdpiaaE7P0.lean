/- Part of a typed evaluator of the program's functions, proved sound. No condition. -/
import Derived.Calls
import Derived.Orders
import Derived.Laws.AppendOwn
import Derived.Below
import Derived.Laws.Cells
import Derived.Laws.CopyRow
import Derived.Deep.MidRow
import Derived.WalkKit
import Derived.WalkSpells
import Derived.WalkLawsBesides
import Derived.RangeFuncIn
import Derived.RangeFuncLeaves
import Derived.RangeFuncRecord
import Derived.TacticsIn
import Derived.OrdersIn
import Derived.RangeFuncCalls
set_option maxRecDepth 10000
set_option linter.unusedVariables false
set_option linter.unusedSimpArgs false
namespace Go.Ev
open Go
inductive Ty where
 |int (k:IntKind)|bool|str|unit|pair (a b:Ty)|slice (e:Ty)|arr (n:Nat) (e:Ty)
 deriving DecidableEq,Inhabited
@[reducible] def Ty.den:Ty->Type
 | .int _=>Int| .bool=>Bool| .str=>List Int| .unit=>Unit
 | .pair a b=>a.den×b.den
 | .slice e=>List e.den
 | .arr _ e=>List e.den
def bytesOf(x:List Int):ByteArray:=⟨(x.map fun n=>UInt8.ofNat n.toNat).toArray⟩
def strOK(x:List Int):Bool:=x.all (fun y=>decide (0<=y)&&decide (y<256))&&decide (x.length<=maxLen)
def Ty.size:Ty->Nat
 | .int _=>1| .bool=>1| .str=>1| .slice _=>1| .unit=>0| .pair a b=>a.size+b.size| .arr n e=>n*e.size
def Ty.agg:Ty->Bool
 | .unit=>true| .pair _ _=>true| .arr _ _=>true|_=>false
def Ty.dflt:(t:Ty)->t.den
 | .int _=>(0:Int)| .bool=>false| .str=>([]:List Int)| .unit=>()| .pair a b=>(a.dflt,b.dflt)| .slice _=>[]| .arr n e=>List.replicate n e.dflt
def Ty.beq:(t:Ty)->t.den->t.den->Bool
 | .int _,x,y=>(show Int from x)==(show Int from y)
 | .bool,x,y=>(show Bool from x)==(show Bool from y)
 | .str,x,y=>(show List Int from x)==(show List Int from y)
 | .unit,_,_=>true
 | .pair a b,x,y=>a.beq x.1 y.1&&b.beq x.2 y.2
 | .slice _,_,_=>false
 | .arr _ e,x,y=> @BEq.beq (List e.den) (@List.instBEq _ ⟨e.beq⟩) x y
def Ty.comparable:Ty->Bool
 | .slice _=>false| .str=>false| .pair a b=>a.comparable&&b.comparable| .arr _ e=>e.comparable|_=>true
def Ty.slices:Ty->Bool
 | .slice _=>true| .pair a b=>a.slices||b.slices| .arr _ e=>e.slices|_=>false
inductive Step where
 |f (i off:Nat)|ix (i sz:Nat)
abbrev Path:=List Step
def Step.off:Step->Nat| .f _ o=>o| .ix i s=>i*s
def poff(p:Path):Nat:=(p.map Step.off).sum
inductive CV where
 |junk
 |undef
 |int (k:IntKind) (n:Int)
 |bool (b:Bool)
 |nil (te:Nat) (e:Ty)
 |pure (t:Ty) (x:t.den)
 |pair (a b:CV)
 |whole (b:Nat)
 |sub (b:Nat) (p:Path) (sz off len:Nat) (cap:Option Nat)
 |ptr (b:Nat) (p:Path)
 |ref (t:Ty) (x:t.den)
 |clo (f:Nat) (caps:CV)
 |yld (b id:Nat) (caps:CV)
 |tup (vs:CV)
 |jsl (e:Ty) (xs:List e.den)
 deriving Inhabited
def ofP:(t:Ty)->t.den->CV
 | .int k,x=> .int k x
 | .bool,x=> .bool x
 | .str,x=> .pure .str x
 | .unit,x=> .pure .unit x
 | .pair a b,x=> .pure (.pair a b) x
 | .slice e,x=> .pure (.slice e) x
 | .arr n e,x=> .pure (.arr n e) x
def CV.asP:CV->Option (Σ t:Ty,t.den)
 | .int k n=>some ⟨.int k,n⟩
 | .bool b=>some ⟨.bool,b⟩
 | .pure t x=>some ⟨t,x⟩
 |_=>none
def mkPair(a b:CV):CV:=
 match a.asP,b.asP with
 |some s,some t=> .pure (.pair s.1 t.1) (s.2,t.2)
 |_,_=> .pair a b
def cunit:CV:= .pure .unit ()
def CV.csize:CV->Nat
 | .pure t _=>t.size| .pair a b=>a.csize+b.csize| .tup _=>0|_=>1
def CV.isAgg:CV->Bool
 | .pure t _=>t.agg| .pair _ _=>true|_=>false
def getPF:(t:Ty)->t.den->Nat->Nat->Option (Σ t:Ty,t.den)
 | .pair a _,x,0,o=>if o=0 then some ⟨a,x.1⟩else none
 | .pair a b,x,i+1,o=>if a.size<=o then getPF b x.2 i (o-a.size)else none
 |_,_,_,_=>none
def getF:CV->Nat->Nat->Option CV
 | .pair a _,0,o=>if o=0 then some a else none
 | .pair a b,i+1,o=>if a.csize<=o then getF b i (o-a.csize)else none
 | .pure t x,i,o=>match getPF t x i o with|some s=>some (ofP s.1 s.2)|none=>none
 |_,_,_=>none
def getIx:CV->Nat->Nat->Option CV
 | .pure (.arr _ e) x,i,s=>if e.size=s then some (ofP e (x.getD i e.dflt))else none
 |_,_,_=>none
def okIx:CV->Nat->Bool
 | .pure (.arr n _) _,i=>decide (i<n)
 |_,_=>false
def CV.get:CV->Path->Option CV
 |c,[]=>some c
 |c,.f i o::p=>match getF c i o with|some d=>d.get p|none=>none
 |c,.ix i s::p=>match getIx c i s with|some d=>d.get p|none=>none
def CV.ok:CV->Path->Bool
 |_,[]=>true
 |c,.f i o::p=>match getF c i o with|some d=>d.ok p|none=>false
 |c,.ix i s::p=>match getIx c i s with|some d=>okIx c i&&d.ok p|none=>false
inductive Blk where
 |fresh
 |dead
 |mem (c:CV)
 |vec (te:Nat) (e:Ty) (xs:List e.den)
 |fvec (te:Nat) (e:Ty) (xs:List e.den)
 |ghost (n:Nat)
 deriving Inhabited
abbrev Look:=Nat->Blk
def Blk.ok:Blk->Path->Bool
 | .mem c,p=>c.ok p
 | .vec _ e xs,.ix i _::p=>decide (i<xs.length)&&(ofP e (xs.getD i e.dflt)).ok p
 |_,_=>false
def CV.subOK(look:Look):CV->Bool
 | .sub b p _ off len _=>match look b with
   | .vec _ _ xs=>decide (off+len<=xs.length)
   | .mem c=>match c.get p with|some (.pure (.arr n _) _)=>c.ok p&&decide (off+len<=n)|_=>false
   |_=>false
 | .pair a b=>a.subOK look&&b.subOK look
 |_=>true
def toPH(look:Look):(t:Ty)->CV->Option t.den
 |t,.pure t' x=>if h:t'=t then some (h▸x)else none
 | .int k,.int k' n=>if k'=k then some n else none
 | .bool,.bool b=>some b
 | .pair a b,.pair c d=>match toPH look a c,toPH look b d with|some x,some y=>some (x,y)|_,_=>none
 | .slice _,.nil _ _=>some []
 | .slice e,.whole b=>match look b with
   | .vec _ e' xs=>if h:e'=e then some (h▸xs)else none
   | .fvec _ e' xs=>if h:e'=e then some (h▸xs)else none
   |_=>none
 | .slice e,.sub b p sz off len _=>match look b,p with
   | .vec _ e' xs,[]=>if h:e'=e then if e.size=sz then some (((show List e.den from h▸xs).drop off).take len)else none else none
   | .mem c,p=>match c.get p with
     |some (.pure (.arr _ e') xs)=>if h:e'=e then if e.size=sz then some (((show List e.den from h▸xs).drop off).take len)else none else none
     |_=>none
   |_,_=>none
 |_,_=>none
def setPF:(t:Ty)->t.den->Nat->Nat->CV->Option CV
 | .pair a b,x,0,o,v=>if o=0 then some (mkPair v (ofP b x.2))else none
 | .pair a b,x,i+1,o,v=>if a.size<=o then match setPF b x.2 i (o-a.size) v with|some c=>some (mkPair (ofP a x.1) c)|none=>none else none
 |_,_,_,_,_=>none
def setF:CV->Nat->Nat->CV->Option CV
 | .pair a b,0,o,v=>if o=0 then some (mkPair v b)else none
 | .pair a b,i+1,o,v=>if a.csize<=o then match setF b i (o-a.csize) v with|some c=>some (mkPair a c)|none=>none else none
 | .pure t x,i,o,v=>setPF t x i o v
 |_,_,_,_=>none
def noLook:Look:=fun _=> .dead
def setIx:CV->Nat->CV->Option CV
 | .pure (.arr n e) x,i,v=>match toPH noLook e v with|some y=>some (.pure (.arr n e) (x.set i y))|none=>none
 |_,_,_=>none
def CV.set(v:CV):Path->CV->Option CV
 |[],c=>if c.csize=v.csize then some v else none
 | .f i o::p,c=>match getF c i o with
   |some d=>match CV.set v p d with|some d'=>setF c i o d'|none=>none
   |none=>none
 | .ix i s::p,c=>match getIx c i s with
   |some d=>match CV.set v p d with|some d'=>setIx c i d'|none=>none
   |none=>none
def Blk.get:Blk->Path->Option CV
 | .mem c,p=>c.get p
 | .vec _ e xs,.ix i s::p=>if e.size=s then(ofP e (xs.getD i e.dflt)).get p else none
 |_,_=>none
def Blk.set(v:CV):Blk->Path->Option Blk
 | .mem c,p=>match CV.set v p c with|some d=>some (.mem d)|none=>none
 | .vec te e xs,.ix i s::p=>if e.size=s then match CV.set v p (ofP e (xs.getD i e.dflt))with
   |some d=>match toPH noLook e d with|some y=>some (.vec te e (xs.set i y))|none=>none
   |none=>none else none
 |_,_=>none
def Blk.isVec:Blk->Bool| .vec _ _ _=>true|_=>false
def CV.refs:CV->List Nat
 | .whole b=>[b]| .sub b _ _ _ _ _=>[b]| .ptr b _=>[b]| .pair a b=>a.refs++b.refs| .clo _ c=>c.refs| .yld b _ c=>b::c.refs| .tup c=>c.refs|_=>[]
def Blk.frz:Blk->Blk
 | .vec te e xs=> .fvec te e xs| .mem _=> .dead| .ghost _=> .dead|b=>b
inductive Opd where
 |tmp (t:Nat)|cst (c:CV)
 deriving Inhabited
structure Out where
 ok:Bool
 v:CV
 wr:List (Nat×Blk)
abbrev Summ:=List CV->Look->Nat->Option Out
inductive IOp where
 |mov|pick|alloc (te:Nat) (z:CV)|box (te:Nat)
 |build (zs:List (CV×Nat)) (idx:List Nat)
 |buildArr (n:Nat) (e:Ty)|buildArrP (n:Nat) (e:Ty)
 |buildSl (te:Nat) (e:Ty) (n:Nat)
 |load (agg:Bool) (sz:Nat)|store (sz:Nat)
 |nilck|bin (op:BinOp)|eqb (neg:Bool) (t:Ty)|not|neg|bnot|conv (k:IntKind)
 |field (i off:Nat) (agg:Bool) (sz:Nat)|fieldAddr (i off:Nat)
 |idxSl (sz:Nat)|idxArr (n:Nat) (sz:Nat)|index (n:Nat) (e:Ty)
 |slice (sz:Nat) (lo hi:Bool)|slice3 (sz:Nat)|sliceArr (n:Nat) (e:Ty) (lo hi:Bool)
 |mkFunc (f:Nat)|mkSlice (te:Nat) (e:Ty) (bytes:Nat)
 |extract (i:Nat)|len|append (te:Nat) (e:Ty) (bytes:Nat)|copy (e:Ty)|clear (e:Ty)
 |min|max|mark|lenStr|idxStr|eqStr (neg:Bool)|strB
 |callS (f:Nat)
 |call (f:Nat)|callv
 |bad
def inB(i:Int)(n:Nat):Bool:=decide (0<=i)&&decide (i<n)
def sl3(lo hi n:Int):Bool:=decide (0<=lo)&&(decide (lo<=hi)&&decide (hi<=n))
def nth:CV->Nat->Option CV
 | .pair a _,0=>some a
 | .pair _ b,i+1=>nth b i
 |_,_=>none
def chain:List CV->CV
 |[]=>cunit
 |x::xs=> .pair x (chain xs)
def unchain:CV->List CV
 | .pair a b=>a::unchain b
 |_=>[]
def mkChain:List CV->CV
 |[]=>cunit
 |x::xs=>mkPair x (mkChain xs)
def room(n bytes:Nat):Bool:=decide (n*bytes<=140737488355328)&&decide (n<=140737488355328)
def binI(op:BinOp)(k:IntKind)(x y:Int):Option (Bool×CV) :=
 match op with
 | .add=>some (true,.int k (k.wrap (x+y)))
 | .sub=>some (true,.int k (k.wrap (x-y)))
 | .mul=>some (true,.int k (k.wrap (x*y)))
 | .quo=>some (!(y==0),.int k (k.wrap (x.tdiv y)))
 | .rem=>some (!(y==0),.int k (x.tmod y))
 | .and=>some (true,.int k (k.wrap (BitVec.ofInt k.bits x&&&BitVec.ofInt k.bits y).toNat))
 | .or=>some (true,.int k (k.wrap (BitVec.ofInt k.bits x|||BitVec.ofInt k.bits y).toNat))
 | .xor=>some (true,.int k (k.wrap (BitVec.ofInt k.bits x ^^^ BitVec.ofInt k.bits y).toNat))
 | .andNot=>some (true,.int k (k.wrap (BitVec.ofInt k.bits x&&& ~~~ BitVec.ofInt k.bits y).toNat))
 | .eql=>some (true,.bool (x==y))
 | .neq=>some (true,.bool (x !=y))
 | .lss=>some (true,.bool (decide (x<y)))
 | .leq=>some (true,.bool (decide (x<=y)))
 | .gtr=>some (true,.bool (decide (x>y)))
 | .geq=>some (true,.bool (decide (x>=y)))
 |_=>none
def shiftI(op:BinOp)(k:IntKind)(x y:Int):Option (Bool×CV) :=
 match op with
 | .shl=>some (decide (0<=y),.int k (k.wrap (x*2^(Nat.min y.toNat k.bits))))
 | .shr=>some (decide (0<=y),.int k (x.fdiv (2^(Nat.min y.toNat k.bits))))
 |_=>none
def allPH(look:Look)(e:Ty):List CV->Option (List e.den)
 |[]=>some []
 |c::cs=>match toPH look e c,allPH look e cs with|some x,some xs=>some (x::xs)|_,_=>none
def frzs(look:Look)(cs:List CV):List (Nat×Blk):=(cs.flatMap CV.refs).map fun b=>(b,(look b).frz)
def val(c:CV):Option Out:=some ⟨true,c,[]⟩
def CV.isVal:CV->Bool| .junk=>false| .undef=>false| .tup _=>false| .pair a b=>a.isVal&&b.isVal|_=>true
def subsOK(look:Look)(cs:List CV):Bool:=cs.all (CV.subOK look)
def listOf(look:Look):CV->Option (Σ e:Ty,List e.den)
 | .pure (.slice e) xs=>some ⟨e,xs⟩
 | .nil _ e=>some ⟨e,[]⟩
 | .jsl e xs=>some ⟨e,xs⟩
 | .whole b=>match look b with| .vec _ e xs=>some ⟨e,xs⟩| .fvec _ e xs=>some ⟨e,xs⟩|_=>none
 |_=>none
def lenOf(look:Look):CV->Option Nat
 | .sub _ _ _ _ len _=>some len
 |c=>match listOf look c with|some s=>some s.2.length|none=>none
def over{α:Type}(xs:List α)(off:Nat)(ys:List α):List α:=xs.take off++ys++xs.drop (off+ys.length)
def loOf(b:Bool)(is:List CV):Option (Option Int×List CV) :=
 if b then match is with| .int _ n::r=>some (some n,r)|_=>none else some (none,is)
def aMov:List CV->Option Out
 |[x]=>val x
 |_=>none
def aPick:List CV->Option Out
 |[.bool true,a,_]=>val a
 |[.bool false,_,b]=>val b
 |_=>none
def aAlloc(_te:Nat)(z:CV)(nid:Nat):List CV->Option Out
 |[]=>some ⟨true,.ptr nid [],[(nid,.mem z)]⟩
 |_=>none
def aBox(nid:Nat):List CV->Option Out
 |[x]=>if x.isVal then some ⟨true,.ptr nid [],[(nid,.mem x)]⟩else none
 |_=>none
def mkBuild:List (CV×Nat)->Nat->List (Nat×CV)->CV
 |[],_,_=>cunit
 |z::fs,j,[]=>mkPair z.1 (mkBuild fs (j+1) [])
 |z::fs,j,p::ps=>if p.1=j then mkPair p.2 (mkBuild fs (j+1) ps)else mkPair z.1 (mkBuild fs (j+1) (p::ps))
def buildOK:List (CV×Nat)->Nat->List (Nat×CV)->Bool
 |_,_,[]=>true
 |[],_,_::_=>false
 |z::fs,j,p::ps=>if p.1=j then(p.2.csize==z.2&&p.2.isVal)&&buildOK fs (j+1) ps else buildOK fs (j+1) (p::ps)
def aBuild(zs:List (CV×Nat))(idx:List Nat)(vs:List CV):Option Out:=
 if vs.length=idx.length/\buildOK zs 0 (idx.zip vs)=true then val (mkBuild zs 0 (idx.zip vs))else none
def aBuildArr(n:Nat)(e:Ty)(look:Look):List CV->Option Out
 |vs=>if vs.length=n then match allPH look e vs with|some xs=>some ⟨subsOK look vs,.pure (.arr n e) xs,frzs look vs⟩|none=>none else none
def aBuildArrP(n:Nat)(e:Ty)(look:Look):List CV->Option Out
 |vs=>if vs.length<=n then match allPH look e vs with|some xs=>some ⟨subsOK look vs,.pure (.arr n e) ((xs:List e.den)++List.replicate (n-vs.length) e.dflt),frzs look vs⟩|none=>none else none
def aBuildSl(te:Nat)(e:Ty)(n:Nat)(look:Look)(nid:Nat):List CV->Option Out
 |vs=>if vs.length=n then match allPH look e vs with|some xs=>some ⟨subsOK look vs,.whole nid,frzs look vs++[(nid,.vec te e xs)]⟩|none=>none else none
def aLoad(agg:Bool)(sz:Nat)(look:Look):List CV->Option Out
 |[.ptr b p]=>match(look b).get p with
  |some c=>if c.csize=sz/\c.isAgg=agg/\c.isVal=true then some ⟨(look b).ok p,c,[]⟩else none
  |none=>none
 |[.ref t x]=>if t.size=sz/\t.agg=agg then val (ofP t x)else none
 |_=>none
def aStore(sz:Nat)(look:Look):List CV->Option Out
 |[.ptr b p,v]=>if v.csize=sz/\v.isVal=true then
  match(look b).isVec with
  |false=>match(look b).set v p with
   |some k=>some ⟨(look b).ok p,.junk,[(b,k)]⟩
   |none=>none
  |true=>if v.refs.contains b then none else match(look b).get p with
   |some c=>match c.asP with
    |some s=>match toPH look s.1 v with
     |some x=>match(look b).set (ofP s.1 x) p with
      |some k=>some ⟨(look b).ok p&&v.subOK look,.junk,frzs look [v]++[(b,k)]⟩
      |none=>none
     |none=>none
    |none=>none
   |none=>none
  else none
 |_=>none
def aNilck:List CV->Option Out
 |[.ptr b p]=>val (.ptr b p)
 |[.ref t x]=>val (.ref t x)
 |[.clo f c]=>val (.clo f c)
 |_=>none
def aBin(op:BinOp):List CV->Option Out
 |[.int k x,.int k' y]=>match op with
  | .shl=>(shiftI .shl k x y).map fun r=>⟨r.1,r.2,[]⟩
  | .shr=>(shiftI .shr k x y).map fun r=>⟨r.1,r.2,[]⟩
  |op=>if k=k' then(binI op k x y).map fun r=>⟨r.1,r.2,[]⟩else none
 |_=>none
def aEqb(neg:Bool)(t:Ty)(look:Look):List CV->Option Out
 |[x,y]=>match toPH look t x,toPH look t y with
  |some a,some b=>if t.comparable/\x.subOK look=true then val (.bool (if neg then !(t.beq a b)else t.beq a b))else none
  |_,_=>none
 |_=>none
def aNot:List CV->Option Out
 |[.bool b]=>val (.bool !b)
 |_=>none
def aNeg:List CV->Option Out
 |[.int k n]=>val (.int k (k.wrap (0-n)))
 |_=>none
def aBnot:List CV->Option Out
 |[.int k n]=>val (.int k (k.wrap (BitVec.ofInt k.bits (if k.signed then-1 else k.max) ^^^ BitVec.ofInt k.bits n).toNat))
 |_=>none
def aConv(k:IntKind):List CV->Option Out
 |[.int _ n]=>val (.int k (k.wrap n))
 |_=>none
def aField(i off:Nat)(agg:Bool)(sz:Nat):List CV->Option Out
 |[x]=>match getF x i off with|some c=>if c.csize=sz/\c.isAgg=agg/\c.isVal=true/\x.isAgg=true then val c else none|none=>none
 |_=>none
def aFieldAddr(i off:Nat):List CV->Option Out
 |[.ptr b p]=>val (.ptr b (p++[.f i off]))
 |[.ref t x]=>match getPF t x i off with|some s=>val (.ref s.1 s.2)|none=>none
 |_=>none
def aIdxSl(sz':Nat)(look:Look):List CV->Option Out
 |[.sub b p sz off len _,.int _ i]=>if sz'=sz then some ⟨inB i len,.ptr b (p++[.ix (off+i.toNat) sz]),[]⟩else none
 |[.whole b,.int _ i]=>match look b with
  | .vec _ e xs=>if e.size=sz' then some ⟨inB i xs.length,.ptr b [.ix i.toNat sz'],[]⟩else none
  | .fvec _ e xs=>if e.size=sz' then some ⟨inB i xs.length,.ref e (xs.getD i.toNat e.dflt),[]⟩else none
  |_=>none
 |[.pure (.slice e) xs,.int _ i]=>if e.size=sz' then some ⟨inB i xs.length,.ref e (xs.getD i.toNat e.dflt),[]⟩else none
 |[.jsl (.int k) xs,.int _ i]=>if 1=sz' then some ⟨inB i (List.length xs),.ref (.int k) (List.getD xs i.toNat 0),[]⟩else none
 |_=>none
def aIdxArr(n sz:Nat):List CV->Option Out
 |[.ptr b p,.int _ i]=>some ⟨inB i n,.ptr b (p++[.ix i.toNat sz]),[]⟩
 |[.ref (.arr m e) x,.int _ i]=>if m=n/\e.size=sz then some ⟨inB i n,.ref e (x.getD i.toNat e.dflt),[]⟩else none
 |_=>none
def aIndex(n:Nat)(e:Ty)(look:Look):List CV->Option Out
 |[x,.int _ i]=>match toPH look (.arr n e) x with|some xs=>some ⟨inB i n,ofP e (xs.getD i.toNat e.dflt),[]⟩|none=>none
 |_=>none
def aSlice(sz':Nat)(lo hi:Bool)(look:Look):List CV->Option Out
 |s::is=>match loOf lo is with
  |some (l,is')=>match loOf hi is' with
   |some (h,[])=>match s with
    | .sub b p sz off len cap=>if sz=sz' then some ⟨sl3 (l.getD 0) (h.getD len) len,.sub b p sz (off+(l.getD 0).toNat) ((h.getD len).toNat-(l.getD 0).toNat) (cap.map (· -(l.getD 0).toNat)),[]⟩else none
    | .whole b=>match look b with
      | .vec _ e xs=>if e.size=sz' then some ⟨sl3 (l.getD 0) (h.getD xs.length) xs.length,.sub b [] e.size (l.getD 0).toNat ((h.getD xs.length).toNat-(l.getD 0).toNat) none,[]⟩else none
      | .fvec _ e xs=>if e.size=sz' then some ⟨sl3 (l.getD 0) (h.getD xs.length) xs.length,.pure (.slice e) ((xs.drop (l.getD 0).toNat).take ((h.getD xs.length).toNat-(l.getD 0).toNat)),[]⟩else none
      |_=>none
    | .pure (.slice e) xs=>if e.size=sz' then match h with
      |some h'=>some ⟨sl3 (l.getD 0) h' xs.length,.pure (.slice e) ((xs.drop (l.getD 0).toNat).take (h'.toNat-(l.getD 0).toNat)),[]⟩
      |none=>some ⟨sl3 (l.getD 0) xs.length xs.length,.pure (.slice e) (xs.drop (l.getD 0).toNat),[]⟩else none
    | .jsl e xs=>if e.size=sz' then match h with
      |some h'=>some ⟨sl3 (l.getD 0) h' xs.length,.jsl e ((xs.drop (l.getD 0).toNat).take (h'.toNat-(l.getD 0).toNat)),[]⟩
      |none=>some ⟨sl3 (l.getD 0) xs.length xs.length,.jsl e (xs.drop (l.getD 0).toNat),[]⟩else none
    |_=>none
   |_=>none
  |none=>none
 |_=>none
def aSlice3(sz':Nat):List CV->Option Out
 |[.sub b p sz off len _,.int _ l,.int _ h,.int _ m]=>if sz=sz' then some ⟨sl3 l h m&&decide (m<=(len:Int)),.sub b p sz (off+l.toNat) (h.toNat-l.toNat) (some (m.toNat-l.toNat)),[]⟩else none
 |[.pure (.slice e) xs,.int _ l,.int _ h,.int _ m]=>if e.size=sz' then some ⟨sl3 l h m&&decide (m<=(List.length xs:Int)),.pure (.slice e) ((xs.drop l.toNat).take (h.toNat-l.toNat)),[]⟩else none
 |_=>none
def aSliceArr(n:Nat)(e:Ty)(lo hi:Bool):List CV->Option Out
 |s::is=>match loOf lo is with
  |some (l,is')=>match loOf hi is' with
   |some (h,[])=>match s with
    | .ptr b p=>some ⟨sl3 (l.getD 0) (h.getD n) n,.sub b p e.size (l.getD 0).toNat ((h.getD n).toNat-(l.getD 0).toNat) (some (n-(l.getD 0).toNat)),[]⟩
    | .ref (.arr m e') x=>if m=n/\e'.size=e.size then some ⟨sl3 (l.getD 0) (h.getD n) n,.pure (.slice e') ((x.drop (l.getD 0).toNat).take ((h.getD n).toNat-(l.getD 0).toNat)),[]⟩else none
    |_=>none
   |_=>none
  |none=>none
 |_=>none
def aMkFunc(f:Nat):List CV->Option Out
 |cs=>if cs.all (fun c=>c.csize==1&& !c.isAgg&&c.isVal)then val (.clo f (chain cs))else none
def aMkSlice(te:Nat)(e:Ty)(bytes nid:Nat):List CV->Option Out
 |[.int _ n,.int _ c]=>some ⟨decide (0<=n)&&(n==c&&room n.toNat bytes),.whole nid,[(nid,.vec te e (List.replicate n.toNat e.dflt))]⟩
 |_=>none
def aExtract(i:Nat):List CV->Option Out
 |[.tup c]=>match nth c i with|some x=>val x|none=>none
 |_=>none
def aLen(look:Look):List CV->Option Out
 |[c]=>match lenOf look c with|some n=>val (.int .i64 n)|none=>none
 |_=>none
def aAppend(te:Nat)(e:Ty)(bytes:Nat)(look:Look)(nid:Nat):List CV->Option Out
 |[s,src]=>match toPH look (.slice e) src with
  |none=>none
  |some ys=>match s with
   | .nil _ _=>some ⟨src.subOK look&&room (List.length ys) bytes,.whole nid,[(nid,.vec te e ys)]⟩
   | .whole b=>match look b with
     | .vec te' e' xs=>if h:te'=te/\e'=e then some ⟨src.subOK look&&room (List.length xs+List.length ys) bytes,.whole nid,[(b,.dead),(nid,.vec te e ((show List e.den from h.2▸xs)++ys))]⟩else none
     |_=>none
   | .sub b p sz off len cap=>match look b with
     | .mem c=>match c.get p with
       |some (.pure (.arr n e') xs)=>if h:e'=e then if e.size=sz then some ⟨src.subOK look&&c.ok p&&((decide (off+len<=n)&&(decide (0<len)&&decide (0<List.length ys)))&&(decide (cap=some len)&&room (len+List.length ys) bytes)),.whole nid,[(nid,.vec te e (((show List e.den from h▸xs).drop off).take len++ys))]⟩else none else none
       |_=>none
     |_=>none
   |_=>none
 |_=>none
def aCopyVec(te:Nat)(e:Ty)(xs ys:List e.den)(off len:Nat)(sub:Bool)(b:Nat):Out:=⟨sub&&decide (off+len<=xs.length),.int .i64 (Nat.min ys.length len),[(b,.vec te e (over xs off (ys.take len)))]⟩
def aCopy(e:Ty)(look:Look):List CV->Option Out
 |[d,src]=>match toPH look (.slice e) src with
  |none=>none
  |some ys=>match d with
   | .whole b=>match look b with
     | .vec te e' xs=>if h:e'=e then some (aCopyVec te e (h▸xs) ys 0 xs.length (src.subOK look) b)else none
     |_=>none
   | .sub b p sz off len _=>match look b with
     | .vec te e' xs=>match p with
       |[]=>if h:e'=e then if e.size=sz then some (aCopyVec te e (h▸xs) ys off len (src.subOK look) b)else none else none
       |_=>none
     | .mem c=>match c.get p with
       |some (.pure (.arr n e') xs)=>if h:e'=e then if e.size=sz then
        match CV.set (.pure (.arr n e) (over (show List e.den from h▸xs) off (List.take len ys))) p c with
        |some c'=>some ⟨(src.subOK look&&c.ok p)&&decide (off+len<=n),.int .i64 (Nat.min (List.length ys) len),[(b,.mem c')]⟩
        |none=>none else none else none
       |_=>none
     |_=>none
   |_=>none
 |_=>none
def aClear(e:Ty)(look:Look):List CV->Option Out
 |[.sub b p sz off len _]=>match look b with
  | .vec te e' xs=>match p with
    |[]=>if h:e'=e then if e.size=sz then some ⟨decide (off+len<=List.length xs)&&decide (0<List.length xs),.junk,[(b,.vec te e (over (show List e.den from h▸xs) off (List.replicate len e.dflt)))]⟩else none else none
    |_=>none
  |_=>none
 |_=>none
def aMark(look:Look):List CV->Option Out
 |[.whole b]=>match look b with
  | .vec _ (.int .u8) xs=>some ⟨decide (0<List.length xs),.pure (.slice (.int .u8)) xs,[(b,.dead)]⟩
  |_=>none
 |_=>none
def aMin:List CV->Option Out
 |[.int k x,.int k' y]=>if k=k' then val (.int k (if y<x then y else x))else none
 |_=>none
def aMax:List CV->Option Out
 |[.int k x,.int k' y]=>if k=k' then val (.int k (if y>x then y else x))else none
 |_=>none
def aCallS(summ:Nat->Option Summ)(f:Nat)(look:Look)(nid:Nat)(vs:List CV):Option Out:=match summ f with|some s=>s vs look nid|none=>none
def aLenStr:List CV->Option Out
 |[.pure .str x]=>val (.int .i64 (List.length (show List Int from x)))
 |_=>none
def aIdxStr:List CV->Option Out
 |[.pure .str x,.int _ i]=>some ⟨inB i (List.length (show List Int from x)),.int .u8 (List.getD (show List Int from x) i.toNat 0),[]⟩
 |_=>none
def aEqStr(neg:Bool):List CV->Option Out
 |[.pure .str x,.pure .str y]=>val (.bool (if neg then !((show List Int from x)==(show List Int from y))else((show List Int from x)==(show List Int from y))))
 |_=>none
def aStrB(look:Look):List CV->Option Out
 |[c]=>match toPH look (.slice (.int .u8)) c with|some xs=>some ⟨c.subOK look,.pure .str xs,[]⟩|none=>none
 |_=>none
def CV.isTup:CV->Bool| .tup _=>true|_=>false
def capsOK(c:CV):Bool:=c.csize==(unchain c).length&&(unchain c).all fun x=>x.csize==1&&(!x.isAgg&& !x.isTup)
def aCallV(summ:Nat->Option Summ)(look:Look)(nid:Nat):List CV->Option Out
 | .clo f c::vs=>if capsOK c=true then match summ f with|some s=>s (vs++unchain c) look nid|none=>none else none
 |_=>none
def act(summ:Nat->Option Summ)(o:IOp)(vals:List CV)(look:Look)(nid:Nat):Option Out:=
 match o with
 | .mov=>aMov vals
 | .pick=>aPick vals
 | .alloc te z=>aAlloc te z nid vals
 | .box _=>aBox nid vals
 | .build zs idx=>aBuild zs idx vals
 | .buildArr n e=>aBuildArr n e look vals
 | .buildArrP n e=>aBuildArrP n e look vals
 | .buildSl te e n=>aBuildSl te e n look nid vals
 | .load agg sz=>aLoad agg sz look vals
 | .store sz=>aStore sz look vals
 | .nilck=>aNilck vals
 | .bin op=>aBin op vals
 | .eqb neg t=>aEqb neg t look vals
 | .not=>aNot vals
 | .neg=>aNeg vals
 | .bnot=>aBnot vals
 | .conv k=>aConv k vals
 | .field i off agg sz=>aField i off agg sz vals
 | .fieldAddr i off=>aFieldAddr i off vals
 | .idxSl sz'=>aIdxSl sz' look vals
 | .idxArr n sz=>aIdxArr n sz vals
 | .index n e=>aIndex n e look vals
 | .slice sz lo hi=>aSlice sz lo hi look vals
 | .slice3 sz=>aSlice3 sz vals
 | .sliceArr n e lo hi=>aSliceArr n e lo hi vals
 | .mkFunc f=>aMkFunc f vals
 | .mkSlice te e bytes=>aMkSlice te e bytes nid vals
 | .extract i=>aExtract i vals
 | .len=>aLen look vals
 | .append te e bytes=>aAppend te e bytes look nid vals
 | .copy e=>aCopy e look vals
 | .clear e=>aClear e look vals
 | .min=>aMin vals
 | .max=>aMax vals
 | .mark=>aMark look vals
 | .lenStr=>aLenStr vals
 | .idxStr=>aIdxStr vals
 | .eqStr neg=>aEqStr neg vals
 | .strB=>aStrB look vals
 | .callS f=>aCallS summ f look nid vals
 | .call _=>none
 | .callv=>aCallV summ look nid vals
 | .bad=>none
def isNew:IOp->Bool
 | .alloc _ _| .box _| .buildSl _ _ _| .mkSlice _ _ _| .append _ _ _| .callS _| .callv=>true
 |_=>false
def need(o:IOp)(vals:List CV):List Nat:=
 match o with
 | .mov| .pick| .alloc _ _| .box _| .build _ _| .nilck| .bin _| .not| .neg| .bnot| .conv _| .fieldAddr _ _| .idxArr _ _| .slice3 _| .sliceArr _ _ _ _| .mkFunc _| .mkSlice _ _ _| .extract _| .min| .max| .lenStr| .idxStr| .eqStr _=>[]
 | .load _ _=>match vals with|[.ptr b _]=>[b]|_=>[]
 |_=>vals.flatMap CV.refs
structure IOper where
 dst:Option Nat
 op:IOp
 args:List Opd
 guard:Option (Nat×Bool)
 rank:Nat
 preds:List Nat
inductive IC where
 |skip
 |region (draw:Bool) (nnew:Nat) (ops:List IOper)
 |seq (a b:IC)
 |cond (c:Opd) (a b:IC)
 |block (id:Nat) (b:IC)
 |loop (live:List Nat) (b:IC)
 |cut (live:List Nat) (b:IC)
 |exit (id:Nat)
 |ret
 |rangef (id:Nat) (g:Opd) (live ps:List Nat) (asg b:IC)
 deriving Inhabited
inductive Ex where
 |normal|exit (id:Nat)|ret
structure St where
 sl:List CV
 hp:List Blk
 fb:Nat
structure IFn where
 ntmps:Nat
 results:List (Nat ⊕ (Nat×Bool×Nat))
 body:IC
def St.look(S:St):Look:=fun b=>S.hp.getD b .fresh
def St.eval(S:St):Opd->CV
 | .tmp t=>S.sl.getD t .junk
 | .cst c=>c
def setH(hp:List Blk)(b:Nat)(k:Blk):List Blk:=if b<hp.length then hp.set b k else hp++[k]
def St.put(S:St)(dst:Option Nat)(v:CV):St:=match dst with|some d=> {S with sl:=S.sl.set d v}|none=>S
def wrAll(hp:List Blk):List (Nat×Blk)->List Blk
 |[]=>hp
 |p::r=>wrAll (setH hp p.1 p.2) r
def St.apply(S:St)(dst:Option Nat)(o:Out):St:=({S with hp:=wrAll S.hp o.wr}:St).put dst o.v
def CV.ren(fb:Nat)(keep:List Nat):CV->CV
 | .whole b=>if b<fb then .whole b else match keep.idxOf? b with|some i=> .whole (fb+i)|none=> .junk
 | .sub b p z o l c=>if b<fb then .sub b p z o l c else match keep.idxOf? b with|some i=> .sub (fb+i) p z o l c|none=> .junk
 | .ptr b p=>if b<fb then .ptr b p else match keep.idxOf? b with|some i=> .ptr (fb+i) p|none=> .junk
 | .pair a b=> .pair (a.ren fb keep) (b.ren fb keep)
 | .clo f c=> .clo f (c.ren fb keep)
 | .yld b i c=>if b<fb then .yld b i (c.ren fb keep)else match keep.idxOf? b with|some j=> .yld (fb+j) i (c.ren fb keep)|none=> .junk
 | .tup c=> .tup (c.ren fb keep)
 |c=>c
def Blk.ren(fb:Nat)(keep:List Nat):Blk->Blk
 | .mem c=> .mem (c.ren fb keep)
 |b=>b
def Blk.refs:Blk->List Nat| .mem c=>c.refs|_=>[]
def reach(hp:List Blk)(fb:Nat):Nat->List Nat->List Nat->List Nat
 |0,_,seen=>seen
 |_,[],seen=>seen
 |n+1,b::todo,seen=>if b<fb||seen.contains b then reach hp fb n todo seen else reach hp fb n ((hp.getD b .fresh).refs++todo) (seen++[b])
def compact(fb:Nat)(roots:List Nat)(hp:List Blk):List Nat:=reach hp fb 1000 (roots++(hp.take fb).flatMap Blk.refs) []
def compHp(fb:Nat)(keep:List Nat)(hp:List Blk):List Blk:=(hp.take fb).map (Blk.ren fb keep)++keep.map fun b=>(hp.getD b .fresh).ren fb keep
def vecify(n:Nat):CV->List Blk->CV×List Blk
 | .nil te e,ext=>if 0<e.size then(.whole (n+ext.length),ext++[.vec te e []])else(.nil te e,ext)
 | .pair a b,ext=>match vecify n a ext with|(a',ext')=>match vecify n b ext' with|(b',ext'')=>(.pair a' b',ext'')
 |c,ext=>(c,ext)
def killS(live:List Nat)(sl:List CV):List CV:=sl.zipIdx.map fun p=>if live.contains p.2 then p.1 else .junk
def vecSlot(S:St)(i:Nat):St:=match vecify S.hp.length (S.sl.getD i .junk) []with
 |(c,ext)=> {S with sl:=S.sl.set i c,hp:=S.hp++ext}
def vecBlk(S:St)(i:Nat):St:=match S.look i with
 | .mem c=>match vecify S.hp.length c []with|(c',ext)=> {S with hp:=setH (S.hp++ext) i (.mem c')}
 |_=>S
def foldS(f:St->Nat->St):List Nat->St->St
 |[],S=>S
 |i::r,S=>foldS f r (f S i)
def St.comp(S:St):St:=match compact S.fb (S.sl.flatMap CV.refs) S.hp with
 |keep=> {S with sl:=S.sl.map (CV.ren S.fb keep),hp:=compHp S.fb keep S.hp}
def St.norm(live:List Nat)(S:St):St:=
 (foldS vecBlk (List.range' S.fb (S.hp.length-S.fb)) (foldS vecSlot live {S with sl:=killS live S.sl})).comp
section
variable{R:Type}
def gd(c:Bool)(x:Option R):Option R:=bif c then x else none
structure LogE where
 i:Nat
 preds:List Nat
 rd:List Nat
 wr:List Nat
def Blk.isFresh:Blk->Bool| .fresh=>true|_=>false
def drawChk(S:St)(op:IOp)(nid:Nat)(out:Out):Bool:=out.wr.all (fun p=>decide (p.1<S.hp.length))&&(!isNew op||((S.look nid).isFresh&&decide (nid<=S.hp.length)))
def logOf(i:Nat)(o:IOper)(op:IOp)(vals:List CV)(nid:Nat)(out:Out):LogE:=⟨i,o.preds,(if isNew op then [nid]else [])++need op vals,out.wr.map (·.1)⟩
def IOper.rds(o:IOper):List Nat:=(o.args.flatMap fun| .tmp t=>[t]| .cst _=>[])++(match o.guard with|some g=>[g.1]|none=>[])
def slotApart(a b:IOper):Bool:=(match a.dst with|some d=> !b.rds.contains d&&b.dst !=some d|none=>true)&&(match b.dst with|some d=> !a.rds.contains d|none=>true)
def slotsOK:Nat->List IOper->Bool
 |_,[]=>true
 |i,a::l=>(l.all fun b=>b.preds.contains i||slotApart a b)&&slotsOK (i+1) l
def apart(a b:LogE):Bool:=a.wr.all fun x=> !b.rd.contains x&& !b.wr.contains x
def logOK:List LogE->Bool
 |[]=>true
 |a::l=>(l.all fun b=>b.preds.contains a.i||(apart a b&&apart b a))&&logOK l
def RZ:Nat:=1000000
def capsF(f:Nat)(c:CV):Bool:=Nat.blt f RZ&&capsOK c
def CV.cap:CV->CV| .tup _=> .junk|c=>c
def exN:Ex->Nat| .normal=>0| .ret=>2| .exit id=>id+3
def exOf:Nat->Ex|2=> .ret|n+3=> .exit n|_=> .normal
def putAll:List Nat->List CV->List CV->List CV
 |p::ps,v::vs,sl=>putAll ps vs (sl.set p v)
 |_,_,sl=>sl
variable(summ:Nat->Option Summ)(fu:Nat)(call:Nat->List CV->List Blk->(CV->List Blk->Option R)->Option R)
def skp(_draw:Bool):CV:= .undef
def evOps(draw:Bool)(base:Nat):Nat->List IOper->List LogE->St->(St->Option R)->Option R
 |_,[],log,S,k=>if draw then gd (logOK log) (k S)else k S
 |i,o::os,log,S,k=>
  let run (S:St):Option R:=
   match draw with
   |true=>match o.args.map S.eval with
    |vals=>match base+o.rank with
     |nid=>match act summ o.op vals S.look nid with
      |none=>none
      |some out=>gd (drawChk S o.op nid out) (gd out.ok (evOps true base (i+1) os (log++[logOf i o o.op vals nid out]) (S.apply o.dst out) k))
   |false=>match o.op with
    | .call f=>call f (o.args.map S.eval) S.hp fun v hp=>evOps false base (i+1) os log ({S with hp:=hp}.put o.dst v) k
    | .callv=>match o.args.map S.eval with
      | .clo f c::vs=>if capsF f c=true then call f (vs++unchain c) S.hp fun v hp=>evOps false base (i+1) os log ({S with hp:=hp}.put o.dst v) k else none
      | .yld b i' c::vs=>call (RZ+i') (.yld b i' c::vs) S.hp fun v hp=>evOps false base (i+1) os log ({S with hp:=hp}.put o.dst v) k
      |_=>none
    |op=>match o.args.map S.eval with
     |vals=>match S.hp.length with
      |nid=>match act summ op vals S.look nid with
       |none=>none
       |some out=>gd out.ok (evOps false base (i+1) os log (S.apply o.dst out) k)
  match o.guard with
  |none=>run S
  |some (d,want)=>match S.sl.getD d .junk with
   | .bool b=>bif b then
    (if want then run (S.put (some d) (.bool true))else evOps draw base (i+1) os log ((S.put (some d) (.bool true)).put o.dst (skp draw)) k)
     else
      (if want then evOps draw base (i+1) os log ((S.put (some d) (.bool false)).put o.dst (skp draw)) k else run (S.put (some d) (.bool false)))
   | .undef=>evOps draw base (i+1) os log (S.put o.dst .undef) k
   |_=>none
def evLoop(body:St->(Ex->St->Option R)->Option R)(nrm:St->St):Nat->St->(Ex->St->Option R)->Option R
 |0,_,_=>none
 |m+1,S,k=>body (nrm S) fun ex S'=>match ex with
  | .normal=>evLoop body nrm m S' k
  |e=>k e S'
def evCode:IC->St->(Ex->St->Option R)->Option R
 | .skip,S,k=>k .normal S
 | .region draw nnew ops,S,k=>match draw with
   |false=>evOps summ call false S.hp.length 0 ops [] S (k .normal)
   |true=>gd (slotsOK 0 ops) (evOps summ call true S.hp.length 0 ops [] {S with hp:=S.hp++List.replicate nnew .fresh} (k .normal))
 | .seq a b,S,k=>evCode a S fun ex S'=>match ex with| .normal=>evCode b S' k|e=>k e S'
 | .cond c a b,S,k=>match c with
   | .tmp t=>match S.sl.getD t .junk with
     | .bool x=>bif x then evCode a (S.put (some t) (.bool true)) k else evCode b (S.put (some t) (.bool false)) k
     |_=>none
   | .cst (.bool x)=>bif x then evCode a S k else evCode b S k
   |_=>none
 | .block id b,S,k=>evCode b S fun ex S'=>match ex with
   | .exit j=>if j=id then k .normal S' else k (.exit j) S'
   |e=>k e S'
 | .loop live b,S,k=>evLoop (evCode b) (St.norm live) fu S k
 | .cut live b,S,k=>evCode b (St.norm live S) k
 | .exit id,S,k=>k (.exit id) S
 | .ret,S,k=>k .ret S
 | .rangef id g live _ _ _,S,k=>match S.eval g with
   | .clo f c=>if capsF f c=true then call f (.yld S.hp.length id (chain ((killS live S.sl).map CV.cap))::unchain c) (S.hp++[.ghost 0]) fun _ hp=>match hp.getD S.hp.length .fresh with
     | .ghost 1=>none
     | .ghost n=>k (exOf n) {S with hp:=setH hp S.hp.length .dead}
     |_=>none else none
   |_=>none
end
def resOf(S:St):List (Nat ⊕ (Nat×Bool×Nat))->Option (List CV)
 |[]=>some []
 | .inl s::r=>if(S.sl.getD s .junk).isTup=true then none else match resOf S r with|some l=>some (S.sl.getD s .junk::l)|none=>none
 | .inr s::r=>match S.sl.getD s.1 .junk,resOf S r with
   | .ptr b [],some l=>match S.look b with| .mem c=>if c.csize=s.2.2/\c.isAgg=s.2.1/\c.isVal=true then some (c::l)else none|_=>none
   |_,_=>none
def tupOf:List CV->CV
 |[x]=>x
 |l=> .tup (chain l)
def findR:IC->Option (List Nat×IC×IC)
 | .seq a b=>match findR a with|some x=>some x|none=>findR b
 | .cond _ a b=>match findR a with|some x=>some x|none=>findR b
 | .block _ b=>findR b
 | .loop _ b=>findR b
 | .cut _ b=>findR b
 | .rangef _ _ _ ps a b=>some (ps,a,b)
 |_=>none
def evRnd{R:Type}(summ:Nat->Option Summ)(fu:Nat)(call:Nat->List CV->List Blk->(CV->List Blk->Option R)->Option R)(ps:List Nat)(asg body:IC):List CV->List Blk->(CV->List Blk->Option R)->Option R
 | .yld b _ c::vs,hp,k=>match hp.getD b .fresh with
   | .ghost 0=>if vs.length=ps.length then evCode summ fu call asg {sl:=putAll ps vs (unchain c),hp:=hp,fb:=hp.length} fun ex S=>match ex with
    | .normal=>match S.hp.getD b .fresh with
      | .ghost 0=>evCode summ fu call body {S with hp:=setH S.hp b (.ghost 1)} fun ex S=>match S.hp.getD b .fresh with
        | .ghost 1=>match setH S.hp b (.ghost (exN ex))with
          |hp'=>match compact S.fb [] hp' with
           |keep=>k (.bool (exN ex==0)) (compHp S.fb keep hp')
        |_=>none
      |_=>none
    |_=>none else none
   |_=>none
 |_,_,_=>none
def evFn{R:Type}(summ:Nat->Option Summ)(fns:Nat->Option IFn)(fu:Nat):Nat->Nat->List CV->List Blk->(CV->List Blk->Option R)->Option R
 |0,_,_,_,_=>none
 |n+1,f,args,hp,k=>match Nat.ble RZ f with
  |true=>match fns (f-RZ)with
   |some fn=>match findR fn.body with
    |some x=>evRnd summ fu (evFn summ fns fu n) x.1 x.2.1 x.2.2 args hp k
    |none=>none
   |none=>none
  |false=>match fns f with
  |none=>none
  |some fn=>evCode summ fu (evFn summ fns fu n) fn.body {sl:=args++List.replicate (fn.ntmps-args.length) .junk,hp:=hp,fb:=hp.length} fun ex S=>
   match ex with
   | .exit _=>none
   |_=>match resOf S fn.results with
    |none=>none
    |some l=>match compact S.fb (l.flatMap CV.refs) S.hp with
     |keep=>k ((tupOf l).ren S.fb keep) (compHp S.fb keep S.hp)
deriving instance Repr for Ty
section
variable(P:Program)
def tyFs(f:TypeId->Option Ty):List Field->Option Ty
 |[]=>some .unit
 |x::xs=>match f x.type,tyFs f xs with|some a,some b=>some (.pair a b)|_,_=>none
def tyOf:Nat->TypeId->Option Ty
 |0,_=>none
 |d+1,t=>match P.underlying t with
  |some (.int k)=>some (.int k)
  |some .bool=>some .bool
  |some .string=>some .str
  |some (.slice e)=>(tyOf d e).map .slice
  |some (.array n e)=>(tyOf d e).map (.arr n)
  |some (.struct fs)=>tyFs (tyOf d) fs.toList
  |_=>none
def zeroFs(f:TypeId->Option CV):List Field->Option CV
 |[]=>some cunit
 |x::xs=>match f x.type,zeroFs f xs with|some a,some b=>some (mkPair a b)|_,_=>none
def zeroCV:Nat->TypeId->Option CV
 |0,_=>none
 |d+1,t=>match P.underlying t with
  |some (.int k)=>some (.int k 0)
  |some .bool=>some (.bool false)
  |some .string=>some (.pure .str ([]:List Int))
  |some (.slice e)=>(tyOf P d e).map (.nil e)
  |some (.array n e)=>(tyOf P d e).map fun u=> .pure (.arr n u) (List.replicate n u.dflt)
  |some (.struct fs)=>zeroFs (zeroCV d) fs.toList
  |_=>none
abbrev D:Nat:=12
def encL{α:Type}(f:α->Option (List Value)):List α->Option (List Value)
 |[]=>some []
 |x::xs=>match f x,encL f xs with|some a,some b=>some (a++b)|_,_=>none
def inK(k:IntKind)(n:Int):Bool:=decide (k.wrap n=n)
def encD:(t:Ty)->t.den->Option (List Value)
 | .int k,x=>if inK k x then some [.int k x]else none
 | .bool,x=>some [.bool x]
 | .str,x=>if strOK x then some [.string (bytesOf x)]else none
 | .unit,_=>some []
 | .pair a b,x=>match encD a x.1,encD b x.2 with|some u,some v=>some (u++v)|_,_=>none
 | .slice _,x=>if List.isEmpty x then some [.slice none 0 0]else none
 | .arr n e,x=>if List.length x=n then encL (encD e) x else none
def CV.enc:CV->Option (List Value)
 | .int k n=>if inK k n then some [.int k n]else none
 | .bool b=>some [.bool b]
 | .nil _ _=>some [.slice none 0 0]
 | .pure t x=>encD t x
 | .pair a b=>match a.enc,b.enc with|some u,some v=>some (u++v)|_,_=>none
 |_=>none
def encLs:List CV->Option (List Value):=encL CV.enc
def vEq:Value->Value->Bool
 | .int k a,.int k' b=>decide (k=k')&&decide (a=b)
 | .bool a,.bool b=>a==b
 | .string a,.string b=>decide (a.data.toList=b.data.toList)
 | .slice none 0 0,.slice none 0 0=>true
 |_,_=>false
def vsEq:List Value->List Value->Bool
 |[],[]=>true
 |x::xs,y::ys=>vEq x y&&vsEq xs ys
 |_,_=>false
def ascend:List Nat->Bool
 |[]=>true
 |[_]=>true
 |x::y::r=>decide (x<y)&&ascend (y::r)
def cstOf(t:Option TypeId):Value->Option CV
 | .int k n=>if inK k n then some (.int k n)else none
 | .bool b=>some (.bool b)
 | .string s=>if s.size<=maxLen then some (.pure .str (s.data.toList.map fun b=>(b.toNat:Int)))else none
 | .slice none 0 0=>match t with
   |some t=>match P.underlying t with
    |some (.slice e)=>(tyOf P D e).map (.nil e)
    |_=>none
   |none=>none
 |_=>none
def opd(t:Option TypeId):Operand->Option Opd
 | .tmp t=>some (.tmp t)
 | .const v=>(cstOf P t v).map .cst
 | .func f=>some (.cst (.clo f cunit))
 | .global _=>none
def opds:List (Option TypeId)->List Operand->Option (List Opd)
 |[],[]=>some []
 |t::ts,x::xs=>match opd P t x,opds ts xs with|some a,some l=>some (a::l)|_,_=>none
 |_,_=>none
def offsOK:Nat->List Field->Bool
 |_,[]=>true
 |o,f::fs=>(f.offset==o&&(P.info? f.type).isSome)&&offsOK (o+P.cellsOf f.type) fs
def zeroLs:List Field->Option (List (CV×Nat))
 |[]=>some []
 |f::fs=>match zeroCV P D f.type,zeroLs fs with
  |some z,some zs=>if z.csize=P.cellsOf f.type/\z.isVal=true then some ((z,P.cellsOf f.type)::zs)else none
  |_,_=>none
def arrOK(t:TypeId)(m:Nat):Bool:=match P.info? t with
 |some i=>(match i.zero with|some z=>z.cells.size==m|none=>false)
 |none=>false
def arrZ(t:TypeId)(n:Nat)(u:Ty):Bool:=match P.info? t,encD (.arr n u) (List.replicate n u.dflt)with
 |some i,some cs=>(match i.zero with|some z=>vsEq cs z.cells.toList|none=>false)
 |_,_=>false
def isAggT(t:TypeId):Bool:=match P.underlying t with|some (.struct _)=>true|some (.array _ _)=>true|_=>false
def szT(t:TypeId):Nat:=P.cellsOf t
def hasT(t:TypeId):Bool:=(P.info? t).isSome
def elemOK(e:TypeId)(u:Ty):Bool:=match P.info? e with
 |some i=>match i.zero with|some z=>z.cells.size==i.size&&(i.size==u.size&&decide (0<u.size))|none=>false
 |none=>false
def eqFs(f:TypeId->Ty->Bool):Nat->List Field->Ty->Bool
 |_,[],.unit=>true
 |o,x::xs,.pair a b=>(x.offset==o&&(P.cellsOf x.type==a.size&&x.name != "_"))&&(f x.type a&&eqFs f (o+a.size) xs b)
 |_,_,_=>false
def eqTy:Nat->TypeId->Ty->Bool
 |0,_,_=>false
 |d+1,t,u=>match P.underlying t with
  |some (.int k)=>match u with| .int k'=>decide (k=k')|_=>false
  |some .bool=>match u with| .bool=>true|_=>false
  |some (.array n e)=>match u with| .arr m v=>(m==n&&(P.cellsOf e==v.size&&P.cellsOf t==n*v.size))&&eqTy d e v|_=>false
  |some (.struct fs)=>(P.cellsOf t==u.size&&(!(P.cutTypes.any (·.2==t))&& !P.stoodInHeld t))&&eqFs P (eqTy d) 0 fs.toList u
  |_=>false
def eqOK(t:TypeId)(u:Ty):Bool:=(u.agg&&(isAggT P t&&u.comparable))&&(eqTy P D t u&& !P.eqGuardType P.depth t)
def compEq(op:BinOp)(t:TypeId)(x y:Operand):Option (IOp×List Opd) :=
 match tyOf P D t with
 |some u=>if eqOK P t u=true then match op with
  | .eql=>(opds P [some t,some t] [x,y]).map fun l=>(.eqb false u,l)
  | .neq=>(opds P [some t,some t] [x,y]).map fun l=>(.eqb true u,l)
  |_=>none
  else none
 |none=>none
def dfltOK(e:TypeId)(u:Ty):Bool:=match P.info? e,encD u u.dflt with
 |some i,some cs=>match i.zero with|some z=>vsEq cs z.cells.toList|none=>false
 |_,_=>false
def isU8(e:TypeId):Bool:=match P.underlying e with|some (.int .u8)=>true|_=>false
def partIdx(parts:List (Nat×Operand))(i:Nat):Option Nat:=parts.findIdx? (·.1==i)
def insP{α:Type}(x:Nat×α):List (Nat×α)->List (Nat×α)
 |[]=>[x]
 |y::l=>if x.1<y.1 then x::y::l else y::insP x l
def sortP{α:Type}:List (Nat×α)->List (Nat×α)
 |[]=>[]
 |x::l=>insP x (sortP l)
def nodupB:List Nat->Bool
 |[]=>true
 |x::l=> !l.contains x&&nodupB l
def movOf(t:TypeId)(x:Operand):Option (IOp×List Opd):=match opd P (some t) x with
 |some a=>some (.mov,[a])
 |none=>match x with| .const _=>some (.mov,[.cst .junk])|_=>none
def compOp(sm:Nat->Bool)(o:Oper):Option (IOp×List Opd) :=
 let one (x:Operand) (f:IOp):Option (IOp×List Opd):=(opd P none x).map fun a=>(f,[a])
 match o.op with
 | .move x=>movOf P o.type x
 | .assign x=>movOf P o.type x
 | .pick c a b=>(opds P [none,none,none] [c,a,b]).map fun l=>(.pick,l)
 | .alloc t=>match P.info? t,zeroCV P D t with
   |some i,some z=>match i.zero,z.enc with
    |some zv,some cs=>if vsEq cs zv.cells.toList&&z.isVal then some (.alloc t z,[])else none
    |_,_=>none
   |_,_=>none
 | .box t x=>(opd P (some t) x).map fun a=>(.box t,[a])
 | .build t parts=>match P.underlying t with
   |some (.struct fs)=>match P.info? t,zeroLs P fs.toList,opds P ((sortP parts.toList).map fun p=>(fs[p.1]?).map (·.type)) ((sortP parts.toList).map (·.2))with
    |some i,some zs,some l=>match i.zero,encLs (zs.map (·.1))with
     |some zv,some cs=>if vsEq cs zv.cells.toList&&(offsOK P 0 fs.toList&&nodupB (parts.toList.map (·.1)))then some (.build zs ((sortP parts.toList).map (·.1)),l)else none
     |_,_=>none
    |_,_,_=>none
   |some (.array n e)=>if parts.toList.isEmpty then(match P.info? t,zeroCV P D t with
    |some i,some z=>match i.zero,z.enc with
     |some zv,some cs=>if vsEq cs zv.cells.toList&&(z.isVal&&(z.isAgg&&hasT P e))then some (.mov,[.cst z])else none
     |_,_=>none
    |_,_=>none)else match tyOf P D e,opds P (parts.toList.map fun _=>none) (parts.toList.map (·.2))with
    |some u,some l=>if parts.toList.map (·.1)=List.range n&&(elemOK P e u&&arrOK P t (n*u.size))then some (.buildArr n u,l)else if(parts.toList.map (·.1)=List.range parts.toList.length&&decide (parts.toList.length<=n))&&(elemOK P e u&&arrZ P t n u)then some (.buildArrP n u,l)else none
    |_,_=>none
   |_=>none
 | .buildSlice t n parts=>match P.underlying t with
   |some (.slice e)=>match tyOf P D e,opds P (parts.toList.map fun _=>some e) (parts.toList.map (·.2))with
    |some u,some l=>if parts.toList.map (·.1)=List.range n&&(elemOK P e u&&decide (n*u.size<=1048576))then some (.buildSl e u n,l)else none
    |_,_=>none
   |_=>none
 | .load t a=>if hasT P t&&(P.underlying t).isSome then one a (.load (isAggT P t) (szT P t))else none
 | .store t a x=>if hasT P t then(opds P [none,some t] [a,x]).map fun l=>(.store (szT P t),l)else none
 | .nilCheck x=>one x .nilck
 | .binOp op t x y _=>match P.underlying t with
   |some (.int _)=>(opds P [none,none] [x,y]).map fun l=>(.bin op,l)
   |some .bool=>match op with
    | .eql=>(opds P [some t,some t] [x,y]).map fun l=>(.eqb false .bool,l)
    | .neq=>(opds P [some t,some t] [x,y]).map fun l=>(.eqb true .bool,l)
    |_=>none
   |some .string=>match op with
    | .eql=>(opds P [none,none] [x,y]).map fun l=>(.eqStr false,l)
    | .neq=>(opds P [none,none] [x,y]).map fun l=>(.eqStr true,l)
    |_=>none
   |_=>compEq P op t x y
 | .unOp .not _ x=>one x .not
 | .unOp .neg _ x=>one x .neg
 | .unOp .xor _ x=>one x .bnot
 | .convert s t x=>match P.underlying s,P.underlying t with
   |some (.int _),some (.int k)=>one x (.conv k)
   |some (.slice e),some (.slice _)=>if s==t&&isU8 P e then one x .mark else none
   |some (.slice e),some .string=>if isU8 P e then one x .strB else none
   |_,_=>none
 | .makeFunc (.func f) first caps=>if first.isEmpty then(opds P (caps.toList.map fun _=>none) caps.toList).map fun l=>(.mkFunc f,l)else none
 | .slice t x lo hi mx=>match mx with
   |some m=>match lo,hi with
    |some l,some h=>match opds P [none,none,none,none] [x,l,h,m],P.underlying t with
     |some l,some (.slice e)=>if hasT P e then some (.slice3 (szT P e),l)else none
     |_,_=>none
    |_,_=>none
   |none=>match opds P ((x::(lo.toList++hi.toList)).map fun _=>none) (x::(lo.toList++hi.toList)),P.underlying t with
    |some l,some (.slice e)=>if hasT P e then some (.slice (szT P e) lo.isSome hi.isSome,l)else none
    |some l,some (.array n e)=>match tyOf P D e with
     |some u=>if elemOK P e u&&decide (n<=1048576)then some (.sliceArr n u lo.isSome hi.isSome,l)else none
     |none=>none
    |_,_=>none
 | .makeSlice t l c=>match P.underlying t with
   |some (.slice e)=>match tyOf P D e,P.info? e,opds P [none,none] [l,c]with
    |some u,some i,some l=>if elemOK P e u&&dfltOK P e u then some (.mkSlice e u i.bytes,l)else none
    |_,_,_=>none
   |_=>none
 | .fieldAddr t x i=>match P.underlying t with
   |some (.struct fs)=>match fs[i]? with|some f=>if hasT P f.type&&szT P f.type !=0 then one x (.fieldAddr i f.offset)else none|none=>none
   |_=>none
 | .field t x i=>match P.underlying t with
   |some (.struct fs)=>match fs[i]? with|some f=>if hasT P f.type&&(P.underlying f.type).isSome then one x (.field i f.offset (isAggT P f.type) (szT P f.type))else none|none=>none
   |_=>none
 | .indexAddr t x i=>match P.underlying t with
   |some (.slice e)=>if hasT P e then(opds P [none,none] [x,i]).map fun l=>(.idxSl (szT P e),l)else none
   |some (.array n e)=>if hasT P e then(opds P [none,none] [x,i]).map fun l=>(.idxArr n (szT P e),l)else none
   |_=>none
 | .index t x i=>match P.underlying t with
   |some .string=>(opds P [none,none] [x,i]).map fun l=>(.idxStr,l)
   |some (.array n e)=>match tyOf P D e with
    |some u=>if elemOK P e u&&(isAggT P e==u.agg&&(P.underlying e).isSome)then(opds P [none,none] [x,i]).map fun l=>(.index n u,l)else none
    |none=>none
   |_=>none
 | .extract x i=>one x (.extract i)
 | .call c=>match c.callee with
   | .value (.func f)=>if sm f=true then(opds P (c.argTypes.toList.map some) c.args.toList).map fun l=>(.callS f,l)else none
   | .builtin .len=>match c.argTypes.toList.map P.underlying,c.args.toList with
     |[some (.slice _)],[x]=>one x .len
     |[some .string],[x]=>one x .lenStr
     |[some (.array n _)],[_]=>if n<=1048576 then some (.mov,[.cst (.int .i64 n)])else none
     |[some (.pointer a)],[_]=>match P.underlying a with|some (.array n _)=>if n<=1048576 then some (.mov,[.cst (.int .i64 n)])else none|_=>none
     |_,_=>none
   | .builtin .append=>match c.argTypes.toList with
     |[t,t']=>match P.underlying t with
      |some (.slice e)=>match tyOf P D e,P.info? e,opds P [some t,some t'] c.args.toList with
       |some u,some i,some l=>if t=t'&&elemOK P e u then some (.append e u i.bytes,l)else none
       |_,_,_=>none
      |_=>none
     |_=>none
   | .builtin .copy=>match c.argTypes.toList with
     |[t,t']=>match P.underlying t with
      |some (.slice e)=>match tyOf P D e,opds P [some t,some t'] c.args.toList with
       |some u,some l=>if elemOK P e u&&u.size==1 then some (.copy u,l)else none
       |_,_=>none
      |_=>none
     |_=>none
   | .builtin .clear=>match c.argTypes.toList,c.args.toList with
     |[t],[x]=>match P.underlying t with
      |some (.slice e)=>match tyOf P D e with
       |some u=>if elemOK P e u&&dfltOK P e u then one x (.clear u)else none
       |none=>none
      |_=>none
     |_,_=>none
   | .builtin .min=>match c.args.toList with|[x,y]=>(opds P [none,none] [x,y]).map fun l=>(.min,l)|_=>none
   | .builtin .max=>match c.args.toList with|[x,y]=>(opds P [none,none] [x,y]).map fun l=>(.max,l)|_=>none
   |_=>none
 |_=>none
def predOf(acc:List (List Nat))(o:Oper):List Nat:=(o.after.toList.flatMap fun e=>if Region.binds .any e then e.on::acc.getD e.on []else []).eraseDups
def predsGo:List Oper->List (List Nat)->List (List Nat)
 |[],acc=>acc
 |o::os,acc=>predsGo os (acc++[predOf acc o])
def predsOf(ops:List Oper):List (List Nat):=predsGo ops []
def guardOf(ops:List Oper)(o:Oper):Option (Option (Nat×Bool)):=match o.guard with
 |none=>some none
 |some g=>match(ops[g.1]?).bind (·.dst)with
  |some d=>some (some (d,g.2))
  |none=>none
def IOp.isCall:IOp->Bool| .call _=>true| .callv=>true|_=>false
def compCall(sm:Nat->Bool)(o:Oper):Option (IOp×List Opd) :=
 match o.op with
 | .call c=>match c.callee with
   | .value (.func f)=>if(sm f||Nat.ble RZ f)=true then none else(opds P (c.argTypes.toList.map some) c.args.toList).map fun l=>(.call f,l)
   | .value x=>match opd P none x,opds P (c.argTypes.toList.map some) c.args.toList with|some a,some l=>some (.callv,a::l)|_,_=>none
   |_=>none
 |_=>none
def compAny(sm:Nat->Bool)(o:Oper):Option (IOp×List Opd) :=
 match compCall P sm o with
 |some c=>some c
 |none=>match compOp P sm o with
  |some c=>if c.1.isCall then none else some c
  |none=>none
def compOne(sm:Nat->Bool)(ops:List Oper)(o:Oper)(rank:Nat)(preds:List Nat):IOper:=
 match compAny P sm o,guardOf ops o with
 |some c,some g=> {dst:=o.dst,op:=c.1,args:=c.2,guard:=g,rank,preds}
 |_,_=> {dst:=o.dst,op:= .bad,args:=[],guard:=none,rank,preds}
def compOps(sm:Nat->Bool)(ops:List Oper)(draw:Bool):List IOper:=
 let cs:=ops.map fun o=>(compAny P sm o).getD (.bad,[])
 let pr:=if draw then predsOf ops else []
 ops.zipIdx.map fun(o,i)=>compOne P sm ops o (if draw then((cs.take i).filter fun c=>isNew c.1).length else 0) (pr.getD i [])
def edgesOK(ops:List Oper):Bool:=ops.zipIdx.all fun p=>p.1.after.toList.all fun e=> !Region.binds .any e||decide (e.on<p.2)
def shiftPost(e:Nat)(io:IOper):IOper:= {io with preds:=(io.preds.filter fun p=>decide (e<p)).map fun p=>p-(e+1)}
def postOps(sm:Nat->Bool)(ops:List Oper)(e:Nat):List IOper:=((compOps P sm ops true).drop (e+1)).map (shiftPost e)
def midOK(sm:Nat->Bool)(ops:List Oper)(e:Nat):Bool:=
 (compOps P sm ops true).zipIdx.all fun p=>(decide (p.2<e)||(List.range e).all (p.1.preds.contains ·))&&(decide (p.2<=e)||(p.1.preds.contains e&& !isNew p.1.op))
def midCall(sm:Nat->Bool)(ops:List Oper):Option Nat:=match(compOps P sm ops true).findIdx? fun io=>io.op.isCall with
 |some e=>if midOK P sm ops e then some e else none
 |none=>none
def compC(sm:Nat->Bool)(f:Nat):Code->IC
 | .skip=> .skip
 | .region _ ops draw=>if draw&& !edgesOK ops.toList then .region false 0 [{dst:=none,op:= .bad,args:=[],guard:=none,rank:=0,preds:=[]}]else
   match(if draw then midCall P sm ops.toList else none)with
   |some e=> .seq (.region true (((compOps P sm ops.toList true).take e).filter fun o=>isNew o.op).length ((compOps P sm ops.toList true).take e)) (if e+1=ops.size then .region false 0 (compOps P sm ops.toList true)[e]?.toList else .seq (.region false 0 (compOps P sm ops.toList true)[e]?.toList) (.region true 0 (postOps P sm ops.toList e)))
   |none=>
   .region draw ((compOps P sm ops.toList draw).filter fun o=>isNew o.op).length (compOps P sm ops.toList draw)
 | .seq a b=> .seq (compC sm f a) (compC sm f b)
 | .cond c a b=> .cond ((opd P none c).getD (.cst .junk)) (compC sm f a) (compC sm f b)
 | .block id b=> .block id (compC sm f b)
 | .loop b=> .loop [] (compC sm f b)
 | .exit id=> .exit id
 | .ret=> .ret
 | .rangeFunc g ps a b=> .rangef f ((opd P none g).getD (.cst .junk)) [] ps.toList (compC sm f a) (compC sm f b)
 |_=> .region false 0 [{dst:=none,op:= .bad,args:=[],guard:=none,rank:=0,preds:=[]}]
end
def IC.erase:IC->IC
 | .seq a b=> .seq a.erase b.erase
 | .cond c a b=> .cond c a.erase b.erase
 | .block id b=> .block id b.erase
 | .loop _ b=> .loop [] b.erase
 | .cut _ b=>b.erase
 | .rangef id g _ ps a b=> .rangef id g [] ps a.erase b.erase
 |c=>c
def opdS:Opd->List Nat| .tmp t=>[t]|_=>[]
def opsLive(ops:List IOper)(out:List Nat):List Nat:=
 ops.reverse.foldl (fun l o=>((match o.dst with|some d=>l.filter (· !=d)|none=>l)++o.args.flatMap opdS++(match o.guard with|some (d,_)=>[d]|none=>[])).eraseDups) out
def live(ret:List Nat):IC->(List (Nat×List Nat))->(List Nat)->List Nat
 | .skip,_,out=>out
 | .region _ _ ops,_,out=>opsLive ops out
 | .seq a b,ex,out=>live ret a ex (live ret b ex out)
 | .cond c a b,ex,out=>(opdS c++live ret a ex out++live ret b ex out).eraseDups
 | .block id b,ex,out=>live ret b ((id,out)::ex) out
 | .loop _ b,ex,_=>let h1:=live ret b ex [];let h2:=live ret b ex h1;live ret b ex h2
 | .cut _ b,ex,out=>live ret b ex out
 | .exit id,ex,_=>(ex.lookup id).getD []
 | .ret,_,_=>ret
 | .rangef _ g _ ps a b,_,out=>(opdS g++out++(live [] a [] (live [] b [] [])).filter fun t=> !ps.contains t).eraseDups
inductive AB where|t|f|u|x
abbrev AEnv:=List (Nat×AB)
def AEnv.get(e:AEnv)(s:Nat):AB:=(List.lookup s e).getD .x
def opAB(e:AEnv):IOper->AB
 |o=>match o.op,o.args with
  | .mov,[.tmp a]=>e.get a
  | .mov,[.cst (.bool b)]=>if b then .t else .f
  | .pick,[.tmp c,a,b]=>match e.get c with
    | .t=>(match a with| .tmp s=>e.get s| .cst (.bool b)=>if b then .t else .f|_=> .x)
    | .f=>(match b with| .tmp s=>e.get s| .cst (.bool b)=>if b then .t else .f|_=> .x)
    |_=> .x
  | .not,[.tmp a]=>match e.get a with| .t=> .f| .f=> .t|y=>y
  |_,_=> .x
def rOps:List IOper->AEnv->List AEnv
 |[],e=>[e]
 |o::os,e=>
  let run (e:AEnv):=rOps os (match o.dst with|some d=>(d,opAB e o)::e|none=>e)
  let skip (e:AEnv):=rOps os (match o.dst with|some d=>(d,.u)::e|none=>e)
  match o.guard with
  |none=>run e
  |some (d,want)=>match e.get d with
   | .t=>if want then run e else skip e
   | .f=>if want then skip e else run e
   | .u=>skip e
   | .x=>(if want then run ((d,.t)::e)++skip ((d,.f)::e)else skip ((d,.t)::e)++run ((d,.f)::e)).take 8
def weight:IC->Nat
 | .region _ _ ops=>ops.foldl (fun n o=>n+(match o.op with| .callS _=>4| .call _=>20| .callv=>20| .mov=>0|_=>1)+(match o.guard with|some _=>2|none=>0)) 0
 | .seq a b=>weight a+weight b
 | .cond _ a b=>3+weight a+weight b
 | .block _ b=>weight b
 | .loop _ b=>20+weight b
 | .cut _ b=>weight b
 | .rangef _ _ _ _ a b=>20+weight a+weight b
 |_=>0
def knows(t:Nat)(es:List AEnv):Bool:=es.all fun e=>match e.get t with| .x=>false|_=>true
def late(es:List AEnv):IC->Bool
 | .cond (.tmp t) _ _=>knows t es||es.length<=4
 | .seq a _=>match a with| .cond (.tmp t) _ _=>knows t es||es.length<=4|_=>false
 | .block _ b=>late es b
 |_=>false
def insN(x:Nat):List Nat->List Nat
 |[]=>[x]
 |y::l=>if Nat.ble x y then x::y::l else y::insN x l
def sortN:List Nat->List Nat
 |[]=>[]
 |x::l=>insN x (sortN l)
structure Fl where
 c:IC
 es:List AEnv
 xs:List (Nat×AEnv)
def flow(wmax:Nat)(ret:List Nat):IC->List (Nat×List Nat)->List Nat->List AEnv->Nat->Fl
 | .skip,_,_,es,_=>⟨.skip,es,[]⟩
 | .region d n ops,_,_,es,_=>⟨.region d n ops,(es.flatMap (rOps ops)).take 8,[]⟩
 | .seq a b,ex,out,es,acc=>
   let fa:=flow wmax ret a ex (live ret b ex out) es acc
   let wa:=acc+weight a
   let cut:=(2<=fa.es.length&&(decide (12<=weight b)&& !late fa.es b))||(decide (0<wmax)&&(decide (wmax<=wa)&&decide (6<=weight b)))
   let fb:=flow wmax ret b ex out (if cut then [[]]else fa.es) (if cut then 0 else wa)
   ⟨.seq fa.c (if cut then .cut (sortN (live ret b ex out)) fb.c else fb.c),fb.es,fa.xs++fb.xs⟩
 | .cond c a b,ex,out,es,acc=>
   let ea:=match c with| .tmp t=>(es.filterMap fun e=>match e.get t with| .f=>none|_=>some ((t,.t)::e))|_=>es
   let eb:=match c with| .tmp t=>(es.filterMap fun e=>match e.get t with| .t=>none|_=>some ((t,.f)::e))|_=>es
   let ca:=2<=ea.length&&(decide (12<=weight a)&& !late ea a)
   let cb:=2<=eb.length&&(decide (12<=weight b)&& !late eb b)
   let fa:=flow wmax ret a ex out (if ca then [[]]else ea) (if ca then 0 else acc)
   let fb:=flow wmax ret b ex out (if cb then [[]]else eb) (if cb then 0 else acc)
   ⟨.cond c (if ca then .cut (sortN (live ret a ex out)) fa.c else fa.c) (if cb then .cut (sortN (live ret b ex out)) fb.c else fb.c),(fa.es++fb.es).take 8,fa.xs++fb.xs⟩
 | .block id b,ex,out,es,acc=>
   let f:=flow wmax ret b ((id,out)::ex) out es acc
   ⟨.block id f.c,(f.es++(f.xs.filter (·.1==id)).map (·.2)).take 8,f.xs.filter (·.1 !=id)⟩
 | .loop l b,ex,out,_,_=>
   let h:=live ret (.loop l b) ex out
   let f:=flow wmax ret b ex h [[]] 0
   ⟨.loop (sortN h) f.c,[],f.xs.map fun x=>(x.1,[])⟩
 | .cut l b,ex,out,es,acc=>let f:=flow wmax ret b ex out es acc;⟨.cut l f.c,f.es,f.xs⟩
 | .exit id,ex,_,es,_=>⟨.cut (sortN ((ex.lookup id).getD [])) (.exit id),[],es.map fun e=>(id,e)⟩
 | .ret,_,_,_,_=>⟨.cut (sortN ret) .ret,[],[]⟩
 | .rangef id g _ ps a b,_,_,es,_=>
   let fa:=flow wmax [] a [] (live [] b [] []) [[]] 0
   let fb:=flow wmax [] b [] [] [[]] 0
   ⟨.rangef id g ((live [] a [] (live [] b [] [])).filter fun t=> !ps.contains t) ps fa.c fb.c,es,fb.xs.map fun x=>(x.1,[])⟩
def resC(P:Program):ResultVar->Nat ⊕ (Nat×Bool×Nat)
 | .tmp t=> .inl t
 | .cell a t=>if hasT P t&&(P.underlying t).isSome then .inr (a,isAggT P t,szT P t)else .inr (a,false,0)
def rngs:Code->List (List Nat×Code×Code)
 | .seq a b=>rngs a++rngs b
 | .cond _ a b=>rngs a++rngs b
 | .block _ b=>rngs b
 | .loop b=>rngs b
 | .rangeFunc _ ps a b=>(ps.toList,a,b)::(rngs a++rngs b)
 |_=>[]
def oneR(c:Code):Bool:=Nat.ble (rngs c).length 1
def fnKey(P:Program)(sm:Nat->Bool)(f:Nat):Option (Bool×Nat×List (Nat ⊕ (Nat×Bool×Nat))×IC) :=
 match P.funcs[f]? with
 |some fn=>match fn.body with
  |some b=>some (fn.name != "runtime.NumGoroutine" &&oneR b,fn.ntmps,fn.results.toList.map (resC P),compC P sm f b)
  |none=>none
 |none=>none
def IFn.key(fn:IFn):Option (Bool×Nat×List (Nat ⊕ (Nat×Bool×Nat))×IC):=some (true,fn.ntmps,fn.results,fn.body.erase)
def comp(P:Program)(sm:Nat->Bool)(no:Nat)(f:Func)(wmax:Nat:=0):Option IFn:=
 match f.body with
 |none=>none
 |some b=>
  let rs:=f.results.toList.map (resC P)
  let c:=compC P sm no b
  some {ntmps:=f.ntmps,results:=rs,body:=(flow wmax (rs.map fun| .inl a=>a| .inr a=>a.1) c [] (rs.map fun| .inl a=>a| .inr a=>a.1) [[]] 0).c}
end Go.Ev
namespace Go.Ev
open Go Go.RowKit
def Rows{α:Type}(R:α->List Value->Prop):List α->List Value->Prop
 |[],cs=>cs=[]
 |x::xs,cs=>∃c1 c2,cs=c1++c2/\R x c1/\Rows R xs c2
def cellsAt(w:World)(b off:Nat)(cs:List Value):Prop:=∀(j:Nat)(u:Value),cs[j]? =some u->w.cell? ⟨b,off+j,none⟩=some u
def RepD(w:World)(I:Nat->Prop):(t:Ty)->t.den->List Value->Prop
 | .int k,x,cs=>cs=[.int k x]/\k.wrap x=x
 | .bool,x,cs=>cs=[.bool x]
 | .str,x,cs=>cs=[.string (bytesOf x)]/\strOK x=true
 | .unit,_,cs=>cs=[]
 | .pair a b,x,cs=>∃c1 c2,cs=c1++c2/\RepD w I a x.1 c1/\RepD w I b x.2 c2
 | .arr n e,x,cs=>List.length x=n/\Rows (RepD w I e) x cs
 | .slice e,x,cs=>∃a c,cs=[.slice a (List.length x) c]/\List.length x<=c/\c<=maxLen/\
  (0<List.length x->∃b off rows,a=some ⟨b,off,none⟩/\I b/\cellsAt w b off rows/\Rows (RepD w I e) x rows)
theorem Rows.len{α:Type}{R:α->List Value->Prop}{n:Nat}(h:∀x c,R x c->c.length=n):∀(xs:List α)(cs:List Value),Rows R xs cs->cs.length=xs.length*n
 |[],_,hc=>by simp[Rows]at hc;simp[hc]
 |x::xs,_,hc=>by
  obtain⟨c1,c2,rfl,h1,h2⟩:=hc
  have:=Rows.len h xs c2 h2
  simp[h x c1 h1,this,Nat.add_mul];omega
theorem Rows.mono{α:Type}{R R':α->List Value->Prop}(h:∀x c,R x c->R' x c):∀(xs:List α)(cs:List Value),Rows R xs cs->Rows R' xs cs
 |[],_,hc=>hc
 |x::xs,_,⟨c1,c2,e,h1,h2⟩=>⟨c1,c2,e,h _ _ h1,Rows.mono h xs c2 h2⟩
theorem Rows.app{α:Type}{R:α->List Value->Prop}:∀(xs ys:List α)(cs ds:List Value),Rows R xs cs->Rows R ys ds->Rows R (xs++ys) (cs++ds)
 |[],_,cs,ds,h,h'=>by simp[Rows]at h;subst h;simpa using h'
 |x::xs,ys,cs,ds,h,h'=>by
  obtain⟨c1,c2,rfl,h1,h2⟩:=h
  exact⟨c1,c2++ds,by simp,h1,Rows.app xs ys c2 ds h2 h'⟩
theorem Rows.at_{α:Type}{R:α->List Value->Prop}{n:Nat}(h:∀x c,R x c->c.length=n)(d:α):∀(xs:List α)(cs:List Value),Rows R xs cs->∀i,i<xs.length->
 ∃c,R (xs.getD i d) c/\∃l r,cs=l++c++r/\l.length=i*n
 |[],_,_,i,hi=>by simp at hi
 |x::xs,_,hc,i,hi=>by
  obtain⟨c1,c2,rfl,h1,h2⟩:=hc
  cases i with
  |zero=>exact⟨c1,by simpa using h1,[],c2,by simp,by simp⟩
  |succ i=>
   obtain⟨c,hc,l,r,e,hl⟩:=Rows.at_ h d xs c2 h2 i (by simpa using hi)
   refine⟨c,by simpa using hc,c1++l,r,by simp[e],?_⟩
   simp[hl,h x c1 h1,Nat.add_mul];omega
theorem Rows.set_{α:Type}{R:α->List Value->Prop}{n:Nat}(h:∀x c,R x c->c.length=n)(y:α)(d:List Value)(hy:R y d):∀(xs:List α)(cs:List Value),Rows R xs cs->∀i,i<xs.length->∀l c r,cs=l++c++r->l.length=i*n->c.length=n->
 Rows R (xs.set i y) (l++d++r)
 |[],_,_,i,hi,_,_,_,_,_,_=>by simp at hi
 |x::xs,_,hc,i,hi,l,c,r,e,hl,hcn=>by
  obtain⟨c1,c2,rfl,h1,h2⟩:=hc
  have hn:=h x c1 h1
  cases i with
  |zero=>
   have:l=[]:=by simpa using hl
   subst this
   simp only[List.nil_append]at e
   have e2:=List.append_inj e (by omega)
   obtain⟨rfl,rfl⟩:=e2
   exact⟨d,c2,by simp,hy,h2⟩
  |succ i=>
   have hl':l.length=n+i*n:=by rw[hl,Nat.add_mul];omega
   have e1:l=c1++l.drop n:=by
    have:=congrArg (List.take n) e
    rw[List.take_append_of_le_length (by omega)]at this
    rw[List.append_assoc,List.take_append_of_le_length (by omega)]at this
    rw[List.take_of_length_le (by omega)]at this
    rw[this];exact(List.take_append_drop n l).symm
   rw[e1,List.append_assoc,List.append_assoc]at e
   have e2:=List.append_cancel_left e
   have:=Rows.set_ h y d hy xs c2 h2 i (by simpa using hi) (l.drop n) c r (by simpa using e2) (by simp;omega) hcn
   refine⟨c1,l.drop n++d++r,?_,h1,this⟩
   exact(congrArg (fun z=>z++d++r) e1).trans (by simp)
theorem Rows.split{α:Type}{R:α->List Value->Prop}{n:Nat}(h:∀x c,R x c->c.length=n):∀(k:Nat)(xs:List α)(cs:List Value),Rows R xs cs->k<=xs.length->
 ∃c1 c2,cs=c1++c2/\c1.length=k*n/\Rows R (xs.take k) c1/\Rows R (xs.drop k) c2
 |0,xs,cs,hc,_=>⟨[],cs,by simp,by simp,by simp[Rows],by simpa using hc⟩
 |k+1,[],cs,hc,hk=>by simp at hk
 |k+1,x::xs,cs,hc,hk=>by
  obtain⟨d1,d2,rfl,h1,h2⟩:=hc
  obtain⟨c1,c2,rfl,hl,ha,hb⟩:=Rows.split h k xs d2 h2 (by simpa using hk)
  refine⟨d1++c1,c2,by simp,?_,⟨d1,c1,rfl,h1,ha⟩,hb⟩
  simp[hl,h x d1 h1,Nat.add_mul];omega
theorem RepD.len{w:World}{I:Nat->Prop}:∀(t:Ty)(x:t.den)(cs:List Value),RepD w I t x cs->cs.length=t.size
 | .int _,_,_,h=>by rw[h.1];rfl
 | .bool,_,_,h=>by rw[show _=_ from h];rfl
 | .str,_,_,h=>by rw[h.1];rfl
 | .unit,_,_,h=>by rw[show _=_ from h];rfl
 | .pair a b,x,_,⟨c1,c2,e,h1,h2⟩=>by rw[e,List.length_append,RepD.len a x.1 c1 h1,RepD.len b x.2 c2 h2];rfl
 | .arr n e,x,cs,h=>by
   have:=Rows.len (fun x c=>RepD.len e x c) x cs h.2
   rw[this,h.1];rfl
 | .slice e,x,_,⟨a,c,h,_⟩=>by rw[h];rfl
theorem cellsAt.mono{w w':World}{b off:Nat}{cs:List Value}(h:w'.heap[b]? =w.heap[b]?)(hc:cellsAt w b off cs):cellsAt w' b off cs:=fun j u hu=>by
 have:=hc j u hu
 simpa[World.cell?,h]using this
theorem RepD.mono{w w':World}{I I':Nat->Prop}(hI:∀g,I g->I' g)(hw:∀g,I g->w'.heap[g]? =w.heap[g]?):∀(t:Ty)(x:t.den)(cs:List Value),RepD w I t x cs->RepD w' I' t x cs
 | .int _,_,_,h=>h
 | .bool,_,_,h=>h
 | .str,_,_,h=>h
 | .unit,_,_,h=>h
 | .pair a b,x,_,⟨c1,c2,e,h1,h2⟩=>⟨c1,c2,e,RepD.mono hI hw a x.1 c1 h1,RepD.mono hI hw b x.2 c2 h2⟩
 | .arr n e,x,cs,h=>⟨h.1,Rows.mono (fun x c=>RepD.mono hI hw e x c) x cs h.2⟩
 | .slice e,x,cs,⟨a,c,h,h1,h2,h3⟩=>⟨a,c,h,h1,h2,fun h0=>by
  obtain⟨b,off,rows,ha,hb,hc,hr⟩:=h3 h0
  exact⟨b,off,rows,ha,hI b hb,hc.mono (hw b hb),Rows.mono (fun x c=>RepD.mono hI hw e x c) x rows hr⟩⟩
structure Env where
 w:World
 I:Nat->Prop
 μ:Nat->Nat
 σ:Nat->Value
 live:Nat->Prop
 fb:Nat:=0
 lr:Nat->Option (Loop×Nat):=fun _=>none
 rok:Nat->Loop->Prop:=fun _ _=>False
 J:Nat->Prop:=fun _=>False
def Env.R(E:Env):Nat->Prop:=fun g=>E.I g/\¬E.J g
def Env.K(E:Env):Nat->Prop:=fun g=>E.I g/\E.J g
def Env.Rr(E:Env)(t:Ty)(b:Nat):Prop:=E.R b\/(E.K b/\∃k,t= .int k)
def regroup:CV->List Value->List Value
 | .pair a b,cs=>(if a.isAgg then .agg (cs.take a.csize).toArray else cs.headD undef)::regroup b (cs.drop a.csize)
 |_,_=>[]
def loopSt:Nat->LoopState×Option Code
 |0=>(.ready,none)|1=>(.busy,none)|2=>(.done,some .ret)|n+3=>(.done,some (.exit n))
def gObj(r:Loop)(n:Nat):Obj:= .loop {r with state:=(loopSt n).1,pending:=(loopSt n).2}
def CRep(E:Env):CV->List Value->Prop
 | .junk,cs=>cs.length=1
 | .undef,cs=>cs=[undef]
 | .int k n,cs=>cs=[.int k n]/\k.wrap n=n
 | .bool b,cs=>cs=[.bool b]
 | .nil _ _,cs=>cs=[.slice none 0 0]
 | .pure t x,cs=>RepD E.w E.R t x cs
 | .pair a b,cs=>∃c1 c2,cs=c1++c2/\CRep E a c1/\CRep E b c2
 | .whole b,cs=>E.live b/\cs=[E.σ b]/\∃a n c,E.σ b= .slice a n c
 | .sub b p sz off len cap,cs=>E.live b/\∃ad c,len<=c/\c<=maxLen/\(∀k,cap=some k->c=k)/\(0<len->ad=some ⟨E.μ b,poff p+off*sz,none⟩)/\cs=[.slice ad len c]
 | .ptr b p,cs=>E.live b/\cs=[.pointer (some ⟨E.μ b,poff p,none⟩)]
 | .ref t x,cs=>∃b off rows,cs=[.pointer (some ⟨b,off,none⟩)]/\E.Rr t b/\cellsAt E.w b off rows/\RepD E.w E.R t x rows
 | .clo f c,cs=>∃caps:List Value,cs=[.func (.func f) #[] caps.toArray]/\CRep E c caps
 | .yld b i c,cs=>E.live b/\cs=[.func (.yield (E.μ b)) #[] #[]]/\∃rec cells,E.lr b=some (rec,i)/\CRep E c cells/\rec.tmps=(regroup c cells).toArray
 | .tup _,_=>False
 | .jsl e xs,cs=>RepD E.w E.K (.slice e) xs cs
def VRep1(E:Env)(c:CV)(v:Value):Prop:=∃cs,CRep E c cs/\if c.isAgg then v= .agg cs.toArray else cs=[v]
def TRep(E:Env):CV->List Value->Prop
 | .pair a b,vs=>∃v r,vs=v::r/\VRep1 E a v/\TRep E b r
 | .pure .unit _,vs=>vs=[]
 |_,_=>False
def VRep(E:Env)(c:CV)(v:Value):Prop:=
 match c with
 | .tup c=>∃vs:List Value,v= .tuple vs.toArray/\TRep E c vs
 |c=>VRep1 E c v
structure Env.le(base:Nat)(E E':Env):Prop where
 I:∀g,E.I g->E'.I g
 heap:∀g,E.I g->E'.w.heap[g]? =E.w.heap[g]?
 live:∀b,E.live b->E'.live b
 μ:∀b,E.live b->E'.μ b=E.μ b
 σ:∀b,E.live b->E'.σ b=E.σ b
 bel:Below base E.w E'.w
 new:∀g,E'.I g->E.I g\/base<=g
 lr:∀b,E.live b->E'.lr b=E.lr b
 rok:E'.rok=E.rok
 J:E'.J=E.J
theorem Env.le.R{base:Nat}{E E':Env}(h:Env.le base E E'):∀g,E.R g->E'.R g:=fun g hg=>⟨h.I g hg.1,by rw[h.J];exact hg.2⟩
theorem Env.le.jI{base:Nat}{E E':Env}(h:Env.le base E E')(hj:∀g,E.J g->E.I g):∀g,E'.J g->E'.I g:=fun g hg=>h.I g (hj g (by rw[<-h.J];exact hg))
theorem Env.le.heapR{base:Nat}{E E':Env}(h:Env.le base E E'):∀g,E.R g->E'.w.heap[g]? =E.w.heap[g]? :=fun g hg=>h.heap g hg.1
theorem Env.le.K{base:Nat}{E E':Env}(h:Env.le base E E'):∀g,E.K g->E'.K g:=fun g hg=>⟨h.I g hg.1,by rw[h.J];exact hg.2⟩
theorem Env.le.Rr{base:Nat}{E E':Env}(h:Env.le base E E')(t:Ty):∀g,E.Rr t g->E'.Rr t g:=fun g hg=>hg.elim (fun hg=> .inl (h.R g hg)) fun hg=> .inr ⟨h.K g hg.1,hg.2⟩
theorem Env.Rr.of{E:Env}{t:Ty}{b:Nat}(h:E.Rr t b)(hn:∀k,t≠ .int k):E.R b:=h.elim id fun h=>by
 obtain⟨_,k,hk⟩:=h
 exact absurd hk (hn k)
theorem Env.Rr.imm{E:Env}{t:Ty}{b:Nat}(h:E.Rr t b):E.I b:=h.elim (fun h=>h.1) fun h=>h.1.1
theorem Env.le.refl(base:Nat)(E:Env):E.le base E:=⟨fun _ h=>h,fun _ _=>rfl,fun _ h=>h,fun _ _=>rfl,fun _ _=>rfl,Below.refl _ _,fun _ h=> .inl h,fun _ _=>rfl,rfl,rfl⟩
theorem Env.le.trans{base:Nat}{E F G:Env}(h:E.le base F)(k:F.le base G):E.le base G:=
 ⟨fun g hg=>k.I g (h.I g hg),fun g hg=>(k.heap g (h.I g hg)).trans (h.heap g hg),fun b hb=>k.live b (h.live b hb),fun b hb=>(k.μ b (h.live b hb)).trans (h.μ b hb),fun b hb=>(k.σ b (h.live b hb)).trans (h.σ b hb),h.bel.trans k.bel,fun g hg=>(k.new g hg).elim (h.new g) .inr,fun b hb=>(k.lr b (h.live b hb)).trans (h.lr b hb),k.rok.trans h.rok,k.J.trans h.J⟩
theorem CRep.mono{base:Nat}{E E':Env}(h:E.le base E'):∀(c:CV)(cs:List Value),CRep E c cs->CRep E' c cs
 | .junk,_,hc=>hc
 | .undef,_,hc=>hc
 | .int _ _,_,hc=>hc
 | .bool _,_,hc=>hc
 | .nil _ _,_,hc=>hc
 | .pure t x,cs,hc=>RepD.mono h.R h.heapR t x cs hc
 | .pair a b,_,⟨c1,c2,e,h1,h2⟩=>⟨c1,c2,e,CRep.mono h a c1 h1,CRep.mono h b c2 h2⟩
 | .whole b,_,⟨hl,e,hs⟩=>⟨h.live b hl,by rw[e,h.σ b hl],by rw[h.σ b hl];exact hs⟩
 | .sub b p sz off len cap,_,⟨hl,ad,c,h1,h2,h3,h4,e⟩=>⟨h.live b hl,ad,c,h1,h2,h3,by rw[h.μ b hl];exact h4,e⟩
 | .ptr b p,_,⟨hl,e⟩=>⟨h.live b hl,by rw[e,h.μ b hl]⟩
 | .ref t x,_,⟨b,off,rows,e,hI,hc,hr⟩=>⟨b,off,rows,e,h.Rr t b hI,hc.mono (h.heap b hI.imm),RepD.mono h.R h.heapR t x rows hr⟩
 | .clo f c,_,⟨caps,e,hc⟩=>⟨caps,e,CRep.mono h c caps hc⟩
 | .yld b i c,_,⟨hl,e,rec,cells,h1,h2,h3⟩=>⟨h.live b hl,by rw[e,h.μ b hl],rec,cells,by rw[h.lr b hl];exact h1,CRep.mono h c cells h2,h3⟩
 | .tup _,_,hc=>hc
 | .jsl e x,cs,hc=>RepD.mono h.K (fun g hg=>h.heap g hg.1) (.slice e) x cs hc
theorem VRep1.mono{base:Nat}{E E':Env}(h:E.le base E'){c:CV}{v:Value}(hc:VRep1 E c v):VRep1 E' c v:=
 let⟨cs,h1,h2⟩:=hc
 ⟨cs,CRep.mono h c cs h1,h2⟩
theorem TRep.mono{base:Nat}{E E':Env}(h:E.le base E'):∀(c:CV)(vs:List Value),TRep E c vs->TRep E' c vs
 | .pair a b,_,⟨v,r,e,h1,h2⟩=>⟨v,r,e,h1.mono h,TRep.mono h b r h2⟩
 | .pure .unit _,_,hc=>hc
 | .junk,_,hc=>hc| .undef,_,hc=>hc| .int _ _,_,hc=>hc| .bool _,_,hc=>hc| .nil _ _,_,hc=>hc| .whole _,_,hc=>hc| .sub _ _ _ _ _ _,_,hc=>hc
 | .ptr _ _,_,hc=>hc| .ref _ _,_,hc=>hc| .clo _ _,_,hc=>hc| .tup _,_,hc=>hc| .yld _ _ _,_,hc=>hc| .jsl _ _,_,hc=>hc
 | .pure (.int _) _,_,hc=>hc| .pure .bool _,_,hc=>hc| .pure .str _,_,hc=>hc| .pure (.pair _ _) _,_,hc=>hc| .pure (.slice _) _,_,hc=>hc| .pure (.arr _ _) _,_,hc=>hc
theorem VRep.mono{base:Nat}{E E':Env}(h:E.le base E'){c:CV}{v:Value}(hc:VRep E c v):VRep E' c v:=by
 unfold VRep at *
 split<;>simp_all
 ·obtain⟨vs,e,ht⟩:=hc;exact⟨vs,e,TRep.mono h _ vs ht⟩
 ·exact hc.mono h
theorem CRep.len{E:Env}:∀(c:CV)(cs:List Value),CRep E c cs->cs.length=c.csize
 | .junk,_,hc=>hc
 | .undef,_,hc=>by rw[show _=_ from hc];rfl
 | .int _ _,_,hc=>by rw[hc.1];rfl
 | .bool _,_,hc=>by rw[show _=_ from hc];rfl
 | .nil _ _,_,hc=>by rw[show _=_ from hc];rfl
 | .pure t x,cs,hc=>RepD.len t x cs hc
 | .pair a b,_,⟨c1,c2,e,h1,h2⟩=>by rw[e,List.length_append,CRep.len a c1 h1,CRep.len b c2 h2];rfl
 | .whole b,_,⟨_,e,_⟩=>by rw[e];rfl
 | .sub b p sz off len cap,_,⟨_,ad,c,_,_,_,_,e⟩=>by rw[e];rfl
 | .ptr b p,_,⟨_,e⟩=>by rw[e];rfl
 | .yld b i c,_,⟨_,e,_⟩=>by rw[e];rfl
 | .ref t x,_,⟨b,off,rows,e,_⟩=>by rw[e];rfl
 | .clo f c,_,⟨caps,e,_⟩=>by rw[e];rfl
 | .tup _,_,hc=>hc.elim
 | .jsl e x,cs,hc=>RepD.len (.slice e) x cs hc
theorem VRep_undef(E:Env):VRep E .undef undef:=⟨[undef],rfl,by simp[CV.isAgg]⟩
theorem VRep_junk(E:Env)(v:Value):VRep E .junk v:=⟨[v],rfl,by simp[CV.isAgg]⟩
def lookH(hp:List Blk)(b:Nat):Blk:=hp.getD b .fresh
def BRep(E:Env)(base b:Nat):Blk->Prop
 | .mem c=>∃cs te,E.w.heap[E.μ b]? =some (.cells cs te (0,0))/\CRep E c cs.toList
 | .vec te e xs=>∃cells,Rows (RepD E.w E.R e) xs cells/\E.w.ownsRow base te e.size (E.σ b) xs.length cells/\0<e.size/\∀g,(E.σ b).ownBlock=some g->g=E.μ b
 | .fvec _ e xs=>RepD E.w E.R (.slice e) xs [E.σ b]
 | .ghost n=>∃rec i,E.lr b=some (rec,i)/\E.w.heap[E.μ b]? =some (gObj rec n)
 |_=>True
def holdsB(E:Env)(b:Nat)(k:Blk)(g:Nat):Prop:=
 match k with
 | .mem _=>g=E.μ b
 | .vec _ _ _=>(E.σ b).ownBlock=some g
 | .ghost _=>g=E.μ b
 |_=>False
def thaw(w:World)(g:Nat):Prop:=∀(off:Nat)(u:Value),w.cell? ⟨g,off,none⟩=some u->w.frozen? ⟨g,off,none⟩=false
theorem thaw.congr{w w':World}{g:Nat}(h:w'.heap[g]? =w.heap[g]?)(ht:thaw w g):thaw w' g:=fun off u hu=>by
 have e1:w'.cell? ⟨g,off,none⟩=w.cell? ⟨g,off,none⟩:=by unfold World.cell?;rw[h]
 have e2:w'.frozen? ⟨g,off,none⟩=w.frozen? ⟨g,off,none⟩:=by unfold World.frozen?;rw[h]
 rw[e2];exact ht off u (by rw[<-e1];exact hu)
theorem thaw.cells{w:World}{g:Nat}{cs:Array Value}{te:TypeId}(h:w.heap[g]? =some (.cells cs te (0,0))):thaw w g:=fun off u _=>by
 unfold World.frozen?
 simp[h]
theorem thaw.other{w:World}{g:Nat}{o:Obj}(h:w.heap[g]? =some o)(ho:∀cs te fz,o≠ .cells cs te fz):thaw w g:=fun off u hu=>by
 unfold World.cell? at hu
 simp only[h]at hu
 cases o<;>first|exact absurd rfl (ho _ _ _)|cases hu
structure HS(bs:Nat)(E:Env)(hp:List Blk):Prop where
 blk:∀b,BRep E bs b (lookH hp b)
 inj:∀b b' g,holdsB E b (lookH hp b) g->holdsB E b' (lookH hp b') g->b=b'
 sep:∀b g,holdsB E b (lookH hp b) g->¬E.I g/\bs<=g
 imm:∀g,E.I g->g<E.w.heap.size
 live:∀b,E.live b↔lookH hp b≠ .fresh
 base:bs<=E.w.heap.size
 eok:∀b rec i,E.lr b=some (rec,i)->E.rok i rec
 jI:∀g,E.J g->E.I g
 thw:∀g,E.I g->bs<=g->thaw E.w g
theorem HS.thw_le{base:Nat}{E E':Env}{hp:List Blk}(H:HS base E hp)(h:E.le base E')(hI:∀g,E'.I g->E.I g):∀g,E'.I g->base<=g->thaw E'.w g:=fun g hg hb=>thaw.congr (h.heap g (hI g hg)) (H.thw g (hI g hg) hb)
theorem ownsRow_frame{w w':World}{base:Nat}{e:TypeId}{size n:Nat}{v:Value}{xs:List Value}(h:w.ownsRow base e size v n xs)(hw:∀g,v.ownBlock=some g->w'.heap[g]? =w.heap[g]?):w'.ownsRow base e size v n xs:=by
 refine⟨h.1,?_⟩
 rcases h.2 with h2|⟨g,cap,cur,hv,hg,hh,r⟩
 ·exact .inl h2
 ·exact .inr ⟨g,cap,cur,hv,hg,by rw[hw g (by rw[hv];rfl)];exact hh,r⟩
theorem BRep.mono{base b:Nat}{E E':Env}(h:E.le base E')(hl:E.live b):∀k:Blk,(∀g,holdsB E b k g->E'.w.heap[g]? =E.w.heap[g]?)->BRep E base b k->BRep E' base b k
 | .mem c,hw,⟨cs,te,h1,h2⟩=>⟨cs,te,by rw[h.μ b hl,hw _ rfl];exact h1,CRep.mono h _ _ h2⟩
 | .vec te e xs,hw,⟨cells,h1,h2,h3,h4⟩=>⟨cells,Rows.mono (fun x c=>RepD.mono h.R h.heapR e x c) _ _ h1,by rw[h.σ b hl];exact ownsRow_frame h2 (fun g hg=>hw g hg),h3,by rw[h.σ b hl,h.μ b hl];exact h4⟩
 | .fvec te e xs,hw,h1=>by
   have:=RepD.mono h.R h.heapR (.slice e) xs _ h1
   unfold BRep;rw[h.σ b hl];exact this
 | .fresh,_,_=>trivial
 | .dead,_,_=>trivial
 | .ghost n,hw,⟨rec,i,h1,h2⟩=>⟨rec,i,by rw[h.lr b hl];exact h1,by rw[h.μ b hl,hw _ rfl];exact h2⟩
theorem holdsB_eq{base b:Nat}{E E':Env}(h:E.le base E')(hl:E.live b)(k:Blk)(g:Nat):holdsB E' b k g↔holdsB E b k g:=by
 cases k<;>simp[holdsB,h.μ b hl,h.σ b hl]
theorem lookH_set{hp:List Blk}{n:Nat}(hn:n<=hp.length)(k:Blk)(b:Nat):lookH (setH hp n k) b=if b=n then k else lookH hp b:=by
 unfold lookH setH
 by_cases h:n<hp.length
 ·rw[if_pos h]
  by_cases hb:b=n
  ·subst hb;simp[h]
  ·rw[if_neg hb];simp[List.getElem?_set,Ne.symm hb]
 ·have e:n=hp.length:=by omega
  rw[if_neg h]
  by_cases hb:b=n
  ·subst hb;subst e;simp
  ·rw[if_neg hb]
   simp only[List.getD_eq_getElem?_getD]
   rcases Nat.lt_or_ge b hp.length with h1|h1
   ·rw[List.getElem?_append_left h1]
   ·rw[List.getElem?_eq_none (by simp;omega),List.getElem?_eq_none (by omega)]
theorem lookH_lt{hp:List Blk}{b:Nat}(h:lookH hp b≠ .fresh):b<hp.length:=by
 rcases Nat.lt_or_ge b hp.length with h1|h1
 ·exact h1
 ·exact absurd (by simp[lookH,List.getElem?_eq_none h1]) h
theorem HS.set{base:Nat}{E E':Env}{hp:List Blk}{n:Nat}{k:Blk}(H:HS base E hp)(h:E.le base E')(hn:n<=hp.length)(hk:k≠ .fresh)
 (hlive:∀b,E'.live b↔E.live b\/b=n) (himm:∀g,E'.I g->g<E'.w.heap.size)
 (hI:∀b g,b≠n->holdsB E b (lookH hp b) g->¬E'.I g)
 (hkeep:∀b g,b≠n->holdsB E b (lookH hp b) g->E'.w.heap[g]? =E.w.heap[g]?)
 (hblk:BRep E' base n k) (hsep:∀g,holdsB E' n k g->¬E'.I g/\base<=g/\∀b,b≠n->¬holdsB E b (lookH hp b) g) (heok:∀b rec i,E'.lr b=some (rec,i)->E'.rok i rec) (hthw:∀g,E'.I g->base<=g->thaw E'.w g):HS base E' (setH hp n k):=by
 have lk:=lookH_set hn k
 have hlv:∀b,b≠n->∀g,holdsB E' b (lookH hp b) g->holdsB E b (lookH hp b) g:=by
  intro b hb g hg
  by_cases hl:E.live b
  ·exact(holdsB_eq h hl _ g).1 hg
  ·have:lookH hp b= .fresh:=by
    rcases Classical.em (lookH hp b= .fresh)with h1|h1
    ·exact h1
    ·exact absurd ((H.live b).2 h1) hl
   rw[this]at hg;exact hg.elim
 refine⟨fun b=> ?_,fun b b' g h1 h2=> ?_,fun b g h1=> ?_,himm,fun b=> ?_,Nat.le_trans H.base h.bel.size,heok,h.jI H.jI,hthw⟩
 ·rw[lk]
  by_cases hb:b=n
  ·rw[if_pos hb,hb];exact hblk
  ·rw[if_neg hb]
   by_cases hl:E.live b
   ·exact(H.blk b).mono h hl _ (fun g hg=>hkeep b g hb hg)
   ·have:lookH hp b= .fresh:=by
     rcases Classical.em (lookH hp b= .fresh)with h1|h1
     ·exact h1
     ·exact absurd ((H.live b).2 h1) hl
    rw[this];trivial
 ·rw[lk]at h1 h2
  by_cases hb:b=n<;>by_cases hb':b'=n
  ·rw[hb,hb']
  ·rw[if_pos hb,hb]at h1;rw[if_neg hb']at h2
   exact absurd (hlv b' hb' g h2) ((hsep g h1).2.2 b' hb')
  ·rw[if_neg hb]at h1;rw[if_pos hb',hb']at h2
   exact absurd (hlv b hb g h1) ((hsep g h2).2.2 b hb)
  ·rw[if_neg hb]at h1;rw[if_neg hb']at h2
   exact H.inj b b' g (hlv b hb g h1) (hlv b' hb' g h2)
 ·rw[lk]at h1
  by_cases hb:b=n
  ·rw[if_pos hb,hb]at h1;exact⟨(hsep g h1).1,(hsep g h1).2.1⟩
  ·rw[if_neg hb]at h1
   have:=hlv b hb g h1
   exact⟨hI b g hb this,(H.sep b g this).2⟩
 ·rw[lk,hlive]
  by_cases hb:b=n
  ·simp[hb,hk]
  ·simp[hb,H.live b]
end Go.Ev
namespace Go.Ev
open Go Go.RowKit
theorem CRep_ofP{E:Env}:∀ {t:Ty}{x:t.den}{cs:List Value},RepD E.w E.R t x cs->CRep E (ofP t x) cs
 | .int _,_,_,h=>h
 | .bool,_,_,h=>h
 | .str,_,_,h=>h
 | .unit,_,_,h=>h
 | .pair _ _,_,_,h=>h
 | .slice _,_,_,h=>h
 | .arr _ _,_,_,h=>h
theorem csize_ofP:∀(t:Ty)(x:t.den),(ofP t x).csize=t.size
 | .int _,_=>rfl| .bool,_=>rfl| .str,_=>rfl| .unit,_=>rfl| .pair _ _,_=>rfl| .slice _,_=>rfl| .arr _ _,_=>rfl
theorem isAgg_ofP:∀(t:Ty)(x:t.den),(ofP t x).isAgg=t.agg
 | .int _,_=>rfl| .bool,_=>rfl| .str,_=>rfl| .unit,_=>rfl| .pair _ _,_=>rfl| .slice _,_=>rfl| .arr _ _,_=>rfl
theorem isVal_ofP:∀(t:Ty)(x:t.den),(ofP t x).isVal=true
 | .int _,_=>rfl| .bool,_=>rfl| .str,_=>rfl| .unit,_=>rfl| .pair _ _,_=>rfl| .slice _,_=>rfl| .arr _ _,_=>rfl
theorem RepD_asP{E:Env}{s: Σ t:Ty,t.den}{cs:List Value}:∀ {c:CV},c.asP=some s->CRep E c cs->RepD E.w E.R s.1 s.2 cs
 | .int k n,h,hc=>by simp[CV.asP]at h;subst h;exact hc
 | .bool b,h,hc=>by simp[CV.asP]at h;subst h;exact hc
 | .pure t x,h,hc=>by simp[CV.asP]at h;subst h;exact hc
theorem CRep_mkPair{E:Env}{a b:CV}{c1 c2:List Value}(h1:CRep E a c1)(h2:CRep E b c2):CRep E (mkPair a b) (c1++c2):=by
 unfold mkPair
 split
 ·rename_i s t hs ht
  exact⟨c1,c2,rfl,RepD_asP hs h1,RepD_asP ht h2⟩
 ·exact⟨c1,c2,rfl,h1,h2⟩
theorem getPF_rep{w:World}{I:Nat->Prop}{s: Σ t:Ty,t.den}:∀ {t:Ty}{x:t.den}{i o:Nat}{cs:List Value},getPF t x i o=some s->RepD w I t x cs->∃l c r,cs=l++c++r/\l.length=o/\RepD w I s.1 s.2 c
 | .pair a b,x,0,o,cs,h,⟨c1,c2,e,h1,h2⟩=>by
   simp only[getPF]at h
   split at h
   ·simp at h;subst h;exact⟨[],c1,c2,by simp[e],by simp[*],h1⟩
   ·cases h
 | .pair a b,x,i+1,o,cs,h,⟨c1,c2,e,h1,h2⟩=>by
   simp only[getPF]at h
   split at h
   ·obtain⟨l,c,r,e2,hl,hr⟩:=getPF_rep h h2
    refine⟨c1++l,c,r,by simp[e,e2],?_,hr⟩
    have:=RepD.len a x.1 c1 h1
    simp[this,hl];omega
   ·cases h
theorem getF_rep{E:Env}{d:CV}:∀ {c:CV}{i o:Nat}{cs:List Value},getF c i o=some d->CRep E c cs->∃l m r,cs=l++m++r/\l.length=o/\CRep E d m
 | .pair a b,0,o,cs,h,⟨c1,c2,e,h1,h2⟩=>by
   simp only[getF]at h
   split at h
   ·simp at h;subst h;exact⟨[],c1,c2,by simp[e],by simp[*],h1⟩
   ·cases h
 | .pair a b,i+1,o,cs,h,⟨c1,c2,e,h1,h2⟩=>by
   simp only[getF]at h
   split at h
   ·obtain⟨l,c,r,e2,hl,hr⟩:=getF_rep h h2
    refine⟨c1++l,c,r,by simp[e,e2],?_,hr⟩
    have:=CRep.len a c1 h1
    simp[this,hl];omega
   ·cases h
 | .pure t x,i,o,cs,h,hc=>by
   simp only[getF]at h
   split at h
   ·rename_i s hs
    simp at h;subst h
    obtain⟨l,m,r,e,hl,hr⟩:=getPF_rep hs hc
    exact⟨l,m,r,e,hl,CRep_ofP hr⟩
   ·cases h
theorem getIx_rep{E:Env}{i s:Nat}:∀ {c d:CV}{cs:List Value},getIx c i s=some d->okIx c i=true->CRep E c cs->∃l m r,cs=l++m++r/\l.length=i*s/\CRep E d m
 | .pure (.arr n e) x,d,cs,h,ho,hc=>by
   simp only[getIx]at h
   split at h
   ·rename_i hs
    simp at h;subst h
    have hi:i<List.length x:=by rw[hc.1];simpa[okIx]using ho
    obtain⟨m,hm,l,r,e2,hl⟩:=Rows.at_ (fun y z=>RepD.len e y z) e.dflt x cs hc.2 i hi
    exact⟨l,m,r,e2,by rw[hl,hs],CRep_ofP hm⟩
   ·cases h
theorem get_rep{E:Env}{d:CV}:∀ {p:Path}{c:CV}{cs:List Value},c.get p=some d->c.ok p=true->CRep E c cs->∃l m r,cs=l++m++r/\l.length=poff p/\CRep E d m
 |[],c,cs,h,_,hc=>by simp[CV.get]at h;subst h;exact⟨[],cs,[],by simp,rfl,hc⟩
 | .f i o::p,c,cs,h,ho,hc=>by
   simp only[CV.get]at h
   simp only[CV.ok]at ho
   split at h
   ·rename_i d' hd
    rw[hd]at ho
    obtain⟨l,m,r,e,hl,hr⟩:=getF_rep hd hc
    obtain⟨l2,m2,r2,e2,hl2,hr2⟩:=get_rep h ho hr
    refine⟨l++l2,m2,r2++r,by simp[e,e2],?_,hr2⟩
    simp[poff,Step.off,hl];simpa[poff]using hl2
   ·cases h
 | .ix i s::p,c,cs,h,ho,hc=>by
   simp only[CV.get]at h
   simp only[CV.ok]at ho
   split at h
   ·rename_i d' hd
    rw[hd]at ho
    simp only[Bool.and_eq_true]at ho
    obtain⟨l,m,r,e,hl,hr⟩:=getIx_rep hd ho.1 hc
    obtain⟨l2,m2,r2,e2,hl2,hr2⟩:=get_rep h ho.2 hr
    refine⟨l++l2,m2,r2++r,by simp[e,e2],?_,hr2⟩
    simp[poff,Step.off,hl];simpa[poff]using hl2
   ·cases h
theorem setPF_rep{E:Env}{d v:CV}{vs:List Value}(hv:CRep E v vs):∀ {t:Ty}{x:t.den}{i o:Nat}{s: Σ t:Ty,t.den}{cs:List Value},getPF t x i o=some s->setPF t x i o v=some d->RepD E.w E.R t x cs->
 ∀l m r,cs=l++m++r->l.length=o->RepD E.w E.R s.1 s.2 m->CRep E d (l++vs++r)
 | .pair a b,x,0,o,s,cs,hg,h,⟨c1,c2,e,h1,h2⟩,l,m,r,e2,hl,hm=>by
   simp only[setPF]at h
   simp only[getPF]at hg
   split at h
   ·rename_i ho
    rw[if_pos ho]at hg
    simp at h hg;subst h hg
    have:l=[]:=by apply List.eq_nil_of_length_eq_zero;omega
    subst this
    rw[e]at e2
    simp only[List.nil_append]at e2
    obtain⟨rfl,rfl⟩:=List.append_inj e2 (by rw[RepD.len a x.1 c1 h1,RepD.len a x.1 m hm])
    simpa using CRep_mkPair hv (CRep_ofP h2)
   ·cases h
 | .pair a b,x,i+1,o,s,cs,hg,h,⟨c1,c2,e,h1,h2⟩,l,m,r,e2,hl,hm=>by
   simp only[setPF]at h
   simp only[getPF]at hg
   split at h
   ·rename_i ho
    rw[if_pos ho]at hg
    split at h
    ·rename_i c hc
     simp at h;subst h
     have h1l:=RepD.len a x.1 c1 h1
     have e1:l=c1++l.drop a.size:=by
      rw[e]at e2
      have:=congrArg (List.take a.size) e2
      rw[List.take_append_of_le_length (by omega),List.append_assoc,List.take_append_of_le_length (by omega),List.take_of_length_le (by omega)]at this
      rw[this];exact(List.take_append_drop _ l).symm
     rw[e,e1,List.append_assoc,List.append_assoc]at e2
     have e3:=List.append_cancel_left e2
     have:=setPF_rep hv hg hc h2 (l.drop a.size) m r (by simpa using e3) (by simp;omega) hm
     rw[e1]
     simpa using CRep_mkPair (CRep_ofP h1) this
    ·cases h
   ·cases h
theorem setF_rep{E:Env}{d v p:CV}{vs:List Value}(hv:CRep E v vs):∀ {c:CV}{i o:Nat}{cs:List Value},getF c i o=some p->setF c i o v=some d->CRep E c cs->
 ∀l m r,cs=l++m++r->l.length=o->m.length=p.csize->CRep E d (l++vs++r)
 | .pair a b,0,o,cs,hg,h,⟨c1,c2,e,h1,h2⟩,l,m,r,e2,hl,hm=>by
   simp only[setF]at h
   simp only[getF]at hg
   split at h
   ·rename_i ho
    rw[if_pos ho]at hg
    simp at h hg;subst h hg
    have:l=[]:=by apply List.eq_nil_of_length_eq_zero;omega
    subst this
    rw[e]at e2
    simp only[List.nil_append]at e2
    obtain⟨rfl,rfl⟩:=List.append_inj e2 (by rw[CRep.len a c1 h1,hm])
    simpa using CRep_mkPair hv h2
   ·cases h
 | .pair a b,i+1,o,cs,hg,h,⟨c1,c2,e,h1,h2⟩,l,m,r,e2,hl,hm=>by
   simp only[setF]at h
   simp only[getF]at hg
   split at h
   ·rename_i ho
    rw[if_pos ho]at hg
    split at h
    ·rename_i c hc
     simp at h;subst h
     have h1l:=CRep.len a c1 h1
     have e1:l=c1++l.drop a.csize:=by
      rw[e]at e2
      have:=congrArg (List.take a.csize) e2
      rw[List.take_append_of_le_length (by omega),List.append_assoc,List.take_append_of_le_length (by omega),List.take_of_length_le (by omega)]at this
      rw[this];exact(List.take_append_drop _ l).symm
     rw[e,e1,List.append_assoc,List.append_assoc]at e2
     have e3:=List.append_cancel_left e2
     have:=setF_rep hv hg hc h2 (l.drop a.csize) m r (by simpa using e3) (by simp;omega) hm
     rw[e1]
     simpa using CRep_mkPair h1 this
    ·cases h
   ·cases h
 | .pure t x,i,o,cs,hg,h,hc,l,m,r,e2,hl,hm=>by
   simp only[setF]at h
   simp only[getF]at hg
   split at hg
   ·rename_i s hs
    simp at hg;subst hg
    obtain⟨l',m',r',e',hl',hr'⟩:=getPF_rep hs hc
    have hml:=RepD.len _ _ _ hr'
    rw[csize_ofP]at hm
    rw[e',List.append_assoc,List.append_assoc]at e2
    obtain⟨rfl,e3⟩:=List.append_inj e2 (by omega)
    obtain⟨rfl,rfl⟩:=List.append_inj e3 (by omega)
    exact setPF_rep hv hs h hc l' m' r' e' hl' hr'
   ·cases hg
def LRep(E:Env)(base:Nat)(look:Look):Prop:=∀b,BRep E base b (look b)
theorem LRep_no(E:Env)(base:Nat):LRep E base noLook:=fun _=>trivial
def refH(E:Env)(look:Look)(c:CV)(g:Nat):Prop:=∃b,b∈c.refs/\holdsB E b (look b) g
theorem slice_of_own{E:Env}{base b te:Nat}{e:Ty}{xs:List e.den}{I':Nat->Prop}(hI:∀g,E.R g->I' g)(hb:BRep E base b (.vec te e xs))(hf:∀g,holdsB E b (.vec te e xs) g->I' g):RepD E.w I' (.slice e) xs [E.σ b]:=by
 obtain⟨cells,hr,ho,hpos,hg⟩:=hb
 rcases ho.2 with⟨hv,hn⟩|⟨g,cap,cur,hv,hbg,hh,hnc,hcm,hcs,htk⟩
 ·refine⟨none,0,?_,?_,?_,?_⟩
  ·rw[hv];simp[hn]
  ·omega
  ·simp[maxLen]
  ·intro h0;omega
 ·refine⟨_,cap,by rw[hv],hnc,hcm,fun _=>⟨g,0,cells,rfl,hf g ?_,?_,Rows.mono (fun x c=>RepD.mono hI (fun _ _=>rfl) e x c) _ _ hr⟩⟩
  ·show(E.σ b).ownBlock=some g
   rw[hv];rfl
  ·intro j u hu
   have:=ho.cells (g:=g) (by rw[hv];rfl) j u hu
   have e1:(⟨g,0,none⟩:Addr).add j=⟨g,0+j,none⟩:=by
    unfold Addr.add;split<;>simp_all
   rwa [e1]at this
theorem cells_seg{w:World}{b:Nat}{cs:Array Value}{te:Nat}{l m r:List Value}(h:w.heap[b]? =some (.cells cs te (0,0)))(e:cs.toList=l++m++r):cellsAt w b l.length m:=fun j u hu=>by
 have:cs[l.length+j]? =some u:=by
  rw[<-Array.getElem?_toList,e,List.append_assoc,List.getElem?_append_right (by omega)]
  simp only[Nat.add_sub_cancel_left]
  rw[List.getElem?_append_left (by
   rcases Nat.lt_or_ge j m.length with h1|h1
   ·exact h1
   ·rw[List.getElem?_eq_none h1]at hu;cases hu)]
  exact hu
 simp[World.cell?,h,this]
theorem take_take_drop{α:Type}(xs:List α)(off len:Nat):((xs.drop off).take len).length=min len (xs.length-off):=by simp
theorem Rows.seg{α:Type}{R:α->List Value->Prop}{n:Nat}(h:∀x c,R x c->c.length=n){xs:List α}{cs:List Value}(hr:Rows R xs cs){off len:Nat}(hl:off+len<=xs.length) :
 ∃l m r,cs=l++m++r/\l.length=off*n/\Rows R ((xs.drop off).take len) m:=by
 obtain⟨c1,c2,rfl,h1,_,h3⟩:=Rows.split h off xs cs hr (by omega)
 obtain⟨d1,d2,rfl,_,h5,_⟩:=Rows.split h len (xs.drop off) c2 h3 (by simp;omega)
 exact⟨c1,d1,d2,by simp,h1,h5⟩
theorem toPH_rep{E:Env}{base:Nat}{look:Look}(L:LRep E base look){I':Nat->Prop}(hI:∀g,E.R g->I' g):∀ {t:Ty}{c:CV}{x:t.den}{cs:List Value},toPH look t c=some x->c.subOK look=true->CRep E c cs->(∀g,refH E look c g->I' g)->RepD E.w I' t x cs:=by
 intro t c
 induction t generalizing c with
 |int k=>
  intro x cs h _ hc _
  cases c<;>simp only[toPH]at h<;>try (cases h;done)
  ·split at h
   ·rename_i hk;simp at h;subst h hk;exact hc
   ·cases h
  ·split at h
   ·rename_i ht;subst ht;simp at h;subst h;exact RepD.mono hI (fun _ _=>rfl) _ _ _ hc
   ·cases h
 |bool=>
  intro x cs h _ hc _
  cases c<;>simp only[toPH]at h<;>try (cases h;done)
  ·simp at h;subst h;exact hc
  ·split at h
   ·rename_i ht;subst ht;simp at h;subst h;exact RepD.mono hI (fun _ _=>rfl) _ _ _ hc
   ·cases h
 |str=>
  intro x cs h _ hc _
  cases c<;>simp only[toPH]at h<;>try (cases h;done)
  ·split at h
   ·rename_i ht;subst ht;simp at h;subst h;exact RepD.mono hI (fun _ _=>rfl) _ _ _ hc
   ·cases h
 |unit=>
  intro x cs h _ hc _
  cases c<;>simp only[toPH]at h<;>try (cases h;done)
  ·split at h
   ·rename_i ht;subst ht;exact hc
   ·cases h
 |pair a b iha ihb=>
  intro x cs h hs hc hr
  cases c<;>simp only[toPH]at h<;>try (cases h;done)
  ·split at h
   ·rename_i ht;subst ht;simp at h;subst h;exact RepD.mono hI (fun _ _=>rfl) _ _ _ hc
   ·cases h
  ·rename_i c d
   split at h
   ·rename_i y z hy hz
    simp at h;subst h
    obtain⟨c1,c2,e,h1,h2⟩:=hc
    simp only[CV.subOK,Bool.and_eq_true]at hs
    exact⟨c1,c2,e,iha hy hs.1 h1 (fun g⟨b,hb,hg⟩=>hr g ⟨b,by simp[CV.refs,hb],hg⟩),ihb hz hs.2 h2 (fun g⟨b,hb,hg⟩=>hr g ⟨b,by simp[CV.refs,hb],hg⟩)⟩
   ·cases h
 |slice e ih=>
  intro x cs h hs hc hr
  cases c<;>simp only[toPH]at h<;>try (cases h;done)
  ·simp at h;subst h
   rename_i te e'
   exact⟨none,0,hc,by simp,by simp[maxLen],by simp⟩
  ·split at h
   ·rename_i ht;subst ht;simp at h;subst h;exact RepD.mono hI (fun _ _=>rfl) _ _ _ hc
   ·cases h
  ·rename_i b
   obtain⟨_,rfl,_⟩:=hc
   have hb:=L b
   have hr':∀g,holdsB E b (look b) g->I' g:=fun g hg=>hr g ⟨b,by simp[CV.refs],hg⟩
   split at h
   ·rename_i te e' xs hlk
    rw[hlk]at hb hr'
    split at h
    ·rename_i he;subst he;simp at h;subst h
     exact slice_of_own hI hb hr'
    ·cases h
   ·rename_i te e' xs hlk
    rw[hlk]at hb
    split at h
    ·rename_i he;subst he;simp at h;subst h
     exact RepD.mono hI (fun _ _=>rfl) _ _ _ hb
    ·cases h
   ·cases h
  ·rename_i b p sz off len cp
   obtain⟨_,ad,cap,hlc,hcm,_,had,rfl⟩:=hc
   have hb:=L b
   have hr':∀g,holdsB E b (look b) g->I' g:=fun g hg=>hr g ⟨b,by simp[CV.refs],hg⟩
   split at h
   ·rename_i te e' xs hlk
    rw[hlk]at hb hr'
    split at h
    ·rename_i he;subst he
     split at h
     ·rename_i hsz
      simp at h;subst h
      have hle:off+len<=List.length xs:=by simpa[CV.subOK,hlk]using hs
      have hlen:((xs.drop off).take len).length=len:=by rw[take_take_drop];omega
      refine⟨ad,cap,by rw[hlen],by rw[hlen];exact hlc,hcm,fun h0=> ?_⟩
      obtain⟨cells,hrw,ho,hpos,hg⟩:=hb
      rcases ho.2 with⟨hv,hn⟩|⟨g,cap',cur,hv,hbg,hh,hnc,hcm',hcs,htk⟩
      ·omega
      ·have hg':g=E.μ b:=hg g (by rw[hv];rfl)
       obtain⟨l,m,r,em,hl,hm⟩:=Rows.seg (fun y z=>RepD.len e' y z) hrw hle
       refine⟨E.μ b,poff []+off*sz,m,had (by omega),hr' _ (by rw[<-hg'];show(E.σ b).ownBlock=some g;rw[hv];rfl),?_,Rows.mono (fun x c=>RepD.mono hI (fun _ _=>rfl) e' x c) _ _ hm⟩
       have:cur.toList=l++m++(r++cur.toList.drop (List.length xs*e'.size)):=by
        have:=List.take_append_drop (List.length xs*e'.size) cur.toList
        rw[htk,em]at this
        exact this.symm.trans (by simp)
       have hc:=cells_seg hh this
       have e0:poff []+off*sz=l.length:=by rw[hl,hsz];exact Nat.zero_add _
       rw[<-hg',e0];exact hc
     ·cases h
    ·cases h
   ·rename_i p _ _ c' hlk
    rw[hlk]at hb hr'
    split at h
    ·rename_i n e' xs hget
     split at h
     ·rename_i he;subst he
      split at h
      ·rename_i hsz
       simp at h;subst h
       simp only[CV.subOK,hlk,hget,Bool.and_eq_true,decide_eq_true_eq]at hs
       obtain⟨cs,te,hh,hcr⟩:=hb
       obtain⟨l,m,r,em,hl,hm⟩:=get_rep hget hs.1 hcr
       obtain⟨hn,hrw⟩:=hm
       obtain⟨l2,m2,r2,em2,hl2,hm2⟩:=Rows.seg (fun y z=>RepD.len e' y z) hrw (off:=off) (len:=len) (by omega)
       have hlen:((xs.drop off).take len).length=len:=by rw[take_take_drop];omega
       refine⟨ad,cap,by rw[hlen],by rw[hlen];exact hlc,hcm,fun h0=>⟨E.μ b,poff p+off*sz,m2,had (by omega),hr' _ rfl,?_,Rows.mono (fun x c=>RepD.mono hI (fun _ _=>rfl) e' x c) _ _ hm2⟩⟩
       have:cs.toList=(l++l2)++m2++(r2++r):=by rw[em,em2];simp
       have hc:=cells_seg hh this
       rw[List.length_append,hl,hl2,hsz]at hc;exact hc
      ·cases h
     ·cases h
    ·cases h
   ·cases h
 |arr n e ih=>
  intro x cs h _ hc _
  cases c<;>simp only[toPH]at h<;>try (cases h;done)
  ·split at h
   ·rename_i ht;subst ht;simp at h;subst h;exact RepD.mono hI (fun _ _=>rfl) _ _ _ hc
   ·cases h
end Go.Ev
namespace Go.Ev
open Go Go.RowKit
theorem toPH_no:∀ {t:Ty}{c:CV}{x:t.den},toPH noLook t c=some x->c.subOK noLook=true:=by
 intro t
 induction t with
 |pair a b iha ihb=>
  intro c x h
  cases c<;>simp only[toPH]at h<;>try (first|rfl|(cases h;done))
  split at h
  ·rename_i hy hz
   simp[CV.subOK,iha hy,ihb hz]
  ·cases h
 |slice e ih=>
  intro c x h
  cases c<;>simp only[toPH]at h<;>try (first|rfl|(cases h;done))
 |_=>
  intros c x h
  cases c<;>simp only[toPH]at h<;>try (first|rfl|(cases h;done))
theorem toPH_noRep{E:Env}{t:Ty}{c:CV}{x:t.den}{cs:List Value}(h:toPH noLook t c=some x)(hc:CRep E c cs):RepD E.w E.R t x cs:=
 toPH_rep (LRep_no E 0) (fun _ h=>h) h (toPH_no h) hc (fun _⟨_,_,hg⟩=>hg.elim)
theorem set_rep{E:Env}{v:CV}{vs:List Value}(hv:CRep E v vs):∀ {p:Path}{c d:CV}{cs:List Value},CV.set v p c=some d->c.ok p=true->CRep E c cs->
 ∃l m r,cs=l++m++r/\l.length=poff p/\m.length=v.csize/\CRep E d (l++vs++r)
 |[],c,d,cs,h,_,hc=>by
  simp only[CV.set]at h
  split at h
  ·rename_i hs
   simp at h;subst h
   exact⟨[],cs,[],by simp,rfl,by rw[CRep.len c cs hc,hs],by simpa using hv⟩
  ·cases h
 | .f i o::p,c,d,cs,h,ho,hc=>by
   simp only[CV.set]at h
   simp only[CV.ok]at ho
   split at h
   ·rename_i d0 hd
    rw[hd]at ho
    split at h
    ·rename_i d' hd'
     obtain⟨l,m,r,e,hl,hr⟩:=getF_rep hd hc
     obtain⟨l2,m2,r2,e2,hl2,hm2,hr2⟩:=set_rep hv hd' ho hr
     have:=setF_rep hr2 hd h hc l m r e hl (CRep.len d0 m hr)
     refine⟨l++l2,m2,r2++r,by simp[e,e2],?_,hm2,by simpa using this⟩
     simp[poff,Step.off,hl];simpa[poff]using hl2
    ·cases h
   ·cases h
 | .ix i s::p,c,d,cs,h,ho,hc=>by
   simp only[CV.set]at h
   simp only[CV.ok]at ho
   split at h
   ·rename_i d0 hd
    rw[hd]at ho
    simp only[Bool.and_eq_true]at ho
    split at h
    ·rename_i d' hd'
     obtain⟨l,m,r,e,hl,hr⟩:=getIx_rep hd ho.1 hc
     obtain⟨l2,m2,r2,e2,hl2,hm2,hr2⟩:=set_rep hv hd' ho.2 hr
     refine⟨l++l2,m2,r2++r,by simp[e,e2],?_,hm2,?_⟩
     ·simp[poff,Step.off,hl];simpa[poff]using hl2
     ·cases c with
      |pure t x=>
       cases t with
       |arr n e'=>
        simp only[setIx]at h
        split at h
        ·rename_i y hy
         simp at h;subst h
         have hty:=toPH_noRep hy hr2
         simp only[getIx]at hd
         split at hd
         ·rename_i hsz
          simp at hd;subst hd
          have hi:i<List.length x:=by rw[hc.1];simpa[okIx]using ho.1
          have hml:m.length=e'.size:=by rw[CRep.len _ m hr,csize_ofP]
          have:=Rows.set_ (fun y z=>RepD.len e' y z) y _ hty x cs hc.2 i hi l m r e (by rw[hl,hsz]) hml
          exact⟨by rw[List.length_set];exact hc.1,by simpa using this⟩
         ·cases hd
        ·cases h
       |_=>cases h
      |_=>cases h
    ·cases h
   ·cases h
theorem bget_rep{E:Env}{base b:Nat}:∀ {k:Blk}{p:Path}{d:CV},k.get p=some d->k.ok p=true->BRep E base b k->
 ∃cs te l m r,E.w.heap[E.μ b]? =some (.cells cs te (0,0))/\cs.toList=l++m++r/\l.length=poff p/\CRep E d m
 | .mem c,p,d,h,ho,⟨cs,te,hh,hc⟩=>by
   obtain⟨l,m,r,e,hl,hr⟩:=get_rep h ho hc
   exact⟨cs,te,l,m,r,hh,e,hl,hr⟩
 | .vec te e xs,.ix i s::p,d,h,ho,⟨cells,hrw,hown,hpos,hg⟩=>by
   simp only[Blk.get]at h
   simp only[Blk.ok,Bool.and_eq_true,decide_eq_true_eq]at ho
   split at h
   ·rename_i hsz
    rcases hown.2 with⟨hv,hn⟩|⟨g,cap',cur,hv,hbg,hh,hnc,hcm',hcs,htk⟩
    ·omega
    ·have hg':g=E.μ b:=hg g (by rw[hv];rfl)
     obtain⟨m,hm,l,r,e2,hl⟩:=Rows.at_ (fun y z=>RepD.len e y z) e.dflt xs cells hrw i ho.1
     obtain⟨l2,m2,r2,e3,hl2,hr2⟩:=get_rep h ho.2 (CRep_ofP (E:=E) hm)
     refine⟨cur,te,l++l2,m2,r2++r++cur.toList.drop (xs.length*e.size),by rw[<-hg'];exact hh,?_,?_,hr2⟩
     ·have:=List.take_append_drop (xs.length*e.size) cur.toList
      rw[htk,e2,e3]at this
      exact this.symm.trans (by simp)
     ·simp[poff,Step.off,hl,hsz];simpa[poff]using hl2
   ·cases h
end Go.Ev
namespace Go.Ev
open Go Go.RowKit
def upd{α:Type}(f:Nat->α)(n:Nat)(v:α):Nat->α:=fun b=>if b=n then v else f b
theorem upd_same{α:Type}(f:Nat->α)(n:Nat)(v:α):upd f n v n=v:=by simp[upd]
theorem upd_ne{α:Type}(f:Nat->α){n b:Nat}(v:α)(h:b≠n):upd f n v b=f b:=by simp[upd,h]
section
variable{base:Nat}{E:Env}{hp:List Blk}{n:Nat}
theorem HS.notLive(H:HS base E hp)(hf:lookH hp n= .fresh):¬E.live n:=fun h=>(H.live n).1 h hf
theorem HS.held_lt(H:HS base E hp){b g:Nat}(h:holdsB E b (lookH hp b) g):g<E.w.heap.size:=by
 have hb:=H.blk b
 cases hk:lookH hp b with
 |fresh=>rw[hk]at h;exact h.elim
 |dead=>rw[hk]at h;exact h.elim
 |fvec te e xs=>rw[hk]at h;exact h.elim
 |ghost n=>
  rw[hk]at h hb
  obtain⟨rec,i,_,hh⟩:=hb
  have h:g=E.μ b:=h
  subst h
  rcases Nat.lt_or_ge (E.μ b) E.w.heap.size with h1|h1
  ·exact h1
  ·rw[Array.getElem?_eq_none h1]at hh;cases hh
 |mem c=>
  rw[hk]at h hb
  obtain⟨cs,te,hh,_⟩:=hb
  have h:g=E.μ b:=h
  subst h
  rcases Nat.lt_or_ge (E.μ b) E.w.heap.size with h1|h1
  ·exact h1
  ·rw[Array.getElem?_eq_none h1]at hh;cases hh
 |vec te e xs=>
  rw[hk]at h hb
  obtain⟨cells,_,ho,_⟩:=hb
  exact(ho.lt g h).2
theorem HS.heldThaw(H:HS base E hp){b g:Nat}(h:holdsB E b (lookH hp b) g):thaw E.w g:=by
 have hb:=H.blk b
 cases hk:lookH hp b with
 |fresh=>rw[hk]at h;exact h.elim
 |dead=>rw[hk]at h;exact h.elim
 |fvec te e xs=>rw[hk]at h;exact h.elim
 |ghost n=>
  rw[hk]at h hb
  obtain⟨rec,i,_,hh⟩:=hb
  have h:g=E.μ b:=h
  subst h
  exact thaw.other hh (fun _ _ _ e=>by cases e)
 |mem c=>
  rw[hk]at h hb
  obtain⟨cs,te,hh,_⟩:=hb
  have h:g=E.μ b:=h
  subst h
  exact thaw.cells hh
 |vec te e xs=>
  rw[hk]at h hb
  obtain⟨cells,_,ho,_⟩:=hb
  have h:(E.σ b).ownBlock=some g:=h
  rcases ho.2 with⟨h1,_⟩|⟨g',cap,cur,h1,_,h2,_⟩
  ·rw[h1]at h;cases h
  ·rw[h1]at h
   injection h with h
   have h:g'=g:=h
   subst h
   exact thaw.cells h2
theorem HS.heldJ(H:HS base E hp){b g:Nat}(hb:holdsB E b (lookH hp b) g):¬E.J g:=fun hj=>(H.sep b g hb).1 (H.jI g hj)
theorem Env.le_world{w':World}(hb:Below base E.w w')(hI:∀g,E.I g->w'.heap[g]? =E.w.heap[g]?):E.le base {E with w:=w'} :=
 ⟨fun _ h=>h,hI,fun _ h=>h,fun _ _=>rfl,fun _ _=>rfl,hb,fun _ h=> .inl h,fun _ _=>rfl,rfl,rfl⟩
theorem HS.world{w':World}(H:HS base E hp)(hb:Below base E.w w')(hh:∀g,g<E.w.heap.size->w'.heap[g]? =E.w.heap[g]?):E.le base {E with w:=w'}/\HS base {E with w:=w'} hp:=by
 have hle:E.le base {E with w:=w'}:=Env.le_world hb fun g hg=>hh g (H.imm g hg)
 refine⟨hle,⟨fun b=> ?_,H.inj,H.sep,fun g hg=>Nat.lt_of_lt_of_le (H.imm g hg) hb.size,H.live,Nat.le_trans H.base hb.size,H.eok,H.jI,H.thw_le hle fun _ h=>h⟩⟩
 by_cases hl:E.live b
 ·exact(H.blk b).mono hle hl _ (fun g hg=>hh g (H.held_lt hg))
 ·have:lookH hp b= .fresh:=by
   rcases Classical.em (lookH hp b= .fresh)with h1|h1
   ·exact h1
   ·exact absurd ((H.live b).2 h1) hl
  rw[this];trivial
def Env.newMem(E:Env)(n:Nat)(o:Obj):Env:= {E with w:=E.w.alloc o,μ:=upd E.μ n E.w.heap.size,live:=fun b=>E.live b\/b=n}
theorem HS.newMem(H:HS base E hp)(hf:lookH hp n= .fresh)(hn:n<=hp.length){c:CV}{cs:Array Value}(te:Nat)(hc:CRep E c cs.toList) :
 E.le base (E.newMem n (.cells cs te))/\HS base (E.newMem n (.cells cs te)) (setH hp n (.mem c)):=by
 have hnl:=H.notLive hf
 have hal:∀g,g<E.w.heap.size->(E.w.alloc (.cells cs te)).heap[g]? =E.w.heap[g]? :=fun g hg=>Below.heap_alloc _ _ _ hg
 have hle:E.le base (E.newMem n (.cells cs te)) :=
  ⟨fun _ h=>h,fun g hg=>hal g (H.imm g hg),fun _ h=> .inl h,fun b hb=>upd_ne _ _ (fun e=>hnl (e▸hb)),fun _ _=>rfl,(Below.refl _ _).alloc H.base _,fun _ h=> .inl h,fun _ _=>rfl,rfl,rfl⟩
 refine⟨hle,H.set hle hn (by simp) (fun _=>Iff.rfl) (fun g hg=>by have:=H.imm g hg;show g<(E.w.heap.push _).size;simp;omega) (fun b g _ hg=>(H.sep b g hg).1) (fun b g _ hg=>hal g (H.held_lt hg)) ?_ ?_ H.eok (H.thw_le hle fun _ h=>h)⟩
 ·refine⟨cs,te,?_,CRep.mono hle _ _ hc⟩
  show(E.w.heap.push _)[upd E.μ n E.w.heap.size n]? =_
  rw[upd_same];simp
 ·intro g hg
  have hg:g=upd E.μ n E.w.heap.size n:=hg
  rw[upd_same]at hg
  subst hg
  exact⟨fun h=>Nat.lt_irrefl _ (H.imm _ h),H.base,fun b _ hb=>Nat.lt_irrefl _ (H.held_lt hb)⟩
def Env.newVec(E:Env)(n:Nat)(w':World)(v:Value):Env:= {E with w:=w',μ:=upd E.μ n (v.ownBlock.getD 0),σ:=upd E.σ n v,live:=fun b=>E.live b\/b=n}
theorem HS.newVec(H:HS base E hp)(hf:lookH hp n= .fresh)(hn:n<=hp.length){w':World}{v:Value}{te:Nat}{e:Ty}{xs:List e.den}{cells:List Value}(hb:Below base E.w w')(hI:∀g,E.I g->w'.heap[g]? =E.w.heap[g]?)
 (hk:∀b g,holdsB E b (lookH hp b) g->w'.heap[g]? =E.w.heap[g]?) (hr:Rows (RepD w' E.R e) xs cells) (ho:w'.ownsRow base te e.size v xs.length cells) (hpos:0<e.size)
 (hv:∀g,v.ownBlock=some g->¬E.I g/\∀b,¬holdsB E b (lookH hp b) g) :
 E.le base (E.newVec n w' v)/\HS base (E.newVec n w' v) (setH hp n (.vec te e xs)):=by
 have hnl:=H.notLive hf
 have hle:E.le base (E.newVec n w' v) :=
  ⟨fun _ h=>h,hI,fun _ h=> .inl h,fun b hb=>upd_ne _ _ (fun e=>hnl (e▸hb)),fun b hb=>upd_ne _ _ (fun e=>hnl (e▸hb)),hb,fun _ h=> .inl h,fun _ _=>rfl,rfl,rfl⟩
 refine⟨hle,H.set hle hn (by simp) (fun _=>Iff.rfl) (fun g hg=>Nat.lt_of_lt_of_le (H.imm g hg) hb.size) (fun b g _ hg=>(H.sep b g hg).1) (fun b g _ hg=>hk b g hg) ?_ ?_ H.eok (H.thw_le hle fun _ h=>h)⟩
 ·refine⟨cells,hr,?_,hpos,?_⟩
  ·show World.ownsRow w' base te e.size (upd E.σ n v n) _ _
   rw[upd_same];exact ho
  ·intro g hg
   have hg:(upd E.σ n v n).ownBlock=some g:=hg
   rw[upd_same]at hg
   show g=upd E.μ n (v.ownBlock.getD 0) n
   rw[upd_same,hg];rfl
 ·intro g hg
  have hg:(upd E.σ n v n).ownBlock=some g:=hg
  rw[upd_same]at hg
  exact⟨(hv g hg).1,(ho.lt g hg).1,fun b _=>(hv g hg).2 b⟩
theorem HS.die(H:HS base E hp)(hl:E.live n):HS base E (setH hp n .dead):=by
 have hlt:=lookH_lt ((H.live n).1 hl)
 exact H.set (Env.le.refl base E) (by omega) (by simp) (fun b=>⟨.inl,fun h=>h.elim id (fun e=>e▸hl)⟩) H.imm (fun b g _ hg=>(H.sep b g hg).1) (fun _ _ _ _=>rfl) (k:= .dead) trivial (fun _ h=>h.elim) H.eok H.thw
def Env.frz(E:Env)(hp:List Blk)(n:Nat):Env:= {E with I:=fun g=>E.I g\/holdsB E n (lookH hp n) g}
theorem HS.frz(H:HS base E hp)(hl:E.live n):E.le base (E.frz hp n)/\HS base (E.frz hp n) (setH hp n (lookH hp n).frz):=by
 have hlt:=lookH_lt ((H.live n).1 hl)
 have hle:E.le base (E.frz hp n):=⟨fun _ h=> .inl h,fun _ _=>rfl,fun _ h=>h,fun _ _=>rfl,fun _ _=>rfl,Below.refl _ _,fun g hg=>hg.elim .inl fun h=> .inr (H.sep _ g h).2,fun _ _=>rfl,rfl,rfl⟩
 have hbn:=H.blk n
 refine⟨hle,H.set hle (by omega) ?_ (fun b=>⟨.inl,fun h=>h.elim id (fun e=>e▸hl)⟩) ?_ ?_ (fun _ _ _ _=>rfl) ?_ ?_ H.eok (fun g hg hb=>hg.elim (fun h=>H.thw g h hb) fun h=>H.heldThaw h)⟩
 ·have:=(H.live n).1 hl
  cases h:lookH hp n<;>simp_all [Blk.frz]
 ·intro g hg
  rcases hg with h|h
  ·exact H.imm g h
  ·exact H.held_lt h
 ·intro b g hb hg hI
  rcases hI with h|h
  ·exact(H.sep b g hg).1 h
  ·exact hb (H.inj b n g hg h)
 ·cases h:lookH hp n with
  |fresh=>trivial
  |dead=>trivial
  |mem c=>trivial
  |ghost n=>trivial
  |fvec te e xs=>
   rw[h]at hbn
   have hbn:RepD E.w E.R (.slice e) xs [E.σ n]:=hbn
   exact RepD.mono (w':=(E.frz hp n).w) (I':=(E.frz hp n).R) (fun g(h:E.R g)=>⟨.inl h.1,h.2⟩) (fun _ _=>rfl) (.slice e) xs _ hbn
  |vec te e xs=>
   rw[h]at hbn
   exact slice_of_own (E:=E) (I':=(E.frz hp n).R) (fun g(h:E.R g)=>⟨.inl h.1,h.2⟩) hbn (fun g hg=>⟨.inr (by rw[h];exact hg),H.heldJ (b:=n) (by rw[h];exact hg)⟩)
 ·intro g hg
  cases h:lookH hp n<;>simp[h,Blk.frz,holdsB]at hg
theorem HS.store(H:HS base E hp){g:Nat}{k:Blk}{cur:Array Value}(hg:holdsB E n (lookH hp n) g)(hk:BRep {E with w:=E.w.setRow g cur} base n k)(hh:∀g',holdsB {E with w:=E.w.setRow g cur} n k g'->g'=g)(hkf:k≠ .fresh)
 (hset:∀g',g'≠g->(E.w.setRow g cur).heap[g']? =E.w.heap[g']?) (hbl:Below base E.w (E.w.setRow g cur)) :
 E.le base {E with w:=E.w.setRow g cur}/\HS base {E with w:=E.w.setRow g cur} (setH hp n k):=by
 have hl:E.live n:=by
  refine(H.live n).2 fun h=> ?_
  rw[h]at hg;exact hg.elim
 have hlt:=lookH_lt ((H.live n).1 hl)
 have hle:E.le base {E with w:=E.w.setRow g cur}:=Env.le_world hbl fun g' hg'=>hset g' (fun e=>(H.sep n g hg).1 (e▸hg'))
 refine⟨hle,H.set hle (by omega) hkf (fun b=>⟨.inl,fun h=>h.elim id (fun e=>e▸hl)⟩) (fun g' hg'=>Nat.lt_of_lt_of_le (H.imm g' hg') hbl.size) (fun b g' _ hg'=>(H.sep b g' hg').1) (fun b g' hb hg'=>hset g' (fun e=>hb (H.inj b n g (e▸hg') hg))) hk ?_ H.eok (H.thw_le hle fun _ h=>h)⟩
 intro g' hg'
 have:=hh g' hg'
 subst this
 exact⟨(H.sep n g' hg).1,(H.sep n g' hg).2,fun b hb hb'=>hb (H.inj b n g' hb' hg)⟩
end
theorem setRow_other(w:World)(g:Nat)(cur:Array Value)(g':Nat)(h:g'≠g):(w.setRow g cur).heap[g']? =w.heap[g']? :=by
 simp only[World.setRow,Array.getElem?_modify]
 rw[if_neg (fun e=>h e.symm)]
theorem setRow_below(w:World){base g:Nat}(cur:Array Value)(h:base<=g):Below base w (w.setRow g cur) :=
 ⟨rfl,rfl,rfl,by simp[World.setRow],fun k hk=>setRow_other w g cur k (by omega)⟩
end Go.Ev
namespace Go.Ev
open Go Go.RowKit
def Vs(E:Env):List CV->List Value->Prop
 |[],[]=>True
 |c::cs,v::vs=>VRep E c v/\Vs E cs vs
 |_,_=>False
def SlotsRep(E:Env)(S:St)(a:Act):Prop:=∀t,VRep E (S.sl.getD t .junk) (a.tmps.getD t undef)
theorem VRep_one{E:Env}{c:CV}{v:Value}(h:c.isAgg=false)(ht:∀d,c≠ .tup d):VRep E c v↔CRep E c [v]:=by
 have e:VRep E c v↔VRep1 E c v:=by
  cases c with
  |tup d=>exact absurd rfl (ht d)
  |_=>rfl
 rw[e]
 unfold VRep1
 simp only[h]
 constructor
 ·rintro⟨cs,h1,h2⟩
  simp at h2;rw[h2]at h1;exact h1
 ·intro h1;exact⟨[v],h1,by simp⟩
theorem VRep_int{E:Env}{k:IntKind}{n:Int}{v:Value}:VRep E (.int k n) v↔v= .int k n/\k.wrap n=n:=by
 rw[VRep_one rfl (by simp)];simp[CRep]
theorem VRep_bool{E:Env}{b:Bool}{v:Value}:VRep E (.bool b) v↔v= .bool b:=by
 rw[VRep_one rfl (by simp)];simp[CRep]
theorem VRep_str{E:Env}{x:List Int}{v:Value}:VRep E (.pure .str x) v↔v= .string (bytesOf x)/\strOK x=true:=by
 rw[VRep_one rfl (by simp)];simp[CRep,RepD]
theorem bytes_of(s:ByteArray):bytesOf (s.data.toList.map fun b=>(b.toNat:Int))=s:=by
 unfold bytesOf
 have:(s.data.toList.map fun b=>(b.toNat:Int)).map (fun n:Int=>UInt8.ofNat n.toNat)=s.data.toList:=by
  rw[List.map_map]
  conv=>rhs;rw[<-List.map_id s.data.toList]
  apply List.map_congr_left
  intro b _
  simp
 rw[this]
theorem bytes_ok{s:ByteArray}(h:s.size<=maxLen):strOK (s.data.toList.map fun b=>(b.toNat:Int))=true:=by
 unfold strOK
 simp only[Bool.and_eq_true,List.all_eq_true,decide_eq_true_eq]
 refine⟨fun y hy=> ?_,by simpa using h⟩
 obtain⟨b,_,rfl⟩:=List.mem_map.1 hy
 have:=b.toNat_lt
 omega
theorem VRep_nil{E:Env}{te:Nat}{e:Ty}{v:Value}:VRep E (.nil te e) v↔v= .slice none 0 0:=by
 rw[VRep_one rfl (by simp)];simp[CRep]
theorem VRep_ptr{E:Env}{b:Nat}{p:Path}{v:Value}:VRep E (.ptr b p) v↔E.live b/\v= .pointer (some ⟨E.μ b,poff p,none⟩):=by
 rw[VRep_one rfl (by simp)];simp[CRep]
theorem VRep_whole{E:Env}{b:Nat}{v:Value}:VRep E (.whole b) v↔E.live b/\v=E.σ b/\∃a n c,E.σ b= .slice a n c:=by
 rw[VRep_one rfl (by simp)];simp[CRep]
theorem VRep_sub{E:Env}{b sz off len:Nat}{cap:Option Nat}{p:Path}{v:Value}:VRep E (.sub b p sz off len cap) v↔E.live b/\∃ad c,len<=c/\c<=maxLen/\(∀k,cap=some k->c=k)/\(0<len->ad=some ⟨E.μ b,poff p+off*sz,none⟩)/\v= .slice ad len c:=by
 rw[VRep_one rfl (by simp)];simp[CRep]
theorem VRep_clo{E:Env}{f:Nat}{c:CV}{v:Value}:VRep E (.clo f c) v↔∃caps:List Value,v= .func (.func f) #[] caps.toArray/\CRep E c caps:=by
 rw[VRep_one rfl (by simp)];simp[CRep]
theorem VRep_ref{E:Env}{t:Ty}{x:t.den}{v:Value}:VRep E (.ref t x) v↔∃b off rows,v= .pointer (some ⟨b,off,none⟩)/\E.Rr t b/\cellsAt E.w b off rows/\RepD E.w E.R t x rows:=by
 rw[VRep_one rfl (by simp)];simp[CRep]
theorem VRep_slice{E:Env}{e:Ty}{x:List e.den}{v:Value}:VRep E (.pure (.slice e) x) v↔RepD E.w E.R (.slice e) x [v]:=by
 rw[VRep_one rfl (by simp)];simp[CRep]
theorem VRep_jsl{E:Env}{e:Ty}{x:List e.den}{v:Value}:VRep E (.jsl e x) v↔RepD E.w E.K (.slice e) x [v]:=by
 rw[VRep_one rfl (by simp)];simp[CRep]
theorem VRep_of{E:Env}{c:CV}{cs:List Value}(h:CRep E c cs)(ht:∀d,c≠ .tup d):VRep E c (if c.isAgg then .agg cs.toArray else cs.headD undef):=by
 have:VRep1 E c (if c.isAgg then .agg cs.toArray else cs.headD undef):=by
  refine⟨cs,h,?_⟩
  cases hc:c.isAgg
  ·have hl:=CRep.len c cs h
   have h1:c.csize=1:=by
    cases c<;>simp_all [CV.isAgg,CV.csize]
    rename_i t x
    cases t<;>simp_all [Ty.agg,Ty.size]
   rw[h1]at hl
   match cs,hl with
   |[v],_=>rfl
  ·rfl
 cases c with
 |tup d=>exact absurd rfl (ht d)
 |_=>exact this
theorem VRep_cells{E:Env}{c:CV}{v:Value}(h:VRep E c v)(hv:c.isVal=true):CRep E c v.cells.toList/\v.cells.size=c.csize:=by
 have h1:VRep1 E c v:=by
  cases c with
  |tup d=>simp[CV.isVal]at hv
  |_=>exact h
 obtain⟨cs,h2,h3⟩:=h1
 have hl:=CRep.len c cs h2
 cases hc:c.isAgg
 ·rw[hc]at h3
  simp at h3
  subst h3
  have hcell:v.cells= #[v]:=by
   cases v with
   |agg xs=>
    exfalso
    cases c<;>simp_all [CV.isAgg,CV.isVal,CRep]
    ·rename_i t x
     cases t<;>simp_all [Ty.agg,RepD]
    ·obtain⟨_,e,_,_,_,e2⟩:=h2
     rw[e2]at e;cases e
    ·obtain⟨_,_,e,_⟩:=h2
     cases e
   |_=>rfl
  rw[hcell];exact⟨h2,by simpa using hl⟩
 ·rw[hc]at h3
  simp at h3
  subst h3
  simpa[Value.cells]using⟨h2,hl⟩
section
variable{P:Program}{E:Env}{S:St}{a:Act}
theorem cstOf_rep{t:Option TypeId}{v:Value}{c:CV}(h:cstOf P t v=some c):VRep E c v:=by
 unfold cstOf at h
 split at h
 ·split at h
  ·rename_i hk
   simp at h;subst h
   exact VRep_int.2 ⟨rfl,by simpa[inK]using hk⟩
  ·cases h
 ·simp at h;subst h;exact VRep_bool.2 rfl
 ·split at h
  ·rename_i s hs
   simp only[Option.some.injEq]at h;subst h
   exact VRep_str.2 ⟨by rw[bytes_of],bytes_ok hs⟩
  ·cases h
 ·split at h
  ·split at h
   ·simp only[Option.map_eq_some_iff]at h
    obtain⟨u,_,rfl⟩:=h
    exact VRep_nil.2 rfl
   ·cases h
  ·cases h
 ·cases h
theorem opd_rep(hs:SlotsRep E S a){t:Option TypeId}{x:Operand}{o:Opd}(h:opd P t x=some o):VRep E (S.eval o) (a.eval x):=by
 cases x with
 |tmp n=>simp[opd]at h;subst h;exact hs n
 |const v=>
  simp only[opd,Option.map_eq_some_iff]at h
  obtain⟨c,hc,rfl⟩:=h
  exact cstOf_rep hc
 |func f=>
  simp[opd]at h;subst h
  exact VRep_clo.2 ⟨[],rfl,rfl⟩
 |global g=>simp[opd]at h
theorem opds_rep(hs:SlotsRep E S a):∀ {ts:List (Option TypeId)}{xs:List Operand}{l:List Opd},opds P ts xs=some l->Vs E (l.map S.eval) (xs.map a.eval)
 |[],[],l,h=>by simp[opds]at h;subst h;trivial
 |t::ts,x::xs,l,h=>by
  simp only[opds]at h
  split at h
  ·rename_i o l' h1 h2
   simp at h;subst h
   exact⟨opd_rep hs h1,opds_rep hs h2⟩
  ·cases h
 |[],_::_,l,h=>by simp[opds]at h
 |_::_,[],l,h=>by simp[opds]at h
theorem semAt_run{ro:Option Nat}{ρ:Operand->Value}{o:Oper}{w w':World}{nx:Next}(h:(execOp ρ o).run P w= .ok nx w')(hnd:∀d,nx≠ .defer d):(o.semAt ro ρ).run P w= .ok nx w':=by
 cases ro with
 |none=>exact h
 |some l=>
  by_cases hd:∃c,o.op= .defer c
  ·obtain⟨c,hc⟩:=hd
   exfalso
   unfold execOp at h
   simp only[hc,Sem.run_bind]at h
   cases hr:(resolve ρ c o.type).run P w with
   |ok d w1=>
    rw[hr]at h
    simp only[Result.andThen_ok,Sem.run_pure]at h
    injection h with h1 h2
    exact hnd d h1.symm
   |halt x w1=>rw[hr]at h;cases h
  ·rw[Oper.semAt_some l ρ o fun c hc=>hd ⟨c,hc⟩];exact h
abbrev FR(ro:Option Nat):Fence:= {Fence.wide with round:=ro}
theorem wp_val{ro:Option Nat}{o:Oper}{w w':World}{v:Value}{next:Act->World->Prop}{Q:Exit->Act->World->Prop}(h:(execOp a.eval o).run P w= .ok (.value v) w')(hn:next (a.put o.dst v) w'):o.wpIn (FR ro) 0 P a w next Q:=
 ⟨fun _ _=>trivial,by rw[show(FR ro).round=ro from rfl,semAt_run h (by simp)];exact hn⟩
theorem wp_skp{ro:Option Nat}{o:Oper}{w w':World}{next:Act->World->Prop}{Q:Exit->Act->World->Prop}(h:(execOp a.eval o).run P w= .ok .skip w')(hn:next (a.put o.dst undef) w'):o.wpIn (FR ro) 0 P a w next Q:=
 ⟨fun _ _=>trivial,by rw[show(FR ro).round=ro from rfl,semAt_run h (by simp)];exact hn⟩
theorem wp_ent{ro:Option Nat}{o:Oper}{w w':World}{f:FuncId}{vs:Array Value}{R:Ending->World->Prop}{next:Act->World->Prop}{Q:Exit->Act->World->Prop}(h:(execOp a.eval o).run P w= .ok (.enter f vs) w')(hc:Calls P f vs w' R)(hn:∀e w'',R e w''->∃v,e= .returned v/\next (a.put o.dst v) w''):o.wpIn (FR ro) 0 P a w next Q:=by
 refine⟨fun _ _=>trivial,?_⟩
 rw[show(FR ro).round=ro from rfl,semAt_run h (by simp),Oper.uponIn_enter]
 refine⟨fun h=>(by cases h),?_⟩
 have h1:CallsIn Fence.wide 0 P f vs w' R:=callsIn_wide.2 hc
 exact CallsIn.mono (F:=FR ro) h1 fun e w'' hr=>by
  obtain⟨v,rfl,h2⟩:=hn e w'' hr
  exact h2
theorem wp_rnd{ro:Option Nat}{o:Oper}{w w':World}{l f:Nat}{tmps:Array Value}{asg body:Code}{R:Ending->World->Prop}{next:Act->World->Prop}{Q:Exit->Act->World->Prop}(h:(execOp a.eval o).run P w= .ok (.round l f tmps asg body) w')(hc:RoundIn Fence.wide 0 P l f tmps asg body w' R)(hn:∀e w'',R e w''->∃v,e= .returned v/\next (a.put o.dst v) w''):o.wpIn (FR ro) 0 P a w next Q:=by
 refine⟨fun _ _=>trivial,?_⟩
 rw[show(FR ro).round=ro from rfl,semAt_run h (by simp),Oper.uponIn_round]
 refine⟨fun h=>(by cases h),?_⟩
 exact RoundIn.mono (F:=FR ro) hc fun e w'' hr=>by
  obtain⟨v,rfl,h2⟩:=hn e w'' hr
  exact h2
theorem wrap_i64_nat{n:Nat}(h:n<=maxLen):IntKind.i64.wrap (n:Int)=n:=by
 unfold maxLen at h
 simp[IntKind.wrap,IntKind.bits,IntKind.signed];omega
theorem wrap_idem(k:IntKind)(n:Int):k.wrap (k.wrap n)=k.wrap n:=by
 cases k<;>simp[IntKind.wrap,IntKind.bits,IntKind.signed]<;>(try split)<;>omega
end
end Go.Ev
namespace Go.Ev
open Go Go.RowKit
def PureOut(P:Program)(E:Env)(a:Act)(o:Oper)(out:Out):Prop:=
 out.wr=[]/\∃v,(execOp a.eval o).run P E.w= .ok (.value v) E.w/\VRep E out.v v
section
variable{P:Program}{sm:Nat->Bool}{summ:Nat->Option Summ}{E:Env}{S:St}{a:Act}{o:Oper}{iop:IOp}{args:List Opd}{nid:Nat}{out:Out}{look:Look}
theorem map_some{α β:Type}{x:Option α}{f:α->β}{y:β}(h:x.map f=some y):∃z,x=some z/\f z=y:=by
 cases x with
 |none=>cases h
 |some z=>exact⟨z,rfl,by simpa using h⟩
theorem one_inv{x:Operand}{f iop:IOp}{args:List Opd}(h:((opd P none x).map fun a=>(f,[a]))=some (iop,args)):∃q,opd P none x=some q/\iop=f/\args=[q]:=by
 obtain⟨q,h1,h2⟩:=map_some h
 simp at h2
 exact⟨q,h1,h2.1.symm,h2.2.symm⟩
theorem val_inv{c:CV}{out:Out}(h:val c=some out):out=⟨true,c,[]⟩:=by simpa[val]using h.symm
theorem snd_move(hs:SlotsRep E S a){x:Operand}(ho:o.op= .move x\/o.op= .assign x)(hc:compOp P sm o=some (iop,args))(hact:act summ iop (args.map S.eval) look nid=some out):PureOut P E a o out:=by
 have hc':movOf P o.type x=some (iop,args):=by
  rcases ho with ho|ho<;>simpa[compOp,ho]using hc
 unfold movOf at hc'
 split at hc'
 ·rename_i q h1
  simp at hc'
  obtain⟨rfl,rfl⟩:=hc'
  simp only[List.map_cons,List.map_nil,act,aMov]at hact
  rw[val_inv hact]
  refine⟨rfl,a.eval x,?_,opd_rep hs h1⟩
  rcases ho with ho|ho<;>(unfold execOp;simp only[ho];rfl)
 ·split at hc'
  ·rename_i v _
   simp at hc'
   obtain⟨rfl,rfl⟩:=hc'
   simp only[List.map_cons,List.map_nil,act,aMov,St.eval]at hact
   rw[val_inv hact]
   refine⟨rfl,a.eval (.const v),?_,VRep_junk _ _⟩
   rcases ho with ho|ho<;>(unfold execOp;simp only[ho];rfl)
  ·cases hc'
theorem Vs3{x y z:CV}{vs:List Value}(h:Vs E [x,y,z] vs):∃u v w,vs=[u,v,w]/\VRep E x u/\VRep E y v/\VRep E z w:=by
 match vs,h with
 |[u,v,w],⟨h1,h2,h3,_⟩=>exact⟨u,v,w,rfl,h1,h2,h3⟩
theorem Vs2{x y:CV}{vs:List Value}(h:Vs E [x,y] vs):∃u v,vs=[u,v]/\VRep E x u/\VRep E y v:=by
 match vs,h with
 |[u,v],⟨h1,h2,_⟩=>exact⟨u,v,rfl,h1,h2⟩
theorem snd_pick(hs:SlotsRep E S a){c x y:Operand}(ho:o.op= .pick c x y)(hc:compOp P sm o=some (iop,args))(hact:act summ iop (args.map S.eval) look nid=some out):PureOut P E a o out:=by
 simp only[compOp,ho]at hc
 obtain⟨l,h1,h2⟩:=map_some hc
 simp at h2
 obtain⟨rfl,rfl⟩:=h2
 have hv:=opds_rep hs h1
 simp only[act,aPick]at hact
 split at hact
 ·rename_i u v he
  rw[he]at hv
  obtain⟨u',v',w',e,r1,r2,r3⟩:=Vs3 hv
  simp at e
  obtain⟨e1,e2,e3⟩:=e
  rw[val_inv hact]
  exact⟨rfl,_,by unfold execOp;simp only[ho];rw[e1,VRep_bool.1 r1];simp[asBool];rfl,by rw[e2];exact r2⟩
 ·rename_i u v he
  rw[he]at hv
  obtain⟨u',v',w',e,r1,r2,r3⟩:=Vs3 hv
  simp at e
  obtain⟨e1,e2,e3⟩:=e
  rw[val_inv hact]
  exact⟨rfl,_,by unfold execOp;simp only[ho];rw[e1,VRep_bool.1 r1];simp[asBool];rfl,by rw[e3];exact r3⟩
 ·cases hact
theorem wrap_iff(k:IntKind)(n:Int):k.wrap n=n↔k.min<=n/\n<=k.max:=by
 cases k<;>simp[IntKind.wrap,IntKind.bits,IntKind.signed,IntKind.min,IntKind.max]<;>(try split)<;>omega
theorem min_le_zero(k:IntKind):k.min<=0:=by cases k<;>simp[IntKind.min,IntKind.signed,IntKind.bits]
theorem zero_le_max(k:IntKind):0<=k.max:=by cases k<;>simp[IntKind.max,IntKind.signed,IntKind.bits]
theorem fdiv_in{k:IntKind}{x d:Int}(hd:1<=d)(h:k.wrap x=x):k.wrap (x.fdiv d)=x.fdiv d:=by
 rw[wrap_iff]at h⊢
 have h0:=min_le_zero k
 have h1:=zero_le_max k
 rw[Int.fdiv_eq_ediv_of_nonneg _ (by omega)]
 rcases Int.lt_or_le x 0 with hx|hx
 ·have a1:x/d<0:=Int.ediv_neg_of_neg_of_pos hx (by omega)
  have a2:x<=x/d:=by
   apply Int.le_ediv_of_mul_le (by omega)
   have h3:=Int.mul_le_mul_of_nonneg_left hd (show 0<= -x by omega)
   rw[Int.neg_mul,Int.neg_mul]at h3
   omega
  omega
 ·have a1:0<=x/d:=Int.ediv_nonneg hx (by omega)
  have a2:x/d<=x:=Int.ediv_le_self _ hx
  omega
theorem tmod_in{k:IntKind}{x y:Int}(h:k.wrap x=x):k.wrap (x.tmod y)=x.tmod y:=by
 rw[wrap_iff]at h⊢
 have h0:=min_le_zero k
 have h1:=zero_le_max k
 have a1:(x.tmod y).natAbs<=x.natAbs:=by
  rw[Int.natAbs_tmod];exact Nat.mod_le _ _
 rcases Int.lt_or_le x 0 with hx|hx
 ·have:x.tmod y<=0:=by
   have:=Int.tmod_nonneg y (show 0<= -x by omega)
   rw[Int.neg_tmod]at this;omega
  omega
 ·have:0<=x.tmod y:=Int.tmod_nonneg y hx
  omega
theorem shift_run(op:BinOp)(k k':IntKind)(x y:Int){r:Bool×CV}(h:shiftI op k x y=some r)(hok:r.1=true)(hx:k.wrap x=x)(w:World):∃v,(Op.shift op k x k' y).run P w= .ok v w/\VRep E r.2 v:=by
 unfold shiftI at h
 split at h
 ·simp at h;subst h
  simp at hok
  exact⟨_,by simp[Op.shift,Int.not_lt.2 hok];rfl,VRep_int.2 ⟨by simp[Nat.min_def,Min.min],wrap_idem _ _⟩⟩
 ·simp at h;subst h
  simp at hok
  refine⟨_,by simp[Op.shift,Int.not_lt.2 hok];rfl,VRep_int.2 ⟨by simp[Nat.min_def,Min.min],?_⟩⟩
  have h2:(0:Int)<2^(Nat.min y.toNat k.bits):=Int.pow_pos (by omega)
  exact fdiv_in (by omega) hx
 ·cases h
theorem bin_run(op:BinOp)(t:TypeId)(k:IntKind)(x y:Int){r:Bool×CV}(h:binI op k x y=some r)(hok:r.1=true)(hx:k.wrap x=x)(w:World):∃v,(binOp op t (.int k x) (.int k y)).run P w= .ok v w/\VRep E r.2 v:=by
 cases op<;>simp only[binI]at h<;>try (cases h;done)
 all_goals (simp only[Option.some.injEq]at h;subst h)
 case quo=>simp at hok;exact⟨.int k (k.wrap (x.tdiv y)),by simp only[binOp,ne_eq,not_true_eq_false,if_false,Op.intDiv,hok];rfl,VRep_int.2 ⟨rfl,wrap_idem _ _⟩⟩
 case rem=>simp at hok;exact⟨.int k (x.tmod y),by simp only[binOp,ne_eq,not_true_eq_false,if_false,Op.intDiv,hok];rfl,VRep_int.2 ⟨rfl,tmod_in hx⟩⟩
 case add=>exact⟨_,by simp only[binOp,ne_eq,not_true_eq_false,if_false];rfl,VRep_int.2 ⟨rfl,wrap_idem _ _⟩⟩
 case sub=>exact⟨_,by simp only[binOp,ne_eq,not_true_eq_false,if_false];rfl,VRep_int.2 ⟨rfl,wrap_idem _ _⟩⟩
 case mul=>exact⟨_,by simp only[binOp,ne_eq,not_true_eq_false,if_false];rfl,VRep_int.2 ⟨rfl,wrap_idem _ _⟩⟩
 case and=>exact⟨_,by simp only[binOp,ne_eq,not_true_eq_false,if_false];rfl,VRep_int.2 ⟨rfl,wrap_idem _ _⟩⟩
 case or=>exact⟨_,by simp only[binOp,ne_eq,not_true_eq_false,if_false];rfl,VRep_int.2 ⟨rfl,wrap_idem _ _⟩⟩
 case xor=>exact⟨_,by simp only[binOp,ne_eq,not_true_eq_false,if_false];rfl,VRep_int.2 ⟨rfl,wrap_idem _ _⟩⟩
 case andNot=>exact⟨_,by simp only[binOp,ne_eq,not_true_eq_false,if_false];rfl,VRep_int.2 ⟨rfl,wrap_idem _ _⟩⟩
 all_goals exact⟨_,by simp only[binOp,ne_eq,not_true_eq_false,if_false];rfl,VRep_bool.2 rfl⟩
theorem snd_bin(hs:SlotsRep E S a){op:BinOp}{t t':TypeId}{x y:Operand}{k0:IntKind}(ho:o.op= .binOp op t x y t')(hu:P.underlying t=some (.int k0))(hc:compOp P sm o=some (iop,args))(hact:act summ iop (args.map S.eval) look nid=some out)(hok:out.ok=true):PureOut P E a o out:=by
 simp only[compOp,ho,hu]at hc
 obtain⟨l,h1,h2⟩:=map_some hc
 simp at h2
 obtain⟨rfl,rfl⟩:=h2
 have hv:=opds_rep hs h1
 simp only[act]at hact
 unfold aBin at hact
 split at hact
 ·rename_i k x' k' y' he
  rw[he]at hv
  obtain⟨u,v,e,r1,r2⟩:=Vs2 hv
  simp at e
  obtain⟨e1,e2⟩:=e
  obtain⟨r1,r1'⟩:=VRep_int.1 r1
  obtain⟨r2,r2'⟩:=VRep_int.1 r2
  have hrun:∀(q:Sem Value)(w w':World)(v:Value),q.run P w= .ok v w'->(do let v <-(do eqGuard op t x y (.int k x') (.int k' y');q);(pure (.value v):Sem Next)).run P w= .ok (.value v) w':=by
   intro q w w' v hq
   have hg:(eqGuard op t x y (.int k x') (.int k' y')).run P w= .ok () w:=by
    unfold eqGuard
    cases op<;>simp
   simp[Sem.run_bind,hg,hq]
  have hex:execOp a.eval o=(do let v <-(do eqGuard op t x y (.int k x') (.int k' y');binOp op t (.int k x') (.int k' y'));(pure (.value v):Sem Next)):=by
   unfold execOp;simp only[ho];rw[e1,e2,r1,r2]
  split at hact
  ·obtain⟨r,hr,rfl⟩:=map_some hact
   obtain⟨v,hv1,hv2⟩:=shift_run (P:=P) (E:=E) .shl k k' x' y' hr hok r1' E.w
   exact⟨rfl,v,by rw[hex];exact hrun _ _ _ _ (by simpa[binOp]using hv1),hv2⟩
  ·obtain⟨r,hr,rfl⟩:=map_some hact
   obtain⟨v,hv1,hv2⟩:=shift_run (P:=P) (E:=E) .shr k k' x' y' hr hok r1' E.w
   exact⟨rfl,v,by rw[hex];exact hrun _ _ _ _ (by simpa[binOp]using hv1),hv2⟩
  ·split at hact
   ·rename_i hk
    subst hk
    obtain⟨r,hr,rfl⟩:=map_some hact
    obtain⟨v,hv1,hv2⟩:=bin_run (P:=P) (E:=E) op t k x' y' hr hok r1' E.w
    exact⟨rfl,v,by rw[hex];exact hrun _ _ _ _ hv1,hv2⟩
   ·cases hact
 ·cases hact
theorem snd_un(hs:SlotsRep E S a){op:UnOp}{t:TypeId}{x:Operand}(ho:o.op= .unOp op t x)(hc:compOp P sm o=some (iop,args))(hact:act summ iop (args.map S.eval) look nid=some out):PureOut P E a o out:=by
 cases op<;>simp only[compOp,ho]at hc<;>try (cases hc;done)
 all_goals
  obtain⟨q,h1,rfl,rfl⟩:=one_inv hc
  have hv:=opd_rep hs h1
  simp only[act,List.map_cons,List.map_nil]at hact
 ·unfold aNeg at hact
  split at hact
  ·rename_i k n he
   simp at he
   rw[he]at hv
   rw[val_inv hact]
   exact⟨rfl,_,by unfold execOp;simp only[ho];rw[(VRep_int.1 hv).1];simp[Op.unary,Op.intArith];rfl,VRep_int.2 ⟨by simp,wrap_idem _ _⟩⟩
  ·cases hact
 ·unfold aBnot at hact
  split at hact
  ·rename_i k n he
   simp at he
   rw[he]at hv
   rw[val_inv hact]
   exact⟨rfl,_,by unfold execOp;simp only[ho];rw[(VRep_int.1 hv).1];simp[Op.unary,Op.intBits],VRep_int.2 ⟨rfl,wrap_idem _ _⟩⟩
  ·cases hact
 ·unfold aNot at hact
  split at hact
  ·rename_i b he
   simp at he
   rw[he]at hv
   rw[val_inv hact]
   exact⟨rfl,_,by unfold execOp;simp only[ho];rw[VRep_bool.1 hv];simp[Op.unary],VRep_bool.2 rfl⟩
  ·cases hact
theorem snd_conv(hs:SlotsRep E S a){s t:TypeId}{x:Operand}(ho:o.op= .convert s t x){k0 k1:IntKind}(hu1:P.underlying s=some (.int k0))(hu2:P.underlying t=some (.int k1))(hc:compOp P sm o=some (iop,args))(hact:act summ iop (args.map S.eval) look nid=some out):PureOut P E a o out:=by
 simp only[compOp,ho,hu1,hu2]at hc
 ·obtain⟨q,h1,rfl,rfl⟩:=one_inv hc
  have hv:=opd_rep hs h1
  simp only[act,List.map_cons,List.map_nil]at hact
  unfold aConv at hact
  split at hact
  ·rename_i k n he
   simp at he
   rw[he]at hv
   rw[val_inv hact]
   exact⟨rfl,_,by unfold execOp;simp only[ho];rw[(VRep_int.1 hv).1];simp[convert,run_underlying hu1,run_underlying hu2,Conv.intToInt],VRep_int.2 ⟨rfl,wrap_idem _ _⟩⟩
  ·cases hact
theorem TRep_nth:∀ {c d:CV}{i:Nat}{vs:List Value},nth c i=some d->TRep E c vs->∃v,vs[i]? =some v/\VRep1 E d v
 | .pair a b,d,0,vs,h,⟨v,r,e,h1,h2⟩=>by simp[nth]at h;subst h;exact⟨v,by rw[e];rfl,h1⟩
 | .pair a b,d,i+1,vs,h,⟨v,r,e,h1,h2⟩=>by
   obtain⟨v',e',h'⟩:=TRep_nth (c:=b) (by simpa[nth]using h) h2
   exact⟨v',by rw[e];simpa using e',h'⟩
theorem snd_extract(hs:SlotsRep E S a){x:Operand}{i:Nat}(ho:o.op= .extract x i)(hc:compOp P sm o=some (iop,args))(hact:act summ iop (args.map S.eval) look nid=some out):PureOut P E a o out:=by
 simp only[compOp,ho]at hc
 obtain⟨q,h1,rfl,rfl⟩:=one_inv hc
 have hv:=opd_rep hs h1
 simp only[act,List.map_cons,List.map_nil]at hact
 unfold aExtract at hact
 split at hact
 ·rename_i c he
  simp at he
  rw[he]at hv
  split at hact
  ·rename_i d hd
   rw[val_inv hact]
   obtain⟨vs,e,ht⟩:=hv
   obtain⟨v,hv1,hv2⟩:=TRep_nth hd ht
   refine⟨rfl,v,by unfold execOp;simp only[ho];rw[e];simp[Instr.extract,hv1],?_⟩
   cases d with
   |tup d=>obtain⟨cs,h,_⟩:=hv2;exact h.elim
   |_=>exact hv2
  ·cases hact
 ·cases hact
theorem snd_nilck(hs:SlotsRep E S a){x:Operand}(ho:o.op= .nilCheck x)(hc:compOp P sm o=some (iop,args))(hact:act summ iop (args.map S.eval) look nid=some out):PureOut P E a o out:=by
 simp only[compOp,ho]at hc
 obtain⟨q,h1,rfl,rfl⟩:=one_inv hc
 have hv:=opd_rep hs h1
 simp only[act,List.map_cons,List.map_nil]at hact
 unfold aNilck at hact
 split at hact
 ·rename_i b p he
  simp at he
  rw[he]at hv
  rw[val_inv hact]
  exact⟨rfl,_,by unfold execOp;simp only[ho];rw[(VRep_ptr.1 hv).2];rfl,VRep_ptr.2 ⟨(VRep_ptr.1 hv).1,rfl⟩⟩
 ·rename_i t y he
  simp at he
  rw[he]at hv
  rw[val_inv hact]
  obtain⟨b,off,rows,e,h2⟩:=VRep_ref.1 hv
  exact⟨rfl,_,by unfold execOp;simp only[ho];rw[e];rfl,VRep_ref.2 ⟨b,off,rows,rfl,h2⟩⟩
 ·rename_i f c he
  simp at he
  rw[he]at hv
  rw[val_inv hact]
  obtain⟨caps,e,h2⟩:=VRep_clo.1 hv
  exact⟨rfl,_,by unfold execOp;simp only[ho];rw[e];rfl,VRep_clo.2 ⟨caps,rfl,h2⟩⟩
 ·cases hact
end
end Go.Ev
namespace Go.Ev
open Go Go.RowKit
section
variable{P:Program}{sm:Nat->Bool}{summ:Nat->Option Summ}{base:Nat}{E:Env}{S:St}{a:Act}{o:Oper}{iop:IOp}{args:List Opd}{nid:Nat}{out:Out}
theorem poff_snoc(p:Path)(s:Step):poff (p++[s])=poff p+s.off:=by simp[poff]
theorem run_sizeOf'{t:TypeId}(h:hasT P t=true)(w:World):(sizeOf t).run P w= .ok (P.cellsOf t) w:=by
 unfold hasT at h
 obtain⟨i,hi⟩:=Option.isSome_iff_exists.1 h
 simp[sizeOf,typeInfo,Program.cellsOf,hi]
theorem cellsAt_seg{w:World}{b off:Nat}{l m r:List Value}(h:cellsAt w b off (l++m++r)):cellsAt w b (off+l.length) m:=fun j u hu=>by
 have:=h (l.length+j) u (by
  rw[List.append_assoc,List.getElem?_append_right (by omega),Nat.add_sub_cancel_left,List.getElem?_append_left (by
   rcases Nat.lt_or_ge j m.length with h1|h1
   ·exact h1
   ·rw[List.getElem?_eq_none h1]at hu;cases hu)]
  exact hu)
 rwa [<-Nat.add_assoc]at this
theorem snd_fieldAddr(hs:SlotsRep E S a){t:TypeId}{x:Operand}{i:Nat}(ho:o.op= .fieldAddr t x i)(hc:compOp P sm o=some (iop,args))(hact:act summ iop (args.map S.eval) S.look nid=some out):PureOut P E a o out:=by
 simp only[compOp,ho]at hc
 split at hc
 ·rename_i fs hu
  split at hc
  ·rename_i f hf
   split at hc
   ·rename_i hk
    simp only[Bool.and_eq_true,bne_iff_ne,ne_eq]at hk
    obtain⟨q,h1,rfl,rfl⟩:=one_inv hc
    have hv:=opd_rep hs h1
    simp only[act,List.map_cons,List.map_nil]at hact
    have hrun:∀b off,a.eval x= .pointer (some ⟨b,off,none⟩)->(execOp a.eval o).run P E.w= .ok (.value (.pointer (some ⟨b,off+f.offset,none⟩))) E.w:=by
     intro b off e
     unfold execOp
     simp only[ho]
     rw[e]
     simp only[Instr.fieldAt,Instr.sureAddr,fieldPlace,Sem.run_bind,run_underlying hu,Result.andThen_ok,hf,Sem.run_pure,run_sizeOf' hk.1]
     rw[if_neg (by simpa[szT]using hk.2)]
     simp[Addr.add_mid]
    unfold aFieldAddr at hact
    split at hact
    ·rename_i b p he
     simp at he
     rw[he]at hv
     rw[val_inv hact]
     have:=VRep_ptr.1 hv
     exact⟨rfl,_,hrun _ _ this.2,VRep_ptr.2 ⟨this.1,by rw[poff_snoc];rfl⟩⟩
    ·rename_i t' y he
     simp at he
     rw[he]at hv
     obtain⟨b,off,rows,e,hI,hcell,hr⟩:=VRep_ref.1 hv
     split at hact
     ·rename_i s hs'
      rw[val_inv hact]
      obtain⟨l,m,r,e2,hl,hm⟩:=getPF_rep hs' hr
      exact⟨rfl,_,hrun _ _ e,VRep_ref.2 ⟨b,off+f.offset,m,rfl,.inl (hI.of fun k e=>by subst e;cases hs'),by rw[e2]at hcell;have:=cellsAt_seg hcell;rwa [hl]at this,hm⟩⟩
     ·cases hact
    ·cases hact
   ·cases hc
  ·cases hc
 ·cases hc
theorem load_cells(w:World){b off:Nat}{cs:List Value}(h:cellsAt w b off cs):(loadCells ⟨b,off,none⟩ cs.length).run P w= .ok cs.toArray w:=
 run_loadCells_list (P:=P) w ⟨b,off,none⟩ cs (fun j v hv=>by rw[Addr.add_mid];exact h j v hv)
theorem load_run(w:World){b off:Nat}{cs:List Value}{t:TypeId}(h:cellsAt w b off cs)(hl:cs.length=P.cellsOf t)(hh:hasT P t=true)(hu:(P.underlying t).isSome=true)(h1:isAggT P t=false->cs.length=1) :
 (Instr.loadAt t (.pointer (some ⟨b,off,none⟩))).run P w= .ok (if isAggT P t then .agg cs.toArray else cs.headD undef) w:=by
 obtain⟨d,hd⟩:=Option.isSome_iff_exists.1 hu
 have hag:(isAgg t).run P w= .ok (isAggT P t) w:=by
  unfold isAgg isAggT
  simp only[Sem.run_bind,run_underlying hd,Result.andThen_ok,hd]
  cases d<;>rfl
 simp only[Instr.loadAt,Instr.sureAddr,Sem.run_bind,Sem.run_pure,Result.andThen_ok,loadVar,hag]
 cases hg:isAggT P t
 ·simp only[Bool.false_eq_true,if_false]
  obtain⟨v,rfl⟩:∃v,cs=[v]:=by
   have:=h1 hg
   match cs,this with
   |[v],_=>exact⟨v,rfl⟩
  have:=h 0 v rfl
  simp only[Nat.add_zero]at this
  simp[load,Sem.run,this]
 ·simp only[if_true]
  rw[Sem.run_bind,run_sizeOf' hh,Result.andThen_ok,<-hl,Sem.run_bind,load_cells w h,Result.andThen_ok]
  rfl
theorem csize_one{c:CV}(h:c.isAgg=false)(ht:∀d,c≠ .tup d):c.csize=1:=by
 cases c<;>simp_all [CV.isAgg,CV.csize]
 rename_i t x
 cases t<;>simp_all [Ty.agg,Ty.size]
theorem isVal_tup{c:CV}(h:c.isVal=true):∀d,c≠ .tup d:=by
 intro d e;rw[e]at h;simp[CV.isVal]at h
theorem snd_load(H:HS base E S.hp)(hs:SlotsRep E S a){t:TypeId}{x:Operand}(ho:o.op= .load t x)(hc:compOp P sm o=some (iop,args))(hact:act summ iop (args.map S.eval) S.look nid=some out)(hok:out.ok=true):PureOut P E a o out:=by
 simp only[compOp,ho]at hc
 split at hc
 ·rename_i hk
  simp only[Bool.and_eq_true]at hk
  obtain⟨q,h1,rfl,rfl⟩:=one_inv hc
  have hv:=opd_rep hs h1
  simp only[act,List.map_cons,List.map_nil]at hact
  have key:∀(c:CV)(cs:List Value)(b off:Nat),c.isVal=true->CRep E c cs->cellsAt E.w b off cs->c.csize=szT P t->c.isAgg=isAggT P t->a.eval x= .pointer (some ⟨b,off,none⟩) ->
   ∃v,(execOp a.eval o).run P E.w= .ok (.value v) E.w/\VRep E c v:=by
   intro c cs b off hval hcr hcell hsz hag e
   have hl:=CRep.len c cs hcr
   refine⟨_,?_,VRep_of hcr (isVal_tup hval)⟩
   unfold execOp
   simp only[ho]
   rw[e,Sem.run_bind,load_run E.w hcell (by rw[hl,hsz];rfl) hk.1 hk.2 (fun h=>by rw[hl];exact csize_one (by rw[hag];exact h) (isVal_tup hval)),hag]
   rfl
  unfold aLoad at hact
  split at hact
  ·rename_i b p he
   simp at he
   rw[he]at hv
   split at hact
   ·rename_i c hget
    split at hact
    ·rename_i h3
     simp at hact
     subst hact
     obtain⟨cs,te,l,m,r,hh,e1,hl,hm⟩:=bget_rep hget hok (H.blk b)
     have:=cells_seg hh e1
     rw[hl]at this
     have hp:=VRep_ptr.1 hv
     obtain⟨v,h4,h5⟩:=key c m _ _ h3.2.2 hm this h3.1 h3.2.1 hp.2
     exact⟨rfl,v,h4,h5⟩
    ·cases hact
   ·cases hact
  ·rename_i t' y he
   simp at he
   rw[he]at hv
   split at hact
   ·rename_i h3
    rw[val_inv hact]
    obtain⟨b,off,rows,e,hI,hcell,hr⟩:=VRep_ref.1 hv
    obtain⟨v,h4,h5⟩:=key (ofP t' y) rows b off (isVal_ofP _ _) (CRep_ofP hr) hcell (by rw[csize_ofP];exact h3.1) (by rw[isAgg_ofP];exact h3.2) e
    exact⟨rfl,v,h4,h5⟩
   ·cases hact
  ·cases hact
 ·cases hc
end
end Go.Ev
namespace Go.Ev
open Go Go.RowKit
section
variable{P:Program}{sm:Nat->Bool}{summ:Nat->Option Summ}{base:Nat}{E:Env}{S:St}{a:Act}{o:Oper}{iop:IOp}{args:List Opd}{nid:Nat}{out:Out}
theorem inB_spec{i:Int}{n:Nat}(h:inB i n=true):0<=i/\i<n:=by
 unfold inB at h;simpa using h
theorem slice_at{w:World}{I:Nat->Prop}{e:Ty}{xs:List e.den}{v:Value}(h:RepD w I (.slice e) xs [v]){i:Nat}(hi:i<xs.length) :
 ∃b off c m,v= .slice (some ⟨b,off,none⟩) xs.length c/\I b/\cellsAt w b (off+i*e.size) m/\RepD w I e (xs.getD i e.dflt) m:=by
 obtain⟨ad,c,e1,h1,h2,h3⟩:=h
 simp at e1
 obtain⟨b,off,rows,rfl,hI,hcell,hr⟩:=h3 (by omega)
 obtain⟨m,hm,l,r,e2,hl⟩:=Rows.at_ (fun y z=>RepD.len e y z) e.dflt xs rows hr i hi
 rw[e2]at hcell
 have:=cellsAt_seg hcell
 rw[hl]at this
 exact⟨b,off,c,m,e1,hI,this,hm⟩
theorem own_at{b:Nat}{te:Nat}{e:Ty}{xs:List e.den}(h:BRep E base b (.vec te e xs))(hpos:0<xs.length):∃c,E.σ b= .slice (some ⟨E.μ b,0,none⟩) xs.length c/\xs.length<=c/\c<=maxLen:=by
 obtain⟨cells,_,ho,_,hg⟩:=h
 rcases ho.2 with⟨_,hn⟩|⟨g,cap',cur,hv,hbg,hh,hnc,hcm',hcs,htk⟩
 ·omega
 ·have:g=E.μ b:=hg g (by rw[hv];rfl)
  subst this
  exact⟨cap',hv,hnc,hcm'⟩
theorem own_len{b:Nat}{te:Nat}{e:Ty}{xs:List e.den}(h:BRep E base b (.vec te e xs)):∃ad c,E.σ b= .slice ad xs.length c/\xs.length<=c/\c<=maxLen/\(0<c->ad=some ⟨E.μ b,0,none⟩):=by
 obtain⟨cells,_,ho,_,hg⟩:=h
 rcases ho.2 with⟨hv,hn⟩|⟨g,cap',cur,hv,hbg,hh,hnc,hcm',hcs,htk⟩
 ·exact⟨none,0,by rw[hv,hn],by omega,by simp[maxLen],by omega⟩
 ·have:g=E.μ b:=hg g (by rw[hv];rfl)
  subst this
  exact⟨_,cap',hv,hnc,hcm',fun _=>rfl⟩
theorem snd_indexAddr(H:HS base E S.hp)(hs:SlotsRep E S a){t:TypeId}{x y:Operand}(ho:o.op= .indexAddr t x y)(hc:compOp P sm o=some (iop,args))(hact:act summ iop (args.map S.eval) S.look nid=some out)(hok:out.ok=true):PureOut P E a o out:=by
 simp only[compOp,ho]at hc
 split at hc
 ·rename_i te hu
  split at hc
  ·rename_i hk
   obtain⟨l,h1,h2⟩:=map_some hc
   simp at h2
   obtain⟨rfl,rfl⟩:=h2
   have hv:=opds_rep hs h1
   simp only[act]at hact
   have hrun:∀b off n c k i,a.eval x= .slice (some ⟨b,off,none⟩) n c->a.eval y= .int k i->inB i n=true->(execOp a.eval o).run P E.w= .ok (.value (.pointer (some ⟨b,off+i.toNat*szT P te,none⟩))) E.w:=by
    intro b off n c k i e1 e2 hb
    unfold execOp
    simp only[ho]
    rw[e1,e2]
    simp[Instr.indexAt,run_underlying hu,asIntOf,inB_spec hb,run_sizeOf' hk,Addr.add_mid,szT]
   unfold aIdxSl at hact
   split at hact
   ·rename_i b p sz off len cp k i he
    rw[he]at hv
    obtain⟨u,v,e,r1,r2⟩:=Vs2 hv
    simp at e
    split at hact
    ·rename_i hsz
     simp at hact;subst hact
     obtain⟨hl,ad,c,h3,h4,_,h5,h6⟩:=VRep_sub.1 r1
     have hb:=inB_spec hok
     have:=h5 (by omega)
     subst this
     refine⟨rfl,_,hrun _ _ _ _ _ _ (e.1.trans h6) (e.2.trans (VRep_int.1 r2).1) hok,VRep_ptr.2 ⟨hl,?_⟩⟩
     rw[poff_snoc,hsz]
     simp[Step.off,Nat.add_mul,Nat.add_assoc]
    ·cases hact
   ·rename_i b k i he
    rw[he]at hv
    obtain⟨u,v,e,r1,r2⟩:=Vs2 hv
    simp at e
    obtain⟨hl,r1,_⟩:=VRep_whole.1 r1
    have hbk:=H.blk b
    split at hact
    ·rename_i te' e' xs hlk
     have hlk':lookH S.hp b=_:=hlk
     rw[hlk']at hbk
     split at hact
     ·rename_i hsz
      simp at hact;subst hact
      have hb:=inB_spec hok
      obtain⟨c,h3,_⟩:=own_at hbk (by omega)
      refine⟨rfl,_,hrun _ _ _ _ _ _ (e.1.trans (r1.trans h3)) (e.2.trans (VRep_int.1 r2).1) hok,VRep_ptr.2 ⟨hl,?_⟩⟩
      simp[poff,Step.off]
     ·cases hact
    ·rename_i te' e' xs hlk
     have hlk':lookH S.hp b=_:=hlk
     rw[hlk']at hbk
     split at hact
     ·rename_i hsz
      simp at hact;subst hact
      have hb:=inB_spec hok
      obtain⟨b',off,c,m,h3,hI,hcell,hm⟩:=slice_at hbk (i:=i.toNat) (by omega)
      exact⟨rfl,_,hrun _ _ _ _ _ _ (e.1.trans (r1.trans h3)) (e.2.trans (VRep_int.1 r2).1) hok,VRep_ref.2 ⟨b',_,m,rfl,.inl hI,by rw[<-hsz];exact hcell,hm⟩⟩
     ·cases hact
    ·cases hact
   ·rename_i e' xs k i he
    rw[he]at hv
    obtain⟨u,v,e,r1,r2⟩:=Vs2 hv
    simp at e
    split at hact
    ·rename_i hsz
     simp at hact;subst hact
     have hb:=inB_spec hok
     obtain⟨b',off,c,m,h3,hI,hcell,hm⟩:=slice_at (VRep_slice.1 r1) (i:=i.toNat) (by omega)
     exact⟨rfl,_,hrun _ _ _ _ _ _ (e.1.trans h3) (e.2.trans (VRep_int.1 r2).1) hok,VRep_ref.2 ⟨b',_,m,rfl,.inl hI,by rw[<-hsz];exact hcell,hm⟩⟩
    ·cases hact
   ·rename_i k' xs k i he
    rw[he]at hv
    obtain⟨u,v,e,r1,r2⟩:=Vs2 hv
    simp at e
    split at hact
    ·rename_i hsz
     simp at hact;subst hact
     have hb:=inB_spec hok
     obtain⟨b',off,c,m,h3,hI,hcell,hm⟩:=slice_at (VRep_jsl.1 r1) (i:=i.toNat) (by omega)
     exact⟨rfl,_,hrun _ _ _ _ _ _ (e.1.trans h3) (e.2.trans (VRep_int.1 r2).1) hok,VRep_ref.2 ⟨b',_,m,rfl,.inr ⟨hI,_,rfl⟩,by rw[<-hsz];exact hcell,hm⟩⟩
    ·cases hact
   ·cases hact
  ·cases hc
 ·rename_i n te hu
  split at hc
  ·rename_i hk
   obtain⟨l,h1,h2⟩:=map_some hc
   simp at h2
   obtain⟨rfl,rfl⟩:=h2
   have hv:=opds_rep hs h1
   simp only[act]at hact
   have hrun:∀b off k i,a.eval x= .pointer (some ⟨b,off,none⟩)->a.eval y= .int k i->inB i n=true->(execOp a.eval o).run P E.w= .ok (.value (.pointer (some ⟨b,off+i.toNat*szT P te,none⟩))) E.w:=by
    intro b off k i e1 e2 hb
    unfold execOp
    simp only[ho]
    rw[e1,e2]
    simp[Instr.indexAt,run_underlying hu,asIntOf,Instr.sureAddr,inB_spec hb,run_sizeOf' hk,Addr.add_mid,szT]
   unfold aIdxArr at hact
   split at hact
   ·rename_i b p k i he
    rw[he]at hv
    obtain⟨u,v,e,r1,r2⟩:=Vs2 hv
    simp at e
    simp at hact;subst hact
    have hp:=VRep_ptr.1 r1
    refine⟨rfl,_,hrun _ _ _ _ (e.1.trans hp.2) (e.2.trans (VRep_int.1 r2).1) hok,VRep_ptr.2 ⟨hp.1,?_⟩⟩
    rw[poff_snoc];rfl
   ·rename_i m e' xs k i he
    rw[he]at hv
    obtain⟨u,v,e,r1,r2⟩:=Vs2 hv
    simp at e
    split at hact
    ·rename_i hsz
     simp at hact;subst hact
     have hb:=inB_spec hok
     obtain⟨b,off,rows,h3,hI,hcell,hr⟩:=VRep_ref.1 r1
     obtain⟨m',hm,l',r',e2,hl⟩:=Rows.at_ (fun y z=>RepD.len e' y z) e'.dflt xs rows hr.2 i.toNat (by rw[hr.1,hsz.1];omega)
     rw[e2]at hcell
     have:=cellsAt_seg hcell
     rw[hl,hsz.2]at this
     exact⟨rfl,_,hrun _ _ _ _ (e.1.trans h3) (e.2.trans (VRep_int.1 r2).1) hok,VRep_ref.2 ⟨b,_,m',rfl,.inl (hI.of (fun k e=>nomatch e)),this,hm⟩⟩
    ·cases hact
   ·cases hact
  ·cases hc
 ·cases hc
theorem len_rep(H:HS base E S.hp){c:CV}{v:Value}{n:Nat}(h:lenOf S.look c=some n)(hv:VRep E c v):∃ad cp,v= .slice ad n cp/\n<=maxLen:=by
 have pl:∀ {I:Nat->Prop}{e:Ty}{xs:List e.den}{v:Value},RepD E.w I (.slice e) xs [v]->∃ad cp,v= .slice ad xs.length cp/\xs.length<=maxLen:=by
  intro I e xs v h
  obtain⟨ad,c,e1,h1,h2,_⟩:=h
  simp at e1
  exact⟨ad,c,e1,Nat.le_trans h1 h2⟩
 unfold lenOf at h
 split at h
 ·simp at h;subst h
  obtain⟨_,ad,c,h1,h2,_,_,h3⟩:=VRep_sub.1 hv
  exact⟨ad,c,h3,Nat.le_trans h1 h2⟩
 ·split at h
  ·rename_i s hs
   simp at h;subst h
   unfold listOf at hs
   split at hs
   ·simp at hs;subst hs
    exact pl (VRep_slice.1 hv)
   ·simp at hs;subst hs
    exact⟨none,0,VRep_nil.1 hv,by simp[maxLen]⟩
   ·simp at hs;subst hs
    exact pl (VRep_jsl.1 hv)
   ·rename_i b _
    obtain⟨_,r1,_⟩:=VRep_whole.1 hv
    have hbk:=H.blk b
    split at hs
    ·rename_i hlk
     have hlk':lookH S.hp b=_:=hlk
     rw[hlk']at hbk
     simp at hs;subst hs
     obtain⟨ad,c,h1,h2,h3,_⟩:=own_len hbk
     exact⟨ad,c,r1.trans h1,Nat.le_trans h2 h3⟩
    ·rename_i hlk
     have hlk':lookH S.hp b=_:=hlk
     rw[hlk']at hbk
     simp at hs;subst hs
     obtain⟨ad,c,h1,h2⟩:=pl hbk
     exact⟨ad,c,r1.trans h1,h2⟩
    ·cases hs
   ·cases hs
  ·cases h
theorem CRep_chain{E:Env}:∀ {cs:List CV}{vs:List Value},Vs E cs vs->cs.all (fun c=>c.csize==1&& !c.isAgg&&c.isVal)=true->CRep E (chain cs) vs
 |[],[],_,_=>rfl
 |c::cs,v::vs,⟨h1,h2⟩,h=>by
  simp only[List.all_cons,Bool.and_eq_true,beq_iff_eq,Bool.not_eq_true']at h
  exact⟨[v],vs,rfl,(VRep_one h.1.1.2 (isVal_tup h.1.2)).1 h1,CRep_chain h2 (by simpa using h.2)⟩
theorem snd_mkFunc(hs:SlotsRep E S a){f:Nat}{first caps:Array Operand}(ho:o.op= .makeFunc (.func f) first caps)(hc:compOp P sm o=some (iop,args))(hact:act summ iop (args.map S.eval) S.look nid=some out):PureOut P E a o out:=by
 simp only[compOp,ho]at hc
 split at hc
 ·rename_i hf
  obtain⟨l,h1,h2⟩:=map_some hc
  simp at h2
  obtain⟨rfl,rfl⟩:=h2
  have hv:=opds_rep hs h1
  simp only[act,aMkFunc]at hact
  split at hact
  ·rename_i hall
   rw[val_inv hact]
   have hf':first= #[]:=by simpa using hf
   refine⟨rfl,_,by unfold execOp;simp only[ho,hf',Instr.makeFunc];rfl,VRep_clo.2 ⟨_,?_,CRep_chain hv hall⟩⟩
   congr 1
   ·simp
   ·rw[<-Array.toList_map,Array.toArray_toList]
  ·cases hact
 ·cases hc
end
end Go.Ev
namespace Go.Ev
open Go Go.RowKit
section
variable{P:Program}{sm:Nat->Bool}{summ:Nat->Option Summ}{base:Nat}{E:Env}{S:St}{a:Act}{o:Oper}{iop:IOp}{args:List Opd}{nid:Nat}{out:Out}
theorem snd_min(hs:SlotsRep E S a){x y:Operand}{c:Call}(ho:o.op= .call c)(hcl:c.callee= .builtin .min)(hargs:c.args.toList=[x,y])(hc:compOp P sm o=some (iop,args))(hact:act summ iop (args.map S.eval) S.look nid=some out):PureOut P E a o out:=by
 simp only[compOp,ho,hcl,hargs]at hc
 obtain⟨l,h1,h2⟩:=map_some hc
 simp at h2
 obtain⟨rfl,rfl⟩:=h2
 have hv:=opds_rep hs h1
 simp only[act]at hact
 unfold aMin at hact
 split at hact
 ·rename_i k x' k' y' he
  rw[he]at hv
  obtain⟨u,v,e,r1,r2⟩:=Vs2 hv
  simp at e
  obtain⟨r1,r1'⟩:=VRep_int.1 r1
  obtain⟨r2,r2'⟩:=VRep_int.1 r2
  split at hact
  ·rename_i hk;subst hk
   rw[val_inv hact]
   have ha:c.args= #[x,y]:=by apply Array.ext';simpa using hargs
   refine⟨rfl,.int k (if y'<x' then y' else x'),?_,VRep_int.2 ⟨rfl,by split<;>assumption⟩⟩
   unfold execOp
   simp only[ho,resolve,hcl,invoke,builtin,Sem.run_bind,Sem.run_pure,Result.andThen_ok,Builtin.min_,ha]
   simp[e.1,e.2,r1,r2,Builtin.min2]
  ·cases hact
 ·cases hact
theorem snd_max(hs:SlotsRep E S a){x y:Operand}{c:Call}(ho:o.op= .call c)(hcl:c.callee= .builtin .max)(hargs:c.args.toList=[x,y])(hc:compOp P sm o=some (iop,args))(hact:act summ iop (args.map S.eval) S.look nid=some out):PureOut P E a o out:=by
 simp only[compOp,ho,hcl,hargs]at hc
 obtain⟨l,h1,h2⟩:=map_some hc
 simp at h2
 obtain⟨rfl,rfl⟩:=h2
 have hv:=opds_rep hs h1
 simp only[act]at hact
 unfold aMax at hact
 split at hact
 ·rename_i k x' k' y' he
  rw[he]at hv
  obtain⟨u,v,e,r1,r2⟩:=Vs2 hv
  simp at e
  obtain⟨r1,r1'⟩:=VRep_int.1 r1
  obtain⟨r2,r2'⟩:=VRep_int.1 r2
  split at hact
  ·rename_i hk;subst hk
   rw[val_inv hact]
   have ha:c.args= #[x,y]:=by apply Array.ext';simpa using hargs
   refine⟨rfl,.int k (if y'>x' then y' else x'),?_,VRep_int.2 ⟨rfl,by split<;>assumption⟩⟩
   unfold execOp
   simp only[ho,resolve,hcl,invoke,builtin,Sem.run_bind,Sem.run_pure,Result.andThen_ok,Builtin.max_,ha]
   simp[e.1,e.2,r1,r2,Builtin.max2]
  ·cases hact
 ·cases hact
theorem one_toList{α:Type}{xs:Array α}{x:α}(h:xs.toList=[x]):xs= #[x]:=by apply Array.ext';simpa using h
theorem snd_len(H:HS base E S.hp)(hs:SlotsRep E S a){c:Call}(ho:o.op= .call c)(hcl:c.callee= .builtin .len)(hc:compOp P sm o=some (iop,args))(hact:act summ iop (args.map S.eval) S.look nid=some out):PureOut P E a o out:=by
 simp only[compOp,ho,hcl]at hc
 split at hc
 ·rename_i te x hu hx
  obtain⟨q,h1,rfl,rfl⟩:=one_inv hc
  have hv:=opd_rep hs h1
  simp only[act,List.map_cons,List.map_nil,aLen]at hact
  split at hact
  ·rename_i n hn
   rw[val_inv hact]
   obtain⟨ad,cp,h2,h3⟩:=len_rep H hn hv
   have ha:=one_toList hx
   obtain⟨t,ht,hut⟩:∃t,c.argTypes= #[t]/\P.underlying t=some (.slice te):=by
    match h:c.argTypes.toList,hu with
    |[t],hu=>exact⟨t,one_toList h,by simpa using hu⟩
    |[],hu=>simp at hu
    |_::_::_,hu=>simp at hu
   refine⟨rfl,.int .i64 n,?_,VRep_int.2 ⟨rfl,wrap_i64_nat h3⟩⟩
   unfold execOp
   simp only[ho,resolve,hcl,invoke,builtin,Sem.run_bind,Sem.run_pure,Result.andThen_ok,ha,ht]
   simp[h2,Builtin.len_,run_underlying hut,goInt]
  ·cases hact
 ·rename_i x hu hx
  obtain⟨q,h1,rfl,rfl⟩:=one_inv hc
  have hv:=opd_rep hs h1
  simp only[act,List.map_cons,List.map_nil]at hact
  unfold aLenStr at hact
  split at hact
  ·rename_i y hq
   simp at hq
   rw[hq]at hv
   obtain⟨h2,h3⟩:=VRep_str.1 hv
   rw[val_inv hact]
   have ha:=one_toList hx
   obtain⟨t,ht,hut⟩:∃t,c.argTypes= #[t]/\P.underlying t=some .string:=by
    match h:c.argTypes.toList,hu with
    |[t],hu=>exact⟨t,one_toList h,by simpa using hu⟩
    |[],hu=>simp at hu
    |_::_::_,hu=>simp at hu
   have hsz:(bytesOf y).size=List.length y:=by simp[bytesOf,ByteArray.size]
   have hm:List.length y<=maxLen:=by
    unfold strOK at h3
    simp only[Bool.and_eq_true,decide_eq_true_eq]at h3
    exact h3.2
   refine⟨rfl,.int .i64 (List.length y),?_,VRep_int.2 ⟨rfl,wrap_i64_nat hm⟩⟩
   unfold execOp
   simp only[ho,resolve,hcl,invoke,builtin,Sem.run_bind,Sem.run_pure,Result.andThen_ok,ha,ht]
   simp[h2,Builtin.len_,run_underlying hut,goInt,hsz]
  ·cases hact
 ·rename_i n te x hu hx
  split at hc
  ·rename_i hn
   simp at hc
   obtain⟨rfl,rfl⟩:=hc
   simp only[act,List.map_cons,List.map_nil,aMov,St.eval]at hact
   rw[val_inv hact]
   have ha:=one_toList hx
   obtain⟨t,ht,hut⟩:∃t,c.argTypes= #[t]/\P.underlying t=some (.array n te):=by
    match h:c.argTypes.toList,hu with
    |[t],hu=>exact⟨t,one_toList h,by simpa using hu⟩
    |[],hu=>simp at hu
    |_::_::_,hu=>simp at hu
   refine⟨rfl,.int .i64 n,?_,VRep_int.2 ⟨rfl,wrap_i64_nat (by simp[maxLen];omega)⟩⟩
   unfold execOp
   simp only[ho,resolve,hcl,invoke,builtin,Sem.run_bind,Sem.run_pure,Result.andThen_ok,ha,ht]
   simp[Builtin.len_,run_underlying hut,goInt]
  ·cases hc
 ·rename_i p x hu hx
  split at hc
  ·rename_i n te hu2
   split at hc
   ·rename_i hn
    simp at hc
    obtain⟨rfl,rfl⟩:=hc
    simp only[act,List.map_cons,List.map_nil,aMov,St.eval]at hact
    rw[val_inv hact]
    have ha:=one_toList hx
    obtain⟨t,ht,hut⟩:∃t,c.argTypes= #[t]/\P.underlying t=some (.pointer p):=by
     match h:c.argTypes.toList,hu with
     |[t],hu=>exact⟨t,one_toList h,by simpa using hu⟩
     |[],hu=>simp at hu
     |_::_::_,hu=>simp at hu
    refine⟨rfl,.int .i64 n,?_,VRep_int.2 ⟨rfl,wrap_i64_nat (by simp[maxLen];omega)⟩⟩
    unfold execOp
    simp only[ho,resolve,hcl,invoke,builtin,Sem.run_bind,Sem.run_pure,Result.andThen_ok,ha,ht]
    simp[Builtin.len_,run_underlying hut,run_underlying hu2,goInt]
   ·cases hc
  ·cases hc
 ·cases hc
theorem part_run(w:World){t:TypeId}{cs:List Value}{l m r:List Value}(e:cs=l++m++r)(hl:m.length=P.cellsOf t)(hh:hasT P t=true)(hu:(P.underlying t).isSome=true)(h1:isAggT P t=false->m.length=1) :
 (part t cs.toArray l.length).run P w= .ok (if isAggT P t then .agg m.toArray else m.headD undef) w:=by
 obtain⟨d,hd⟩:=Option.isSome_iff_exists.1 hu
 have hag:(isAgg t).run P w= .ok (isAggT P t) w:=by
  unfold isAgg isAggT
  simp only[Sem.run_bind,run_underlying hd,Result.andThen_ok,hd]
  cases d<;>rfl
 simp only[part,Sem.run_bind,hag,Result.andThen_ok]
 cases hg:isAggT P t
 ·simp only[Bool.false_eq_true,if_false]
  obtain⟨v,rfl⟩:∃v,m=[v]:=by
   have:=h1 hg
   match m,this with
   |[v],_=>exact⟨v,rfl⟩
  have:cs.toArray[l.length]? =some v:=by simp[e]
  simp[this]
 ·simp only[if_true]
  rw[Sem.run_bind,run_sizeOf' hh,Result.andThen_ok]
  have:cs.toArray.extract l.length (l.length+P.cellsOf t)=m.toArray:=by
   apply Array.ext'
   simp[e,<-hl]
  rw[this];rfl
theorem snd_field(hs:SlotsRep E S a){t:TypeId}{x:Operand}{i:Nat}(ho:o.op= .field t x i)(hc:compOp P sm o=some (iop,args))(hact:act summ iop (args.map S.eval) S.look nid=some out):PureOut P E a o out:=by
 simp only[compOp,ho]at hc
 split at hc
 ·rename_i fs hu
  split at hc
  ·rename_i f hf
   split at hc
   ·rename_i hk
    simp only[Bool.and_eq_true]at hk
    obtain⟨q,h1,rfl,rfl⟩:=one_inv hc
    have hv:=opd_rep hs h1
    simp only[act,List.map_cons,List.map_nil,aField]at hact
    split at hact
    ·rename_i c hget
     split at hact
     ·rename_i h3
      rw[val_inv hact]
      have h1':VRep1 E (S.eval q) (a.eval x):=by
       cases hq:S.eval q with
       |tup d=>rw[hq]at hget;simp[getF]at hget
       |_=>rw[hq]at hv;exact hv
      obtain⟨cs,hcr,hag⟩:=h1'
      rw[h3.2.2.2]at hag
      simp at hag
      obtain⟨l,m,r,e,hl,hm⟩:=getF_rep hget hcr
      have hml:=CRep.len c m hm
      refine⟨rfl,_,?_,VRep_of hm (isVal_tup h3.2.2.1)⟩
      unfold execOp
      simp only[ho]
      rw[hag]
      simp only[Instr.field,Sem.run_bind,run_underlying hu,Result.andThen_ok,hf,asAgg,Sem.run_pure]
      rw[<-hl,part_run E.w e (by rw[hml,h3.1];rfl) hk.1 hk.2 (fun h=>by rw[hml];exact csize_one (by rw[h3.2.1];exact h) (isVal_tup h3.2.2.1)),h3.2.1]
      rfl
     ·cases hact
    ·cases hact
   ·cases hc
  ·cases hc
 ·cases hc
end
end Go.Ev
namespace Go.Ev
open Go Go.RowKit
section
variable{P:Program}{sm:Nat->Bool}{summ:Nat->Option Summ}{base:Nat}{E:Env}{S:St}{a:Act}{o:Oper}{iop:IOp}{args:List Opd}{nid:Nat}{out:Out}
abbrev ib(p:IntKind×Int):Value:= .int p.1 p.2
theorem bounds_run(isS:Bool)(len cap:Nat)(lo hi:Option (IntKind×Int))(h0:0<=(lo.map (·.2)).getD (0:Int))(h1:(lo.map (·.2)).getD 0<=(hi.map (·.2)).getD (len:Int))(h2:(hi.map (·.2)).getD (len:Int)<=len)(h3:len<=cap)(w:World) :
 (Instr.sliceBounds isS len cap (lo.map ib) (hi.map ib) none).run P w= .ok (((lo.map (·.2)).getD (0:Int)).toNat,((hi.map (·.2)).getD (len:Int)).toNat,cap) w:=by
 rcases lo with _|⟨kl,l⟩<;>rcases hi with _|⟨kh,h⟩<;>simp at h0 h1 h2
 ·simp[Instr.sliceBounds]
 ·have e:(Instr.sliceBound (.int kh h) cap (if isS=true then BoundsCode.sliceAcap else BoundsCode.sliceAlen)).run P w= .ok h.toNat w:=by
   unfold Instr.sliceBound
   simp only[asIntOf,Sem.run_bind,Sem.run_pure,Result.andThen_ok]
   rw[if_pos (by omega)];rfl
  simp[Instr.sliceBounds,e,Sem.run_bind]
 ·have e:(Instr.sliceBound (.int kl l) len BoundsCode.sliceB).run P w= .ok l.toNat w:=by
   unfold Instr.sliceBound
   simp only[asIntOf,Sem.run_bind,Sem.run_pure,Result.andThen_ok]
   rw[if_pos (by omega)];rfl
  simp[Instr.sliceBounds,e,Sem.run_bind]
 ·have e1:(Instr.sliceBound (.int kh h) cap (if isS=true then BoundsCode.sliceAcap else BoundsCode.sliceAlen)).run P w= .ok h.toNat w:=by
   unfold Instr.sliceBound
   simp only[asIntOf,Sem.run_bind,Sem.run_pure,Result.andThen_ok]
   rw[if_pos (by omega)];rfl
  have e2:(Instr.sliceBound (.int kl l) h.toNat BoundsCode.sliceB).run P w= .ok l.toNat w:=by
   unfold Instr.sliceBound
   simp only[asIntOf,Sem.run_bind,Sem.run_pure,Result.andThen_ok]
   rw[if_pos (by omega)];rfl
  simp[Instr.sliceBounds,e1,e2,Sem.run_bind]
theorem sl3_spec{lo hi n:Int}(h:sl3 lo hi n=true):0<=lo/\lo<=hi/\hi<=n:=by
 unfold sl3 at h;simpa using h
theorem loOf_rep{lo:Option Operand}{is is':List CV}{l:Option Int}{vs:List Value}(h:loOf lo.isSome is=some (l,is'))(hv:Vs E is (lo.toList.map a.eval++vs)) :
 ∃lo':Option (IntKind×Int),lo.map a.eval=lo'.map ib/\l=lo'.map (·.2)/\Vs E is' vs:=by
 cases lo with
 |none=>
  simp[loOf]at h
  obtain⟨rfl,rfl⟩:=h
  exact⟨none,rfl,rfl,by simpa using hv⟩
 |some x=>
  simp only[loOf,Option.isSome_some,if_true]at h
  split at h
  ·rename_i k n r
   simp at h
   obtain⟨rfl,rfl⟩:=h
   obtain⟨h1,h2⟩:=hv
   exact⟨some (k,n),by simp[ib,(VRep_int.1 h1).1],rfl,h2⟩
  ·cases h
theorem seg_rep{w:World}{I:Nat->Prop}{e:Ty}{xs:List e.den}{ad:Option Addr}{c sz:Nat}(hr:RepD w I (.slice e) xs [.slice ad xs.length c])(hsz:e.size=sz){lo hi:Nat}(h1:lo<=hi)(h2:hi<=xs.length)(hc:xs.length<=c)(hcm:c<=maxLen) :
 RepD w I (.slice e) ((xs.drop lo).take (hi-lo)) [.slice (if c=lo then ad else ad.map (·.add (lo*sz))) (hi-lo) (c-lo)]:=by
 have hlen:((xs.drop lo).take (hi-lo)).length=hi-lo:=by simp;omega
 refine⟨_,c-lo,by rw[hlen],by rw[hlen];omega,by omega,fun h0=> ?_⟩
 rw[hlen]at h0
 obtain⟨ad',c',e1,_,_,h3⟩:=hr
 simp at e1
 obtain⟨rfl,rfl⟩:=e1
 obtain⟨b,off,rows,rfl,hI,hcell,hrw⟩:=h3 (by omega)
 obtain⟨l,m,r,em,hl,hm⟩:=Rows.seg (fun y z=>RepD.len e y z) hrw (off:=lo) (len:=hi-lo) (by omega)
 rw[if_neg (by omega)]
 refine⟨b,off+lo*sz,m,by simp[Addr.add_mid],hI,?_,hm⟩
 rw[em]at hcell
 have:=cellsAt_seg hcell
 rwa [hl,hsz]at this
theorem take_all{α:Type}(xs:List α)(lo:Nat):(xs.drop lo).take (xs.length-lo)=xs.drop lo:=by
 apply List.take_of_length_le;simp
theorem snd_slice(H:HS base E S.hp)(hs:SlotsRep E S a){t:TypeId}{x:Operand}{lo hi:Option Operand}{te:TypeId}(ho:o.op= .slice t x lo hi none)(hu:P.underlying t=some (.slice te))(hc:compOp P sm o=some (iop,args))(hact:act summ iop (args.map S.eval) S.look nid=some out)(hok:out.ok=true):PureOut P E a o out:=by
 simp only[compOp,ho,hu]at hc
 split at hc
 ·rename_i l heq _ h1 h2
  simp at h2;subst h2
  split at hc
  ·rename_i hk
   simp at hc
   obtain⟨rfl,rfl⟩:=hc
   have hv:=opds_rep hs h1
   simp only[act]at hact
   have hrun:∀(ad:Option Addr)(len cap:Nat)(lo' hi':Option (IntKind×Int)),a.eval x= .slice ad len cap->lo.map a.eval=lo'.map ib->hi.map a.eval=hi'.map ib->
    0<=(lo'.map (·.2)).getD 0->(lo'.map (·.2)).getD 0<=(hi'.map (·.2)).getD (len:Int)->(hi'.map (·.2)).getD (len:Int)<=len->len<=cap->
    (execOp a.eval o).run P E.w= .ok (.value (.slice (if cap=((lo'.map (·.2)).getD (0:Int)).toNat then ad else ad.map (·.add (((lo'.map (·.2)).getD (0:Int)).toNat*szT P te))) (((hi'.map (·.2)).getD (len:Int)).toNat-((lo'.map (·.2)).getD (0:Int)).toNat) (cap-((lo'.map (·.2)).getD (0:Int)).toNat))) E.w:=by
    intro ad len cap lo' hi' e1 e2 e3 h4 h5 h6 h7
    unfold execOp
    simp only[ho]
    rw[e1,e2,e3]
    simp only[Instr.sliceAt,Sem.run_bind,run_underlying hu,Result.andThen_ok,Instr.slice,Option.map_none,bounds_run true len cap lo' hi' h4 h5 h6 h7,run_sizeOf' hk,Sem.run_pure]
    rfl
   unfold aSlice at hact
   split at hact
   ·rename_i s is he
    rw[he,List.map_cons,List.map_append]at hv
    obtain⟨hx,hv⟩:=hv
    split at hact
    ·rename_i l' is' hlo
     obtain⟨lo',e2,rfl,hv⟩:=loOf_rep hlo hv
     split at hact
     ·rename_i h' hhi
      obtain⟨hi',e3,rfl,_⟩:=loOf_rep (vs:=[]) hhi (by simpa using hv)
      split at hact
      ·rename_i b p sz off len cap
       split at hact
       ·rename_i hsz
        simp at hact;subst hact
        obtain⟨hl,ad,c,h3,h4,h5,h6,h7⟩:=VRep_sub.1 hx
        have hb:=sl3_spec hok
        refine⟨rfl,_,hrun _ _ _ _ _ h7 e2 e3 hb.1 hb.2.1 hb.2.2 h3,VRep_sub.2 ⟨hl,_,_,?_,?_,?_,?_,rfl⟩⟩
        ·omega
        ·omega
        ·intro k hk'
         cases cap with
         |none=>simp at hk'
         |some k0=>simp at hk';have:=h5 k0 rfl;omega
        ·intro h8
         rw[if_neg (by omega),h6 (by omega)]
         simp[Addr.add_mid,hsz,Nat.add_mul,Nat.add_assoc]
       ·cases hact
      ·rename_i b
       obtain⟨hl,r1,_⟩:=VRep_whole.1 hx
       have hbk:=H.blk b
       split at hact
       ·rename_i te' e' xs hlk
        have hlk':lookH S.hp b=_:=hlk
        rw[hlk']at hbk
        split at hact
        ·rename_i hsz
         simp at hact;subst hact
         obtain⟨ad,c,h3,h4,h5,h6⟩:=own_len hbk
         have hb:=sl3_spec hok
         refine⟨rfl,_,hrun _ _ _ _ _ (r1.trans h3) e2 e3 hb.1 hb.2.1 hb.2.2 h4,VRep_sub.2 ⟨hl,_,_,?_,?_,?_,?_,rfl⟩⟩
         ·omega
         ·omega
         ·intro k hk';cases hk'
         ·intro h8
          rw[if_neg (by omega),h6 (by omega)]
          simp[Addr.add_mid,hsz,poff]
        ·cases hact
       ·rename_i te' e' xs hlk
        have hlk':lookH S.hp b=_:=hlk
        rw[hlk']at hbk
        split at hact
        ·rename_i hsz
         simp at hact;subst hact
         have hbk2:RepD E.w E.R (.slice e') xs [E.σ b]:=hbk
         have hbk':=hbk2
         obtain⟨ad,c,e4,h4,h5,_⟩:=hbk'
         simp at e4
         rw[e4]at hbk2
         have hb:=sl3_spec hok
         exact⟨rfl,_,hrun _ _ _ _ _ (r1.trans e4) e2 e3 hb.1 hb.2.1 hb.2.2 h4,VRep_slice.2 (seg_rep hbk2 hsz (by omega) (by omega) h4 h5)⟩
        ·cases hact
       ·cases hact
      ·rename_i e' xs
       split at hact
       ·rename_i hsz
        have hbk:=VRep_slice.1 hx
        have hbk':=hbk
        obtain⟨ad,c,e4,h4,h5,_⟩:=hbk'
        simp at e4
        rw[e4]at hbk
        split at hact
        ·rename_i h'' heq
         simp at hact;subst hact
         have hb:=sl3_spec hok
         have e5:(hi'.map (·.2)).getD ((List.length xs:Nat):Int)=h'':=by rw[heq];rfl
         have:=hrun _ _ _ _ _ e4 e2 e3 hb.1 (by rw[e5];exact hb.2.1) (by rw[e5];exact hb.2.2) h4
         rw[e5]at this
         exact⟨rfl,_,this,VRep_slice.2 (seg_rep hbk hsz (by omega) (by omega) h4 h5)⟩
        ·rename_i heq
         simp at hact;subst hact
         have hb:=sl3_spec hok
         have e5:(hi'.map (·.2)).getD ((List.length xs:Nat):Int)=(List.length xs:Int):=by rw[heq];rfl
         have:=hrun _ _ _ _ _ e4 e2 e3 hb.1 (by rw[e5];exact hb.2.1) (by rw[e5];exact hb.2.2) h4
         rw[e5,Int.toNat_natCast]at this
         have hr:=seg_rep hbk hsz (lo:=((lo'.map (·.2)).getD (0:Int)).toNat) (hi:=List.length xs) (by omega) (by omega) h4 h5
         rw[take_all]at hr
         exact⟨rfl,_,this,VRep_slice.2 hr⟩
       ·cases hact
      ·rename_i e' xs
       split at hact
       ·rename_i hsz
        have hbk:=VRep_jsl.1 hx
        have hbk':=hbk
        obtain⟨ad,c,e4,h4,h5,_⟩:=hbk'
        simp at e4
        rw[e4]at hbk
        split at hact
        ·rename_i h'' heq
         simp at hact;subst hact
         have hb:=sl3_spec hok
         have e5:(hi'.map (·.2)).getD ((List.length xs:Nat):Int)=h'':=by rw[heq];rfl
         have:=hrun _ _ _ _ _ e4 e2 e3 hb.1 (by rw[e5];exact hb.2.1) (by rw[e5];exact hb.2.2) h4
         rw[e5]at this
         exact⟨rfl,_,this,VRep_jsl.2 (seg_rep hbk hsz (by omega) (by omega) h4 h5)⟩
        ·rename_i heq
         simp at hact;subst hact
         have hb:=sl3_spec hok
         have e5:(hi'.map (·.2)).getD ((List.length xs:Nat):Int)=(List.length xs:Int):=by rw[heq];rfl
         have:=hrun _ _ _ _ _ e4 e2 e3 hb.1 (by rw[e5];exact hb.2.1) (by rw[e5];exact hb.2.2) h4
         rw[e5,Int.toNat_natCast]at this
         have hr:=seg_rep hbk hsz (lo:=((lo'.map (·.2)).getD (0:Int)).toNat) (hi:=List.length xs) (by omega) (by omega) h4 h5
         rw[take_all]at hr
         exact⟨rfl,_,this,VRep_jsl.2 hr⟩
       ·cases hact
      ·cases hact
     ·cases hact
    ·cases hact
   ·cases hact
  ·cases hc
 ·rename_i h2;simp at h2
 ·cases hc
theorem elemOK_spec{e:TypeId}{u:Ty}(h:elemOK P e u=true):∃i z,P.info? e=some i/\i.zero=some z/\z.cells.size=u.size/\i.size=u.size/\0<u.size:=by
 unfold elemOK at h
 split at h
 ·rename_i i hi
  split at h
  ·rename_i z hz
   simp at h
   exact⟨i,z,hi,hz,by omega,h.2.1,h.2.2⟩
  ·cases h
 ·cases h
theorem elemOK_has{e:TypeId}{u:Ty}(h:elemOK P e u=true):hasT P e=true/\P.cellsOf e=u.size:=by
 obtain⟨i,z,h1,_,_,h4,_⟩:=elemOK_spec h
 exact⟨by simp[hasT,h1],by simp[Program.cellsOf,h1,h4]⟩
theorem seg_rep3{w:World}{I:Nat->Prop}{e:Ty}{xs:List e.den}{ad:Option Addr}{c sz:Nat}(hr:RepD w I (.slice e) xs [.slice ad xs.length c])(hsz:e.size=sz){lo hi m:Nat}(h1:lo<=hi)(h2:hi<=m)(h3:m<=xs.length)(hc:xs.length<=c)(hcm:c<=maxLen) :
 RepD w I (.slice e) ((xs.drop lo).take (hi-lo)) [.slice (if m=lo then ad else ad.map (·.add (lo*sz))) (hi-lo) (m-lo)]:=by
 have hlen:((xs.drop lo).take (hi-lo)).length=hi-lo:=by simp;omega
 refine⟨_,m-lo,by rw[hlen],by rw[hlen];omega,by omega,fun h0=> ?_⟩
 obtain⟨a1,c1,e1,_,_,h4⟩:=seg_rep hr hsz h1 (Nat.le_trans h2 h3) hc hcm
 have h0':=h0
 rw[hlen]at h0'
 rw[if_neg (by omega)]at e1
 have e2:ad.map (·.add (lo*sz))=a1:=by
  simp only[List.cons.injEq,Value.slice.injEq]at e1
  exact e1.1.1
 rw[if_neg (by omega),e2]
 exact h4 h0
theorem bounds_run3(len cap:Nat)(kl kh km:IntKind)(l h m:Int)(h0:0<=l)(h1:l<=h)(h2:h<=m)(h3:m<=(len:Int))(h4:len<=cap)(w:World) :
 (Instr.sliceBounds true len cap (some (.int kl l)) (some (.int kh h)) (some (.int km m))).run P w= .ok (l.toNat,h.toNat,m.toNat) w:=by
 have e1:(Instr.sliceBound (.int km m) cap BoundsCode.slice3Acap).run P w= .ok m.toNat w:=by
  unfold Instr.sliceBound
  simp only[asIntOf,Sem.run_bind,Sem.run_pure,Result.andThen_ok]
  rw[if_pos (by omega)];rfl
 have e2:(Instr.sliceBound (.int kh h) m.toNat BoundsCode.slice3B).run P w= .ok h.toNat w:=by
  unfold Instr.sliceBound
  simp only[asIntOf,Sem.run_bind,Sem.run_pure,Result.andThen_ok]
  rw[if_pos (by omega)];rfl
 have e3:(Instr.sliceBound (.int kl l) h.toNat BoundsCode.slice3C).run P w= .ok l.toNat w:=by
  unfold Instr.sliceBound
  simp only[asIntOf,Sem.run_bind,Sem.run_pure,Result.andThen_ok]
  rw[if_pos (by omega)];rfl
 simp[Instr.sliceBounds,e1,e2,e3,Sem.run_bind]
theorem snd_slice3(hs:SlotsRep E S a){t:TypeId}{x:Operand}{lo hi:Option Operand}{mx:Operand}(ho:o.op= .slice t x lo hi (some mx))(hc:compOp P sm o=some (iop,args))(hact:act summ iop (args.map S.eval) S.look nid=some out)(hok:out.ok=true):PureOut P E a o out:=by
 simp only[compOp,ho]at hc
 split at hc
 ·rename_i lo' hi'
  split at hc
  ·rename_i l te h1 hu
   split at hc
   ·rename_i hk
    simp at hc
    obtain⟨rfl,rfl⟩:=hc
    have hv:=opds_rep hs h1
    simp only[act]at hact
    unfold aSlice3 at hact
    split at hact
    ·rename_i b p sz off len cap kl li kh hj km mj he
     split at hact
     ·rename_i hsz
      rw[he]at hv
      obtain⟨hx,hl,hh,hm,_⟩:=hv
      injection hact with hact
      subst hact
      obtain⟨hlv,ad,c,h3,h4,h5,h6,h7⟩:=VRep_sub.1 hx
      simp only[Bool.and_eq_true,decide_eq_true_eq]at hok
      have hb:=sl3_spec hok.1
      have e1:=(VRep_int.1 hl).1
      have e2:=(VRep_int.1 hh).1
      have e3:=(VRep_int.1 hm).1
      refine⟨rfl,.slice (if mj.toNat=li.toNat then ad else ad.map (·.add (li.toNat*szT P te))) (hj.toNat-li.toNat) (mj.toNat-li.toNat),?_,VRep_sub.2 ⟨hlv,_,_,by omega,by omega,fun k hk'=>(by injection hk' with hk'),fun h8=> ?_,rfl⟩⟩
      ·unfold execOp
       simp only[ho,Option.map_some,h7,e1,e2,e3]
       simp only[Instr.sliceAt,Sem.run_bind,run_underlying hu,Result.andThen_ok,Instr.slice,bounds_run3 (P:=P) len c kl kh km li hj mj hb.1 hb.2.1 hb.2.2 hok.2 h3 E.w,run_sizeOf' hk,Sem.run_pure]
       rfl
      ·rw[if_neg (by omega),h6 (by omega)]
       simp[Addr.add_mid,hsz,Nat.add_mul,Nat.add_assoc]
     ·cases hact
    ·rename_i e' xs kl li kh hj km mj he
     split at hact
     ·rename_i hsz
      rw[he]at hv
      obtain⟨hx,hl,hh,hm,_⟩:=hv
      injection hact with hact
      subst hact
      have hbk:=VRep_slice.1 hx
      have hbk':=hbk
      obtain⟨ad,c,e4,h4,h5,_⟩:=hbk'
      simp at e4
      rw[e4]at hbk
      simp only[Bool.and_eq_true,decide_eq_true_eq]at hok
      have hb:=sl3_spec hok.1
      have e1:=(VRep_int.1 hl).1
      have e2:=(VRep_int.1 hh).1
      have e3:=(VRep_int.1 hm).1
      refine⟨rfl,.slice (if mj.toNat=li.toNat then ad else ad.map (·.add (li.toNat*szT P te))) (hj.toNat-li.toNat) (mj.toNat-li.toNat),?_,VRep_slice.2 (seg_rep3 hbk hsz (by omega) (by omega) (by omega) h4 h5)⟩
      unfold execOp
      simp only[ho,Option.map_some,e4,e1,e2,e3]
      simp only[Instr.sliceAt,Sem.run_bind,run_underlying hu,Result.andThen_ok,Instr.slice,bounds_run3 (P:=P) (List.length xs) c kl kh km li hj mj hb.1 hb.2.1 hb.2.2 hok.2 h4 E.w,run_sizeOf' hk,Sem.run_pure]
      rfl
     ·cases hact
    ·cases hact
   ·cases hc
  ·cases hc
 ·cases hc
theorem snd_sliceArr(hs:SlotsRep E S a){t:TypeId}{x:Operand}{lo hi:Option Operand}{te:TypeId}{n:Nat}(ho:o.op= .slice t x lo hi none)(hu:P.underlying t=some (.array n te))(hc:compOp P sm o=some (iop,args))(hact:act summ iop (args.map S.eval) S.look nid=some out)(hok:out.ok=true):PureOut P E a o out:=by
 simp only[compOp,ho,hu]at hc
 split at hc
 ·rename_i h2;simp at h2
 ·rename_i l0 l n' te' h1 h2
  simp at h2
  obtain⟨rfl,rfl⟩:=h2
  split at hc
  ·rename_i u htu
   split at hc
   ·rename_i hk
    simp only[Bool.and_eq_true,decide_eq_true_eq]at hk
    obtain⟨hhas,hcells⟩:=elemOK_has hk.1
    simp at hc
    obtain⟨rfl,rfl⟩:=hc
    have hv:=opds_rep hs h1
    simp only[act]at hact
    have hrun:∀(b off:Nat)(lo' hi':Option (IntKind×Int)),a.eval x= .pointer (some ⟨b,off,none⟩)->lo.map a.eval=lo'.map ib->hi.map a.eval=hi'.map ib->
     0<=(lo'.map (·.2)).getD (0:Int)->(lo'.map (·.2)).getD (0:Int)<=(hi'.map (·.2)).getD (n:Int)->(hi'.map (·.2)).getD (n:Int)<=n->
     (execOp a.eval o).run P E.w= .ok (.value (.slice (some (if n=((lo'.map (·.2)).getD (0:Int)).toNat then⟨b,off,none⟩else⟨b,off+((lo'.map (·.2)).getD (0:Int)).toNat*u.size,none⟩)) (((hi'.map (·.2)).getD (n:Int)).toNat-((lo'.map (·.2)).getD (0:Int)).toNat) (n-((lo'.map (·.2)).getD (0:Int)).toNat))) E.w:=by
     intro b off lo' hi' e1 e2 e3 h4 h5 h6
     unfold execOp
     simp only[ho]
     rw[e1,e2,e3]
     simp only[Instr.sliceAt,Sem.run_bind,run_underlying hu,Result.andThen_ok,Instr.sureAddr,Sem.run_pure,Option.map_none,bounds_run false n n lo' hi' h4 h5 h6 (Nat.le_refl _),run_sizeOf' hhas,hcells,Addr.add_mid]
    unfold aSliceArr at hact
    split at hact
    ·rename_i s is he
     rw[he,List.map_cons,List.map_append]at hv
     obtain⟨hx,hv⟩:=hv
     split at hact
     ·rename_i l' is' hlo
      obtain⟨lo',e2,rfl,hv⟩:=loOf_rep hlo hv
      split at hact
      ·rename_i h' hhi
       obtain⟨hi',e3,rfl,_⟩:=loOf_rep (vs:=[]) hhi (by simpa using hv)
       split at hact
       ·rename_i b p
        simp at hact;subst hact
        have hp:=VRep_ptr.1 hx
        have hb:=sl3_spec hok
        refine⟨rfl,_,hrun _ _ _ _ hp.2 e2 e3 hb.1 hb.2.1 hb.2.2,VRep_sub.2 ⟨hp.1,_,_,?_,?_,?_,?_,rfl⟩⟩
        ·omega
        ·simp[maxLen];omega
        ·intro k hk';simpa using hk'
        ·intro h8
         rw[if_neg (by omega)]
       ·rename_i m e' xs
        split at hact
        ·rename_i hm
         simp at hact;subst hact
         obtain⟨rfl,hes⟩:=hm
         obtain⟨b,off,rows,h3,hI,hcell,hr⟩:=VRep_ref.1 hx
         have hb:=sl3_spec hok
         have hn:List.length xs=m:=hr.1
         have hfull:RepD E.w E.R (.slice e') xs [.slice (some ⟨b,off,none⟩) (List.length xs) m] :=
          ⟨_,m,rfl,by omega,by simp[maxLen];omega,fun _=>⟨b,off,rows,rfl,hI.of (fun k e=>nomatch e),hcell,hr.2⟩⟩
         have hres:=seg_rep hfull hes (lo:=((lo'.map (·.2)).getD (0:Int)).toNat) (hi:=((hi'.map (·.2)).getD (m:Int)).toNat) (by omega) (by omega) (by omega) (by simp[maxLen];omega)
         refine⟨rfl,_,hrun _ _ _ _ h3 e2 e3 hb.1 hb.2.1 hb.2.2,VRep_slice.2 ?_⟩
         have e6:(if m=((lo'.map (·.2)).getD (0:Int)).toNat then some (⟨b,off,none⟩:Addr)else(some (⟨b,off,none⟩:Addr)).map (·.add (((lo'.map (·.2)).getD (0:Int)).toNat*u.size)))=some (if m=((lo'.map (·.2)).getD (0:Int)).toNat then⟨b,off,none⟩else⟨b,off+((lo'.map (·.2)).getD (0:Int)).toNat*u.size,none⟩):=by
          split<;>simp[Addr.add_mid]
         rw[e6]at hres
         exact hres
        ·cases hact
       ·cases hact
      ·cases hact
     ·cases hact
    ·cases hact
   ·cases hc
  ·cases hc
 ·cases hc
end
end Go.Ev
namespace Go.Ev
open Go Go.RowKit
theorem RepD.one{w:World}{I:Nat->Prop}:∀(t:Ty)(x:t.den)(cs:List Value),RepD w I t x cs->∀v∈cs,v.oneCell'=true
 | .int _,_,_,h=>by rw[h.1];simp[Value.oneCell']
 | .bool,_,_,h=>by rw[show _=_ from h];simp[Value.oneCell']
 | .str,_,_,h=>by rw[h.1];simp[Value.oneCell']
 | .unit,_,_,h=>by rw[show _=_ from h];simp
 | .pair a b,x,_,⟨c1,c2,e,h1,h2⟩=>by
   rw[e];intro v hv
   rcases List.mem_append.1 hv with h|h
   ·exact RepD.one a x.1 c1 h1 v h
   ·exact RepD.one b x.2 c2 h2 v h
 | .arr n e,x,cs,h=>by
   have:∀(xs:List e.den)(cs:List Value),Rows (RepD w I e) xs cs->∀v∈cs,v.oneCell'=true:=by
    intro xs
    induction xs with
    |nil=>intro cs h;rw[show cs=[]from h];simp
    |cons x xs ih=>
     rintro cs ⟨c1,c2,rfl,h1,h2⟩ v hv
     rcases List.mem_append.1 hv with h|h
     ·exact RepD.one e x c1 h1 v h
     ·exact ih c2 h2 v h
   exact this x cs h.2
 | .slice e,x,_,⟨a,c,h,_⟩=>by rw[h];simp[Value.oneCell']
theorem Rows.one{w:World}{I:Nat->Prop}{e:Ty}:∀(xs:List e.den)(cs:List Value),Rows (RepD w I e) xs cs->∀v∈cs,v.oneCell'=true
 |[],cs,h=>by rw[show cs=[]from h];simp
 |x::xs,_,⟨c1,c2,e1,h1,h2⟩=>by
  rw[e1];intro v hv
  rcases List.mem_append.1 hv with h|h
  ·exact RepD.one e x c1 h1 v h
  ·exact Rows.one xs c2 h2 v h
theorem CRep.one{E:Env}:∀(c:CV)(cs:List Value),CRep E c cs->c.isVal=true->∀v∈cs,v.oneCell'=true
 | .junk,_,_,h=>by simp[CV.isVal]at h
 | .int _ _,_,hc,_=>by rw[hc.1];simp[Value.oneCell']
 | .bool _,_,hc,_=>by rw[show _=_ from hc];simp[Value.oneCell']
 | .nil _ _,_,hc,_=>by rw[show _=_ from hc];simp[Value.oneCell']
 | .pure t x,cs,hc,_=>RepD.one t x cs hc
 | .pair a b,_,⟨c1,c2,e,h1,h2⟩,h=>by
   simp only[CV.isVal,Bool.and_eq_true]at h
   rw[e];intro v hv
   rcases List.mem_append.1 hv with h'|h'
   ·exact CRep.one a c1 h1 h.1 v h'
   ·exact CRep.one b c2 h2 h.2 v h'
 | .whole b,_,⟨_,e,_,_,_,e2⟩,_=>by rw[e,e2];simp[Value.oneCell']
 | .sub b p sz off len cap,_,⟨_,ad,c,_,_,_,_,e⟩,_=>by rw[e];simp[Value.oneCell']
 | .ptr b p,_,⟨_,e⟩,_=>by rw[e];simp[Value.oneCell']
 | .ref t x,_,⟨b,off,rows,e,_⟩,_=>by rw[e];simp[Value.oneCell']
 | .clo f c,_,⟨caps,e,_⟩,_=>by rw[e];simp[Value.oneCell']
 | .yld _ _ _,_,⟨_,e,_⟩,_=>by rw[e];simp[Value.oneCell']
 | .tup _,_,hc,_=>hc.elim
 | .jsl e x,cs,hc,_=>RepD.one (.slice e) x cs hc
theorem CRep.refs{E:Env}:∀(c:CV)(cs:List Value),CRep E c cs->∀b∈c.refs,E.live b
 | .junk,_,_=>by simp[CV.refs]
 | .undef,_,_=>by simp[CV.refs]
 | .int _ _,_,_=>by simp[CV.refs]
 | .bool _,_,_=>by simp[CV.refs]
 | .nil _ _,_,_=>by simp[CV.refs]
 | .pure _ _,_,_=>by simp[CV.refs]
 | .pair a b,_,⟨c1,c2,e,h1,h2⟩=>by
   intro x hx
   rcases List.mem_append.1 hx with h|h
   ·exact CRep.refs a c1 h1 x h
   ·exact CRep.refs b c2 h2 x h
 | .whole b,_,⟨h,_⟩=>by simpa[CV.refs]using h
 | .sub b p sz off len cap,_,⟨h,_⟩=>by simpa[CV.refs]using h
 | .ptr b p,_,⟨h,_⟩=>by simpa[CV.refs]using h
 | .ref _ _,_,_=>by simp[CV.refs]
 | .clo f c,_,⟨caps,_,h⟩=>by simpa[CV.refs]using CRep.refs c caps h
 | .yld b i c,_,⟨hl,_,rec,cells,_,h,_⟩=>by
   intro x hx
   simp only[CV.refs,List.mem_cons]at hx
   rcases hx with rfl|hx
   ·exact hl
   ·exact CRep.refs c cells h x hx
 | .tup _,_,h=>h.elim
 | .jsl _ _,_,_=>by simp[CV.refs]
section
variable{base:Nat}{E:Env}{hp:List Blk}
theorem HS.ext{hp':List Blk}(H:HS base E hp)(h:∀b,lookH hp' b=lookH hp b):HS base E hp':=by
 refine⟨fun b=> ?_,fun b b' g h1 h2=> ?_,fun b g h1=> ?_,H.imm,fun b=> ?_,H.base,H.eok,H.jI,H.thw⟩
 ·rw[h];exact H.blk b
 ·rw[h]at h1 h2;exact H.inj b b' g h1 h2
 ·rw[h]at h1;exact H.sep b g h1
 ·rw[h];exact H.live b
def Env.frzL(E:Env)(look:Look)(bs:List Nat):Env:= {E with I:=fun g=>E.I g\/∃b,b∈bs/\holdsB E b (look b) g}
theorem frz_frz(k:Blk):k.frz.frz=k.frz:=by cases k<;>rfl
theorem HS.frzs(look:Look):∀(bs:List Nat){E:Env}{hp:List Blk},HS base E hp->(∀b,lookH hp b=look b\/lookH hp b=(look b).frz)->(∀b∈bs,E.live b) ->
 ∃E',E.le base E'/\HS base E' (wrAll hp (bs.map fun b=>(b,(look b).frz)))/\E'.w=E.w/\E'.μ=E.μ/\E'.σ=E.σ/\E'.live=E.live/\
  (∀g,(E.R g\/∃b,b∈bs/\holdsB E b (lookH hp b) g)->E'.R g)
 |[],E,hp,H,_,_=>⟨E,Env.le.refl _ _,H,rfl,rfl,rfl,rfl,fun g h=>by rcases h with h|⟨b,hb,_⟩;exact h;simp at hb⟩
 |b::bs,E,hp,H,hl,hlive=>by
  have hlb:E.live b:=hlive b (by simp)
  obtain⟨h1,H1⟩:=H.frz hlb
  have e1:(lookH hp b).frz=(look b).frz:=by
   rcases hl b with h|h<;>rw[h]
   exact frz_frz _
  rw[e1]at H1
  have hlt:=lookH_lt ((H.live b).1 hlb)
  have hlk:∀b',lookH (setH hp b (look b).frz) b'=look b'\/lookH (setH hp b (look b).frz) b'=(look b').frz:=by
   intro b'
   rw[lookH_set (by omega)]
   split
   ·rename_i he;subst he;exact .inr rfl
   ·exact hl b'
  obtain⟨E',h2,H2,hw,hμ,hσ,hlv,hI⟩:=HS.frzs look bs H1 hlk (fun b' hb'=>hlive b' (by simp[hb']))
  refine⟨E',h1.trans h2,H2,hw,hμ,hσ,hlv,fun g hg=>hI g ?_⟩
  rcases hg with hg|⟨b',hb',hg⟩
  ·exact .inl ⟨.inl hg.1,hg.2⟩
  ·by_cases he:b'=b
   ·subst he;exact .inl ⟨.inr hg,H.heldJ hg⟩
   ·refine .inr ⟨b',by simpa[he]using hb',?_⟩
    rw[lookH_set (by omega),if_neg he]
    exact hg
theorem wrAll_append(hp:List Blk)(x y:List (Nat×Blk)):wrAll hp (x++y)=wrAll (wrAll hp x) y:=by
 induction x generalizing hp with
 |nil=>rfl
 |cons p r ih=>exact ih _
end
def GenOut(P:Program)(base:Nat)(E:Env)(S:St)(a:Act)(o:Oper)(out:Out):Prop:=
 ∃v nx E',(execOp a.eval o).run P E.w= .ok nx E'.w/\(nx= .value v\/(nx= .skip/\v=undef))/\E.le base E'/\HS base E' (wrAll S.hp out.wr)/\VRep E' out.v v
section
variable{P:Program}{sm:Nat->Bool}{summ:Nat->Option Summ}{base:Nat}{E:Env}{S:St}{a:Act}{o:Oper}{iop:IOp}{args:List Opd}{nid:Nat}{out:Out}
theorem PureOut.gen(H:HS base E S.hp)(h:PureOut P E a o out):GenOut P base E S a o out:=by
 obtain⟨h1,v,h2,h3⟩:=h
 exact⟨v,_,E,h2,.inl rfl,Env.le.refl _ _,by rw[h1];exact H,h3⟩
theorem snd_box(H:HS base E S.hp)(hs:SlotsRep E S a){t:TypeId}{x:Operand}(ho:o.op= .box t x)(hc:compOp P sm o=some (iop,args))(hact:act summ iop (args.map S.eval) S.look nid=some out)(hf:lookH S.hp nid= .fresh)(hn:nid<=S.hp.length):GenOut P base E S a o out:=by
 simp only[compOp,ho]at hc
 obtain⟨q,h1,h2⟩:=map_some hc
 simp at h2
 obtain⟨rfl,rfl⟩:=h2
 have hv:=opd_rep hs h1
 simp only[act,List.map_cons,List.map_nil,aBox]at hact
 split at hact
 ·rename_i hval
  simp at hact;subst hact
  obtain⟨hcr,_⟩:=VRep_cells hv hval
  obtain⟨hle,H'⟩:=H.newMem hf hn t hcr
  refine⟨.pointer (some ⟨E.w.heap.size,0,none⟩),_,_,?_,.inl rfl,hle,H',VRep_ptr.2 ⟨.inr rfl,?_⟩⟩
  ·unfold execOp
   simp only[ho]
   rfl
  ·simp[Env.newMem,upd_same,poff]
 ·cases hact
theorem bset_rep{b:Nat}{v:CV}{vs:List Value}(hv:CRep E v vs):∀ {k k':Blk}{p:Path},k.set v p=some k'->k.ok p=true->BRep E base b k->
 ∃cur te l m r,E.w.heap[E.μ b]? =some (.cells cur te (0,0))/\cur.toList=l++m++r/\l.length=poff p/\m.length=v.csize/\holdsB E b k (E.μ b)/\k'≠ .fresh/\
  ∀E':Env,E.le base E'->E'.I=E.I->E'.μ=E.μ->E'.σ=E.σ->E'.w.heap[E.μ b]? =some (.cells (l++vs++r).toArray te (0,0))->BRep E' base b k'/\(∀g,holdsB E' b k' g->g=E.μ b)
 | .mem c,k',p,h,ho,⟨cs,te,hh,hc⟩=>by
   simp only[Blk.set]at h
   split at h
   ·rename_i d hd
    simp at h;subst h
    obtain⟨l,m,r,em,hl,hm,hd'⟩:=set_rep hv hd ho hc
    refine⟨cs,te,l,m,r,hh,em,hl,hm,rfl,by simp,fun E' hle hI hμ hσ hh'=>⟨⟨_,te,by rw[hμ];exact hh',CRep.mono hle _ _ (by simpa using hd')⟩,fun g hg=> ?_⟩⟩
    have hg:g=E'.μ b:=hg
    rw[hμ]at hg;exact hg
   ·cases h
 | .vec te e xs,k',.ix i s::p,h,ho,⟨cells,hrw,hown,hpos,hg⟩=>by
   simp only[Blk.set]at h
   simp only[Blk.ok,Bool.and_eq_true,decide_eq_true_eq]at ho
   split at h
   ·rename_i hsz
    split at h
    ·rename_i d hd
     split at h
     ·rename_i y hy
      simp at h;subst h
      rcases hown.2 with⟨hv',hn⟩|⟨g,cap',cur,hv',hbg,hh,hnc,hcm',hcs,htk⟩
      ·omega
      ·have hg':g=E.μ b:=hg g (by rw[hv'];rfl)
       obtain⟨m0,hm0,l0,r0,e2,hl0⟩:=Rows.at_ (fun y z=>RepD.len e y z) e.dflt xs cells hrw i ho.1
       obtain⟨l,m,r,em,hl,hm,hd'⟩:=set_rep (E:=E) hv hd ho.2 (CRep_ofP hm0)
       have hy':=toPH_noRep hy hd'
       have hrw':=Rows.set_ (fun y z=>RepD.len e y z) y _ hy' xs cells hrw i ho.1 l0 m0 r0 e2 hl0 (RepD.len _ _ _ hm0)
       have hvl:vs.length=v.csize:=CRep.len v vs hv
       have hcur:cur.toList=(l0++l)++m++(r++r0++cur.toList.drop (List.length xs*e.size)):=by
        have:=List.take_append_drop (List.length xs*e.size) cur.toList
        rw[htk,e2,em]at this
        exact this.symm.trans (by simp)
       refine⟨cur,te,l0++l,m,r++r0++cur.toList.drop (List.length xs*e.size),by rw[<-hg'];exact hh,hcur,?_,hm,by show(E.σ b).ownBlock=some _;rw[hv',<-hg'];rfl,by simp,fun E' hle hI hμ hσ hh'=>⟨⟨l0++(l++vs++r)++r0,?_,⟨?_,.inr ⟨E.μ b,cap',_,?_,by rw[<-hg'];exact hbg,hh',?_,hcm',?_,?_⟩⟩,hpos,?_⟩,?_⟩⟩
       ·simp[poff,Step.off,hl0,hsz];simpa[poff]using hl
       ·exact Rows.mono (fun y z=>RepD.mono hle.R hle.heapR e y z) _ _ hrw'
       ·have:=Rows.len (fun y z=>RepD.len e y z) _ _ hrw'
        simpa using this
       ·rw[hσ,hv',hg'];simp
       ·simpa using hnc
       ·have:=congrArg List.length hcur
        simp at this
        simp
        omega
       ·have hlen:=hown.1
        have h5:=congrArg List.length e2
        have h6:=congrArg List.length em
        simp at h5 h6
        have e7:l0++l++vs++(r++r0++cur.toList.drop (List.length xs*e.size))=(l0++(l++vs++r)++r0)++cur.toList.drop (List.length xs*e.size):=by simp
        show List.take _ (l0++l++vs++(r++r0++cur.toList.drop (List.length xs*e.size)))=_
        rw[e7,List.take_append_of_le_length (by simp;omega),List.take_of_length_le (by simp;omega)]
       ·intro g1 hg1
        rw[hσ]at hg1
        rw[hμ];exact hg g1 hg1
       ·intro g1 hg1
        have hg1:(E'.σ b).ownBlock=some g1:=hg1
        rw[hσ]at hg1
        exact hg g1 hg1
     ·cases h
    ·cases h
   ·cases h
theorem lookH_wrAll(f:Nat->Blk):∀(bs:List Nat){hp:List Blk}{b:Nat},(∀x∈bs,x<hp.length)->b∉bs->lookH (wrAll hp (bs.map fun x=>(x,f x))) b=lookH hp b
 |[],_,_,_,_=>rfl
 |x::bs,hp,b,hl,hb=>by
  have hx:=hl x (by simp)
  have:=lookH_wrAll f bs (hp:=setH hp x (f x)) (b:=b) (fun y hy=>by
   have:=hl y (by simp[hy])
   unfold setH;rw[if_pos hx];simpa using this) (fun h=>hb (by simp[h]))
  show lookH (wrAll (setH hp x (f x)) _) b=_
  rw[this,lookH_set (by omega),if_neg (fun e=>hb (by simp[e]))]
theorem storeRun{us:List Value}(hone:∀v∈us,v.oneCell'=true){t:TypeId}{x y:Operand}(ho:o.op= .store t x y)(hk:hasT P t=true){u:Value}(hus:u.cells.toList=us)(hcl:us.length=szT P t){w:World}{cur:Array Value}{te g off:Nat}(ex:a.eval x= .pointer (some ⟨g,off,none⟩))(ey:a.eval y=u)
 (hh:w.heap[g]? =some (.cells cur te (0,0))) {l m r:List Value} (hcur:cur.toList=l++m++r) (hl:l.length=off) (hm:m.length=us.length) :
 (execOp a.eval o).run P w= .ok .skip (w.setRow g (l++us++r).toArray):=by
 subst hus
 have hlen:=congrArg List.length hcur
 simp at hlen
 have hst:=run_storeCells_at P g off te u.cells.toList 0 cur w hh (by simp at hm⊢;omega) hone
 simp only[Nat.add_zero,Array.length_toList]at hst
 have e1:cur.toList.take off++u.cells.toList++cur.toList.drop (off+u.cells.size)=l++u.cells.toList++r:=by
  rw[hcur,List.append_assoc l m r,List.take_append_of_le_length (by omega),List.take_of_length_le (by omega)]
  congr 1
  simp at hm
  rw[<-List.append_assoc,List.drop_append_of_le_length (by simp;omega),List.drop_of_length_le (by simp;omega),List.nil_append]
 rw[e1]at hst
 unfold execOp
 simp only[ho]
 rw[ex,ey]
 simp only[Instr.storeAt,Instr.sureAddr,Sem.run_bind,Sem.run_pure,Result.andThen_ok,storeVar,run_sizeOf' hk]
 rw[if_neg (by simp at hcl;rw[hcl];simp[szT])]
 rw[hst];rfl
theorem snd_store(H:HS base E S.hp)(hs:SlotsRep E S a){t:TypeId}{x y:Operand}(ho:o.op= .store t x y)(hc:compOp P sm o=some (iop,args))(hact:act summ iop (args.map S.eval) S.look nid=some out)(hok:out.ok=true):GenOut P base E S a o out:=by
 simp only[compOp,ho]at hc
 split at hc
 ·rename_i hk
  obtain⟨l,h1,h2⟩:=map_some hc
  simp at h2
  obtain⟨rfl,rfl⟩:=h2
  have hvs:=opds_rep hs h1
  simp only[act]at hact
  unfold aStore at hact
  split at hact
  ·rename_i b p v he
   rw[he]at hvs
   obtain⟨u1,u2,e,r1,r2⟩:=Vs2 hvs
   simp at e
   split at hact
   ·rename_i h3
    obtain⟨hsz,hval⟩:=h3
    obtain⟨hlb,hptr⟩:=VRep_ptr.1 r1
    obtain⟨hcr,hcl⟩:=VRep_cells r2 hval
    have hone:=CRep.one v _ hcr hval
    have hlt:=lookH_lt ((H.live b).1 hlb)
    split at hact
    ·rename_i hvec
     split at hact
     ·rename_i k hset
      simp at hact;subst hact
      obtain⟨cur,te,l',m,r,hh,em,hl,hm,hg,hkf,hB⟩:=bset_rep (base:=base) hcr hset hok (H.blk b)
      have hr:=storeRun hone ho hk rfl (by simp;rw[hcl,hsz]) (e.1.trans hptr) e.2 hh em hl (by rw[hm];simpa using hcl.symm)
      have hset':∀g',g'≠E.μ b->(E.w.setRow (E.μ b) (l'++u2.cells.toList++r).toArray).heap[g']? =E.w.heap[g']? :=fun g' hg'=>setRow_other E.w (E.μ b) _ g' hg'
      have hbel:=setRow_below E.w (base:=base) (l'++u2.cells.toList++r).toArray (H.sep b _ hg).2
      have hle:E.le base {E with w:=E.w.setRow (E.μ b) (l'++u2.cells.toList++r).toArray}:=Env.le_world hbel fun g' hg'=>hset' g' (fun e=>(H.sep b _ hg).1 (e▸hg'))
      obtain⟨hB1,hB2⟩:=hB _ hle rfl rfl rfl (setRow_heap E.w (E.μ b) cur _ te (0,0) hh)
      obtain⟨hle',H'⟩:=H.store hg hB1 hB2 hkf hset' hbel
      exact⟨undef,.skip,_,hr,.inr ⟨rfl,rfl⟩,hle',H',VRep_junk _ _⟩
     ·cases hact
    ·rename_i hvec
     split at hact
     ·cases hact
     ·rename_i hnb
      have hnb':b∉v.refs:=by simpa using hnb
      split at hact
      ·rename_i c hget
       split at hact
       ·rename_i s hs'
        split at hact
        ·rename_i x' hx'
         split at hact
         ·rename_i k hset
          simp at hact;subst hact
          simp only[Bool.and_eq_true]at hok
          have hrefs:=CRep.refs v _ hcr
          obtain⟨E1,hle1,H1,hw1,hμ1,hσ1,hlv1,hI1⟩:=HS.frzs (lookH S.hp) v.refs H (fun _=> .inl rfl) hrefs
          have hrd:=toPH_rep (base:=base) H.blk (I':=E1.R) hle1.R hx' hok.2 hcr (fun g⟨b',hb',hg'⟩=>hI1 g (.inr ⟨b',hb',hg'⟩))
          have hcr1:CRep E1 (ofP s.1 x') u2.cells.toList:=CRep_ofP (by rw[hw1];exact hrd)
          have hlk1:lookH (wrAll S.hp (v.refs.map fun b=>(b,(lookH S.hp b).frz))) b=lookH S.hp b:=lookH_wrAll (fun b=>(lookH S.hp b).frz) v.refs (hp:=S.hp) (b:=b) (fun x hx=>lookH_lt ((H.live x).1 (hrefs x hx))) hnb'
          have hbk1:=H1.blk b
          rw[hlk1]at hbk1
          obtain⟨cur,te,l',m,r,hh,em,hl,hm,hg,hkf,hB⟩:=bset_rep (base:=base) hcr1 hset hok.1 hbk1
          rw[hw1,hμ1]at hh
          have hml:m.length=u2.cells.toList.length:=by rw[hm];exact(CRep.len _ _ hcr1).symm
          have hr:=storeRun hone ho hk rfl (by simp;rw[hcl,hsz]) (e.1.trans hptr) e.2 hh em hl hml
          have hg1:holdsB E1 b (lookH (wrAll S.hp (v.refs.map fun b=>(b,(lookH S.hp b).frz))) b) (E1.μ b):=by rw[hlk1];exact hg
          have hset':∀g',g'≠E1.μ b->(E1.w.setRow (E1.μ b) (l'++u2.cells.toList++r).toArray).heap[g']? =E1.w.heap[g']? :=fun g' hg'=>setRow_other E1.w (E1.μ b) _ g' hg'
          have hbel:=setRow_below E1.w (base:=base) (l'++u2.cells.toList++r).toArray (H1.sep b _ hg1).2
          have hle:E1.le base {E1 with w:=E1.w.setRow (E1.μ b) (l'++u2.cells.toList++r).toArray}:=Env.le_world hbel fun g' hg'=>hset' g' (fun e=>(H1.sep b _ hg1).1 (e▸hg'))
          obtain⟨hB1,hB2⟩:=hB _ hle rfl rfl rfl (setRow_heap E1.w (E1.μ b) cur _ te (0,0) (by rw[hw1,hμ1];exact hh))
          obtain⟨hle',H'⟩:=H1.store hg1 hB1 hB2 hkf hset' hbel
          refine⟨undef,.skip,_,?_,.inr ⟨rfl,rfl⟩,hle1.trans hle',?_,VRep_junk _ _⟩
          ·rw[hr];show _=Result.ok _ (E1.w.setRow (E1.μ b) _);rw[hw1,hμ1]
          ·show HS base _ (wrAll S.hp (frzs S.look [v]++[(b,k)]))
           rw[wrAll_append]
           have e9:frzs S.look [v]=v.refs.map fun b=>(b,(lookH S.hp b).frz):=by simp only[frzs,List.flatMap_cons,List.flatMap_nil,List.append_nil];rfl
           rw[e9];exact H'
         ·cases hact
        ·cases hact
       ·cases hact
      ·cases hact
   ·cases hact
  ·cases hact
 ·cases hc
end
end Go.Ev
namespace Go.Ev
open Go Go.RowKit
theorem vEq_eq:∀ {a b:Value},vEq a b=true->a=b:=by
 intro a b h
 unfold vEq at h
 split at h
 ·simp at h;rw[h.1,h.2]
 ·simp at h;rw[h]
 ·rename_i a b
  have h:=of_decide_eq_true h
  obtain⟨⟨a⟩⟩:=a
  obtain⟨⟨b⟩⟩:=b
  simp at h
  rw[h]
 ·rfl
 ·cases h
theorem vsEq_eq:∀ {a b:List Value},vsEq a b=true->a=b
 |[],[],_=>rfl
 |x::xs,y::ys,h=>by
  simp only[vsEq,Bool.and_eq_true]at h
  rw[vEq_eq h.1,vsEq_eq h.2]
 |[],_::_,h=>by simp[vsEq]at h
 |_::_,[],h=>by simp[vsEq]at h
theorem encL_rows{α:Type}{f:α->Option (List Value)}{R:α->List Value->Prop}(h:∀x c,f x=some c->R x c):∀ {xs:List α}{cs:List Value},encL f xs=some cs->Rows R xs cs
 |[],cs,hc=>by simp[encL]at hc;subst hc;rfl
 |x::xs,cs,hc=>by
  simp only[encL]at hc
  split at hc
  ·rename_i u v hu hv
   simp at hc;subst hc
   exact⟨u,v,rfl,h _ _ hu,encL_rows h hv⟩
  ·cases hc
theorem encD_rep{w:World}{I:Nat->Prop}:∀ {t:Ty}{x:t.den}{cs:List Value},encD t x=some cs->RepD w I t x cs:=by
 intro t
 induction t with
 |int k=>intro x cs h;simp only[encD]at h;split at h
         ·rename_i hk;simp at h;subst h;exact⟨rfl,by simpa[inK]using hk⟩
         ·cases h
 |bool=>intro x cs h;simp[encD]at h;subst h;rfl
 |str=>intro x cs h;simp only[encD]at h;split at h
       ·rename_i hk;simp at h;subst h;exact⟨rfl,hk⟩
       ·cases h
 |unit=>intro x cs h;simp[encD]at h;subst h;rfl
 |pair a b iha ihb=>
  intro x cs h
  simp only[encD]at h
  split at h
  ·rename_i u v hu hv
   simp at h;subst h
   exact⟨u,v,rfl,iha hu,ihb hv⟩
  ·cases h
 |slice e ih=>
  intro x cs h
  simp only[encD]at h
  split at h
  ·rename_i hx
   have hx':x=[]:=by simpa using hx
   subst hx'
   simp at h;subst h
   exact⟨none,0,rfl,by simp,by simp[maxLen],by simp⟩
  ·cases h
 |arr n e ih=>
  intro x cs h
  simp only[encD]at h
  split at h
  ·rename_i hn
   exact⟨hn,encL_rows (R:=RepD w I e) (fun x c h=>ih h) h⟩
  ·cases h
theorem enc_rep{E:Env}:∀ {c:CV}{cs:List Value},c.enc=some cs->CRep E c cs:=by
 intro c
 induction c with
 |int k n=>intro cs h;simp only[CV.enc]at h;split at h
           ·rename_i hk;simp at h;subst h;exact⟨rfl,by simpa[inK]using hk⟩
           ·cases h
 |bool b=>intro cs h;simp[CV.enc]at h;subst h;rfl
 |nil te e=>intro cs h;simp[CV.enc]at h;subst h;rfl
 |pure t x=>intro cs h;exact encD_rep h
 |pair a b iha ihb=>
  intro cs h
  simp only[CV.enc]at h
  split at h
  ·rename_i u v hu hv
   simp at h;subst h
   exact⟨u,v,rfl,iha hu,ihb hv⟩
  ·cases h
 |_=>intros cs h;simp[CV.enc]at h
theorem fold_set(off:Nat):∀(l mid:List Value)(j0:Nat)(pre post:List Value),mid.length=l.length->pre.length=off+j0->
 (l.zipIdx j0).foldl (fun(cs:Array Value)(p:Value×Nat)=>cs.setIfInBounds (off+p.2) p.1) (pre++mid++post).toArray=(pre++l++post).toArray
 |[],mid,j0,pre,post,hm,hp=>by
  have:mid=[]:=List.eq_nil_of_length_eq_zero (by simpa using hm)
  subst this;rfl
 |c::l,[],j0,pre,post,hm,hp=>by simp at hm
 |c::l,m::mid,j0,pre,post,hm,hp=>by
  rw[List.zipIdx_cons,List.foldl_cons]
  have e1:(pre++m::mid++post).toArray.setIfInBounds (off+j0) c=((pre++[c])++mid++post).toArray:=by
   apply Array.ext'
   rw[<-hp]
   simp
  rw[e1,fold_set off l mid (j0+1) (pre++[c]) post (by simpa using hm) (by simp;omega)]
  simp
theorem fill_one{place:Nat->Option (Nat×Nat)}{i off size:Nat}{v:Value}{rest:List (Nat×Value)}{pre mid post:List Value}(hp:place i=some (off,size))(hv:v.cells.size=size)(hm:mid.length=size)(hpre:pre.length=off) :
 Instr.fill place (pre++mid++post).toArray ((i,v)::rest)=Instr.fill place (pre++v.cells.toList++post).toArray rest:=by
 have hf:=fold_set off v.cells.toList mid 0 pre post (by simp;omega) (by omega)
 have e:v.cells.zipIdx.foldl (fun(cs:Array Value)(p:Value×Nat)=>cs.setIfInBounds (off+p.2) p.1) (pre++mid++post).toArray=(pre++v.cells.toList++post).toArray:=by
  rw[<-hf,<-Array.foldl_toList]
  congr 1
  simp
 rw[Instr.fill,hp]
 simp only
 rw[if_neg (by simp;omega)]
 exact congrArg (fun z=>Instr.fill place z rest) e
theorem fill_full(sz:Nat):∀(vs:List Value)(k:Nat)(done rest:List Value),done.length=k*sz->rest.length=vs.length*sz->(∀v∈vs,v.cells.size=sz) ->
 Instr.fill (fun i=>some (i*sz,sz)) (done++rest).toArray ((List.range' k vs.length).zip vs)=some (done++vs.flatMap fun v=>v.cells.toList).toArray
 |[],k,done,rest,hd,hr,_=>by
  have:rest=[]:=List.eq_nil_of_length_eq_zero (by simpa using hr)
  subst this
  simp[Instr.fill]
 |v::vs,k,done,rest,hd,hr,hv=>by
  have hl:rest.length=sz+vs.length*sz:=by rw[hr];simp[Nat.add_mul];omega
  have e:rest=rest.take sz++rest.drop sz:=(List.take_append_drop _ _).symm
  have e1:done++rest=done++rest.take sz++rest.drop sz:=by rw[List.append_assoc,<-e]
  rw[e1,List.length_cons,List.range'_succ,List.zip_cons_cons]
  rw[fill_one (off:=k*sz) (size:=sz) rfl (hv v (by simp)) (by simp;omega) hd]
  rw[fill_full sz vs (k+1) (done++v.cells.toList) (rest.drop sz) (by simp[hd,hv v (by simp),Nat.add_mul]) (by simp;omega) (fun u hu=>hv u (by simp[hu]))]
  simp
theorem fill_part(sz:Nat)(tail:List Value):∀(vs:List Value)(k:Nat)(done rest:List Value),done.length=k*sz->rest.length=vs.length*sz->(∀v∈vs,v.cells.size=sz) ->
 Instr.fill (fun i=>some (i*sz,sz)) (done++rest++tail).toArray ((List.range' k vs.length).zip vs)=some (done++(vs.flatMap fun v=>v.cells.toList)++tail).toArray
 |[],k,done,rest,hd,hr,_=>by
  have:rest=[]:=List.eq_nil_of_length_eq_zero (by simpa using hr)
  subst this
  simp[Instr.fill]
 |v::vs,k,done,rest,hd,hr,hv=>by
  have hl:rest.length=sz+vs.length*sz:=by rw[hr];simp[Nat.add_mul];omega
  have e:rest=rest.take sz++rest.drop sz:=(List.take_append_drop _ _).symm
  have e1:done++rest++tail=done++rest.take sz++(rest.drop sz++tail):=by
   simp only[List.append_assoc]
   rw[<-List.append_assoc (rest.take sz),List.take_append_drop]
  rw[e1,List.length_cons,List.range'_succ,List.zip_cons_cons]
  rw[fill_one (off:=k*sz) (size:=sz) rfl (hv v (by simp)) (by simp;omega) hd]
  have:=fill_part sz tail vs (k+1) (done++v.cells.toList) (rest.drop sz) (by simp[hd,hv v (by simp),Nat.add_mul]) (by simp;omega) (fun u hu=>hv u (by simp[hu]))
  rw[<-List.append_assoc (done++v.cells.toList)]
  rw[this]
  simp
section
variable{P:Program}{sm:Nat->Bool}{summ:Nat->Option Summ}{base:Nat}{E:Env}{S:St}{a:Act}{o:Oper}{iop:IOp}{args:List Opd}{nid:Nat}{out:Out}
theorem snd_alloc(H:HS base E S.hp){t:TypeId}(ho:o.op= .alloc t)(hc:compOp P sm o=some (iop,args))(hact:act summ iop (args.map S.eval) S.look nid=some out)(hf:lookH S.hp nid= .fresh)(hn:nid<=S.hp.length):GenOut P base E S a o out:=by
 simp only[compOp,ho]at hc
 split at hc
 ·rename_i i z hi hz
  split at hc
  ·rename_i zv cs hzv henc
   split at hc
   ·rename_i hk
    simp only[Bool.and_eq_true]at hk
    simp at hc
    obtain⟨rfl,rfl⟩:=hc
    simp[act,aAlloc]at hact
    subst hact
    have hcr:CRep E z zv.cells.toList:=by rw[<-vsEq_eq hk.1];exact enc_rep henc
    obtain⟨hle,H'⟩:=H.newMem hf hn t hcr
    refine⟨.pointer (some ⟨E.w.heap.size,0,none⟩),_,_,?_,.inl rfl,hle,H',VRep_ptr.2 ⟨.inr rfl,?_⟩⟩
    ·unfold execOp
     simp only[ho]
     simp only[Instr.alloc,zeroValue,typeInfo,Sem.run_bind,program,Sem.run,Sem.run_pure,Result.andThen_ok,hi,hzv]
     rfl
    ·simp[Env.newMem,upd_same,poff]
   ·cases hc
  ·cases hc
 ·cases hc
theorem toPH_val{look:Look}:∀ {t:Ty}{c:CV}{x:t.den},toPH look t c=some x->c.isVal=true:=by
 intro t
 induction t with
 |pair a b iha ihb=>
  intro c x h
  cases c<;>simp only[toPH]at h<;>try (first|rfl|(cases h;done))
  split at h
  ·rename_i hy hz
   simp[CV.isVal,iha hy,ihb hz]
  ·cases h
 |_=>
  intros c x h
  cases c<;>simp only[toPH]at h<;>try (first|rfl|(cases h;done))
theorem allPH_rep{look:Look}(L:LRep E base look){I':Nat->Prop}(hI:∀g,E.R g->I' g){e:Ty}:∀ {cs:List CV}{xs:List e.den}{vs:List Value},allPH look e cs=some xs->subsOK look cs=true->Vs E cs vs->(∀c∈cs,∀g,refH E look c g->I' g) ->
 Rows (RepD E.w I' e) xs (vs.flatMap fun v=>v.cells.toList)/\(∀v∈vs,v.cells.size=e.size)/\xs.length=cs.length/\vs.length=cs.length/\(∀b∈cs.flatMap CV.refs,E.live b)
 |[],xs,[],h,_,_,_=>by simp[allPH]at h;subst h;simp[Rows]
 |c::cs,xs,v::vs,h,hs,⟨hv,hvs⟩,hr=>by
  simp only[allPH]at h
  split at h
  ·rename_i x xs' hx hxs
   simp at h;subst h
   simp only[subsOK,List.all_cons,Bool.and_eq_true]at hs
   have hval:=toPH_val hx
   obtain⟨hcr,hcl⟩:=VRep_cells hv hval
   have hrd:=toPH_rep L hI hx hs.1 hcr (hr c (by simp))
   obtain⟨i1,i2,i3,i4,i5⟩:=allPH_rep L hI hxs (by simpa[subsOK]using hs.2) hvs (fun c' hc'=>hr c' (by simp[hc']))
   have hl:=RepD.len _ _ _ hrd
   refine⟨⟨v.cells.toList,_,by simp,hrd,i1⟩,?_,by simp[i3],by simp[i4],?_⟩
   ·intro u hu
    rcases List.mem_cons.1 hu with rfl|hu
    ·simpa using hl
    ·exact i2 u hu
   ·intro b hb
    rw[List.flatMap_cons]at hb
    rcases List.mem_append.1 hb with hb|hb
    ·exact CRep.refs c _ hcr b hb
    ·exact i5 b hb
  ·cases h
theorem length_wrAll(f:Nat->Blk):∀(bs:List Nat){hp:List Blk},(∀x∈bs,x<hp.length)->(wrAll hp (bs.map fun x=>(x,f x))).length=hp.length
 |[],_,_=>rfl
 |x::bs,hp,hl=>by
  have hx:=hl x (by simp)
  have e:(setH hp x (f x)).length=hp.length:=by unfold setH;rw[if_pos hx];simp
  show(wrAll (setH hp x (f x)) _).length=_
  rw[length_wrAll f bs (fun y hy=>by rw[e];exact hl y (by simp[hy])),e]
theorem parts_zip{α β:Type}:∀ {ps:List (α×β)}{is:List α},ps.map (·.1)=is->ps=is.zip (ps.map (·.2))
 |[],_,h=>by subst h;rfl
 |p::ps,_,h=>by
  subst h
  simp only[List.map_cons,List.zip_cons_cons]
  rw[<-parts_zip (ps:=ps) rfl]
theorem range_eq'(n:Nat):List.range n=List.range' 0 n:=by rw[List.range_eq_range']
theorem parts_vals{ρ:Operand->Value}{parts:Array (Nat×Operand)}{n:Nat}(h:parts.toList.map (·.1)=List.range n) :
 (parts.map fun p=>(p.1,ρ p.2)).toList=(List.range' 0 ((parts.toList.map (·.2)).map ρ).length).zip ((parts.toList.map (·.2)).map ρ):=by
 have e:=parts_zip h
 have hl:parts.toList.length=n:=by have:=congrArg List.length h;simpa using this
 rw[Array.toList_map]
 conv=>lhs;rw[e]
 simp only[List.length_map,hl,<-range_eq']
 clear e hl h
 generalize List.range n=is
 generalize parts.toList.map (·.2)=xs
 induction is generalizing xs with
 |nil=>simp
 |cons i is ih=>
  cases xs with
  |nil=>simp
  |cons x xs=>simp[ih]
theorem frz_setup(H:HS base E S.hp){vs:List CV}(hl:∀b∈vs.flatMap CV.refs,E.live b) :
 ∃E',E.le base E'/\HS base E' (wrAll S.hp (frzs S.look vs))/\E'.w=E.w/\E'.μ=E.μ/\E'.σ=E.σ/\E'.live=E.live/\(∀c∈vs,∀g,refH E (lookH S.hp) c g->E'.R g) /\
  (∀n,lookH S.hp n= .fresh->lookH (wrAll S.hp (frzs S.look vs)) n= .fresh)/\(wrAll S.hp (frzs S.look vs)).length=S.hp.length:=by
 obtain⟨E',h1,h2,h3,h4,h5,h6,h7⟩:=HS.frzs (lookH S.hp) (vs.flatMap CV.refs) H (fun _=> .inl rfl) hl
 refine⟨E',h1,h2,h3,h4,h5,h6,fun c hc g⟨b,hb,hg⟩=>h7 g (.inr ⟨b,List.mem_flatMap.2 ⟨c,hc,hb⟩,hg⟩),fun n hn=> ?_,?_⟩
 ·have hnot:n∉vs.flatMap CV.refs:=fun h=>(H.live n).1 (hl n h) hn
  have:=lookH_wrAll (fun b=>(lookH S.hp b).frz) (vs.flatMap CV.refs) (hp:=S.hp) (b:=n) (fun x hx=>lookH_lt ((H.live x).1 (hl x hx))) hnot
  exact this.trans hn
 ·exact length_wrAll (fun b=>(lookH S.hp b).frz) (vs.flatMap CV.refs) (fun x hx=>lookH_lt ((H.live x).1 (hl x hx)))
theorem flat_len{vs:List Value}{sz:Nat}(h:∀v∈vs,v.cells.size=sz):(vs.flatMap fun v=>v.cells.toList).length=vs.length*sz:=by
 induction vs with
 |nil=>simp
 |cons v vs ih=>
  rw[List.flatMap_cons,List.length_append,ih (fun u hu=>h u (by simp[hu]))]
  have:=h v (by simp)
  simp[this,Nat.add_mul];omega
theorem snd_buildArr(H:HS base E S.hp)(hs:SlotsRep E S a){t te:TypeId}{n:Nat}{parts:Array (Nat×Operand)}(ho:o.op= .build t parts)(hu:P.underlying t=some (.array n te))(hc:compOp P sm o=some (iop,args))(hact:act summ iop (args.map S.eval) S.look nid=some out)(hok:out.ok=true):GenOut P base E S a o out:=by
 simp only[compOp,ho,hu]at hc
 split at hc
 ·rename_i hemp
  split at hc
  ·rename_i i z hi hz
   split at hc
   ·rename_i zv cs hzv henc
    split at hc
    ·rename_i hk
     simp only[Bool.and_eq_true]at hk
     simp at hc
     obtain⟨rfl,rfl⟩:=hc
     simp only[act,aMov,List.map_cons,List.map_nil,St.eval,val,Option.some.injEq]at hact
     subst hact
     have hcr:CRep E z zv.cells.toList:=by rw[<-vsEq_eq hk.1];exact enc_rep henc
     have hemp':parts.toList=[]:=by simpa using hemp
     have hpe:parts= #[]:=by apply Array.ext';simpa using hemp'
     refine⟨.agg zv.cells,_,E,?_,.inl rfl,Env.le.refl _ _,H,?_⟩
     ·unfold execOp
      simp only[ho,hpe]
      simp only[Instr.build,zeroValue,typeInfo,program,Sem.run_bind,Sem.run,Sem.run_pure,Result.andThen_ok,hi,hzv,run_underlying hu,run_sizeOf' hk.2.2.2]
      simp[Instr.fill]
     ·have h1:VRep1 E z (.agg zv.cells):=⟨_,hcr,by rw[if_pos hk.2.2.1]⟩
      cases z with
      |tup d=>simp[CV.isVal]at hk
      |_=>exact h1
    ·cases hc
   ·cases hc
  ·cases hc
 split at hc
 ·rename_i u l htu hl
  split at hc
  ·rename_i hk
   simp only[Bool.and_eq_true,decide_eq_true_eq]at hk
   obtain⟨hpar,hel,harr⟩:=hk
   simp at hc
   obtain⟨rfl,rfl⟩:=hc
   have hvs:=opds_rep hs hl
   simp only[act,aBuildArr]at hact
   split at hact
   ·rename_i hlen
    split at hact
    ·rename_i xs hxs
     simp at hact;subst hact
     obtain⟨hhas,hcells⟩:=elemOK_has hel
     have hpre:=allPH_rep (base:=base) (I':=fun _=>True) H.blk (fun _ _=>trivial) hxs hok hvs (fun _ _ _ _=>trivial)
     obtain⟨E',h1,h2,h3,h4,h5,h6,h7,h8,h9⟩:=frz_setup H hpre.2.2.2.2
     obtain⟨i1,i2,i3,i4,_⟩:=allPH_rep (base:=base) (I':=E'.R) H.blk h1.R hxs hok hvs h7
     have hpv:=parts_vals (ρ:=a.eval) hpar
     unfold arrOK at harr
     split at harr
     ·rename_i it hit
      split at harr
      ·rename_i z hz
       have harr':z.cells.size=n*u.size:=by simpa using harr
       have hn:((parts.toList.map (·.2)).map a.eval).length=n:=by rw[i4];exact hlen
       have hfill:=fill_full u.size ((parts.toList.map (·.2)).map a.eval) 0 [] z.cells.toList (by simp) (by rw[hn];simpa using harr') i2
       rw[<-hpv]at hfill
       simp only[List.nil_append,Array.toArray_toList]at hfill
       refine⟨.agg (((parts.toList.map (·.2)).map a.eval).flatMap fun v=>v.cells.toList).toArray,_,E',?_,.inl rfl,h1,h2,?_⟩
       ·rw[h3]
        unfold execOp
        simp only[ho]
        simp only[Instr.build,zeroValue,typeInfo,program,Sem.run_bind,Sem.run,Sem.run_pure,Result.andThen_ok,hit,hz,run_underlying hu,run_sizeOf' hhas,hcells,hfill]
       ·refine⟨_,⟨?_,by rw[h3];exact i1⟩,by simp[CV.isAgg,Ty.agg]⟩
        rw[i3];exact hlen
      ·cases harr
     ·cases harr
    ·cases hact
   ·cases hact
  ·split at hc
   ·rename_i hk
    simp only[Bool.and_eq_true,decide_eq_true_eq]at hk
    obtain⟨⟨hpar,hple⟩,hel,harr⟩:=hk
    simp at hc
    obtain⟨rfl,rfl⟩:=hc
    have hvs:=opds_rep hs hl
    simp only[act,aBuildArrP]at hact
    split at hact
    ·rename_i hlen
     split at hact
     ·rename_i xs hxs
      simp only[Option.some.injEq]at hact;subst hact
      obtain⟨hhas,hcells⟩:=elemOK_has hel
      have hpre:=allPH_rep (base:=base) (I':=fun _=>True) H.blk (fun _ _=>trivial) hxs hok hvs (fun _ _ _ _=>trivial)
      obtain⟨E',h1,h2,h3,h4,h5,h6,h7,h8,h9⟩:=frz_setup H hpre.2.2.2.2
      obtain⟨i1,i2,i3,i4,_⟩:=allPH_rep (base:=base) (I':=E'.R) H.blk h1.R hxs hok hvs h7
      have hpv:=parts_vals (ρ:=a.eval) hpar
      unfold arrZ at harr
      split at harr
      ·rename_i it zs hit hze
       split at harr
       ·rename_i z hz
        have hzr:RepD E'.w E'.R (.arr n u) (List.replicate n u.dflt) z.cells.toList:=by rw[<-vsEq_eq harr];exact encD_rep hze
        have hm:((parts.toList.map (·.2)).map a.eval).length=(List.map S.eval l).length:=i4
        obtain⟨c1,c2,hcc,hc1,_,hc3⟩:=Rows.split (fun x c h=>RepD.len u x c h) (List.map S.eval l).length _ _ hzr.2 (by simpa using hlen)
        have hfill:=fill_part u.size c2 ((parts.toList.map (·.2)).map a.eval) 0 [] c1 (by simp) (by rw[hm];exact hc1) i2
        rw[<-hpv]at hfill
        simp only[List.nil_append,<-hcc,Array.toArray_toList]at hfill
        let V:List Value:=(((parts.toList.map (·.2)).map a.eval).flatMap fun v=>v.cells.toList)++c2
        have hfill:Instr.fill (fun i=>some (i*u.size,u.size)) z.cells (Array.map (fun p=>(p.1,a.eval p.2)) parts).toList=some V.toArray:=hfill
        refine⟨.agg V.toArray,_,E',?_,.inl rfl,h1,h2,?_⟩
        ·rw[h3]
         unfold execOp
         simp only[ho]
         simp only[Instr.build,zeroValue,typeInfo,program,Sem.run_bind,Sem.run,Sem.run_pure,Result.andThen_ok,hit,hz,run_underlying hu,run_sizeOf' hhas,hcells,hfill]
        ·refine⟨V,⟨?_,?_⟩,by simp[CV.isAgg,Ty.agg]⟩
         ·rw[List.length_append,i3,List.length_replicate];omega
         ·refine Rows.app _ _ _ _ (by rw[h3];exact i1) ?_
          rw[List.drop_replicate]at hc3
          exact hc3
       ·cases harr
      ·cases harr
     ·cases hact
    ·cases hact
   ·cases hc
 ·cases hc
theorem snd_buildSl(H:HS base E S.hp)(hs:SlotsRep E S a){t:TypeId}{n:Nat}{parts:Array (Nat×Operand)}(ho:o.op= .buildSlice t n parts)(hc:compOp P sm o=some (iop,args))(hact:act summ iop (args.map S.eval) S.look nid=some out)(hok:out.ok=true)(hf:lookH S.hp nid= .fresh)(hn:nid<=S.hp.length):GenOut P base E S a o out:=by
 simp only[compOp,ho]at hc
 split at hc
 ·rename_i te hu
  split at hc
  ·rename_i u l htu hl
   split at hc
   ·rename_i hk
    simp only[Bool.and_eq_true,decide_eq_true_eq]at hk
    obtain⟨hpar,hel,hsz⟩:=hk
    simp at hc
    obtain⟨rfl,rfl⟩:=hc
    have hvs:=opds_rep hs hl
    simp only[act,aBuildSl]at hact
    split at hact
    ·rename_i hlen
     split at hact
     ·rename_i xs hxs
      simp at hact;subst hact
      obtain⟨hhas,hcells⟩:=elemOK_has hel
      obtain⟨it,z,hit,hz,hzs,his,hpos⟩:=elemOK_spec hel
      have hpre:=allPH_rep (base:=base) (I':=fun _=>True) H.blk (fun _ _=>trivial) hxs hok hvs (fun _ _ _ _=>trivial)
      obtain⟨E',h1,h2,h3,h4,h5,h6,h7,h8,h9⟩:=frz_setup H hpre.2.2.2.2
      obtain⟨i1,i2,i3,i4,_⟩:=allPH_rep (base:=base) (I':=E'.R) H.blk h1.R hxs hok hvs h7
      have hpv:=parts_vals (ρ:=a.eval) hpar
      have hn':((parts.toList.map (·.2)).map a.eval).length=n:=by rw[i4];exact hlen
      have hxn:List.length xs=n:=by rw[i3];exact hlen
      have hfl:=flat_len i2
      rw[hn']at hfl
      have hle:¬n*u.size>2^24:=by omega
      have hnm:n<=maxLen:=by
       have:n<=n*u.size:=Nat.le_mul_of_pos_right n hpos
       simp[maxLen];omega
      let v:Value:= .slice (some ⟨E'.w.heap.size,0,none⟩) n n
      let w':=E'.w.alloc (.cells (((parts.toList.map (·.2)).map a.eval).flatMap fun v=>v.cells.toList).toArray te)
      have hown:w'.ownsRow base te u.size v (List.length xs) (((parts.toList.map (·.2)).map a.eval).flatMap fun v=>v.cells.toList):=by
       rw[hxn]
       refine⟨hfl,.inr ⟨E'.w.heap.size,n,_,rfl,h2.base,heap_alloc_new _ _,Nat.le_refl _,hnm,by simpa using hfl,?_⟩⟩
       exact List.take_of_length_le (by show List.length (List.flatMap _ _)<=_;omega)
      have hb':∀g,g<E'.w.heap.size->w'.heap[g]? =E'.w.heap[g]? :=fun g hg=>Below.heap_alloc _ _ _ hg
      obtain⟨hle',H'⟩:=h2.newVec (n:=nid) (h8 nid hf) (by rw[h9];exact hn) (w':=w') (v:=v) (te:=te) (e:=u) (xs:=xs) ((Below.refl _ _).alloc h2.base _) (fun g hg=>hb' g (h2.imm g hg)) (fun b g hg=>hb' g (h2.held_lt hg))
       (Rows.mono (fun x c=>RepD.mono (w:=E.w) (I:=E'.R) (fun _ h=>h) (fun g hg=>(hb' g (h2.imm g hg.1)).trans (by rw[h3])) u x c) _ _ i1) hown hpos
       (fun g hg=>by
        have hg:g=E'.w.heap.size:=by simpa[v,Value.ownBlock]using hg.symm
        subst hg
        exact⟨fun h=>Nat.lt_irrefl _ (h2.imm _ h),fun b hb=>Nat.lt_irrefl _ (h2.held_lt hb)⟩)
      refine⟨v,_,E'.newVec nid w' v,?_,.inl rfl,h1.trans hle',?_,VRep_whole.2 ⟨.inr rfl,?_,?_⟩⟩
      ·have hfill:∀Z:Array Value,Instr.fill (fun i=>some (i*u.size,u.size)) ((Array.range (n*u.size)).map fun i=>Z[i%Z.size]!) (parts.map fun p=>(p.1,a.eval p.2)).toList=some (((parts.toList.map (·.2)).map a.eval).flatMap fun v=>v.cells.toList).toArray:=by
        intro Z
        have:=fill_full u.size ((parts.toList.map (·.2)).map a.eval) 0 [] ((Array.range (n*u.size)).map fun i=>Z[i%Z.size]!).toList (by simp) (by rw[hn'];simp) i2
        rw[<-hpv]at this
        simpa only[List.nil_append,Array.toArray_toList]using this
       unfold execOp
       simp only[ho]
       simp only[Instr.buildSlice,Sem.run_bind,run_underlying hu,Result.andThen_ok,run_sizeOf' hhas,hcells]
       rw[if_neg hle]
       show _=Result.ok (Next.value (Value.slice (some ⟨E'.w.heap.size,0,none⟩) n n)) (E'.w.alloc _)
       rw[h3]
       split
       ·simp only[Sem.run_bind,Sem.run_pure,Result.andThen_ok,hfill]
        rfl
       ·simp only[zeroValue,typeInfo,program,Sem.run_bind,Sem.run,Sem.run_pure,Result.andThen_ok,hit,hz,hfill]
        rfl
      ·rw[wrAll_append];exact H'
      ·show v=upd E'.σ nid v nid;rw[upd_same]
      ·exact⟨_,_,_,by show upd E'.σ nid v nid=_;rw[upd_same]⟩
     ·cases hact
    ·cases hact
   ·cases hc
  ·cases hc
 ·cases hc
end
end Go.Ev
