/- Part of a typed evaluator of the program's functions, proved sound. No condition. -/
import Derived.Test.YtfbegeikpjdpiaaE7P2
import Derived.ProofKit
import Derived.OpenShut
import Derived.ChangeOld
import Derived.ChangeSlices
import Derived.Deep.Slices
import Derived.Deep.Fields
set_option maxRecDepth 10000
set_option linter.unusedVariables false
set_option linter.unusedSimpArgs false
namespace Go.Ev
open Go Go.RowKit Go.ChangeShapes Go.WideShapes Go.ChangeAt
def Rd(P:Program)(W:World)(t:TypeId)(cs:List Value):Prop:=
 ∃(H:Type)(enc:TypeId×Value->H)(spare:Nat->Bool)(held:Bool)(fuel:Nat)(x:DataW H×List MemPlace),DataW.trod enc P W 0 spare held fuel t cs=some x
section
variable{P:Program}{W:World}{t:TypeId}{cs:List Value}
theorem Rd.of{H:Type}{enc:TypeId×Value->H}{spare:Nat->Bool}{held:Bool}{v:Value}{d:DataW H}{p:List MemPlace}(h:DataW.Trod enc P W 0 spare held t v d p):Rd P W t v.cells.toList:=by
 obtain⟨fuel,hf⟩:=h
 exact⟨H,enc,spare,held,fuel,_,hf⟩
theorem Rd.bool(ht:P.underlying t=some .bool)(h:Rd P W t cs):∃b,cs=[.bool b]:=by
 obtain⟨_,_,_,_,_,_,hf⟩:=h
 obtain⟨b,e,_⟩:=DataW.trod_bool ht hf
 exact⟨b,e⟩
theorem Rd.int{k:IntKind}(ht:P.underlying t=some (.int k))(h:Rd P W t cs):∃n,cs=[.int k n]/\(Lit.int k n).wf=true:=by
 obtain⟨_,_,_,_,_,_,hf⟩:=h
 obtain⟨n,e,_,w⟩:=DataW.trod_int ht hf
 exact⟨n,e,w⟩
theorem Rd.string(ht:P.underlying t=some .string)(h:Rd P W t cs):∃s:ByteArray,cs=[.string s]/\s.size<=maxLen:=by
 obtain⟨_,_,_,_,_,_,hf⟩:=h
 obtain⟨s,e,_,w⟩:=DataW.trod_string ht hf
 exact⟨s,e,w⟩
theorem Rd.struct{fs:Array Field}(ht:P.underlying t=some (.struct fs))(h:Rd P W t cs) :
 cs.length=P.cellsOf t/\∀(i:Nat)(f:Field),fs[i]? =some f->Rd P W f.type ((cs.drop f.offset).take (P.cellsOf f.type)):=by
 obtain⟨_,_,_,_,_,_,hf⟩:=h
 obtain⟨xs,n,_,_,hl,hxl,hi⟩:=DataW.trod_struct ht hf
 refine⟨hl,fun i f hfi=> ?_⟩
 have hlt:i<fs.size:=(Array.getElem?_eq_some_iff.1 hfi).1
 have h2:=hi i f hfi
 rw[List.getElem?_eq_getElem (by omega)]at h2
 exact⟨_,_,_,_,_,_,h2⟩
theorem Rd.array{n:Nat}{e:TypeId}(ht:P.underlying t=some (.array n e))(h:Rd P W t cs) :
 cs.length=P.cellsOf t/\∀i,i<n->Rd P W e ((cs.drop (i*P.cellsOf e)).take (P.cellsOf e)):=by
 obtain⟨_,_,_,_,_,_,hf⟩:=h
 obtain⟨xs,n',_,_,hl,hxl,hi⟩:=DataW.trod_array ht hf
 refine⟨hl,fun i hin=> ?_⟩
 have h2:=hi i hin
 rw[List.getElem?_eq_getElem (by omega)]at h2
 exact⟨_,_,_,_,_,_,h2⟩
theorem Rd.slice{e:TypeId}(ht:P.underlying t=some (.slice e))(h:Rd P W t cs) :
 cs=[.slice none 0 0]\/∃(a:Addr)(len cap:Nat),cs=[.slice (some a) len cap]/\len<=cap/\cap<=maxLen/\
  ∀i,i<len->∃cs',W.cells? 0 (a.add (i*P.cellsOf e)) (P.cellsOf e)=some cs'/\Rd P W e cs':=by
 obtain⟨_,_,_,_,_,_,hf⟩:=h
 rcases DataW.trod_slice ht hf with⟨h0,_⟩|⟨a,len,cap,elems,rest,n,_,rfl,rfl,_,hl,hm,hlen,hel,_⟩
 ·exact .inl h0
 ·refine .inr ⟨a,len,cap,rfl,hl,hm,fun i hi=> ?_⟩
  have h2:=hel i hi
  rw[List.getElem?_eq_getElem (by omega)]at h2
  obtain⟨cs',h3,h4⟩:=Option.bind_eq_some_iff.1 h2
  exact⟨cs',h3,_,_,_,_,_,_,h4⟩
end
theorem mapM_get{α β:Type}{f:α->Option β}:∀ {l:List α}{ys:List β},l.mapM f=some ys->ys.length=l.length/\∀i,i<l.length->(l[i]?).bind f=ys[i]?
 |[],ys,h=>by
  simp at h;subst h;simp
 |x::l,ys,h=>by
  simp only[List.mapM_cons,Option.bind_eq_bind,Option.bind_eq_some_iff,Option.pure_def,Option.some.injEq]at h
  obtain⟨y,hy,zs,hz,rfl⟩:=h
  obtain⟨h1,h2⟩:=mapM_get hz
  refine⟨by simp[h1],fun i hi=> ?_⟩
  cases i with
  |zero=>simpa using hy
  |succ i=>simpa using h2 i (by simpa using hi)
theorem cells_get{w:World}{a:Addr}{n:Nat}{cs:List Value}(h:w.cells? 0 a n=some cs):cs.length=n/\∀i,i<n->w.cell? (a.add i)=cs[i]? :=by
 unfold World.cells? at h
 rw[if_pos (Nat.zero_le _)]at h
 obtain⟨h1,h2⟩:=mapM_get h
 refine⟨by simpa using h1,fun i hi=> ?_⟩
 have:=h2 i (by simpa using hi)
 rw[List.getElem?_range hi]at this
 exact this
def wfD:(t:Ty)->t.den->Prop
 | .int k,x=>(Lit.int k x).wf=true
 | .bool,_=>True
 | .str,x=>strOK x=true
 | .unit,_=>True
 | .pair a b,x=>wfD a x.1/\wfD b x.2
 | .slice e,x=>∀y∈(show List e.den from x),wfD e y
 | .arr n e,x=>(show List e.den from x).length=n/\∀y∈(show List e.den from x),wfD e y
def layFs(P:Program)(f:TypeId->Bool):Nat->List Field->Option Nat
 |o,[]=>some o
 |o,x::xs=>if x.offset==o&&f x.type then layFs P f (o+P.cellsOf x.type) xs else none
def layOK(P:Program):Nat->TypeId->Bool
 |0,_=>false
 |d+1,t=>match P.underlying t with
  |some (.int _)=>true
  |some .bool=>true
  |some .string=>true
  |some (.slice e)=>layOK P d e&&decide (0<P.cellsOf e)
  |some (.array n e)=>layOK P d e&&P.cellsOf t==n*P.cellsOf e
  |some (.struct fs)=>layFs P (layOK P d) 0 fs.toList==some (P.cellsOf t)
  |_=>false
theorem wf_is{k:IntKind}{n:Int}(h:(Lit.int k n).wf=true):k.wrap n=n:=by
 cases k<;>simp[Lit.wf,IntKind.wrap,IntKind.min,IntKind.max,IntKind.signed,IntKind.bits]at h⊢ <;>(try split)<;>omega
section
variable{P:Program}{W:World}
abbrev inW(W:World):Nat->Prop:=fun g=>g<W.heap.size
theorem fs_rep{d:Nat}{cs:List Value}(ih:∀t u cs,tyOf P d t=some u->layOK P d t=true->Rd P W t cs->∃x:u.den,RepD W (inW W) u x cs/\wfD u x):∀(l:List Field)(o:Nat)(u:Ty),
 (∀f∈l,Rd P W f.type ((cs.drop f.offset).take (P.cellsOf f.type)))->layFs P (layOK P d) o l=some cs.length->tyFs (tyOf P d) l=some u->∃x:u.den,RepD W (inW W) u x (cs.drop o)/\wfD u x
 |[],o,u,_,hl,hu=>by
  simp[layFs]at hl;simp[tyFs]at hu
  subst hl hu
  exact⟨(),by simp[RepD],trivial⟩
 |f::l,o,u,hr,hl,hu=>by
  simp only[layFs]at hl
  split at hl
  ·rename_i hc
   simp only[Bool.and_eq_true,beq_iff_eq]at hc
   obtain⟨rfl,hlo⟩:=hc
   simp only[tyFs]at hu
   split at hu
   ·rename_i a b ha hb
    simp at hu;subst hu
    obtain⟨x,hx,wx⟩:=ih _ _ _ ha hlo (hr f (by simp))
    obtain⟨y,hy,wy⟩:=fs_rep ih l _ _ (fun g hg=>hr g (by simp[hg])) hl hb
    refine⟨(x,y),⟨(cs.drop f.offset).take (P.cellsOf f.type),cs.drop (f.offset+P.cellsOf f.type),?_,hx,hy⟩,wx,wy⟩
    rw[<-List.drop_drop,List.take_append_drop]
   ·cases hu
  ·cases hl
theorem rows_rep{u:Ty}{e:TypeId}{n:Nat}{get:Nat->List Value}(h:∀i,i<n->∃x:u.den,RepD W (inW W) u x (get i)/\wfD u x):∃xs:List u.den,xs.length=n/\Rows (RepD W (inW W) u) xs ((List.range n).flatMap get)/\∀y∈xs,wfD u y:=by
 induction n with
 |zero=>exact⟨[],rfl,by simp[Rows],by simp⟩
 |succ n ih=>
  obtain⟨xs,h1,h2,h3⟩:=ih (fun i hi=>h i (by omega))
  obtain⟨x,hx,wx⟩:=h n (by omega)
  refine⟨xs++[x],by simp[h1],?_,?_⟩
  ·rw[List.range_succ,List.flatMap_append]
   exact Rows.app _ _ _ _ h2 ⟨get n,[],by simp,hx,rfl⟩
  ·intro y hy
   rcases List.mem_append.1 hy with hy|hy
   ·exact h3 y hy
   ·simp at hy;subst hy;exact wx
theorem flat_at{n s:Nat}{get:Nat->List Value}(h:∀i,i<n->(get i).length=s):∀j,j<n*s->((List.range n).flatMap get)[j]? =(get (j/s))[j%s]? :=by
 induction n with
 |zero=>intro j hj;simp at hj
 |succ n ih=>
  intro j hj
  have hlen:∀m,m<=n->((List.range m).flatMap get).length=m*s:=by
   intro m
   induction m with
   |zero=>intro _;simp
   |succ m ihm=>intro hm;rw[List.range_succ,List.flatMap_append,List.length_append,ihm (by omega)];simp[h m (by omega),Nat.add_mul]
  rw[List.range_succ,List.flatMap_append]
  rcases Nat.lt_or_ge j (n*s)with hlt|hge
  ·rw[List.getElem?_append_left (by rw[hlen n (Nat.le_refl _)];exact hlt)]
   exact ih (fun i hi=>h i (by omega)) j hlt
  ·rw[List.getElem?_append_right (by rw[hlen n (Nat.le_refl _)];exact hge),hlen n (Nat.le_refl _)]
   have hs:0<s:=by
    rcases Nat.eq_zero_or_pos s with h0|h0
    ·subst h0;simp at hj
    ·exact h0
   have h1:j/s=n:=by
    rw[Nat.div_eq_of_lt_le]<;>simp_all [Nat.add_mul]
   have h2:j%s=j-n*s:=by
    rw[Nat.mod_eq_sub_mul_div,h1,Nat.mul_comm]
   rw[h1,h2];simp
theorem rd_rep:∀(d:Nat)(t:TypeId)(u:Ty)(cs:List Value),tyOf P d t=some u->layOK P d t=true->Rd P W t cs->∃x:u.den,RepD W (inW W) u x cs/\wfD u x
 |0,_,_,_,h,_,_=>by cases h
 |d+1,t,u,cs,h,hl,hr=>by
  simp only[tyOf]at h
  simp only[layOK]at hl
  split at h
  ·rename_i k hu
   simp at h;subst h
   obtain⟨n,rfl,hw⟩:=Rd.int hu hr
   exact⟨n,⟨rfl,wf_is hw⟩,hw⟩
  ·rename_i hu
   simp at h;subst h
   obtain⟨b,rfl⟩:=Rd.bool hu hr
   exact⟨b,rfl,trivial⟩
  ·rename_i hu
   simp at h;subst h
   obtain⟨s,rfl,hs⟩:=Rd.string hu hr
   exact⟨_,⟨by rw[bytes_of],bytes_ok hs⟩,bytes_ok hs⟩
  ·rename_i e hu
   simp only[hu,Bool.and_eq_true,decide_eq_true_eq]at hl
   cases he:tyOf P d e with
   |none=>rw[he]at h;cases h
   |some u'=>
    rw[he]at h
    simp at h;subst h
    rcases Rd.slice hu hr with rfl|⟨a,len,cap,rfl,h1,h2,h3⟩
    ·exact⟨[],⟨none,0,rfl,by simp,by simp[maxLen],by simp⟩,by intro y hy;simp at hy⟩
    ·let get:Nat->List Value:=fun i=>if hi:i<len then Classical.choose (h3 i hi)else []
     have hg:∀i,i<len->W.cells? 0 (a.add (i*P.cellsOf e)) (P.cellsOf e)=some (get i)/\Rd P W e (get i):=by
      intro i hi
      simp only[get,hi,dif_pos]
      exact Classical.choose_spec (h3 i hi)
     obtain⟨xs,g1,g2,g3⟩:=rows_rep (u:=u') (e:=e) (n:=len) (get:=get) (fun i hi=>rd_rep d e u' _ he hl.1 (hg i hi).2)
     refine⟨xs,⟨some a,cap,by rw[g1],by omega,h2,fun h0=> ?_⟩,g3⟩
     have h0:0<len:=by omega
     have hgl:∀i,i<len->(get i).length=P.cellsOf e:=fun i hi=>(cells_get (hg i hi).1).1
     have c0:=(cells_get (hg 0 h0).1).2 0 hl.2
     rw[List.getElem?_eq_getElem (by rw[hgl 0 h0];exact hl.2)]at c0
     have c0:W.cell? a=some ((get 0)[0]'(by rw[hgl 0 h0];exact hl.2)):=by simpa[Addr.add]using c0
     have hs:a.spot=none:=by
      cases hsp:a.spot with
      |none=>rfl
      |some x=>simp[World.cell?,hsp]at c0;split at c0<;>simp at c0
     have hb:a.block<W.heap.size:=by
      rcases Nat.lt_or_ge a.block W.heap.size with hlt|hge
      ·exact hlt
      ·simp[World.cell?,Array.getElem?_eq_none hge]at c0
     obtain⟨b,o,s⟩:=a
     simp only at hs hb
     subst hs
     have hadd:∀o' i,(⟨b,o',none⟩:Addr).add i=⟨b,o'+i,none⟩:=by
      intro o' i
      unfold Addr.add;split
      ·subst_vars;rfl
      ·rfl
     refine⟨b,o,_,rfl,hb,fun j v hj=> ?_,g2⟩
     have hjl:j<len*P.cellsOf e:=by
      have:=(List.getElem?_eq_some_iff.1 hj).1
      have hlen:((List.range len).flatMap get).length=len*P.cellsOf e:=by
       have h4:=hgl 0 h0
       obtain⟨x,hx,_⟩:=rd_rep d e u' _ he hl.1 (hg 0 h0).2
       have h5:=RepD.len u' x _ hx
       rw[Rows.len (fun x c=>RepD.len (w:=W) (I:=inW W) u' x c) xs _ g2,g1,show u'.size=P.cellsOf e by omega]
      omega
     rw[flat_at hgl j hjl]at hj
     have hd:j/P.cellsOf e<len:=Nat.div_lt_of_lt_mul (by rw[Nat.mul_comm];exact hjl)
     have:=(cells_get (hg _ hd).1).2 (j%P.cellsOf e) (Nat.mod_lt _ hl.2)
     rw[hadd,hadd,hj]at this
     rw[<-this]
     congr 2
     have:=Nat.div_add_mod j (P.cellsOf e)
     rw[Nat.mul_comm (j/P.cellsOf e)];omega
  ·rename_i n e hu
   simp only[hu,Bool.and_eq_true,beq_iff_eq]at hl
   cases he:tyOf P d e with
   |none=>rw[he]at h;cases h
   |some u'=>
    rw[he]at h
    simp at h;subst h
    obtain⟨h1,h2⟩:=Rd.array hu hr
    obtain⟨xs,g1,g2,g3⟩:=rows_rep (u:=u') (e:=e) (n:=n) (get:=fun i=>(cs.drop (i*P.cellsOf e)).take (P.cellsOf e)) (fun i hi=>rd_rep d e u' _ he hl.1 (h2 i hi))
    refine⟨xs,⟨g1,?_⟩,g1,g3⟩
    have hcs:(List.range n).flatMap (fun i=>(cs.drop (i*P.cellsOf e)).take (P.cellsOf e))=cs:=by
     have key:∀m,m<=n->(List.range m).flatMap (fun i=>(cs.drop (i*P.cellsOf e)).take (P.cellsOf e))=cs.take (m*P.cellsOf e):=by
      intro m
      induction m with
      |zero=>intro _;simp
      |succ m ih=>
       intro hm
       rw[List.range_succ,List.flatMap_append,ih (by omega),Nat.add_mul,Nat.one_mul,List.take_add]
       simp
     rw[key n (Nat.le_refl _),List.take_of_length_le (by omega)]
    rw[hcs]at g2
    exact g2
  ·rename_i fs hu
   simp only[hu,beq_iff_eq]at hl
   obtain⟨h1,h2⟩:=Rd.struct hu hr
   have:=fs_rep (P:=P) (W:=W) (d:=d) (cs:=cs) (fun t u cs=>rd_rep d t u cs) fs.toList 0 u (fun f hf=>by
    obtain⟨i,hi,rfl⟩:=List.mem_iff_getElem.1 hf
    exact h2 i _ (by simp at hi;simp[hi])) (by rw[h1];exact hl) h
   simpa using this
  ·cases h
theorem arg_rep{H:Type}{enc:TypeId×Value->H}{spare:Nat->Bool}{held:Bool}{base:Nat}{t:TypeId}{u:Ty}{v:Value}{dd:DataW H}{p:List MemPlace}{d:Nat}(ht:tyOf P (d+1) t=some u)(hl:layOK P (d+1) t=true)(hok:Value.okWide P W .any base t v)(h:DataW.Trod enc P W 0 spare held t v dd p) :
 ∃x:u.den,VRep (pureE W (inW W)) (ofP u x) v/\wfD u x:=by
 obtain⟨x,hx,wx⟩:=rd_rep (d+1) t u _ ht hl (Rd.of h)
 refine⟨x,VRep1.up ⟨v.cells.toList,CRep_ofP (E:=pureE W (inW W)) (RepD.mono (fun g h=>⟨h,fun h=>h.elim⟩) (fun _ _=>rfl) u x _ hx),?_⟩ (isVal_tup (isVal_ofP u x)),wx⟩
 rw[isAgg_ofP]
 simp only[tyOf]at ht
 split at ht
 ·rename_i k hu
  simp at ht;subst ht
  obtain⟨n,rfl⟩:=okWide_int hu hok
  simp[Ty.agg,Value.cells]
 ·rename_i hu
  simp at ht;subst ht
  obtain⟨n,rfl⟩:=okWide_bool hu hok
  simp[Ty.agg,Value.cells]
 ·rename_i hu
  simp at ht;subst ht
  obtain⟨n,rfl⟩:=okWide_string hu hok
  simp[Ty.agg,Value.cells]
 ·rename_i e hu
  cases he:tyOf P d e with
  |none=>rw[he]at ht;cases ht
  |some u'=>
   rw[he]at ht;simp at ht;subst ht
   obtain⟨a,n,c,rfl⟩:=okWide_slice hu hok
   simp[Ty.agg,Value.cells]
 ·rename_i n e hu
  cases he:tyOf P d e with
  |none=>rw[he]at ht;cases ht
  |some u'=>
   rw[he]at ht;simp at ht;subst ht
   simp only[Value.okWide,hu]at hok
   obtain⟨cs,rfl,_⟩:=hok
   simp[Ty.agg,Value.cells]
 ·rename_i fs hu
  have hag:u.agg=true:=by
   generalize fs.toList=l at ht
   cases l with
   |nil=>simp[tyFs]at ht;subst ht;rfl
   |cons f l=>
    simp only[tyFs]at ht
    split at ht
    ·simp at ht;subst ht;rfl
    ·cases ht
  obtain⟨cs,rfl,_⟩:=okWide_struct hu hok
  simp[hag,Value.cells]
 ·cases ht
end
end Go.Ev
