/- Part of a typed evaluator of the program's functions, proved sound. No condition. -/
import Derived.Test.YtfbegeikpjdpiaaE7P0
import Derived.DeepKeys
import Derived.Laws.Closers25b
import Derived.Laws.OwnMore
import Derived.Laws.IdiomCopy
import Derived.Laws.BytesArg
set_option maxRecDepth 10000
set_option linter.unusedVariables false
set_option linter.unusedSimpArgs false
namespace Go.Ev
open Go Go.RowKit
def setL(off:Nat):List Value->Nat->Array Value->Array Value:=fun l k cells=>(l.zipIdx k).foldl (fun(cs:Array Value)(p:Value×Nat)=>cs.setIfInBounds (off+p.2) p.1) cells
theorem setL_size(off:Nat):∀(l:List Value)(k:Nat)(cells:Array Value),(setL off l k cells).size=cells.size
 |[],_,_=>rfl
 |v::l,k,cells=>by
  show(setL off l (k+1) (cells.setIfInBounds (off+k) v)).size=_
  rw[setL_size off l (k+1)];simp
theorem setL_get(off:Nat):∀(l:List Value)(k:Nat)(cells:Array Value)(j:Nat),(setL off l k cells)[j]? =if off+k<=j/\j<off+k+l.length/\j<cells.size then l[j-(off+k)]? else cells[j]?
 |[],k,cells,j=>by
  rw[if_neg (by simp;omega)];rfl
 |v::l,k,cells,j=>by
  show(setL off l (k+1) (cells.setIfInBounds (off+k) v))[j]? =_
  rw[setL_get off l (k+1)]
  simp only[Array.size_setIfInBounds,List.length_cons]
  by_cases h1:off+k=j
  ·subst h1
   rw[if_neg (by omega)]
   by_cases h2:off+k<cells.size
   ·rw[if_pos (by omega)];simp[h2]
   ·rw[if_neg (by omega)]
    rw[Array.getElem?_eq_none (by simp;omega),Array.getElem?_eq_none (by omega)]
  ·have e:(cells.setIfInBounds (off+k) v)[j]? =cells[j]? :=by simp[Array.getElem?_setIfInBounds,h1]
   rw[e]
   by_cases h2:off+k<=j/\j<off+k+(l.length+1)/\j<cells.size
   ·rw[if_pos h2,if_pos (by omega)]
    obtain⟨m,hm⟩:∃m,j-(off+k)=m+1:=⟨j-(off+k)-1,by omega⟩
    rw[hm,show j-(off+(k+1))=m by omega];simp
   ·rw[if_neg h2,if_neg (by omega)]
theorem setL_comm{o1 o2:Nat}{l1 l2:List Value}{cells:Array Value}(h:o1+l1.length<=o2\/o2+l2.length<=o1):setL o1 l1 0 (setL o2 l2 0 cells)=setL o2 l2 0 (setL o1 l1 0 cells):=by
 apply Array.ext_getElem?
 intro j
 simp only[setL_get,setL_size,Nat.add_zero]
 by_cases h1:o1<=j/\j<o1+l1.length/\j<cells.size
 ·rw[if_pos h1,if_neg (by omega)];rw[if_pos h1]
 ·rw[if_neg h1]
  by_cases h2:o2<=j/\j<o2+l2.length/\j<cells.size
  ·rw[if_pos h2,if_pos h2]
  ·rw[if_neg h2,if_neg h2,if_neg h1]
theorem fold_setL(off:Nat)(vs cells:Array Value):vs.zipIdx.foldl (fun(cs:Array Value)(p:Value×Nat)=>cs.setIfInBounds (off+p.2) p.1) cells=setL off vs.toList 0 cells:=by
 unfold setL
 rw[<-Array.foldl_toList]
 congr 1
 simp
def Disj(pl:Nat->Option (Nat×Nat)):Prop:=∀i k a b,i≠k->pl i=some a->pl k=some b->a.1+a.2<=b.1\/b.1+b.2<=a.1
theorem fill_swap{pl:Nat->Option (Nat×Nat)}(hd:Disj pl){x y:Nat×Value}(hne:x.1≠y.1)(cells:Array Value)(l:List (Nat×Value)):Instr.fill pl cells (x::y::l)=Instr.fill pl cells (y::x::l):=by
 obtain⟨i,v⟩:=x
 obtain⟨k,u⟩:=y
 simp only[Instr.fill,fold_setL]
 cases hi:pl i with
 |none=>cases hk:pl k with
  |none=>rfl
  |some b=>simp only[ite_self]
 |some a=>cases hk:pl k with
  |none=>simp only[ite_self]
  |some b=>
   have hdj:=hd i k a b hne hi hk
   obtain⟨o1,s1⟩:=a
   obtain⟨o2,s2⟩:=b
   simp only[setL_size]
   by_cases h1:(v.cells.size≠s1||o1+v.cells.size>cells.size)=true
   ·rw[if_pos h1];simp only[h1,if_true,ite_self]
   ·rw[if_neg h1]
    by_cases h2:(u.cells.size≠s2||o2+u.cells.size>cells.size)=true
    ·rw[if_pos h2,if_pos h2]
    ·rw[if_neg h2,if_neg h2,if_neg h1]
     simp at h1 h2
     rw[setL_comm (by simp;omega)]
theorem fill_congr{pl:Nat->Option (Nat×Nat)}{l l':List (Nat×Value)}(h:∀cells,Instr.fill pl cells l=Instr.fill pl cells l')(x:Nat×Value)(cells:Array Value):Instr.fill pl cells (x::l)=Instr.fill pl cells (x::l'):=by
 obtain⟨i,v⟩:=x
 simp only[Instr.fill]
 split
 ·rfl
 ·split
  ·rfl
  ·exact h _
theorem fill_ins{pl:Nat->Option (Nat×Nat)}(hd:Disj pl)(x:Nat×Value):∀(l:List (Nat×Value)),(∀y∈l,x.1≠y.1)->∀cells,Instr.fill pl cells (insP x l)=Instr.fill pl cells (x::l)
 |[],_,_=>rfl
 |y::l,h,cells=>by
  simp only[insP]
  split
  ·rfl
  ·rw[fill_congr (fun cells=>fill_ins hd x l (fun z hz=>h z (by simp[hz])) cells) y cells]
   exact(fill_swap hd (h y (by simp)) cells l).symm
theorem insP_mem{α:Type}{x z:Nat×α}:∀ {l:List (Nat×α)},z∈insP x l↔z=x\/z∈l
 |[]=>by simp[insP]
 |y::l=>by
  simp only[insP]
  split
  ·simp
  ·simp only[List.mem_cons,insP_mem (l:=l)]
   constructor
   ·rintro(h|h|h)<;>simp[h]
   ·rintro(h|h|h)<;>simp[h]
theorem sortP_mem{α:Type}{z:Nat×α}:∀ {l:List (Nat×α)},z∈sortP l↔z∈l
 |[]=>by simp[sortP]
 |x::l=>by simp only[sortP,insP_mem,sortP_mem (l:=l),List.mem_cons]
theorem fill_sort{pl:Nat->Option (Nat×Nat)}(hd:Disj pl):∀(l:List (Nat×Value)),nodupB (l.map (·.1))=true->∀cells,Instr.fill pl cells (sortP l)=Instr.fill pl cells l
 |[],_,_=>rfl
 |x::l,h,cells=>by
  simp only[List.map_cons,nodupB,Bool.and_eq_true,Bool.not_eq_true']at h
  have hx:∀y∈sortP l,x.1≠y.1:=by
   intro y hy e
   have hy':=sortP_mem.1 hy
   have:(l.map (·.1)).contains x.1=true:=by
    rw[List.contains_iff_mem,e];exact List.mem_map_of_mem (f:=(·.1)) hy'
   rw[h.1]at this;cases this
  show Instr.fill pl cells (insP x (sortP l))=_
  rw[fill_ins hd x _ hx]
  exact fill_congr (fun cells=>fill_sort hd l h.2 cells) x cells
theorem insP_map{α β:Type}(f:α->β)(x:Nat×α):∀(l:List (Nat×α)),(insP x l).map (fun p=>(p.1,f p.2))=insP (x.1,f x.2) (l.map fun p=>(p.1,f p.2))
 |[]=>rfl
 |y::l=>by
  simp only[insP,List.map_cons]
  split
  ·rfl
  ·simp only[List.map_cons,insP_map f x l]
theorem sortP_map{α β:Type}(f:α->β):∀(l:List (Nat×α)),(sortP l).map (fun p=>(p.1,f p.2))=sortP (l.map fun p=>(p.1,f p.2))
 |[]=>rfl
 |x::l=>by simp only[sortP,List.map_cons,insP_map,sortP_map f l]
theorem offs_ge{P:Program}:∀ {fs:List Field}{k i:Nat}{f:Field},offsOK P k fs=true->fs[i]? =some f->k<=f.offset
 |[],_,_,_,_,h=>by simp at h
 |g::fs,k,i,f,ho,h=>by
  simp only[offsOK,Bool.and_eq_true,beq_iff_eq]at ho
  cases i with
  |zero=>simp at h;subst h;omega
  |succ i=>
   have:=offs_ge ho.2 (by simpa using h)
   omega
theorem offs_lt{P:Program}:∀ {fs:List Field}{k i j:Nat}{f g:Field},offsOK P k fs=true->fs[i]? =some f->fs[j]? =some g->i<j->f.offset+P.cellsOf f.type<=g.offset
 |[],_,_,_,_,_,_,h,_,_=>by simp at h
 |x::fs,k,i,j,f,g,ho,h1,h2,hij=>by
  simp only[offsOK,Bool.and_eq_true,beq_iff_eq]at ho
  obtain⟨j,rfl⟩:∃m,j=m+1:=⟨j-1,by omega⟩
  cases i with
  |zero=>
   simp at h1;subst h1
   have:=offs_ge ho.2 (by simpa using h2)
   omega
  |succ i=>exact offs_lt ho.2 (by simpa using h1) (by simpa using h2) (by omega)
theorem offs_disj{P:Program}{fs:List Field}(ho:offsOK P 0 fs=true):Disj fun i=>((fs.map fun f=>(f.offset,P.cellsOf f.type)).toArray[i]?):=by
 intro i k a b hne ha hb
 simp only[List.getElem?_toArray,List.getElem?_map,Option.map_eq_some_iff]at ha hb
 obtain⟨f,hf,rfl⟩:=ha
 obtain⟨g,hg,rfl⟩:=hb
 rcases Nat.lt_or_gt_of_ne hne with h|h
 ·exact .inl (offs_lt ho hf hg h)
 ·exact .inr (offs_lt ho hg hf h)
end Go.Ev
namespace Go.Ev
open Go Go.RowKit
section
variable{P:Program}{sm:Nat->Bool}{summ:Nat->Option Summ}{base:Nat}{E:Env}{S:St}{a:Act}{o:Oper}{iop:IOp}{args:List Opd}{nid:Nat}{out:Out}
theorem places_some:∀ {fs:List Field}{k:Nat},offsOK P k fs=true->fs.mapM (fun f=>(P.info? f.type).map fun i=>(f.offset,i.size))=some (fs.map fun f=>(f.offset,P.cellsOf f.type))
 |[],_,_=>by simp
 |f::fs,k,h=>by
  simp only[offsOK,Bool.and_eq_true]at h
  obtain⟨i,hi⟩:=Option.isSome_iff_exists.1 h.1.2
  simp only[List.mapM_cons,Option.bind_eq_bind,Option.pure_def,hi,Option.map_some,Option.bind_some,places_some h.2,List.map_cons,Program.cellsOf,Option.getD_some]
theorem fill_struct{pl:Nat->Option (Nat×Nat)}:∀(fs:List Field)(zs:List (CV×Nat))(j k:Nat)(done cs:List Value)(idx:List Nat)(cvs:List CV)(vs:List Value),
 offsOK P k fs=true->zeroLs P fs=some zs->encLs (zs.map (·.1))=some cs->done.length=k->(∀i f,fs[i]? =some f->pl (j+i)=some (f.offset,P.cellsOf f.type))->Vs E cvs vs->idx.length=cvs.length->buildOK zs j (idx.zip cvs)=true->
 ∃res,Instr.fill pl (done++cs).toArray (idx.zip vs)=some (done++res).toArray/\CRep E (mkBuild zs j (idx.zip cvs)) res
 |[],zs,j,k,done,cs,idx,cvs,vs,_,hz,he,_,_,hvs,hlen,hok=>by
  simp[zeroLs]at hz;subst hz
  simp[encLs,encL]at he;subst he
  have:idx.zip cvs=[]:=by
   cases h:idx.zip cvs with
   |nil=>rfl
   |cons p ps=>rw[h]at hok;simp[buildOK]at hok
  have hi:idx=[]:=by
   cases idx with
   |nil=>rfl
   |cons i is=>cases cvs with|nil=>simp at hlen|cons c cs=>simp at this
  subst hi
  exact⟨[],by simp[Instr.fill],by simp[mkBuild];rfl⟩
 |f::fs,zs,j,k,done,cs,idx,cvs,vs,ho,hz,he,hd,hpl,hvs,hlen,hok=>by
  simp only[zeroLs]at hz
  split at hz
  ·rename_i z zs' hz1 hz2
   split at hz
   ·rename_i hsz
    simp at hz;subst hz
    simp only[encLs,List.map_cons,encL]at he
    split at he
    ·rename_i u v hu hv
     simp at he;subst he
     simp only[offsOK,Bool.and_eq_true,beq_iff_eq]at ho
     have hzr:=enc_rep (E:=E) hu
     have hzl:=CRep.len _ _ hzr
     have hpl0:=hpl 0 f rfl
     have hpl':∀i f',fs[i]? =some f'->pl (j+1+i)=some (f'.offset,P.cellsOf f'.type):=fun i f' h=>by
      have:=hpl (i+1) f' (by simpa using h)
      rw[<-this];congr 1;omega
     match idx,cvs,vs,hvs,hlen with
     |[],[],[],_,_=>
      obtain⟨res,h1,h2⟩:=fill_struct fs zs' (j+1) (k+P.cellsOf f.type) (done++u) v [] [] [] ho.2 hz2 hv (by simp[hd,hzl,hsz.1]) hpl' trivial rfl (by cases zs'<;>rfl)
      refine⟨u++res,?_,?_⟩
      ·simpa using h1
      ·simp only[List.zip_nil_left]at h2⊢
       simp only[mkBuild]
       exact CRep_mkPair hzr h2
     |i::idx,c::cvs,w::vs,⟨hv0,hvs⟩,hlen=>
      simp only[List.zip_cons_cons,buildOK]at hok
      by_cases hij:i=j
      ·subst hij
       rw[if_pos rfl]at hok
       simp only[Bool.and_eq_true,beq_iff_eq]at hok
       obtain⟨hcr,hcl⟩:=VRep_cells hv0 hok.1.2
       obtain⟨res,h1,h2⟩:=fill_struct fs zs' (i+1) (k+P.cellsOf f.type) (done++w.cells.toList) v idx cvs vs ho.2 hz2 hv (by simp[hd,hcl,hok.1.1]) hpl' hvs (by simpa using hlen) hok.2
       refine⟨w.cells.toList++res,?_,?_⟩
       ·have e1:done++(u++v)=done++u++v:=by simp
        rw[e1,List.zip_cons_cons,fill_one (off:=f.offset) (size:=P.cellsOf f.type) (by simpa using hpl0) (by rw[hcl,hok.1.1]) (by rw[hzl,hsz.1]) (by rw[hd,ho.1.1]),h1]
        simp
       ·simp only[List.zip_cons_cons,mkBuild]
        rw[if_pos trivial]
        exact CRep_mkPair hcr h2
      ·rw[if_neg hij]at hok
       obtain⟨res,h1,h2⟩:=fill_struct fs zs' (j+1) (k+P.cellsOf f.type) (done++u) v (i::idx) (c::cvs) (w::vs) ho.2 hz2 hv (by simp[hd,hzl,hsz.1]) hpl' ⟨hv0,hvs⟩ hlen hok
       refine⟨u++res,?_,?_⟩
       ·simpa using h1
       ·simp only[List.zip_cons_cons,mkBuild]at h2⊢
        rw[if_neg hij]
        exact CRep_mkPair hzr h2
    ·cases he
   ·cases hz
  ·cases hz
theorem mkBuild_agg:∀(zs:List (CV×Nat))(j:Nat)(ps:List (Nat×CV)),(mkBuild zs j ps).isAgg=true
 |[],_,_=>rfl
 |z::zs,j,[]=>by simp only[mkBuild,mkPair];split<;>rfl
 |z::zs,j,p::ps=>by
  simp only[mkBuild]
  split<;>(simp only[mkPair];split<;>rfl)
theorem snd_build(hs:SlotsRep E S a){t:TypeId}{fs:Array Field}{parts:Array (Nat×Operand)}(ho:o.op= .build t parts)(hu:P.underlying t=some (.struct fs))(hc:compOp P sm o=some (iop,args))(hact:act summ iop (args.map S.eval) S.look nid=some out):PureOut P E a o out:=by
 simp only[compOp,ho,hu]at hc
 split at hc
 ·rename_i i zs l hi hzs hl
  split at hc
  ·rename_i zv cs hzv henc
   split at hc
   ·rename_i hk
    simp only[Bool.and_eq_true]at hk
    simp at hc
    obtain⟨rfl,rfl⟩:=hc
    have hvs:=opds_rep hs hl
    simp only[act,aBuild]at hact
    split at hact
    ·rename_i hb
     rw[val_inv hact]
     have hpl:=places_some hk.2.1
     obtain⟨res,h1,h2⟩:=fill_struct (E:=E) (P:=P) (pl:=fun i=>((fs.toList.map fun f=>(f.offset,P.cellsOf f.type)).toArray[i]?)) fs.toList zs 0 0 [] cs _ _ _ hk.2.1 hzs henc rfl (fun i f hf=>by
      simp only[Nat.zero_add]
      have:fs[i]? =some f:=by simpa using hf
      simp[this]) hvs hb.1.symm hb.2
     have hz:zv.cells=cs.toArray:=by
      apply Array.ext'
      rw[vsEq_eq hk.1]
     have hvr:VRep1 E (mkBuild zs 0 (((sortP parts.toList).map (·.1)).zip (l.map S.eval))) (.agg res.toArray):=⟨res,h2,by rw[mkBuild_agg];rfl⟩
     refine⟨rfl,.agg res.toArray,?_,?_⟩
     rotate_left
     ·have hag:=mkBuild_agg zs 0 (((sortP parts.toList).map (·.1)).zip (l.map S.eval))
      revert hvr hag
      generalize mkBuild zs 0 (((sortP parts.toList).map (·.1)).zip (l.map S.eval))=m
      intro hvr hag
      cases m with
      |tup d=>cases hag
      |_=>exact hvr
     unfold execOp
     simp only[ho]
     have hb':P.built t (parts.map fun p=>(p.1,a.eval p.2)).toList=some res.toArray:=by
      unfold Program.built
      rw[hi,hu]
      simp only[hzv,hpl]
      have e:sortP (parts.map fun p=>(p.1,a.eval p.2)).toList=((sortP parts.toList).map (·.1)).zip (((sortP parts.toList).map (·.2)).map a.eval):=by
       simp only[Array.toList_map]
       rw[<-sortP_map]
       generalize sortP parts.toList=ps
       induction ps with
       |nil=>rfl
       |cons p ps ih=>simp[ih]
      have hnd:nodupB ((parts.map fun p=>(p.1,a.eval p.2)).toList.map (·.1))=true:=by
       have:(parts.map fun p=>(p.1,a.eval p.2)).toList.map (·.1)=parts.toList.map (·.1):=by simp
       rw[this];exact hk.2.2
      rw[<-fill_sort (offs_disj hk.2.1) _ hnd,e,hz]
      simpa using h1
     have:=run_build (P:=P) E.w t (parts.map fun p=>(p.1,a.eval p.2)) res.toArray hb'
     rw[Sem.run_bind,this];rfl
    ·cases hact
   ·cases hc
  ·cases hc
 ·cases hc
end
end Go.Ev
namespace Go.Ev
open Go Go.RowKit
theorem toPH_slice_flat{look:Look}{e:Ty}{c:CV}{x:List e.den}(h:toPH look (.slice e) c=some x):c.isAgg=false/\∀d,c≠ .tup d:=by
 cases c<;>simp only[toPH]at h<;>try (first|(cases h;done)|(exact⟨rfl,fun d hd=>by cases hd⟩))
 split at h
 ·rename_i ht;subst ht;exact⟨rfl,by simp⟩
 ·cases h
def SrcRep(E:Env)(e:Ty)(ys:List e.den)(v:Value):Prop:=
 ∃ad cp,v= .slice ad ys.length cp/\ys.length<=cp/\cp<=maxLen/\(0<ys.length->∃b off rows,ad=some ⟨b,off,none⟩/\cellsAt E.w b off rows/\Rows (RepD E.w E.R e) ys rows)
theorem SrcRep.of{E:Env}{e:Ty}{ys:List e.den}{v:Value}(h:RepD E.w E.R (.slice e) ys [v]):SrcRep E e ys v:=by
 obtain⟨ad,c,e1,h1,h2,h3⟩:=h
 simp at e1
 refine⟨ad,c,e1,h1,h2,fun h0=> ?_⟩
 obtain⟨b,off,rows,h4,_,h5,h6⟩:=h3 h0
 exact⟨b,off,rows,h4,h5,h6⟩
theorem own_cellsAt{w:World}{base te size n g cap:Nat}{cells:List Value}(ho:w.ownsRow base te size (.slice (some ⟨g,0,none⟩) n cap) n cells):cellsAt w g 0 cells:=fun j u hu=>by
 have:=ho.cells (g:=g) rfl j u hu
 rwa [Addr.add_mid]at this
theorem src_rep{E:Env}{base:Nat}{look:Look}(L:LRep E base look){e:Ty}{c:CV}{x:List e.den}{v:Value}(h:toPH look (.slice e) c=some x)(hs:c.subOK look=true)(hv:VRep E c v):SrcRep E e x v:=by
 have hf:=toPH_slice_flat h
 have hc:=(VRep_one hf.1 hf.2).1 hv
 cases c<;>simp only[toPH]at h<;>try (cases h;done)
 ·simp at h;subst h
  have:v= .slice none 0 0:=by simpa[CRep]using hc
  exact⟨none,0,this,by simp,by simp[maxLen],by simp⟩
 ·split at h
  ·rename_i ht;subst ht;simp at h;subst h;exact SrcRep.of hc
  ·cases h
 ·rename_i b
  obtain⟨_,hv',_⟩:=hc
  have hv':v=E.σ b:=by simpa using hv'
  have hb:=L b
  split at h
  ·rename_i te e' xs hlk
   rw[hlk]at hb
   split at h
   ·rename_i he;subst he;simp at h;subst h
    obtain⟨cells,hr,ho,hpos,hg⟩:=hb
    rcases ho.2 with⟨hv2,hn⟩|⟨g,cap,cur,hv2,hbg,hh,hnc,hcm,hcs,htk⟩
    ·exact⟨none,0,by rw[hv',hv2];simp[hn],by omega,by simp[maxLen],by omega⟩
    ·rw[hv2]at ho
     exact⟨_,cap,hv'.trans hv2,hnc,hcm,fun _=>⟨g,0,cells,rfl,own_cellsAt ho,hr⟩⟩
   ·cases h
  ·rename_i te e' xs hlk
   rw[hlk]at hb
   split at h
   ·rename_i he;subst he;simp at h;subst h
    have hb:RepD E.w E.R (.slice e') xs [E.σ b]:=hb
    rw[hv'];exact SrcRep.of hb
   ·cases h
  ·cases h
 ·rename_i b p sz off len cp
  obtain⟨_,ad,cap,hlc,hcm,_,had,hv'⟩:=hc
  have hv':v= .slice ad len cap:=by simpa using hv'
  have hb:=L b
  split at h
  ·rename_i te e' xs hlk
   rw[hlk]at hb
   split at h
   ·rename_i he;subst he
    split at h
    ·rename_i hsz
     simp at h;subst h
     have hle:off+len<=List.length xs:=by simpa[CV.subOK,hlk]using hs
     have hlen:((xs.drop off).take len).length=len:=by rw[take_take_drop];omega
     refine⟨ad,cap,by rw[hlen];exact hv',by rw[hlen];exact hlc,hcm,fun h0=> ?_⟩
     obtain⟨cells,hrw,ho,hpos,hg⟩:=hb
     rcases ho.2 with⟨hv2,hn⟩|⟨g,cap',cur,hv2,hbg,hh,hnc,hcm',hcs,htk⟩
     ·omega
     ·have hg':g=E.μ b:=hg g (by rw[hv2];rfl)
      obtain⟨l,m,r,em,hl,hm⟩:=Rows.seg (fun y z=>RepD.len e' y z) hrw hle
      refine⟨E.μ b,poff []+off*sz,m,had (by omega),?_,hm⟩
      have:cur.toList=l++m++(r++cur.toList.drop (List.length xs*e'.size)):=by
       have:=List.take_append_drop (List.length xs*e'.size) cur.toList
       rw[htk,em]at this
       exact this.symm.trans (by simp)
      have hc:=cells_seg hh this
      have e0:poff []+off*sz=l.length:=by rw[hl,hsz];exact Nat.zero_add _
      rw[<-hg',e0];exact hc
    ·cases h
   ·cases h
  ·rename_i p _ _ c' hlk
   rw[hlk]at hb
   split at h
   ·rename_i n e' xs hget
    split at h
    ·rename_i he;subst he
     split at h
     ·rename_i hsz
      simp at h;subst h
      simp only[CV.subOK,hlk,hget,Bool.and_eq_true,decide_eq_true_eq]at hs
      obtain⟨cs,te,hh,hcr⟩:=hb
      obtain⟨l,m,r,em,hl,hm⟩:=get_rep hget hs.1 hcr
      obtain⟨hn,hrw⟩:=hm
      obtain⟨l2,m2,r2,em2,hl2,hm2⟩:=Rows.seg (fun y z=>RepD.len e' y z) hrw (off:=off) (len:=len) (by omega)
      have hlen:((xs.drop off).take len).length=len:=by rw[take_take_drop];omega
      refine⟨ad,cap,by rw[hlen];exact hv',by rw[hlen];exact hlc,hcm,fun h0=>⟨E.μ b,poff p+off*sz,m2,had (by omega),?_,hm2⟩⟩
      have:cs.toList=(l++l2)++m2++(r2++r):=by rw[em,em2];simp
      have hc:=cells_seg hh this
      rw[List.length_append,hl,hl2,hsz]at hc;exact hc
     ·cases h
    ·cases h
   ·cases h
  ·cases h
section
variable{P:Program}{sm:Nat->Bool}{summ:Nat->Option Summ}{base:Nat}{E:Env}{S:St}{a:Act}{o:Oper}{iop:IOp}{args:List Opd}{nid:Nat}{out:Out}
theorem grow_own{w:World}{te size n m old:Nat}{z:Value}{olds news:List Value}(hzs:z.cells.size=size)(hlo:olds.length=n*size)(hl:news.length=m*size)(h63:n+m<=maxLen)(hbase:base<=w.heap.size) :
 (w.drew.alloc (.cells (olds.toArray++news.toArray++Builtin.zeroCells z.cells (grownCap w (n+m) old te-(n+m))) te)).ownsRow base te size (.slice (some ⟨w.heap.size,0,none⟩) (n+m) (grownCap w (n+m) old te)) (n+m) (olds++news):=by
 have hge:=grownCap_ge w (n+m) old te
 have hcm:grownCap w (n+m) old te<=maxLen:=grownCap_le_maxLen w (n+m) old te h63
 have hlen:(olds++news).length=(n+m)*size:=by rw[List.length_append,hlo,hl,Nat.add_mul]
 refine⟨hlen,.inr ⟨w.heap.size,_,_,rfl,hbase,heap_alloc_new w.drew _,hge,hcm,?_,?_⟩⟩
 ·simp only[Array.size_append,List.size_toArray,size_zeroCells,hzs,hlo,hl,<-Nat.add_mul]
  congr 1
  omega
 ·simp only[Array.toList_append,List.append_assoc]
  rw[<-List.append_assoc,<-hlen]
  exact List.take_left
theorem append_own(t ty te:TypeId){u:Ty}(hu:P.underlying t=some (.slice te)){i:TypeInfo}{z:Value}(hi:P.info? te=some i)(hz:i.zero=some z)(hzs:z.cells.size=u.size)(his:i.size=u.size)(hpos:0<u.size)
 {v1 v2:Value} {n:Nat} {xs:List Value} (hown:E.w.ownsRow base te u.size v1 n xs) {ys:List u.den} (hs:SrcRep E u ys v2) (hroom:(n+ys.length)*i.bytes<=140737488355328) (h63:n+ys.length<=maxLen) (hbase:base<=E.w.heap.size) :
 ∃v' w' rows,(Builtin.append_ #[t,t] ty #[v1,v2]).run P E.w= .ok v' w'/\w'.ownsRow base te u.size v' (n+ys.length) (xs++rows)/\E.w.grownBy w' v1.ownBlock/\Rows (RepD E.w E.R u) ys rows/\
  ∀g,v'.ownBlock=some g->g=E.w.heap.size\/v1.ownBlock=some g:=by
 obtain⟨ad,cp,rfl,h1,h2,h3⟩:=hs
 by_cases hy:0<ys.length
 ·obtain⟨b,off,rows,rfl,hcell,hr⟩:=h3 hy
  have hl:=Rows.len (fun x c=>RepD.len u x c) ys rows hr
  have hone:=Rows.one ys rows hr
  have hnews:∀j x,rows[j]? =some x->E.w.cell? ((⟨b,off,none⟩:Addr).add j)=some x:=fun j x hx=>by rw[Addr.add_mid];exact hcell j x hx
  have h63':n+ys.length<=9223372036854775807:=by simp only[maxLen]at h63;omega
  rcases hown.2 with⟨rfl,hn⟩|⟨g,cap,cur,rfl,hbg,hh,hnc,hcm,hcs,htk⟩
  ·subst hn
   have hx:xs=[]:=List.eq_nil_of_length_eq_zero (by simpa using hown.1)
   subst hx
   have hrun:=run_append_nil (P:=P) E.w t ty te i z hu hi hz ⟨b,off,none⟩ ys.length cp rows (by rw[his];exact hl) hnews hy (by omega) (by simp only[Nat.zero_add]at hroom;omega)
   have ho:=grow_own (base:=base) (w:=E.w) (te:=te) (size:=u.size) (n:=0) (m:=ys.length) (old:=0) (z:=z) (olds:=[]) (news:=rows) hzs (by simp) hl (by simpa using h63) hbase
   simp only[Nat.zero_add,List.nil_append]at ho⊢
   refine⟨_,_,rows,hrun,?_,⟨rfl,rfl,rfl,by simp,fun k hk _=>Below.heap_alloc E.w.drew _ k hk⟩,hr,fun g hg=> .inl (by simpa[Value.ownBlock]using hg.symm)⟩
   have e:(([]:List Value).toArray++rows.toArray)=rows.toArray:=by simp
   rw[e]at ho
   exact ho
  ·by_cases hro:n+ys.length<=cap
   ·have hfit:n*i.size+rows.length<=cur.size:=by rw[hl,hcs,his,<-Nat.add_mul];exact Nat.mul_le_mul_right _ hro
    have hrun:=run_append_room (P:=P) E.w t ty te i hu hi g n cap cur hh ⟨b,off,none⟩ ys.length cp rows (by rw[his];exact hl) hnews hone hro hfit
    have hlen:(xs++rows).length=(n+ys.length)*u.size:=by rw[List.length_append,hown.1,hl,Nat.add_mul]
    refine⟨_,_,rows,hrun,⟨hlen,.inr ⟨g,cap,_,rfl,hbg,setRow_heap E.w g cur _ te _ hh,hro,hcm,?_,?_⟩⟩,⟨rfl,rfl,rfl,by simp,fun k _ hk=>Go.setRow_other E.w g k _ (fun e=>hk (by simp[Value.ownBlock,e]))⟩,hr,fun g' hg'=> .inr hg'⟩
    ·simp only[List.size_toArray,List.length_append,List.length_take,List.length_drop,Array.length_toList]
     omega
    ·rw[his,htk,<-hlen]
     exact List.take_left
   ·have hrun:=run_append_grow (P:=P) E.w t ty te i z hu hi hz ⟨g,0,none⟩ n cap xs (by rw[his];exact hown.1) (hown.cells (g:=g) rfl) ⟨b,off,none⟩ ys.length cp rows (by rw[his];exact hl) hnews (by omega) (by omega) (growslice_fits (by omega) hroom)
    exact⟨_,_,rows,hrun,grow_own hzs hown.1 hl h63 hbase,⟨rfl,rfl,rfl,by simp,fun k hk _=>Below.heap_alloc E.w.drew _ k hk⟩,hr,fun g' hg'=> .inl (by simpa[Value.ownBlock]using hg'.symm)⟩
 ·have hy0:ys=[]:=by apply List.eq_nil_of_length_eq_zero;omega
  subst hy0
  refine⟨v1,E.w,[],?_,by simpa using hown,⟨rfl,rfl,rfl,Nat.le_refl _,fun _ _ _=>rfl⟩,rfl,fun g hg=> .inr hg⟩
  rcases hown.2 with⟨rfl,hn⟩|⟨g,cap,cur,rfl,hbg,hh,hnc,hcm,hcs,htk⟩
  ·cases ad with
   |none=>simp[Builtin.append_,run_underlying hu,sizeOf,typeInfo,hi,Builtin.lenOf,Builtin.firstCells]
   |some ad=>simp[Builtin.append_,run_underlying hu,sizeOf,typeInfo,hi,Builtin.lenOf,Builtin.firstCells,loadCells,loadCellsFrom]
  ·cases ad with
   |none=>simp[Builtin.append_,run_underlying hu,sizeOf,typeInfo,hi,Builtin.lenOf,Builtin.firstCells,hnc,storeCells]
   |some ad=>simp[Builtin.append_,run_underlying hu,sizeOf,typeInfo,hi,Builtin.lenOf,Builtin.firstCells,loadCells,loadCellsFrom,hnc,storeCells]
theorem grownBy_below{w w':World}{row:Option Nat}(h:w.grownBy w' row)(hr:∀k,row=some k->base<=k)(hb:base<=w.heap.size):Below base w w':=
 ⟨h.os,h.tape,h.output,h.size,fun k hk=>h.block k (by omega) (fun e=>by have:=hr k e.symm;omega)⟩
theorem room_spec{n b:Nat}(h:room n b=true):n*b<=140737488355328/\n<=maxLen:=by
 simp only[room,Bool.and_eq_true,decide_eq_true_eq]at h
 exact⟨h.1,by simp only[maxLen];omega⟩
theorem two_toList{α:Type}{xs:Array α}{x y:α}(h:xs.toList=[x,y]):xs= #[x,y]:=by apply Array.ext';simpa using h
theorem snd_append(H:HS base E S.hp)(hs:SlotsRep E S a){c:Call}(ho:o.op= .call c)(hcl:c.callee= .builtin .append)(hc:compOp P sm o=some (iop,args))(hact:act summ iop (args.map S.eval) S.look nid=some out)(hok:out.ok=true)(hf:lookH S.hp nid= .fresh)(hn:nid<=S.hp.length):GenOut P base E S a o out:=by
 simp only[compOp,ho,hcl]at hc
 split at hc
 ·rename_i t t' hts
  split at hc
  ·rename_i te hu
   split at hc
   ·rename_i u i l htu hi hl
    split at hc
    ·rename_i hk
     simp only[Bool.and_eq_true,decide_eq_true_eq]at hk
     obtain⟨rfl,hel⟩:=hk
     simp at hc
     obtain⟨rfl,rfl⟩:=hc
     have hvs:=opds_rep hs hl
     have hty:=two_toList hts
     obtain⟨it,z,hit,hz,hzs,his,hpos⟩:=elemOK_spec hel
     have:it=i:=by rw[hi]at hit;exact(Option.some.inj hit).symm
     subst this
     simp only[act]at hact
     unfold aAppend at hact
     split at hact
     ·rename_i s src he
      rw[he]at hvs
      obtain⟨v1,v2,e,r1,r2⟩:=Vs2 hvs
      have hargs:c.args.map a.eval= #[v1,v2]:=by
       apply Array.ext';rw[Array.toList_map,e]
      have hex:∀v' w',(Builtin.append_ #[t,t] o.type #[v1,v2]).run P E.w= .ok v' w'->(execOp a.eval o).run P E.w= .ok (.value v') w':=by
       intro v' w' h
       unfold execOp
       simp only[ho,resolve,hcl,invoke,builtin,Sem.run_bind,Sem.run_pure,Result.andThen_ok,hargs,hty,h]
      split at hact
      ·cases hact
      ·rename_i ys hys
       have fin:∀(v':Value)(w':World)(hp1:List Blk)(xs:List u.den)(cells rows:List Value),HS base E hp1->lookH hp1 nid= .fresh->nid<=hp1.length->(Builtin.append_ #[t,t] o.type #[v1,v2]).run P E.w= .ok v' w'->w'.ownsRow base te u.size v' (xs.length+ys.length) (cells++rows) ->
        Rows (RepD E.w E.R u) xs cells->Rows (RepD E.w E.R u) ys rows->Below base E.w w'->(∀g,E.I g->w'.heap[g]? =E.w.heap[g]?)->(∀b g,holdsB E b (lookH hp1 b) g->w'.heap[g]? =E.w.heap[g]?)->(∀g,v'.ownBlock=some g->¬E.I g/\∀b,¬holdsB E b (lookH hp1 b) g) ->
        wrAll S.hp out.wr=setH hp1 nid (.vec te u (xs++ys))->out.v= .whole nid->GenOut P base E S a o out:=by
        intro v' w' hp1 xs cells rows H1 hf1 hn1 hrun hown hr1 hr2 hbel hI hk hv hwr hov
        have hrr:=Rows.app xs ys cells rows hr1 hr2
        have hown':w'.ownsRow base te u.size v' (xs++ys).length (cells++rows):=by rw[List.length_append];exact hown
        obtain⟨hle,H2⟩:=H1.newVec hf1 hn1 hbel hI hk (Rows.mono (fun x c=>RepD.mono (fun _ h=>h) (fun g hg=>hI g hg.1) u x c) _ _ hrr) hown' hpos hv
        refine⟨v',_,_,hex _ _ hrun,.inl rfl,hle,by rw[hwr];exact H2,?_⟩
        rw[hov]
        refine VRep_whole.2 ⟨.inr rfl,?_,?_⟩
        ·show v'=upd E.σ nid v' nid;rw[upd_same]
        ·show ∃a n c,upd E.σ nid v' nid=_
         rw[upd_same]
         rcases hown.2 with⟨h,_⟩|⟨g,cap,cur,h,_⟩
         ·exact⟨_,_,_,h⟩
         ·exact⟨_,_,_,h⟩
       split at hact
       ·
        simp at hact;subst hact
        simp only[Bool.and_eq_true]at hok
        have hsr:=src_rep H.blk hys hok.1 r2
        have hv1:=VRep_nil.1 r1
        have hroom:=room_spec hok.2
        have hym:ys.length<=maxLen:=by obtain⟨_,_,_,h1,h2,_⟩:=hsr;omega
        obtain⟨v',w',rows,hrun,hown,hg,hr,hnew⟩:=append_own (P:=P) (base:=base) (E:=E) t o.type te hu hi hz hzs his hpos (v1:=v1) (n:=0) (xs:=[]) (by rw[hv1];exact World.ownsRow_nil _ _ _ _) hsr (by simpa using hroom.1) (by simpa using hym) H.base
        have hnone:v1.ownBlock=none:=by rw[hv1];rfl
        rw[hnone]at hg hnew
        exact fin v' w' S.hp [] [] rows H hf hn hrun (by simpa using hown) rfl hr (grownBy_below hg (by simp) H.base) (fun g h=>hg.block g (H.imm g h) (by simp)) (fun b g h=>hg.block g (H.held_lt h) (by simp))
         (fun g h=>by
          rcases hnew g h with rfl|h'
          ·exact⟨fun h=>Nat.lt_irrefl _ (H.imm _ h),fun b hb=>Nat.lt_irrefl _ (H.held_lt hb)⟩
          ·cases h') (by simp[wrAll]) rfl
       ·
        rename_i b
        obtain⟨hlb,hv1,_⟩:=VRep_whole.1 r1
        have hbk:=H.blk b
        split at hact
        ·rename_i te' e' xs hlk
         have hlk':lookH S.hp b=_:=hlk
         rw[hlk']at hbk
         split at hact
         ·rename_i hte
          obtain⟨rfl,rfl⟩:=hte
          simp at hact;subst hact
          simp only[Bool.and_eq_true]at hok
          have hsr:=src_rep H.blk hys hok.1 r2
          have hroom:=room_spec hok.2
          obtain⟨cells,hrw,hown0,_,hgμ⟩:=hbk
          have hlt:=lookH_lt ((H.live b).1 hlb)
          obtain⟨v',w',rows,hrun,hown,hg,hr,hnew⟩:=append_own (P:=P) (base:=base) (E:=E) t o.type te' hu hi hz hzs his hpos (v1:=v1) (n:=List.length xs) (xs:=cells) (by rw[hv1];exact hown0) hsr hroom.1 hroom.2 H.base
          have H1:=H.die hlb
          have hne:nid≠b:=fun e=>(H.live b).1 hlb (e▸hf)
          have hlk1:∀x,lookH (setH S.hp b .dead) x=if x=b then .dead else lookH S.hp x:=lookH_set (by omega) .dead
          have hob:∀g,v1.ownBlock=some g->holdsB E b (lookH S.hp b) g:=fun g h=>by rw[hlk'];show(E.σ b).ownBlock=some g;rw[<-hv1];exact h
          have hother:∀x g,holdsB E x (lookH (setH S.hp b .dead) x) g->some g≠v1.ownBlock:=by
           intro x g hx he
           rw[hlk1]at hx
           split at hx
           ·exact hx.elim
           ·rename_i hxb
            exact hxb (H.inj x b g hx (hob g he.symm))
          exact fin v' w' (setH S.hp b .dead) xs cells rows H1 (by rw[hlk1,if_neg hne];exact hf) (by unfold setH;rw[if_pos hlt];simpa using hn) hrun hown hrw hr (grownBy_below hg (fun k hk=>(H.sep b k (hob k hk)).2) H.base)
           (fun g h=>hg.block g (H.imm g h) (fun e=>(H.sep b g (hob g e.symm)).1 h)) (fun x g h=>hg.block g (H1.held_lt h) (hother x g h))
           (fun g h=>by
            rcases hnew g h with rfl|h'
            ·exact⟨fun h=>Nat.lt_irrefl _ (H.imm _ h),fun b hb=>Nat.lt_irrefl _ (H1.held_lt hb)⟩
            ·exact⟨(H.sep b g (hob g h')).1,fun x hx=>hother x g hx h'.symm⟩) (by simp[wrAll]) rfl
         ·cases hact
        ·cases hact
       ·
        rename_i b p sz off len cap
        have hbk:=H.blk b
        split at hact
        ·rename_i c' hlk
         have hlk':lookH S.hp b=_:=hlk
         rw[hlk']at hbk
         split at hact
         ·rename_i n' e' xs hget
          split at hact
          ·rename_i he'
           subst he'
           split at hact
           ·rename_i hsz
            simp at hact;subst hact
            simp only[Bool.and_eq_true,decide_eq_true_eq]at hok
            obtain⟨⟨hsub,hcok⟩,⟨hle,hl0,hy0⟩,hcap,hroom⟩:=hok
            obtain⟨hlb,ad,cp,hlc,hcm,hex2,had,hv1⟩:=VRep_sub.1 r1
            have hcp:=hex2 len hcap
            subst hcp
            have had:=had hl0
            subst had
            have hsr:=src_rep H.blk hys hsub r2
            have hroom:=room_spec hroom
            obtain⟨cs,te',hh,hcr⟩:=hbk
            obtain⟨l1,m1,r1',em,hl1,hm⟩:=get_rep hget hcok hcr
            obtain⟨hxn,hrw⟩:=hm
            obtain⟨l2,m2,r2',em2,hl2,hm2⟩:=Rows.seg (fun y z=>RepD.len e' y z) hrw (off:=off) (len:=cp) (by omega)
            have hlen:((xs.drop off).take cp).length=cp:=by rw[take_take_drop];omega
            have hcells:=cells_seg hh (l:=l1++l2) (m:=m2) (r:=r2'++r1') (by rw[em,em2];simp)
            rw[List.length_append,hl1,hl2,hsz]at hcells
            have hm2l:=Rows.len (fun y z=>RepD.len e' y z) _ _ hm2
            rw[hlen]at hm2l
            obtain⟨ad2,cp2,rfl,_,_,h3⟩:=hsr
            obtain⟨b2,off2,rows,rfl,hcell2,hr⟩:=h3 hy0
            have hl:=Rows.len (fun x c=>RepD.len e' x c) ys rows hr
            have h63:=hroom.2
            have hrun:=run_append_grow (P:=P) E.w t o.type te it z hu hi hz ⟨E.μ b,poff p+off*sz,none⟩ cp cp m2 (by rw[his];exact hm2l) (fun j x hx=>by rw[Addr.add_mid];exact hcells j x hx) ⟨b2,off2,none⟩ (List.length ys) cp2 rows (by rw[his];exact hl) (fun j x hx=>by rw[Addr.add_mid];exact hcell2 j x hx) (by omega) (by simp only[maxLen]at h63;omega) (growslice_fits (by omega) hroom.1)
            have hown:=grow_own (base:=base) (w:=E.w) (te:=te) (n:=cp) (m:=List.length ys) (old:=cp) (olds:=m2) (news:=rows) hzs hm2l hl hroom.2 H.base
            have hal:∀g,g<E.w.heap.size->∀o,(E.w.drew.alloc o).heap[g]? =E.w.heap[g]? :=fun g hg o=>Below.heap_alloc E.w.drew o g hg
            exact fin _ _ S.hp ((xs.drop off).take cp) m2 rows H hf hn (by rw[hv1];exact hrun) (by rw[hlen];exact hown) hm2 hr (((Below.refl _ _).drew).alloc H.base _) (fun g h=>hal g (H.imm g h) _) (fun x g h=>hal g (H.held_lt h) _)
             (fun g h=>by
              have:g=E.w.heap.size:=by simpa[Value.ownBlock]using h.symm
              subst this
              exact⟨fun h=>Nat.lt_irrefl _ (H.imm _ h),fun b hb=>Nat.lt_irrefl _ (H.held_lt hb)⟩) (by simp[wrAll]) rfl
           ·cases hact
          ·cases hact
         ·cases hact
        ·cases hact
       ·cases hact
     ·cases hact
    ·cases hc
   ·cases hc
  ·cases hc
 ·cases hc
end
end Go.Ev
namespace Go.Ev
open Go Go.RowKit
def lits:(t:Ty)->t.den->List Lit
 | .int k,n=>[.int k n]
 | .bool,b=>[.bool b]
 | .str,_=>[]
 | .unit,_=>[]
 | .pair a b,x=>lits a x.1++lits b x.2
 | .arr _ e,x=>(List.map (lits e) x).flatten
 | .slice _,_=>[]
section
variable{P:Program}
theorem eqFs_mem{f:TypeId->Ty->Bool}:∀ {fs:List Field}{o:Nat}{u:Ty},eqFs P f o fs u=true->∀x∈fs,x.name≠ "_" /\∃a,f x.type a=true
 |[],_,_,_,x,h=>by cases h
 |y::fs,o,u,h,x,hx=>by
  cases u<;>simp only[eqFs]at h<;>try (cases h;done)
  simp only[Bool.and_eq_true,bne_iff_ne,ne_eq]at h
  rcases List.mem_cons.1 hx with rfl|hx
  ·exact⟨h.1.2.2,_,h.2.1⟩
  ·exact eqFs_mem h.2.2 x hx
theorem eqTy_key:∀ {d:Nat}{t:TypeId}{u:Ty},eqTy P d t u=true->P.keyTypeAt d t=true
 |0,_,_,h=>by simp[eqTy]at h
 |d+1,t,u,h=>by
  simp only[eqTy]at h
  simp only[Program.keyTypeAt]
  split at h
  ·rename_i hu;rw[hu]
  ·rename_i hu;rw[hu]
  ·rename_i n e hu
   rw[hu]
   split at h
   ·simp only[Bool.and_eq_true]at h
    exact eqTy_key h.2
   ·cases h
  ·rename_i fs hu
   rw[hu]
   simp only[Bool.and_eq_true,Bool.not_eq_true']at h
   simp only[Bool.and_eq_true,Bool.not_eq_true',Array.all_eq_true_iff_forall_mem,bne_iff_ne,ne_eq]
   refine⟨⟨fun x hx=> ?_,h.1.2.1⟩,h.1.2.2⟩
   obtain⟨h1,a,h2⟩:=eqFs_mem h.2 x (by simpa using hx)
   exact⟨h1,eqTy_key h2⟩
  ·cases h
theorem mapM_range{β:Type}{f:Nat->Option β}{g:Nat->β}:∀(l:List Nat),(∀i∈l,f i=some (g i))->l.mapM f=some (l.map g)
 |[],_=>rfl
 |i::l,h=>by
  rw[List.mapM_cons,h i (by simp),mapM_range l (fun j hj=>h j (by simp[hj]))]
  rfl
theorem map_range_getD{α β:Type}(f:α->β)(d:α)(xs:List α):(List.range xs.length).map (fun i=>f (xs.getD i d))=xs.map f:=by
 apply List.ext_getElem
 ·simp
 ·intro i h1 h2
  simp at h1
  simp[h1]
theorem lits_fs{w:World}{I:Nat->Prop}{f:TypeId->Ty->Bool}{d:Nat}(hf:∀t u x cs,f t u=true->RepD w I u x cs->P.keyLits d t cs=some (lits u x)) :
 ∀(fs:List Field)(o:Nat)(u:Ty)(x:u.den)(pre c:List Value),eqFs P f o fs u=true->RepD w I u x c->pre.length=o->
  (fs.mapM fun f=>P.keyLits d f.type (((pre++c).drop f.offset).take (P.cellsOf f.type))).map List.flatten=some (lits u x)
 |[],o,u,x,pre,c,h,hr,hp=>by
  cases u<;>simp only[eqFs]at h<;>first|(cases h;done)|skip
  simp[lits]
 |y::fs,o,u,x,pre,c,h,hr,hp=>by
  cases u<;>simp only[eqFs]at h<;>first|(cases h;done)|skip
  rename_i a b
  simp only[Bool.and_eq_true,beq_iff_eq]at h
  obtain⟨c1,c2,rfl,h1,h2⟩:=hr
  have l1:c1.length=a.size:=RepD.len a x.1 c1 h1
  have ih:=lits_fs hf fs (o+a.size) b x.2 (pre++c1) c2 h.2.2 h2 (by simp[hp,l1])
  have e1:((pre++(c1++c2)).drop y.offset).take (P.cellsOf y.type)=c1:=by
   rw[h.1.1,h.1.2.1,<-hp,List.drop_left,<-l1,List.take_left]
  rw[List.mapM_cons,e1,hf _ _ _ _ h.2.1 h1]
  rw[List.append_assoc]at ih
  cases hm:(fs.mapM fun f=>P.keyLits d f.type (((pre++(c1++c2)).drop f.offset).take (P.cellsOf f.type)))with
  |none=>rw[hm]at ih;cases ih
  |some ls=>
   rw[hm]at ih
   simp only[Option.map_some,Option.some.injEq]at ih
   show some (List.flatten (lits a x.1::ls))=_
   rw[List.flatten_cons,ih]
   rfl
theorem wf_of_wrap{k:IntKind}{n:Int}(h:k.wrap n=n):(Lit.int k n).wf=true:=by
 have:=wrap_within k n
 rw[h]at this
 simp[Lit.wf,this.1,this.2]
theorem keyLits_rep{w:World}{I:Nat->Prop}:∀ {d:Nat}{t:TypeId}{u:Ty}{x:u.den}{cs:List Value},eqTy P d t u=true->RepD w I u x cs->P.keyLits d t cs=some (lits u x)
 |0,_,_,_,_,h,_=>by simp[eqTy]at h
 |d+1,t,u,x,cs,h,hr=>by
  simp only[eqTy]at h
  simp only[Program.keyLits]
  split at h
  ·rename_i k hu
   rw[hu]
   split at h
   ·rename_i k'
    simp at h;subst h
    obtain⟨rfl,hw⟩:=hr
    simp[lits,wf_of_wrap hw]
   ·cases h
  ·rename_i hu
   rw[hu]
   split at h
   ·cases hr
    simp only[lits]
   ·cases h
  ·rename_i n e hu
   rw[hu]
   split at h
   ·rename_i m v
    simp only[Bool.and_eq_true,beq_iff_eq]at h
    obtain⟨⟨rfl,h1,h2⟩,h3⟩:=h
    have hl:cs.length=m*v.size:=RepD.len (.arr m v) x cs hr
    obtain⟨hx,hrows⟩:=hr
    simp only[hl,h1,h2,if_true]
    have hm:((List.range m).mapM fun i=>P.keyLits d e ((cs.drop (i*v.size)).take v.size))=some ((List.range m).map fun i=>lits v (List.getD x i v.dflt)):=by
     refine mapM_range _ fun i hi=> ?_
     have hi':i<List.length x:=by rw[hx];simpa using hi
     obtain⟨c,hc,l,r,e1,e2⟩:=Rows.at_ (fun x c h=>RepD.len v x c h) v.dflt x cs hrows i hi'
     have hcl:=RepD.len v _ c hc
     have:(cs.drop (i*v.size)).take v.size=c:=by
      rw[e1,List.append_assoc,<-e2,List.drop_left,<-hcl,List.take_left]
     rw[this]
     exact keyLits_rep h3 hc
    rw[hm]
    rw[<-hx,map_range_getD (lits v) v.dflt x]
    rfl
   ·cases h
  ·rename_i fs hu
   rw[hu]
   simp only[Bool.and_eq_true,beq_iff_eq,Bool.not_eq_true']at h
   have hl:=RepD.len u x cs hr
   have:=lits_fs (P:=P) (d:=d) (f:=eqTy P d) (fun t u x cs h1 h2=>keyLits_rep h1 h2) fs.toList 0 u x [] cs h.2 hr rfl
   simp only[List.nil_append]at this
   show(if cs.length=P.cellsOf t/\(fs.all fun x=>x.name != "_")=true then Option.map List.flatten (List.mapM (fun f=>P.keyLits d f.type (List.take (P.cellsOf f.type) (List.drop f.offset cs))) fs.toList)else none)=_
   rw[this]
   rw[if_pos]
   refine⟨by rw[hl,h.1.1],?_⟩
   rw[Array.all_eq_true_iff_forall_mem]
   intro y hy
   have:=(eqFs_mem h.2 y (by simpa using hy)).1
   simpa using this
  ·cases h
theorem lits_flat{w:World}{I:Nat->Prop}{e:Ty}(ih:∀ {x:e.den}{cs:List Value},RepD w I e x cs->(lits e x).length=e.size):∀(xs:List e.den)(cs:List Value),Rows (RepD w I e) xs cs->((xs.map (lits e)).flatten).length=xs.length*e.size
 |[],_,_=>by simp
 |x::xs,cs,⟨c1,c2,_,h1,h2⟩=>by
  simp only[List.map_cons,List.flatten_cons,List.length_append,List.length_cons,lits_flat ih xs c2 h2,ih h1,Nat.add_mul]
  omega
theorem lits_len{w:World}{I:Nat->Prop}:∀ {u:Ty}{x:u.den}{cs:List Value},u.comparable=true->RepD w I u x cs->(lits u x).length=u.size:=by
 intro u
 induction u with
 |int k=>intros;rfl
 |bool=>intros;rfl
 |unit=>intros;rfl
 |pair a b iha ihb=>
  intro x cs hc ⟨c1,c2,_,h1,h2⟩
  simp only[Ty.comparable,Bool.and_eq_true]at hc
  simp only[lits,List.length_append,iha hc.1 h1,ihb hc.2 h2,Ty.size]
 |slice e ih=>intro x cs hc;cases hc
 |str=>intro x cs hc;cases hc
 |arr n e ih=>
  intro x cs hc ⟨hx,hr⟩
  have:=lits_flat (fun h=>ih hc h) x cs hr
  simp only[lits,Ty.size]
  rw[this,hx]
theorem list_beq{e:Ty}(ih:∀ {w:World}{I:Nat->Prop}{x y:e.den}{cs ds:List Value},RepD w I e x cs->RepD w I e y ds->(lits e x=lits e y↔e.beq x y=true))(hl:∀ {w:World}{I:Nat->Prop}{x:e.den}{cs:List Value},RepD w I e x cs->(lits e x).length=e.size){w:World}{I:Nat->Prop} :
 ∀(xs ys:List e.den)(cs ds:List Value),Rows (RepD w I e) xs cs->Rows (RepD w I e) ys ds->xs.length=ys.length->((xs.map (lits e)).flatten=(ys.map (lits e)).flatten↔ @BEq.beq (List e.den) (@List.instBEq _ ⟨e.beq⟩) xs ys=true)
 |[],[],_,_,_,_,_=>⟨fun _=>rfl,fun _=>rfl⟩
 |[],_::_,_,_,_,_,h=>by simp at h
 |_::_,[],_,_,_,_,h=>by simp at h
 |x::xs,y::ys,_,_,⟨c1,c2,_,h1,h2⟩,⟨d1,d2,_,g1,g2⟩,h=>by
  have hlen:(lits e x).length=(lits e y).length:=by rw[hl h1,hl g1]
  have r:=list_beq ih hl xs ys c2 d2 h2 g2 (by simpa using h)
  have hb: @BEq.beq (List e.den) (@List.instBEq _ ⟨e.beq⟩) (x::xs) (y::ys)=(e.beq x y&& @BEq.beq (List e.den) (@List.instBEq _ ⟨e.beq⟩) xs ys):=rfl
  rw[hb,Bool.and_eq_true,<-ih h1 g1,<-r]
  simp only[List.map_cons,List.flatten_cons]
  constructor
  ·intro hh
   exact List.append_inj hh hlen
  ·rintro⟨a,b⟩;rw[a,b]
theorem lits_beq{w:World}{I:Nat->Prop}:∀ {u:Ty}{x y:u.den}{cs ds:List Value},u.comparable=true->RepD w I u x cs->RepD w I u y ds->(lits u x=lits u y↔u.beq x y=true):=by
 intro u
 induction u generalizing w I with
 |int k=>
  intro x y cs ds _ _ _
  simp[lits,Ty.beq]
 |bool=>
  intro x y cs ds _ _ _
  simp[lits,Ty.beq]
 |unit=>intro x y cs ds _ _ _;simp[lits,Ty.beq]
 |pair a b iha ihb=>
  intro x y cs ds hc ⟨c1,c2,_,h1,h2⟩ ⟨d1,d2,_,g1,g2⟩
  simp only[Ty.comparable,Bool.and_eq_true]at hc
  simp only[lits,Ty.beq,Bool.and_eq_true]
  rw[<-iha hc.1 h1 g1,<-ihb hc.2 h2 g2]
  constructor
  ·intro hh;exact List.append_inj hh (by rw[lits_len hc.1 h1,lits_len hc.1 g1])
  ·rintro⟨a,b⟩;rw[a,b]
 |slice e ih=>intro x y cs ds hc;cases hc
 |str=>intro x y cs ds hc;cases hc
 |arr n e ih=>
  intro x y cs ds hc ⟨hx,hr⟩ ⟨hy,gr⟩
  simp only[lits,Ty.beq]
  exact list_beq (fun h g=>ih hc h g) (fun h=>lits_len hc h) x y cs ds hr gr (by rw[hx,hy])
theorem toPH_plain{look:Look}{E:Env}:∀ {t:Ty}{c:CV}{x:t.den}{cs:List Value},t.comparable=true->toPH look t c=some x->CRep E c cs->RepD E.w E.R t x cs:=by
 intro t
 induction t with
 |int k=>
  intro c x cs _ h hc
  cases c<;>simp only[toPH]at h<;>try (cases h;done)
  ·split at h
   ·rename_i hk;simp at h;subst h hk;exact hc
   ·cases h
  ·split at h
   ·rename_i ht;subst ht;simp at h;subst h;exact hc
   ·cases h
 |str=>intro c x cs hc;cases hc
 |bool=>
  intro c x cs _ h hc
  cases c<;>simp only[toPH]at h<;>try (cases h;done)
  ·simp at h;subst h;exact hc
  ·split at h
   ·rename_i ht;subst ht;simp at h;subst h;exact hc
   ·cases h
 |unit=>
  intro c x cs _ h hc
  cases c<;>simp only[toPH]at h<;>try (cases h;done)
  ·split at h
   ·rename_i ht;subst ht;exact hc
   ·cases h
 |pair a b iha ihb=>
  intro c x cs hk h hc
  cases c<;>simp only[toPH]at h<;>try (cases h;done)
  ·split at h
   ·rename_i ht;subst ht;simp at h;subst h;exact hc
   ·cases h
  ·simp only[Ty.comparable,Bool.and_eq_true]at hk
   split at h
   ·rename_i y z hy hz
    simp at h;subst h
    obtain⟨c1,c2,e,h1,h2⟩:=hc
    exact⟨c1,c2,e,iha hk.1 hy h1,ihb hk.2 hz h2⟩
   ·cases h
 |slice e ih=>intro c x cs hk;cases hk
 |arr n e ih=>
  intro c x cs _ h hc
  cases c<;>simp only[toPH]at h<;>try (cases h;done)
  split at h
  ·rename_i ht;subst ht;simp at h;subst h;exact hc
  ·cases h
theorem eq_agg{t:TypeId}{u:Ty}(hok:eqOK P t u=true){w:World}{I:Nat->Prop}{x y:u.den}{cs ds:List Value}(hx:RepD w I u x cs)(hy:RepD w I u y ds):(Op.equal t (.agg cs.toArray) (.agg ds.toArray)).run P w= .ok (u.beq x y) w:=by
 simp only[eqOK,Bool.and_eq_true]at hok
 obtain⟨⟨hag,haT,hcmp⟩,hty,_⟩:=hok
 have fm:∀ {z:u.den}{es:List Value},RepD w I u z es->(Value.agg es.toArray).formed P t=true:=by
  intro z es hz
  have hl:=RepD.len u z es hz
  unfold isAggT at haT
  simp only[eqTy]at hty
  have hcell:P.cellsOf t=u.size:=by
   split at hty
   ·rename_i hu;rw[hu]at haT;cases haT
   ·rename_i hu;rw[hu]at haT;cases haT
   ·split at hty
    ·simp only[Bool.and_eq_true,beq_iff_eq]at hty
     rw[hty.1.2.2,hty.1.1,Ty.size]
    ·cases hty
   ·simp only[Bool.and_eq_true,beq_iff_eq]at hty
    exact hty.1.1
   ·cases hty
  unfold Value.formed
  simp only
  split at haT
  ·rename_i hu;rw[hu];simp[hl,hcell]
  ·rename_i hu;rw[hu];simp[hl,hcell]
  ·cases haT
 obtain⟨r,hr,hiff⟩:=run_equalIn_deep (P:=P) (10000-D) D t (eqTy_key hty) w D D _ _ (lits u x) (lits u y) (fm hx) (fm hy) (by simpa[Value.cells]using keyLits_rep hty hx) (by simpa[Value.cells]using keyLits_rep hty hy)
 have e:r=u.beq x y:=by
  rw[lits_beq hcmp hx hy]at hiff
  cases r<;>cases hb:u.beq x y<;>simp_all
 rw[<-e]
 exact hr
theorem eql_agg{t:TypeId}{u:Ty}(hok:eqOK P t u=true){w:World}{I:Nat->Prop}{x y:u.den}{cs ds:List Value}(hx:RepD w I u x cs)(hy:RepD w I u y ds):(binOp .eql t (.agg cs.toArray) (.agg ds.toArray)).run P w= .ok (.bool (u.beq x y)) w:=by
 show(do pure (Value.bool (<-Op.equal t (.agg cs.toArray) (.agg ds.toArray))):Sem Value).run P w=_
 rw[Sem.run_bind,eq_agg hok hx hy];rfl
theorem neq_agg{t:TypeId}{u:Ty}(hok:eqOK P t u=true){w:World}{I:Nat->Prop}{x y:u.den}{cs ds:List Value}(hx:RepD w I u x cs)(hy:RepD w I u y ds):(binOp .neq t (.agg cs.toArray) (.agg ds.toArray)).run P w= .ok (.bool (!(u.beq x y))) w:=by
 show(do pure (Value.bool (!(<-Op.equal t (.agg cs.toArray) (.agg ds.toArray)))):Sem Value).run P w=_
 rw[Sem.run_bind,eq_agg hok hx hy];rfl
end
end Go.Ev
namespace Go.Ev
open Go Go.RowKit
section
variable{P:Program}{sm:Nat->Bool}{summ:Nat->Option Summ}{base:Nat}{E:Env}{S:St}{a:Act}{o:Oper}{iop:IOp}{args:List Opd}{nid:Nat}{out:Out}
theorem rows_made{w:World}{I:Nat->Prop}{u:Ty}{z:Array Value}(hz:RepD w I u u.dflt z.toList):∀n:Nat,Rows (RepD w I u) (List.replicate n u.dflt) (madeCells z (n*z.size)).toList
 |0=>by simp[madeCells,Rows]
 |n+1=>by
  have e:(madeCells z ((n+1)*z.size)).toList=z.toList++(madeCells z (n*z.size)).toList:=by
   rw[show(n+1)*z.size=z.size+n*z.size by rw[Nat.add_mul];omega]
   simp only[madeCells,Array.toList_map,Array.toList_range,List.range_add,List.map_append,List.map_map]
   congr 1
   ·apply List.ext_getElem
    ·simp
    ·intro i h1 h2
     have:i<z.size:=by simpa using h2
     simp[Nat.mod_eq_of_lt this,this]
   ·apply List.map_congr_left
    intro i _
    simp only[Function.comp_apply,Nat.add_mod_left]
  rw[e,List.replicate_succ]
  exact⟨_,_,rfl,hz,rows_made hz n⟩
theorem snd_mkSlice(H:HS base E S.hp)(hs:SlotsRep E S a){t:TypeId}{x y:Operand}(ho:o.op= .makeSlice t x y)(hc:compOp P sm o=some (iop,args))(hact:act summ iop (args.map S.eval) S.look nid=some out)(hok:out.ok=true)(hf:lookH S.hp nid= .fresh)(hn:nid<=S.hp.length):GenOut P base E S a o out:=by
 simp only[compOp,ho]at hc
 split at hc
 ·rename_i te hu
  split at hc
  ·rename_i u i l htu hi hl
   split at hc
   ·rename_i hk
    simp only[Bool.and_eq_true]at hk
    obtain⟨hel,hdf⟩:=hk
    simp at hc
    obtain⟨rfl,rfl⟩:=hc
    have hvs:=opds_rep hs hl
    simp only[act]at hact
    unfold aMkSlice at hact
    split at hact
    ·rename_i k1 n k2 c he
     rw[he]at hvs
     obtain⟨v1,v2,e,r1,r2⟩:=Vs2 hvs
     simp at e
     simp at hact;subst hact
     simp only[Bool.and_eq_true,beq_iff_eq,decide_eq_true_eq]at hok
     obtain⟨h0,rfl,hroom⟩:=hok
     obtain⟨m,rfl⟩:=Int.eq_ofNat_of_zero_le h0
     have hr:=room_spec hroom
     simp only[Int.toNat_natCast]at hr
     obtain⟨it,z,hit,hz,hzs,his,hpos⟩:=elemOK_spec hel
     have:it=i:=by rw[hi]at hit;exact(Option.some.inj hit).symm
     subst this
     have hzr:RepD E.w E.R u u.dflt z.cells.toList:=by
      unfold dfltOK at hdf
      split at hdf
      ·rename_i i' cs hi' hcs
       rw[hi]at hi'
       obtain rfl:=Option.some.inj hi'
       rw[hz]at hdf
       have:=vsEq_eq hdf
       rw[<-this]
       exact encD_rep hcs
      ·cases hdf
     obtain⟨w',hrun,hown,hgr⟩:=run_make_full (P:=P) E.w base t te it z u.size hu hi hz his k1 k2 m (by rw[Nat.mul_comm];omega) hr.2 H.base
     have hrows:=rows_made hzr m
     rw[hzs]at hrows
     have hb':∀g,g<E.w.heap.size->w'.heap[g]? =E.w.heap[g]? :=fun g hg=>hgr.block g hg (by simp)
     obtain⟨hle,H2⟩:=H.newVec (te:=te) (xs:=List.replicate m u.dflt) hf hn ((Below.refl _ _).grown hgr H.base (by simp)) (fun g hg=>hb' g (H.imm g hg)) (fun b g hg=>hb' g (H.held_lt hg))
      (Rows.mono (fun x c=>RepD.mono (w:=E.w) (I:=E.R) (fun _ h=>h) (fun g hg=>hb' g (H.imm g hg.1)) u x c) _ _ hrows) (by simpa using hown) hpos
      (fun g hg=>by
       have hg:g=E.w.heap.size:=by simpa[Value.ownBlock]using hg.symm
       subst hg
       exact⟨fun h=>Nat.lt_irrefl _ (H.imm _ h),fun b hb=>Nat.lt_irrefl _ (H.held_lt hb)⟩)
     refine⟨.slice (some ⟨E.w.heap.size,0,none⟩) m m,_,_,?_,.inl rfl,hle,by simpa[wrAll]using H2,VRep_whole.2 ⟨.inr rfl,?_,?_⟩⟩
     ·unfold execOp
      simp only[ho]
      rw[e.1,e.2,(VRep_int.1 r1).1,(VRep_int.1 r2).1]
      simp only[Sem.run_bind,hrun,Result.andThen_ok]
      rfl
     ·show _=upd E.σ nid _ nid;rw[upd_same]
     ·exact⟨_,_,_,by show upd E.σ nid _ nid=_;rw[upd_same]⟩
    ·cases hact
   ·cases hc
  ·cases hc
 ·cases hc
theorem snd_index(hs:SlotsRep E S a){t:TypeId}{x i:Operand}(ho:o.op= .index t x i)(hc:compOp P sm o=some (iop,args))(hact:act summ iop (args.map S.eval) S.look nid=some out)(hok:out.ok=true):PureOut P E a o out:=by
 simp only[compOp,ho]at hc
 split at hc
 ·rename_i hu
  obtain⟨l,h1,h2⟩:=map_some hc
  simp at h2
  obtain⟨rfl,rfl⟩:=h2
  have hvs:=opds_rep hs h1
  simp only[act]at hact
  unfold aIdxStr at hact
  split at hact
  ·rename_i y k j he
   rw[he]at hvs
   obtain⟨v1,v2,e,r1,r2⟩:=Vs2 hvs
   simp at e
   simp only[Option.some.injEq]at hact;subst hact
   have hb:=inB_spec hok
   obtain⟨m,rfl⟩:=Int.eq_ofNat_of_zero_le hb.1
   obtain⟨hv1,hv3⟩:=VRep_str.1 r1
   have hm:m<List.length y:=by have:=hb.2;omega
   unfold strOK at hv3
   simp only[Bool.and_eq_true,List.all_eq_true,decide_eq_true_eq]at hv3
   have hym:=hv3.1 (y[m]) (List.getElem_mem hm)
   have hgd:List.getD y m (0:Int)=y[m]:=by simp[List.getD_eq_getElem?_getD,hm]
   refine⟨rfl,.int .u8 y[m],?_,?_⟩
   ·unfold execOp
    simp only[ho]
    rw[e.1,e.2,(VRep_int.1 r2).1,hv1]
    have hs1:(bytesOf y)[m]? =some (UInt8.ofNat (y[m]).toNat):=by
     have hsz:m<(bytesOf y).size:=by simpa[bytesOf,ByteArray.size]using hm
     rw[getElem?_pos (bytesOf y) m hsz]
     simp[bytesOf,ByteArray.getElem_eq_getElem_data]
    simp only[Instr.index,asIntOf,Sem.run_bind,Sem.run_pure,Result.andThen_ok,run_underlying hu,Int.toNat_natCast,Int.natCast_nonneg,if_true,hs1]
    have:((UInt8.ofNat (y[m]).toNat).toNat:Int)=y[m]:=by
     rw[UInt8.toNat_ofNat']
     omega
    rw[this]
   ·rw[Int.toNat_natCast]
    show VRep E (.int .u8 (List.getD y m (0:Int))) _
    rw[hgd]
    refine VRep_int.2 ⟨rfl,?_⟩
    simp[IntKind.wrap,IntKind.bits,IntKind.signed];omega
  ·cases hact
 ·rename_i n te hu
  split at hc
  ·rename_i u htu
   split at hc
   ·rename_i hk
    simp only[Bool.and_eq_true,beq_iff_eq]at hk
    obtain⟨hel,hag,hus⟩:=hk
    obtain⟨l,h1,h2⟩:=map_some hc
    simp at h2
    obtain⟨rfl,rfl⟩:=h2
    have hvs:=opds_rep hs h1
    obtain⟨hhas,hcells⟩:=elemOK_has hel
    simp only[act]at hact
    unfold aIndex at hact
    split at hact
    ·rename_i cx k j he
     rw[he]at hvs
     obtain⟨v1,v2,e,r1,r2⟩:=Vs2 hvs
     simp at e
     split at hact
     ·rename_i xs hxs
      simp at hact;subst hact
      have hb:=inB_spec hok
      obtain⟨m,rfl⟩:=Int.eq_ofNat_of_zero_le hb.1
      cases cx<;>simp only[toPH]at hxs<;>try (cases hxs;done)
      split at hxs
      ·rename_i ht
       subst ht
       simp at hxs;subst hxs
       obtain⟨cs,hcr,hv⟩:=r1
       simp only[CV.isAgg,Ty.agg,if_true]at hv
       obtain⟨hlen,hrows⟩:=hcr
       obtain⟨c,hcc,l,r,e1,e2⟩:=Rows.at_ (fun x c h=>RepD.len u x c h) u.dflt _ _ hrows m (by rw[hlen];omega)
       have hcl:=RepD.len u _ c hcc
       have hfo:=CRep_ofP hcc
       refine⟨rfl,_,?_,VRep_of hfo (isVal_tup (isVal_ofP _ _))⟩
       unfold execOp
       simp only[ho]
       rw[e.1,e.2,(VRep_int.1 r2).1,hv]
       have hm:(0:Int)<=(m:Int)/\(m:Int)<n:=by omega
       have hp:=part_run (P:=P) E.w (t:=te) e1 (by rw[hcl,hcells]) hhas hus (fun h=>by rw[hcl];have:=csize_one (c:=ofP u u.dflt) (by rw[isAgg_ofP,<-hag];exact h) (isVal_tup (isVal_ofP _ _));rwa [csize_ofP]at this)
       rw[e2]at hp
       simp only[Instr.index,asIntOf,Sem.run_bind,Sem.run_pure,Result.andThen_ok,run_underlying hu,if_pos hm,run_sizeOf' hhas,hcells,Int.toNat_natCast,hp,isAgg_ofP,hag]
      ·cases hxs
     ·cases hact
    ·cases hact
   ·cases hc
  ·cases hc
 ·cases hc
theorem HS.same{base:Nat}{E:Env}{hp:List Blk}(H:HS base E hp){b:Nat}{k:Blk}(h:lookH hp b=k)(hk:k≠ .fresh):HS base E (setH hp b k):=by
 have hb:b<hp.length:=by
  rcases Nat.lt_or_ge b hp.length with c|c
  ·exact c
  ·unfold lookH at h
   rw[List.getD_eq_getElem?_getD,List.getElem?_eq_none c]at h
   exact absurd h.symm hk
 have e:setH hp b k=hp:=by
  unfold setH
  rw[if_pos hb,<-h]
  unfold lookH
  rw[List.getD_eq_getElem?_getD,List.getElem?_eq_getElem hb]
  exact List.set_getElem_self hb
 rw[e];exact H
theorem copy_vec(H:HS base E S.hp){t t' to te:TypeId}{it:TypeInfo}{e:Ty}{b te0:Nat}{xs ys:List e.den}{off len c1 cp:Nat}{ad1 ad:Option Addr}(hbk:lookH S.hp b= .vec te0 e xs)(hu:P.underlying t=some (.slice te))(hit:P.info? te=some it)(his:it.size=e.size)(hsz1:e.size=1)
 (q4:0<len->ad1=some ⟨E.μ b,off,none⟩) (hfit:off+len<=List.length xs)
 (s3:0<List.length ys->∃b' off' rows,ad=some ⟨b',off',none⟩/\cellsAt E.w b' off' rows/\Rows (RepD E.w E.R e) ys rows) :
 ∃w',(Builtin.copy_ #[t,t'] to #[.slice ad1 len c1,.slice ad (List.length ys) cp]).run P E.w= .ok (goInt (Nat.min (List.length ys) len)) w'/\E.le base {E with w:=w'}/\HS base {E with w:=w'} (setH S.hp b (.vec te0 e (over xs off (List.take len ys)))):=by
 have hB0:=H.blk b
 rw[hbk]at hB0
 obtain⟨cells,hrows,hown,hpz,hgo⟩:=hB0
 have hR:∀(x:e.den)(c:List Value),RepD E.w E.R e x c->c.length=1:=fun x c h=>by rw[RepD.len e x c h,hsz1]
 have hKl:Nat.min (List.length ys) len<=List.length ys:=Nat.min_le_left _ _
 have hKl2:Nat.min (List.length ys) len<=len:=Nat.min_le_right _ _
 have htk:List.take len ys=List.take (Nat.min (List.length ys) len) ys:=by
  by_cases h:List.length ys<=len
  ·rw[show Nat.min (List.length ys) len=List.length ys from Nat.min_eq_left h,List.take_of_length_le h,List.take_length]
  ·rw[show Nat.min (List.length ys) len=len from Nat.min_eq_right (by omega)]
 generalize hK:Nat.min (List.length ys) len=K at *
 obtain⟨rw1,hrw1,hrwl,hsrc⟩:∃rw1,Rows (RepD E.w E.R e) (List.take len ys) rw1/\rw1.length=K/\(0<K->∃b' off',ad=some ⟨b',off',none⟩/\∀(j:Nat)(v:Value),rw1[j]? =some v->E.w.cell? ⟨b',off'+j,none⟩=some v):=by
  by_cases h0:0<K
  ·obtain⟨b',off',rows,rfl,g1,g2⟩:=s3 (by omega)
   obtain⟨d1,d2,rfl,f1,f2,_⟩:=Rows.split hR K ys rows g2 hKl
   refine⟨d1,by rw[htk];exact f2,by omega,fun _=>⟨b',off',rfl,fun j v hv=>g1 j v ?_⟩⟩
   rw[List.getElem?_append_left]
   ·exact hv
   ·exact(List.getElem?_eq_some_iff.1 hv).1
  ·have:K=0:=by omega
   subst this
   exact⟨[],by rw[htk];simp[Rows],rfl,fun h=>absurd h (by omega)⟩
 rcases hown.2 with⟨_,hn⟩|⟨g,cap',cur,hv',hbg,hh,hnc,hcm',hcs,htk2⟩
 ·have hx:xs=[]:=List.eq_nil_of_length_eq_zero hn
  subst hx
  have k0:K=0:=by simp at hfit;omega
  subst k0
  refine⟨E.w,run_copy_none E.w t t' to te ad1 ad len c1 (List.length ys) cp hu (by rw[hit];simp[his,hsz1]) hK,Env.le.refl base E,?_⟩
  have l0:len=0:=by simp at hfit;omega
  have e:over ([]:List e.den) off (List.take len ys)=[]:=by rw[l0];simp[over]
  rw[e]
  exact H.same hbk (by simp)
 have hg':g=E.μ b:=hgo g (by rw[hv'];rfl)
 subst hg'
 have hcl:cells.length=List.length xs:=by rw[hown.1,hsz1,Nat.mul_one]
 obtain⟨m1,m23,e1,f1,f2,f3⟩:=Rows.split hR off xs cells hrows (by omega)
 obtain⟨m2,m3,e2,f4,_,f6⟩:=Rows.split hR K (List.drop off xs) m23 f3 (by rw[List.length_drop];omega)
 have hyl:(List.take len ys).length=K:=by rw[htk,List.length_take];omega
 have hover:over xs off (List.take len ys)=List.take off xs++List.take len ys++(List.drop off xs).drop K:=by
  simp only[over,hyl,List.drop_drop]
 have hol:List.length (over xs off (List.take len ys))=List.length xs:=by rw[hover];simp[hyl];omega
 have hnew:Rows (RepD E.w E.R e) (over xs off (List.take len ys)) (m1++rw1++m3):=by
  rw[hover];exact Rows.app _ _ _ _ (Rows.app _ _ _ _ f2 hrw1) f6
 have hcl1:=congrArg List.length e1
 have hcl2:=congrArg List.length e2
 simp at hcl1 hcl2
 have hcur:cur.toList=m1++(m2++(m3++cur.toList.drop (List.length xs))):=by
  have:=List.take_append_drop (List.length xs) cur.toList
  rw[hsz1,Nat.mul_one]at htk2
  rw[htk2,e1,e2]at this
  exact this.symm.trans (by simp)
 have hcsz:cur.toList.length=cap':=by simp[hcs,hsz1]
 generalize hrest:cur.toList.drop (List.length xs)=rest at hcur
 have hrl:rest.length=cap'-List.length xs:=by rw[<-hrest];simp[hcs,hsz1]
 have hnewc:(m1++rw1++(m3++rest)).toArray=(cur.toList.take off++rw1++cur.toList.drop (off+rw1.length)).toArray:=by
  congr 1
  have t2:m1.length=off:=by omega
  rw[hcur,<-t2,List.take_left,<-List.drop_drop,List.drop_left]
  rw[hrwl,show K=m2.length by omega,List.drop_left]
 have hr:(Builtin.copy_ #[t,t'] to #[.slice ad1 len c1,.slice ad (List.length ys) cp]).run P E.w= .ok (goInt K) (E.w.setRow (E.μ b) (m1++rw1++(m3++rest)).toArray):=by
  by_cases h0:0<K
  ·obtain⟨b',off',rfl,hcell⟩:=hsrc h0
   have hsl:=q4 (by omega)
   subst hsl
   have:=run_copy_row P E.w t t' to te (E.μ b) off len c1 ⟨b',off',none⟩ (List.length ys) cp cur te0 rw1 hu (by rw[hit];simp[his,hsz1]) hh (by rw[hrwl,<-hK]) (fun j v hj=>by rw[Addr.add_mid];exact hcell j v hj) (by simp at hcsz;omega) (fun v hv=>Rows.one _ _ hrw1 v hv)
   rw[this,hrwl,hnewc,hrwl]
  ·have:K=0:=by omega
   subst this
   have hr0:rw1=[]:=List.eq_nil_of_length_eq_zero hrwl
   have hm20:m2=[]:=List.eq_nil_of_length_eq_zero (by omega)
   subst hr0 hm20
   have hcs':(m1++[]++(m3++rest)).toArray=cur:=by apply Array.ext';rw[hcur];simp
   rw[hcs',setRow_self E.w (E.μ b) cur te0 (0,0) hh]
   exact run_copy_none E.w t t' to te ad1 ad len c1 (List.length ys) cp hu (by rw[hit];simp[his,hsz1]) hK
 have hset':∀g',g'≠E.μ b->(E.w.setRow (E.μ b) (m1++rw1++(m3++rest)).toArray).heap[g']? =E.w.heap[g']? :=fun g' hg'=>setRow_other E.w (E.μ b) _ g' hg'
 have hg2:holdsB E b (lookH S.hp b) (E.μ b):=by rw[hbk];show(E.σ b).ownBlock=_;rw[hv'];rfl
 have hbel:=setRow_below E.w (base:=base) (m1++rw1++(m3++rest)).toArray (H.sep b _ hg2).2
 have hle:E.le base {E with w:=E.w.setRow (E.μ b) (m1++rw1++(m3++rest)).toArray}:=Env.le_world hbel fun g' hg3=>hset' g' (fun e=>(H.sep b _ hg2).1 (e▸hg3))
 have hB1:BRep {E with w:=E.w.setRow (E.μ b) (m1++rw1++(m3++rest)).toArray} base b (.vec te0 e (over xs off (List.take len ys))):=by
  refine⟨m1++rw1++m3,Rows.mono (fun y z=>RepD.mono hle.R hle.heapR e y z) _ _ hnew,⟨by simp[hol,hsz1,hrwl];omega,.inr ⟨E.μ b,cap',_,?_,hbg,setRow_heap E.w (E.μ b) cur _ te0 (0,0) hh,by rw[hol];exact hnc,hcm',?_,?_⟩⟩,hpz,hgo⟩
  ·rw[hol];exact hv'
  ·simp[hrwl,hrl,hsz1];simp[hsz1]at hcs;omega
  ·rw[hol,hsz1,Nat.mul_one]
   show List.take _ (m1++rw1++(m3++rest))=_
   rw[<-List.append_assoc,List.take_append_of_le_length (by simp[hrwl];omega),List.take_of_length_le (by simp[hrwl];omega)]
 obtain⟨hle',H'⟩:=H.store hg2 hB1 (fun g' hg3=>hgo g' hg3) (by simp) hset' hbel
 exact⟨_,hr,hle',H'⟩
theorem snd_copy(H:HS base E S.hp)(hs:SlotsRep E S a){c:Call}(ho:o.op= .call c)(hcl:c.callee= .builtin .copy)(hc:compOp P sm o=some (iop,args))(hact:act summ iop (args.map S.eval) S.look nid=some out)(hok:out.ok=true):GenOut P base E S a o out:=by
 simp only[compOp,ho,hcl]at hc
 split at hc
 ·rename_i t t' hts
  split at hc
  ·rename_i te hu
   split at hc
   ·rename_i u l htu hl
    split at hc
    ·rename_i hk
     simp only[Bool.and_eq_true,beq_iff_eq]at hk
     obtain⟨hel,hsz1⟩:=hk
     simp at hc
     obtain⟨rfl,rfl⟩:=hc
     have hvs:=opds_rep hs hl
     have hty:=two_toList hts
     obtain⟨it,z,hit,hz,hzs,his,hpos⟩:=elemOK_spec hel
     simp only[act]at hact
     unfold aCopy at hact
     split at hact
     ·rename_i d src he
      rw[he]at hvs
      obtain⟨v1,v2,e,r1,r2⟩:=Vs2 hvs
      have hargs:c.args.map a.eval= #[v1,v2]:=by
       apply Array.ext';rw[Array.toList_map,e]
      have hex:∀v' w',(Builtin.copy_ #[t,t'] o.type #[v1,v2]).run P E.w= .ok v' w'->(execOp a.eval o).run P E.w= .ok (.value v') w':=by
       intro v' w' h
       unfold execOp
       simp only[ho,resolve,hcl,invoke,builtin,Sem.run_bind,Sem.run_pure,Result.andThen_ok,hargs,hty,h]
      split at hact
      ·cases hact
      ·rename_i ys hys
       split at hact
       ·rename_i b
        split at hact
        ·rename_i te0 e' xs hbk
         split at hact
         ·rename_i he'
          subst he'
          simp only[aCopyVec,Option.some.injEq]at hact
          subst hact
          simp only[Bool.and_eq_true,decide_eq_true_eq]at hok
          obtain⟨hsub,hfit⟩:=hok
          obtain⟨ad,cp,rfl,s1,s2,s3⟩:=src_rep H.blk hys hsub r2
          have hbk':lookH S.hp b= .vec te0 e' xs:=hbk
          have hB0:=H.blk b
          rw[hbk']at hB0
          obtain⟨cells,hrows,hown,hpz,hgo⟩:=hB0
          obtain⟨_,hv1,_⟩:=(VRep_one rfl (by intro d;simp)).1 r1
          have hv1:v1=E.σ b:=by simpa using hv1
          rcases hown.2 with⟨hs0,hn⟩|⟨g,cap',cur,hv',hbg,hh,hnc,hcm',hcs,htk2⟩
          ·rw[hs0]at hv1
           subst hv1
           have hx:xs=[]:=List.eq_nil_of_length_eq_zero hn
           subst hx
           obtain⟨w',hr,hle',H'⟩:=copy_vec (P:=P) (t:=t) (t':=t') (to:=o.type) (off:=0) (len:=0) (c1:=0) (ad1:=none) (cp:=cp) (ad:=ad) (ys:=ys) H hbk' hu hit his hsz1 (fun h=>absurd h (Nat.lt_irrefl 0)) (Nat.le_refl 0) s3
           refine⟨_,_,_,hex _ _ hr,.inl rfl,hle',H',?_⟩
           exact VRep_int.2 ⟨rfl,wrap_i64_nat (by have:Nat.min (List.length ys) ([]:List e'.den).length<=0:=Nat.min_le_right _ _;omega)⟩
          have hg':g=E.μ b:=hgo g (by rw[hv'];rfl)
          subst hg'
          rw[hv']at hv1
          subst hv1
          obtain⟨w',hr,hle',H'⟩:=copy_vec (P:=P) (t:=t) (t':=t') (to:=o.type) (off:=0) (len:=List.length xs) (c1:=cap') (cp:=cp) (ad:=ad) (ys:=ys) H hbk' hu hit his hsz1 (fun _=>rfl) (by omega) s3
          refine⟨_,_,_,hex _ _ hr,.inl rfl,hle',H',?_⟩
          exact VRep_int.2 ⟨rfl,wrap_i64_nat (by have:Nat.min (List.length ys) (List.length xs)<=List.length xs:=Nat.min_le_right _ _;omega)⟩
         ·cases hact
        ·cases hact
       ·rename_i b p sz off len cap
        split at hact
        ·rename_i te0 e' xs hbk
         split at hact
         ·split at hact
          ·rename_i he'
           subst he'
           split at hact
           ·rename_i hsz
            simp only[aCopyVec,Option.some.injEq]at hact
            subst hact
            simp only[Bool.and_eq_true,decide_eq_true_eq]at hok
            obtain⟨hsub,hfit⟩:=hok
            obtain⟨ad,cp,rfl,s1,s2,s3⟩:=src_rep H.blk hys hsub r2
            have hbk':lookH S.hp b= .vec te0 e' xs:=hbk
            obtain⟨hlb,ad1,c1,q1,q2,_,q4,rfl⟩:=VRep_sub.1 r1
            obtain⟨w',hr,hle',H'⟩:=copy_vec (P:=P) (t:=t) (t':=t') (to:=o.type) (off:=off) (len:=len) (c1:=c1) (ad1:=ad1) (cp:=cp) (ad:=ad) (ys:=ys) H hbk' hu hit his hsz1 (fun h=>by rw[q4 h,<-hsz,hsz1];simp[poff]) hfit s3
            refine⟨_,_,_,hex _ _ hr,.inl rfl,hle',H',?_⟩
            exact VRep_int.2 ⟨rfl,wrap_i64_nat (by have:Nat.min (List.length ys) len<=len:=Nat.min_le_right _ _;omega)⟩
           ·cases hact
          ·cases hact
         ·cases hact
        ·rename_i cm hbk
         split at hact
         ·rename_i n e' xs hget
          split at hact
          ·rename_i he'
           subst he'
           split at hact
           ·rename_i hsz
            split at hact
            ·rename_i c' hset
             simp at hact;subst hact
             simp only[Bool.and_eq_true,decide_eq_true_eq]at hok
             obtain⟨⟨hsub,hcok⟩,hfit⟩:=hok
             obtain⟨ad,cp,rfl,s1,s2,s3⟩:=src_rep H.blk hys hsub r2
             obtain⟨hlb,ad1,c1,q1,q2,_,q4,rfl⟩:=VRep_sub.1 r1
             have hbk':lookH S.hp b= .mem cm:=hbk
             have hB0:=H.blk b
             rw[hbk']at hB0
             obtain⟨cs,te0,hh0,hcr0⟩:=id hB0
             obtain⟨l0,m0,r0,em0,hl0,hlen,hrows⟩:=get_rep hget hcok hcr0
             have hR:∀(x:e'.den)(c:List Value),RepD E.w E.R e' x c->c.length=1:=fun x c h=>by rw[RepD.len e' x c h,hsz1]
             have hKl:Nat.min (List.length ys) len<=List.length ys:=Nat.min_le_left _ _
             have hKl2:Nat.min (List.length ys) len<=len:=Nat.min_le_right _ _
             have htk:List.take len ys=List.take (Nat.min (List.length ys) len) ys:=by
              by_cases h:List.length ys<=len
              ·rw[show Nat.min (List.length ys) len=List.length ys from Nat.min_eq_left h,List.take_of_length_le h,List.take_length]
              ·rw[show Nat.min (List.length ys) len=len from Nat.min_eq_right (by omega)]
             generalize hK:Nat.min (List.length ys) len=K at *
             obtain⟨rw1,hrw1,hrwl,hsrc⟩:∃rw1,Rows (RepD E.w E.R e') (List.take len ys) rw1/\rw1.length=K/\(0<K->∃b' off',ad=some ⟨b',off',none⟩/\∀(j:Nat)(v:Value),rw1[j]? =some v->E.w.cell? ⟨b',off'+j,none⟩=some v):=by
              by_cases h0:0<K
              ·obtain⟨b',off',rows,rfl,g1,g2⟩:=s3 (by omega)
               obtain⟨d1,d2,rfl,f1,f2,_⟩:=Rows.split hR K ys rows g2 hKl
               refine⟨d1,by rw[htk];exact f2,by omega,fun _=>⟨b',off',rfl,fun j v hv=>g1 j v ?_⟩⟩
               rw[List.getElem?_append_left]
               ·exact hv
               ·exact(List.getElem?_eq_some_iff.1 hv).1
              ·have:K=0:=by omega
               subst this
               exact⟨[],by rw[htk];simp[Rows],rfl,fun h=>absurd h (by omega)⟩
             obtain⟨m1,m23,rfl,f1,f2,f3⟩:=Rows.split hR off xs m0 hrows (by rw[hlen];omega)
             obtain⟨m2,m3,rfl,f4,_,f6⟩:=Rows.split hR K (List.drop off xs) m23 f3 (by rw[List.length_drop,hlen];omega)
             have hyl:(List.take len ys).length=K:=by rw[htk,List.length_take];omega
             have hover:over xs off (List.take len ys)=List.take off xs++List.take len ys++(List.drop off xs).drop K:=by
              simp only[over,hyl,List.drop_drop]
             have hnew:CRep E (.pure (.arr n e') (over xs off (List.take len ys))) (m1++rw1++m3):=by
              refine⟨?_,?_⟩
              ·rw[hover];simp[hyl];omega
              ·rw[hover];exact Rows.app _ _ _ _ (Rows.app _ _ _ _ f2 hrw1) f6
             obtain⟨cur,te1,l1,m1',r1',hh,em,hl1,hm1,hg,hkf,hB⟩:=bset_rep (base:=base) (b:=b) (k:= .mem cm) (k':= .mem c') (p:=p) hnew (by simp only[Blk.set,hset]) hcok hB0
             obtain⟨rfl,rfl⟩:cs=cur/\te0=te1:=by
              rw[hh]at hh0
              simp at hh0
              exact⟨hh0.1.symm,hh0.2.symm⟩
             have hm1':m1'.length=n:=by rw[hm1];simp[CV.csize,Ty.size,hsz1]
             have hmm:(m1++(m2++m3)).length=n:=by
              have:=Rows.len hR _ _ hrows
              rw[this,hlen];omega
             have hsp:l1=l0/\m1'=m1++(m2++m3)/\r1'=r0:=by
              rw[em0]at em
              have e1:=List.append_inj em (by simp only[List.length_append]at hmm⊢;omega)
              have e2:=List.append_inj e1.1 (by omega)
              exact⟨e2.1.symm,e2.2.symm,e1.2.symm⟩
             obtain⟨rfl,rfl,rfl⟩:=hsp
             have hnewc:(l1++(m1++rw1++m3)++r1').toArray=(cs.toList.take (poff p+off)++rw1++cs.toList.drop (poff p+off+rw1.length)).toArray:=by
              congr 1
              have t1:cs.toList=(l1++m1)++(m2++(m3++r1')):=by rw[em0];simp
              have t2:(l1++m1).length=poff p+off:=by simp[hl1,f1]
              rw[t1,<-t2,List.take_left,<-List.drop_drop,List.drop_left]
              rw[hrwl,show K=m2.length by omega,List.drop_left]
              simp
             have hr:(Builtin.copy_ #[t,t'] o.type #[.slice ad1 len c1,.slice ad (List.length ys) cp]).run P E.w= .ok (goInt K) (E.w.setRow (E.μ b) (l1++(m1++rw1++m3)++r1').toArray):=by
              by_cases h0:0<K
              ·obtain⟨b',off',rfl,hcell⟩:=hsrc h0
               have hsl:=q4 (by omega)
               subst hsl
               have:=run_copy_row P E.w t t' o.type te (E.μ b) (poff p+off*sz) len c1 ⟨b',off',none⟩ (List.length ys) cp cs te0 rw1 hu (by rw[hit];simp[his,hsz1]) hh (by rw[hrwl,<-hK]) (fun j v hj=>by rw[Addr.add_mid];exact hcell j v hj) (by rw[<-hsz,hsz1];have:=congrArg List.length em0;simp at this hmm;omega) (fun v hv=>Rows.one _ _ hrw1 v hv)
               rw[this,hrwl,hnewc,<-hsz,hsz1,Nat.mul_one,hrwl]
              ·have:K=0:=by omega
               subst this
               have hr0:rw1=[]:=List.eq_nil_of_length_eq_zero hrwl
               have hm20:m2=[]:=List.eq_nil_of_length_eq_zero (by omega)
               subst hr0 hm20
               have hcs:(l1++(m1++[]++m3)++r1').toArray=cs:=by apply Array.ext';rw[em0];simp
               rw[hcs,setRow_self E.w (E.μ b) cs te0 (0,0) hh]
               exact run_copy_none E.w t t' o.type te ad1 ad len c1 (List.length ys) cp hu (by rw[hit];simp[his,hsz1]) hK
             have hset':∀g',g'≠E.μ b->(E.w.setRow (E.μ b) (l1++(m1++rw1++m3)++r1').toArray).heap[g']? =E.w.heap[g']? :=fun g' hg'=>setRow_other E.w (E.μ b) _ g' hg'
             have hg':holdsB E b (lookH S.hp b) (E.μ b):=by rw[hbk'];exact hg
             have hbel:=setRow_below E.w (base:=base) (l1++(m1++rw1++m3)++r1').toArray (H.sep b _ hg').2
             have hle:E.le base {E with w:=E.w.setRow (E.μ b) (l1++(m1++rw1++m3)++r1').toArray}:=Env.le_world hbel fun g' hg2=>hset' g' (fun e=>(H.sep b _ hg').1 (e▸hg2))
             obtain⟨hB1,hB2⟩:=hB _ hle rfl rfl rfl (setRow_heap E.w (E.μ b) cs _ te0 (0,0) hh)
             obtain⟨hle',H'⟩:=H.store hg' hB1 hB2 hkf hset' hbel
             refine⟨_,_,_,hex _ _ hr,.inl rfl,hle',H',?_⟩
             exact VRep_int.2 ⟨rfl,wrap_i64_nat (by omega)⟩
            ·cases hact
           ·cases hact
          ·cases hact
         ·cases hact
        ·cases hact
       ·cases hact
     ·cases hact
    ·cases hc
   ·cases hc
  ·cases hc
 ·cases hc
end
end Go.Ev
namespace Go.Ev
open Go Go.RowKit
section
variable{P:Program}{sm:Nat->Bool}{summ:Nat->Option Summ}{base:Nat}{E:Env}{S:St}{a:Act}{o:Oper}{iop:IOp}{args:List Opd}{nid:Nat}{out:Out}
theorem freeze_other(w:World)(a:Addr)(n g:Nat)(h:g≠a.block):(w.freeze a n).heap[g]? =w.heap[g]? :=by
 unfold World.freeze
 split
 ·rfl
 ·simp only[Array.getElem?_modify];rw[if_neg (fun e=>h e.symm)]
theorem freeze_cell(w:World)(a:Addr)(n:Nat)(b:Addr):(w.freeze a n).cell? b=w.cell? b:=by
 by_cases h:b.block=a.block
 ·by_cases hn:n=0
  ·subst hn;rfl
  ·have hf:(w.freeze a n).heap[b.block]? =(w.heap[b.block]?).map fun
    | .cells c elem (lo,hi)=> .cells c elem (if lo==hi then(a.off,a.off+n)else(min lo a.off,max hi (a.off+n)))
    |o=>o:=by
    unfold World.freeze
    rw[if_neg hn]
    simp only[Array.getElem?_modify]
    rw[if_pos h.symm]
    cases w.heap[b.block]? <;>rfl
   unfold World.cell?
   rw[hf]
   cases w.heap[b.block]? with
   |none=>rfl
   |some o=>cases o<;>rfl
 ·unfold World.cell?
  rw[freeze_other w a n b.block h]
theorem freeze_below(w:World){base:Nat}(a:Addr)(n:Nat)(h:base<=a.block):Below base w (w.freeze a n):=by
 refine⟨?_,?_,?_,?_,fun k hk=>freeze_other w a n k (by omega)⟩<;>(unfold World.freeze;split<;>simp)
theorem run_convert_mark(w:World)(t e:TypeId)(g n c:Nat){C:Array Value}{te:TypeId}{fz:Nat×Nat}(hh:w.heap[g]? =some (.cells C te fz))(ht:P.underlying t=some (.slice e))(he:P.underlying e=some (.int .u8)) :
 (convert t t (.slice (some ⟨g,0,none⟩) n c)).run P w= .ok (.slice (some ⟨g,0,none⟩) n c) (w.freeze ⟨g,C.size,none⟩ 1):=by
 have hsh:w.shape? g=some (te,C.size):=by unfold World.shape?;rw[hh]
 simp[convert,run_underlying ht,run_underlying he,markStringish,hsh]
theorem rows_u8{E:Env}{w:World}{b off:Nat}:∀(xs:List Int)(rows:List Value),Rows (RepD E.w E.R (.int .u8)) xs rows->rows=xs.map (Value.int .u8)/\∀x∈xs,0<=x/\x<256
 |[],rows,h=>⟨h,fun x hx=>by cases hx⟩
 |x::xs,rows,⟨c1,c2,e,h1,h2⟩=>by
  obtain⟨e2,hb⟩:=rows_u8 (w:=w) (b:=b) (off:=off) xs c2 h2
  have h1:c1=[.int .u8 x]/\IntKind.wrap .u8 x=x:=h1
  refine⟨by rw[e,e2,h1.1];rfl,fun y hy=> ?_⟩
  rcases List.mem_cons.1 hy with rfl|hy
  ·have:=h1.2
   simp[IntKind.wrap,IntKind.signed,IntKind.bits]at this
   omega
  ·exact hb y hy
theorem snd_strB(H:HS base E S.hp)(hs:SlotsRep E S a){s t:TypeId}{x:Operand}(ho:o.op= .convert s t x){e:TypeId}(hu1:P.underlying s=some (.slice e))(hu2:P.underlying t=some .string)(hc:compOp P sm o=some (iop,args))(hact:act summ iop (args.map S.eval) S.look nid=some out)(hok:out.ok=true):PureOut P E a o out:=by
 simp only[compOp,ho,hu1,hu2]at hc
 split at hc
 ·rename_i hu8
  have hu8:P.underlying e=some (.int .u8):=by
   unfold isU8 at hu8;split at hu8
   ·assumption
   ·cases hu8
  obtain⟨q,h1,rfl,rfl⟩:=one_inv hc
  have hv:=opd_rep hs h1
  simp only[act,List.map_cons,List.map_nil,aStrB]at hact
  ·split at hact
   ·rename_i xs hxs
    simp only[Option.some.injEq]at hact
    subst hact
    obtain⟨ad,cp,hev,s1,s2,s3⟩:=src_rep H.blk hxs hok hv
    have fin:∀(ys:List Int),ys=xs->(∀y∈ys,0<=y/\y<256)->(convert s t (.slice ad (List.length xs) cp)).run P E.w= .ok (.string (bytesOf ys)) E.w->PureOut P E a o ⟨true,.pure .str ys,[]⟩:=by
     intro ys e hb hr
     refine⟨rfl,.string (bytesOf ys),?_,VRep_str.2 ⟨rfl,?_⟩⟩
     ·unfold execOp
      simp only[ho]
      rw[hev]
      simp only[Sem.run_bind,hr,Result.andThen_ok]
      rfl
     ·unfold strOK
      simp only[Bool.and_eq_true,List.all_eq_true,decide_eq_true_eq]
      exact⟨hb,by rw[e];omega⟩
    by_cases h0:0<List.length xs
    ·obtain⟨b',off',rows,h4,g1,g2⟩:=s3 h0
     cases h4
     obtain⟨er,hb⟩:=rows_u8 (w:=E.w) (b:=b') (off:=off') xs rows g2
     refine fin xs rfl hb ?_
     exact run_convert_bytes_arg E.w s e hu1 hu8 b' off' (List.length xs) cp xs rfl (fun i hi=>by
      refine g1 i _ ?_
      rw[er,List.getElem?_map,List.getElem?_eq_getElem hi]
      simp[List.getD,List.getElem?_eq_getElem hi]) t hu2
    ·have hx:xs=[]:=List.eq_nil_of_length_eq_zero (by omega)
     subst hx
     refine fin [] rfl (fun y hy=>by cases hy) ?_
     show(convert s t (.slice ad 0 cp)).run P E.w=_
     rw[run_convert_bytes_string E.w s t e _ 0 cp hu1 hu8 hu2]
     cases ad<;>simp[Conv.bytesToString,loadCells,bytesOf]
     all_goals rfl
   ·cases hact
 ·cases hc
theorem snd_mark(H:HS base E S.hp)(hs:SlotsRep E S a){s t:TypeId}{x:Operand}(ho:o.op= .convert s t x)(hi:∀k k',¬(P.underlying s=some (.int k)/\P.underlying t=some (.int k')))(hj:∀e,¬(P.underlying s=some (.slice e)/\P.underlying t=some .string))(hc:compOp P sm o=some (iop,args))(hact:act summ iop (args.map S.eval) S.look nid=some out)(hok:out.ok=true):GenOut P base E S a o out:=by
 simp only[compOp,ho]at hc
 split at hc
 ·rename_i k k' h1 h2;exact absurd ⟨h1,h2⟩ (hi _ _)
 ·rename_i e e' hu1 hu2
  split at hc
  ·rename_i hk
   simp only[Bool.and_eq_true,beq_iff_eq]at hk
   obtain⟨rfl,hu8⟩:=hk
   have hu8:P.underlying e=some (.int .u8):=by
    unfold isU8 at hu8;split at hu8
    ·assumption
    ·cases hu8
   obtain⟨q,h1,rfl,rfl⟩:=one_inv hc
   have hv:=opd_rep hs h1
   simp only[act,List.map_cons,List.map_nil]at hact
   unfold aMark at hact
   split at hact
   ·rename_i b he
    simp at he
    rw[he]at hv
    split at hact
    ·rename_i te xs hbk
     simp only[Option.some.injEq]at hact
     subst hact
     have hpos:0<List.length xs:=of_decide_eq_true hok
     have hbk':lookH S.hp b= .vec te (.int .u8) xs:=hbk
     have hB:=H.blk b
     rw[hbk']at hB
     obtain⟨hl,hve,_⟩:=VRep_whole.1 hv
     obtain⟨cells,hr,hown,hp0,hg⟩:=hB
     rcases hown.2 with⟨_,hn⟩|⟨g,cap,cur,hsv,hbg,hh,hnc,hcm,hcs,htk⟩
     ·omega
     have hgm:g=E.μ b:=hg g (by rw[hsv];rfl)
     have hhold:holdsB E b (lookH S.hp b) g:=by rw[hbk'];show(E.σ b).ownBlock=some g;rw[hsv];rfl
     let w':=E.w.freeze ⟨g,cur.size,none⟩ 1
     let E':Env:= {E with w:=w',I:=fun k=>E.I k\/k=g}
     have hbel:Below base E.w w':=freeze_below E.w _ _ hbg
     have hle:E.le base E':=⟨fun _ h=> .inl h,fun k hk=>freeze_other _ _ _ k (fun e=>by
      have e:k=g:=e
      subst e;exact(H.sep b k hhold).1 hk),fun _ h=>h,fun _ _=>rfl,fun _ _=>rfl,hbel,fun k hk=>hk.elim .inl fun e=> .inr (e▸hbg),fun _ _=>rfl,rfl,rfl⟩
     have hlt:=lookH_lt ((H.live b).1 hl)
     have H':HS base E' (setH S.hp b .dead):=H.set hle (by omega) (by simp) (fun c=>⟨.inl,fun h=>h.elim id (fun e=>e▸hl)⟩)
      (fun k hk=>by
       have h1:k<E.w.heap.size:=hk.elim (H.imm k) (fun e=>by subst e;exact H.held_lt hhold)
       exact Nat.lt_of_lt_of_le h1 hbel.size)
      (fun c k hcb hk hI=>by
       rcases hI with h|h
       ·exact(H.sep c k hk).1 h
       ·subst h;exact hcb (H.inj c b k hk hhold))
      (fun c k hcb hk=>freeze_other _ _ _ k (fun e=>by
       have e:k=g:=e
       subst e;exact hcb (H.inj c b k hk hhold))) (k:= .dead) trivial (fun _ h=>h.elim) H.eok
      (fun k hk hbk=>by
       by_cases e:k=g
       ·subst e
        intro off u hu
        rw[show w'.cell? _=E.w.cell? _ from freeze_cell _ _ _ _]at hu
        have hlt:off<cur.size:=by
         unfold World.cell? at hu
         simp only[hh]at hu
         exact(Array.getElem?_eq_some_iff.1 hu).1
        show(E.w.freeze _ _).frozen? _=false
        unfold World.frozen? World.freeze
        simp only[Nat.one_ne_zero,if_false,Array.getElem?_modify,if_true,hh,Option.map_some]
        simp
        omega
       ·exact thaw.congr (freeze_other _ _ _ k (fun h=>e h)) (H.thw k (hk.elim id fun h=>absurd h e) hbk))
     refine⟨a.eval x,_,E',?_,.inl rfl,hle,H',?_⟩
     ·unfold execOp
      simp only[ho]
      rw[hve,hsv]
      have:=run_convert_mark (P:=P) E.w s e g (List.length xs) cap hh hu1 hu8
      simp only[Sem.run_bind,this,Result.andThen_ok]
      rfl
     ·rw[hve,hsv]
      refine(VRep_one rfl (by intro d;simp)).2 ?_
      refine⟨some ⟨g,0,none⟩,cap,rfl,hnc,hcm,fun _=>⟨g,0,cells,rfl,⟨.inr rfl,H.heldJ hhold⟩,?_,Rows.mono (fun x c h=>h) _ _ hr⟩⟩
      intro j u hj
      have:=hown.cells (g:=g) (by rw[hsv];rfl) j u hj
      have e1:(⟨g,0,none⟩:Addr).add j=⟨g,0+j,none⟩:=by
       unfold Addr.add;split<;>simp_all
      rw[e1]at this
      show(E.w.freeze _ _).cell? _=_
      rw[freeze_cell];exact this
    ·cases hact
   ·cases hact
  ·cases hc
 ·rename_i e h1 h2;exact absurd ⟨h1,h2⟩ (hj _)
 ·cases hc
end
end Go.Ev
namespace Go.Ev
open Go Go.RowKit
section
variable{P:Program}{sm:Nat->Bool}{summ:Nat->Option Summ}{base:Nat}{E:Env}{S:St}{a:Act}{o:Oper}{iop:IOp}{args:List Opd}{nid:Nat}{out:Out}
theorem dflt_rep{te:TypeId}{u:Ty}{it:TypeInfo}{z:Value}(hi:P.info? te=some it)(hz:it.zero=some z)(h:dfltOK P te u=true){w:World}{I:Nat->Prop}:RepD w I u u.dflt z.cells.toList:=by
 unfold dfltOK at h
 split at h
 ·rename_i i' cs hi' hcs
  rw[hi]at hi'
  obtain rfl:=Option.some.inj hi'
  rw[hz]at h
  rw[<-vsEq_eq h]
  exact encD_rep hcs
 ·cases h
theorem clear_vec(H:HS base E S.hp){t ty te:TypeId}{it:TypeInfo}{z:Value}{e:Ty}{b te0:Nat}{xs:List e.den}{off len c1:Nat}{ad1:Option Addr}(hbk:lookH S.hp b= .vec te0 e xs)(hu:P.underlying t=some (.slice te))(hit:P.info? te=some it)(hz:it.zero=some z)(hzs:z.cells.size=e.size)(hdf:dfltOK P te e=true)
 (q4:0<len->ad1=some ⟨E.μ b,off*e.size,none⟩) (hfit:off+len<=List.length xs) (hpos:0<List.length xs) :
 ∃w',(Builtin.clear_ #[t] ty #[.slice ad1 len c1]).run P E.w= .ok (.tuple #[]) w'/\E.le base {E with w:=w'}/\HS base {E with w:=w'} (setH S.hp b (.vec te0 e (over xs off (List.replicate len e.dflt)))):=by
 have hB0:=H.blk b
 rw[hbk]at hB0
 obtain⟨cells,hrows,hown,hpz,hgo⟩:=hB0
 have hR:∀(x:e.den)(c:List Value),RepD E.w E.R e x c->c.length=e.size:=fun x c h=>RepD.len e x c h
 have hzr:RepD E.w E.R e e.dflt z.cells.toList:=dflt_rep hit hz hdf
 have hrw1:=rows_made hzr len
 rw[hzs]at hrw1
 generalize hrw:(madeCells z.cells (len*e.size)).toList=rw1 at hrw1
 have hrwl:rw1.length=len*e.size:=by have:=Rows.len hR _ _ hrw1;simpa using this
 rcases hown.2 with⟨_,hn⟩|⟨g,cap',cur,hv',hbg,hh,hnc,hcm',hcs,htk2⟩
 ·omega
 have hg':g=E.μ b:=hgo g (by rw[hv'];rfl)
 subst hg'
 have hcl:cells.length=List.length xs*e.size:=by rw[hown.1]
 obtain⟨m1,m23,e1,f1,f2,f3⟩:=Rows.split hR off xs cells hrows (by omega)
 obtain⟨m2,m3,e2,f4,_,f6⟩:=Rows.split hR len (List.drop off xs) m23 f3 (by rw[List.length_drop];omega)
 have hover:over xs off (List.replicate len e.dflt)=List.take off xs++List.replicate len e.dflt++(List.drop off xs).drop len:=by
  simp only[over,List.length_replicate,List.drop_drop]
 have hol:List.length (over xs off (List.replicate len e.dflt))=List.length xs:=by rw[hover];simp;omega
 have hnew:Rows (RepD E.w E.R e) (over xs off (List.replicate len e.dflt)) (m1++rw1++m3):=by
  rw[hover];exact Rows.app _ _ _ _ (Rows.app _ _ _ _ f2 hrw1) f6
 have hcl1:=congrArg List.length e1
 have hcl2:=congrArg List.length e2
 simp at hcl1 hcl2
 have hcur:cur.toList=m1++(m2++(m3++cur.toList.drop (List.length xs*e.size))):=by
  have:=List.take_append_drop (List.length xs*e.size) cur.toList
  rw[htk2,e1,e2]at this
  exact this.symm.trans (by simp)
 have hcsz:cur.toList.length=cap'*e.size:=by simpa using hcs
 generalize hrest:cur.toList.drop (List.length xs*e.size)=rest at hcur
 have hrl:rest.length=cap'*e.size-List.length xs*e.size:=by rw[<-hrest,List.length_drop,hcsz]
 have hfitm:off*e.size+len*e.size<=List.length xs*e.size:=by rw[<-Nat.add_mul];exact Nat.mul_le_mul_right _ hfit
 have hcapm:List.length xs*e.size<=cap'*e.size:=Nat.mul_le_mul_right _ hnc
 have hnewc:(cur.toList.take (off*e.size)++rw1++cur.toList.drop (off*e.size+rw1.length)).toArray=(m1++rw1++(m3++rest)).toArray:=by
  congr 1
  rw[hcur,<-f1,List.take_left,<-List.drop_drop,List.drop_left]
  rw[hrwl,<-f4,List.drop_left]
 have hr:(Builtin.clear_ #[t] ty #[.slice ad1 len c1]).run P E.w= .ok (.tuple #[]) (E.w.setRow (E.μ b) (m1++rw1++(m3++rest)).toArray):=by
  by_cases h0:0<len
  ·have hsl:=q4 h0
   subst hsl
   have hone:∀v∈rw1,v.oneCell'=true:=Rows.one _ _ hrw1
   have hst:=run_storeCells_at P (E.μ b) (off*e.size) te0 rw1 0 cur E.w hh (by have:cur.size=cap'*e.size:=hcs;omega) hone
   simp only[Nat.add_zero]at hst
   rw[hnewc]at hst
   have hzc:(Builtin.zeroCells z.cells len).toList=rw1:=by rw[<-hrw,<-hzs];rfl
   obtain⟨m,rfl⟩:∃m,len=m+1:=⟨len-1,by omega⟩
   have hv:∀w,(zeroValue te).run P w= .ok z w:=fun w=>by
    simp only[zeroValue,typeInfo,program,Sem.run_bind,Sem.run,Sem.run_pure,Result.andThen_ok,hit,hz]
   simp[Builtin.clear_,run_underlying hu,hv,hzc,hst]
  ·have:len=0:=by omega
   subst this
   have hr0:rw1=[]:=List.eq_nil_of_length_eq_zero (by simpa using hrwl)
   have hm20:m2=[]:=List.eq_nil_of_length_eq_zero (by simpa using f4)
   subst hr0 hm20
   have hcs':(m1++[]++(m3++rest)).toArray=cur:=by apply Array.ext';rw[hcur];simp
   rw[hcs',setRow_self E.w (E.μ b) cur te0 (0,0) hh]
   cases ad1<;>simp[Builtin.clear_,run_underlying hu]
 have hset':∀g',g'≠E.μ b->(E.w.setRow (E.μ b) (m1++rw1++(m3++rest)).toArray).heap[g']? =E.w.heap[g']? :=fun g' hg'=>setRow_other E.w (E.μ b) _ g' hg'
 have hg2:holdsB E b (lookH S.hp b) (E.μ b):=by rw[hbk];show(E.σ b).ownBlock=_;rw[hv'];rfl
 have hbel:=setRow_below E.w (base:=base) (m1++rw1++(m3++rest)).toArray (H.sep b _ hg2).2
 have hle:E.le base {E with w:=E.w.setRow (E.μ b) (m1++rw1++(m3++rest)).toArray}:=Env.le_world hbel fun g' hg3=>hset' g' (fun e=>(H.sep b _ hg2).1 (e▸hg3))
 have hB1:BRep {E with w:=E.w.setRow (E.μ b) (m1++rw1++(m3++rest)).toArray} base b (.vec te0 e (over xs off (List.replicate len e.dflt))):=by
  refine⟨m1++rw1++m3,Rows.mono (fun y z=>RepD.mono hle.R hle.heapR e y z) _ _ hnew,⟨by simp[hol,hrwl];omega,.inr ⟨E.μ b,cap',_,?_,hbg,setRow_heap E.w (E.μ b) cur _ te0 (0,0) hh,by rw[hol];exact hnc,hcm',?_,?_⟩⟩,hpz,hgo⟩
  ·rw[hol];exact hv'
  ·simp[hrwl,hrl];omega
  ·rw[hol]
   show List.take _ (m1++rw1++(m3++rest))=_
   rw[<-List.append_assoc,List.take_append_of_le_length (by simp[hrwl];omega),List.take_of_length_le (by simp[hrwl];omega)]
 obtain⟨hle',H'⟩:=H.store hg2 hB1 (fun g' hg3=>hgo g' hg3) (by simp) hset' hbel
 exact⟨_,hr,hle',H'⟩
theorem snd_clear(H:HS base E S.hp)(hs:SlotsRep E S a){c:Call}(ho:o.op= .call c)(hcl:c.callee= .builtin .clear)(hc:compOp P sm o=some (iop,args))(hact:act summ iop (args.map S.eval) S.look nid=some out)(hok:out.ok=true):GenOut P base E S a o out:=by
 simp only[compOp,ho,hcl]at hc
 split at hc
 ·rename_i t x hts hxs
  split at hc
  ·rename_i te hu
   split at hc
   ·rename_i u htu
    split at hc
    ·rename_i hk
     simp only[Bool.and_eq_true]at hk
     obtain⟨hel,hdf⟩:=hk
     obtain⟨q,h1,rfl,rfl⟩:=one_inv hc
     have hv:=opd_rep hs h1
     obtain⟨it,z,hit,hz,hzs,his,hpos0⟩:=elemOK_spec hel
     simp only[List.map_cons,List.map_nil,act]at hact
     unfold aClear at hact
     split at hact
     ·rename_i b p sz off len cap he
      simp only[List.cons.injEq,and_true]at he
      rw[he]at hv
      have hargs:c.args.map a.eval= #[a.eval x]:=by rw[one_toList hxs];simp
      have hty:=one_toList hts
      split at hact
      ·rename_i te0 e' xs hbk
       split at hact
       ·split at hact
        ·rename_i he'
         subst he'
         split at hact
         ·rename_i hsz
          simp at hact;subst hact
          simp only[Bool.and_eq_true,decide_eq_true_eq]at hok
          obtain⟨hfit,hpos⟩:=hok
          have hbk':lookH S.hp b= .vec te0 e' xs:=hbk
          obtain⟨hlb,ad1,c1,q1,q2,_,q4,hva⟩:=VRep_sub.1 hv
          obtain⟨w',hr,hle',H'⟩:=clear_vec (P:=P) (t:=t) (ty:=o.type) (c1:=c1) (ad1:=ad1) (off:=off) (len:=len) H hbk' hu hit hz hzs hdf (fun h=>by rw[q4 h,<-hsz];simp[poff]) hfit hpos
          refine⟨.tuple #[],.value (.tuple #[]),{E with w:=w'},?_,.inl rfl,hle',H',VRep_junk _ _⟩
          unfold execOp
          simp only[ho,resolve,hcl,invoke,builtin,Sem.run_bind,Sem.run_pure,Result.andThen_ok,hargs,hty]
          rw[hva,hr];rfl
         ·cases hact
        ·cases hact
       ·cases hact
      ·cases hact
     ·cases hact
    ·cases hc
   ·cases hc
  ·cases hc
 ·cases hc
end
end Go.Ev
namespace Go.Ev
open Go Go.RowKit
def callable(P:Program)(f:Nat):Bool:=match P.funcs[f]? with
 |some fn=>fn.name != "runtime.NumGoroutine" &&fn.body.isSome
 |none=>false
def SummOK(P:Program)(f:Nat)(s:Summ):Prop:=
 callable P f=true/\(∀(cs:List CV)(look look':Look)(nid:Nat),(∀b∈cs.flatMap CV.refs,look b=look' b)->s cs look nid=s cs look' nid)/\∀(base:Nat)(E:Env)(hp:List Blk)(cs:List CV)(vs:List Value)(nid:Nat)(out:Out),HS base E hp->Vs E cs vs->s cs (lookH hp) nid=some out->out.ok=true->lookH hp nid= .fresh->nid<=hp.length->
  Calls P f vs.toArray E.w fun e w'=>∃v E',e= .returned v/\E'.w=w'/\E.le base E'/\HS base E' (wrAll hp out.wr)/\VRep E' out.v v
section
variable{P:Program}{sm:Nat->Bool}{summ:Nat->Option Summ}{base:Nat}{E:Env}{S:St}{a:Act}{o:Oper}{iop:IOp}{args:List Opd}{nid:Nat}{out:Out}
theorem run_callFunc{f:Nat}(h:callable P f=true)(vs:Array Value)(w:World):(callFunc f vs).run P w= .ok (.enter f vs) w:=by
 unfold callable at h
 split at h
 ·rename_i fn hf
  simp only[Bool.and_eq_true,bne_iff_ne,ne_eq]at h
  unfold callFunc
  simp only[program,Sem.run_bind,Sem.run,Result.andThen_ok,hf]
  have h1:(fn.name== "runtime.NumGoroutine")=false:=by simpa using h.1
  rw[h1]
  have h2:fn.body.isNone=false:=by
   obtain⟨b,hb⟩:=Option.isSome_iff_exists.1 h.2
   rw[hb];rfl
  rw[h2]
  rfl
 ·cases h
def OpWp(P:Program)(base:Nat)(E:Env)(S:St)(a:Act)(o:Oper)(out:Out):Prop:=
 ∀(ro:Option Nat)(next:Act->World->Prop)(Q:Exit->Act->World->Prop),(∀v E',E.le base E'->HS base E' (wrAll S.hp out.wr)->VRep E' out.v v->next (a.put o.dst v) E'.w)->o.wpIn (FR ro) 0 P a E.w next Q
theorem GenOut.wp(h:GenOut P base E S a o out):OpWp P base E S a o out:=by
 intro ro next Q hn
 obtain⟨v,nx,E',hr,hnx,hle,H,hv⟩:=h
 rcases hnx with rfl|⟨rfl,rfl⟩
 ·exact wp_val hr (hn v E' hle H hv)
 ·exact wp_skp hr (hn undef E' hle H hv)
theorem equal_bool{t:TypeId}(hu:P.underlying t=some .bool)(p q:Bool)(w:World):(Op.equal t (.bool p) (.bool q)).run P w= .ok (p==q) w:=by
 show(Op.equalIn (9999+1) t (.bool p) (.bool q)).run P w=_
 rw[Op.equalIn]
 simp only[Sem.run_bind,run_underlying hu,Result.andThen_ok]
 rfl
theorem eql_bool{t:TypeId}(hu:P.underlying t=some .bool)(p q:Bool)(w:World):(binOp .eql t (.bool p) (.bool q)).run P w= .ok (.bool (p==q)) w:=by
 show(do pure (Value.bool (<-Op.equal t (.bool p) (.bool q))):Sem Value).run P w=_
 rw[Sem.run_bind,equal_bool hu];rfl
theorem neq_bool{t:TypeId}(hu:P.underlying t=some .bool)(p q:Bool)(w:World):(binOp .neq t (.bool p) (.bool q)).run P w= .ok (.bool (!(p==q))) w:=by
 show(do pure (Value.bool (!(<-Op.equal t (.bool p) (.bool q)))):Sem Value).run P w=_
 rw[Sem.run_bind,equal_bool hu];rfl
theorem snd_eqb(hs:SlotsRep E S a){op:BinOp}{t t':TypeId}{x y:Operand}(ho:o.op= .binOp op t x y t')(hu:P.underlying t=some .bool)(hc:compOp P sm o=some (iop,args))(hact:act summ iop (args.map S.eval) S.look nid=some out):PureOut P E a o out:=by
 have key:∀(neg:Bool)(l:List Opd),opds P [some t,some t] [x,y]=some l->op=(if neg then .neq else .eql)->aEqb neg .bool S.look (l.map S.eval)=some out->PureOut P E a o out:=by
  intro neg l h1 hop h2
  have hv:=opds_rep hs h1
  unfold aEqb at h2
  split at h2
  ·rename_i cx cy he
   rw[he]at hv
   obtain⟨u,v,e,r1,r2⟩:=Vs2 hv
   simp at e
   split at h2
   ·rename_i p q hp hq
    have gb:∀ {c:CV}{b:Ty.den .bool}{w:Value},toPH S.look .bool c=some b->VRep E c w->w= .bool b:=by
     intro c b w h hw
     cases c<;>simp only[toPH]at h<;>try (cases h;done)
     ·simp at h;subst h;exact VRep_bool.1 hw
     ·split at h
      ·rename_i ht;subst ht;simp at h;subst h
       have:=(VRep_one (E:=E) (c:=CV.pure .bool _) (v:=w) rfl (by simp)).1 hw
       simpa[CRep,RepD]using this
      ·cases h
    have e1:=gb hp r1
    have e2:=gb hq r2
    split at h2
    ·rw[val_inv h2]
     have hg:(eqGuard op t x y (.bool p) (.bool q)).run P E.w= .ok () E.w:=by
      unfold eqGuard;subst hop;cases neg<;>simp
     refine⟨rfl,.bool (if neg then !(p==q)else p==q),?_,VRep_bool.2 rfl⟩
     unfold execOp
     simp only[ho]
     rw[e.1,e.2,e1,e2]
     subst hop
     cases neg
     ·simp only[Bool.false_eq_true,if_false]at hg⊢
      simp only[Sem.run_bind,hg,Result.andThen_ok,eql_bool hu]
      rfl
     ·simp only[if_true]at hg⊢
      simp only[Sem.run_bind,hg,Result.andThen_ok,neq_bool hu]
      rfl
    ·cases h2
   ·cases h2
  ·cases h2
 simp only[compOp,ho,hu]at hc
 split at hc
 ·obtain⟨l,h1,h2⟩:=map_some hc
  simp at h2
  obtain⟨rfl,rfl⟩:=h2
  exact key false l h1 rfl hact
 ·obtain⟨l,h1,h2⟩:=map_some hc
  simp at h2
  obtain⟨rfl,rfl⟩:=h2
  exact key true l h1 rfl hact
 ·cases hc
theorem bytesOf_list(x:List Int):(bytesOf x).toList=x.map fun n=>UInt8.ofNat n.toNat:=by
 rw[ByteArray.toList_eq];rfl
theorem bytesOf_eq{x y:List Int}(hx:strOK x=true)(hy:strOK y=true):((bytesOf x).toList==(bytesOf y).toList)=(x==y):=by
 rw[bytesOf_list,bytesOf_list]
 have:∀(x y:List Int),(∀n∈x,0<=n/\n<256)->(∀n∈y,0<=n/\n<256)->((x.map fun n=>UInt8.ofNat n.toNat)=(y.map fun n=>UInt8.ofNat n.toNat)↔x=y):=by
  intro x
  induction x with
  |nil=>intro y _ _;cases y<;>simp
  |cons a x ih=>
   intro y h1 h2
   cases y with
   |nil=>simp
   |cons b y=>
    have ha:=h1 a (by simp)
    have hb:=h2 b (by simp)
    simp only[List.map_cons,List.cons.injEq,ih y (fun n hn=>h1 n (by simp[hn])) (fun n hn=>h2 n (by simp[hn]))]
    have:UInt8.ofNat a.toNat=UInt8.ofNat b.toNat↔a=b:=by
     constructor
     ·intro h
      have h:=congrArg UInt8.toNat h
      rw[UInt8.toNat_ofNat',UInt8.toNat_ofNat']at h
      omega
     ·rintro rfl;rfl
    rw[this]
 have hk:=this x y (fun n hn=>by
  unfold strOK at hx
  simp only[Bool.and_eq_true,List.all_eq_true,decide_eq_true_eq]at hx
  exact hx.1 n hn) (fun n hn=>by
  unfold strOK at hy
  simp only[Bool.and_eq_true,List.all_eq_true,decide_eq_true_eq]at hy
  exact hy.1 n hn)
 rw[Bool.eq_iff_iff,beq_iff_eq,beq_iff_eq]
 exact hk
theorem snd_eqStr(hs:SlotsRep E S a){op:BinOp}{t t':TypeId}{x y:Operand}(ho:o.op= .binOp op t x y t')(hu:P.underlying t=some .string)(hc:compOp P sm o=some (iop,args))(hact:act summ iop (args.map S.eval) S.look nid=some out):PureOut P E a o out:=by
 have key:∀(neg:Bool)(l:List Opd),opds P [none,none] [x,y]=some l->op=(if neg then .neq else .eql)->aEqStr neg (l.map S.eval)=some out->PureOut P E a o out:=by
  intro neg l h1 hop h2
  have hv:=opds_rep hs h1
  unfold aEqStr at h2
  split at h2
  ·rename_i p q he
   rw[he]at hv
   obtain⟨u,v,e,r1,r2⟩:=Vs2 hv
   simp at e
   obtain⟨e1,k1⟩:=VRep_str.1 r1
   obtain⟨e2,k2⟩:=VRep_str.1 r2
   rw[val_inv h2]
   have hg:(eqGuard op t x y (.string (bytesOf p)) (.string (bytesOf q))).run P E.w= .ok () E.w:=by
    unfold eqGuard;subst hop;cases neg<;>simp
   refine⟨rfl,.bool (if neg then !(p==q)else p==q),?_,VRep_bool.2 rfl⟩
   unfold execOp
   simp only[ho]
   rw[e.1,e.2,e1,e2]
   subst hop
   have hb:=bytesOf_eq k1 k2
   cases neg
   ·simp only[Bool.false_eq_true,if_false]at hg⊢
    have:(binOp .eql t (.string (bytesOf p)) (.string (bytesOf q))).run P E.w= .ok (.bool (p==q)) E.w:=by
     show(Op.stringOp .eql (bytesOf p) (bytesOf q)).run P E.w=_
     unfold Op.stringOp
     simp only[hb]
     rfl
    simp only[Sem.run_bind,hg,Result.andThen_ok,this]
    rfl
   ·simp only[if_true]at hg⊢
    have:(binOp .neq t (.string (bytesOf p)) (.string (bytesOf q))).run P E.w= .ok (.bool (!(p==q))) E.w:=by
     show(Op.stringOp .neq (bytesOf p) (bytesOf q)).run P E.w=_
     unfold Op.stringOp
     simp only[hb]
     rfl
    simp only[Sem.run_bind,hg,Result.andThen_ok,this]
    rfl
  ·cases h2
 simp only[compOp,ho,hu]at hc
 split at hc
 ·obtain⟨l,h1,h2⟩:=map_some hc
  simp at h2
  obtain⟨rfl,rfl⟩:=h2
  exact key false l h1 rfl hact
 ·obtain⟨l,h1,h2⟩:=map_some hc
  simp at h2
  obtain⟨rfl,rfl⟩:=h2
  exact key true l h1 rfl hact
 ·cases hc
theorem snd_eqAgg(hs:SlotsRep E S a){op:BinOp}{t t':TypeId}{x y:Operand}(ho:o.op= .binOp op t x y t')(hc:compEq P op t x y=some (iop,args))(hact:act summ iop (args.map S.eval) S.look nid=some out):PureOut P E a o out:=by
 have key:∀(u:Ty)(neg:Bool)(l:List Opd),eqOK P t u=true->opds P [some t,some t] [x,y]=some l->op=(if neg then .neq else .eql)->aEqb neg u S.look (l.map S.eval)=some out->PureOut P E a o out:=by
  intro u neg l hok h1 hop h2
  have hok':=hok
  simp only[eqOK,Bool.and_eq_true,Bool.not_eq_true']at hok'
  obtain⟨⟨hag,haT,hcmp⟩,hty,hgd⟩:=hok'
  have hv:=opds_rep hs h1
  unfold aEqb at h2
  split at h2
  ·rename_i cx cy he
   rw[he]at hv
   obtain⟨v1,v2,e,r1,r2⟩:=Vs2 hv
   simp at e
   split at h2
   ·rename_i p q hp hq
    have gb:∀ {c:CV}{b:u.den}{w:Value},toPH S.look u c=some b->VRep E c w->∃cs,w= .agg cs.toArray/\RepD E.w E.R u b cs:=by
     intro c b w h hw
     have hca:c.isAgg=true/\∀d,c≠ .tup d:=by
      cases u<;>simp only[Ty.agg,Bool.false_eq_true]at hag<;>cases c<;>simp only[toPH]at h<;>first|(cases h;done)|skip
      all_goals first
       |exact⟨rfl,fun d=>by simp⟩
       |(split at h
         ·rename_i ht;subst ht;exact⟨rfl,fun d=>by simp⟩
         ·cases h)
     have hw1:VRep1 E c w:=by
      cases c with
      |tup d=>exact absurd rfl (hca.2 d)
      |_=>exact hw
     obtain⟨cs,h1,h2⟩:=hw1
     rw[hca.1]at h2
     exact⟨cs,by simpa using h2,toPH_plain hcmp h h1⟩
    obtain⟨c1,e1,d1⟩:=gb hp r1
    obtain⟨c2,e2,d2⟩:=gb hq r2
    split at h2
    ·rw[val_inv h2]
     have hg:(eqGuard op t x y (.agg c1.toArray) (.agg c2.toArray)).run P E.w= .ok () E.w:=by
      unfold eqGuard;subst hop;cases neg<;>simp[hgd,run_program]
     refine⟨rfl,.bool (if neg then !(u.beq p q)else u.beq p q),?_,VRep_bool.2 rfl⟩
     unfold execOp
     simp only[ho]
     rw[e.1,e.2,e1,e2]
     subst hop
     cases neg
     ·simp only[Bool.false_eq_true,if_false]at hg⊢
      simp only[Sem.run_bind,hg,Result.andThen_ok,eql_agg hok d1 d2]
      rfl
     ·simp only[if_true]at hg⊢
      simp only[Sem.run_bind,hg,Result.andThen_ok,neq_agg hok d1 d2]
      rfl
    ·cases h2
   ·cases h2
  ·cases h2
 unfold compEq at hc
 split at hc
 ·rename_i u htu
  split at hc
  ·rename_i hok
   split at hc
   ·obtain⟨l,h1,h2⟩:=map_some hc
    simp at h2
    obtain⟨rfl,rfl⟩:=h2
    exact key u false l hok h1 rfl hact
   ·obtain⟨l,h1,h2⟩:=map_some hc
    simp at h2
    obtain⟨rfl,rfl⟩:=h2
    exact key u true l hok h1 rfl hact
   ·cases hc
  ·cases hc
 ·cases hc
theorem snd_callS(hsum:∀f s,summ f=some s->SummOK P f s)(H:HS base E S.hp)(hs:SlotsRep E S a){c:Call}{f:Nat}(ho:o.op= .call c)(hcl:c.callee= .value (.func f))(hc:compOp P sm o=some (.callS f,args))(hact:act summ (.callS f) (args.map S.eval) S.look nid=some out)(hok:out.ok=true)(hf:lookH S.hp nid= .fresh)(hn:nid<=S.hp.length):OpWp P base E S a o out:=by
 simp only[compOp,ho,hcl]at hc
 split at hc
 ·obtain⟨l,h1,h2⟩:=map_some hc
  simp at h2
  subst h2
  have hvs:=opds_rep hs h1
  simp only[act,aCallS]at hact
  split at hact
  ·rename_i s hsf
   obtain⟨hcb,_,hcalls⟩:=hsum f s hsf
   intro ro next Q hnx
   have hcall:=hcalls base E S.hp _ _ nid out H hvs hact hok hf hn
   have hargs:(c.args.toList.map a.eval).toArray=c.args.map a.eval:=by rw[<-Array.toList_map,Array.toArray_toList]
   rw[hargs]at hcall
   have hrun:(execOp a.eval o).run P E.w= .ok (.enter f (c.args.map a.eval)) E.w:=by
    unfold execOp
    simp only[ho,resolve,hcl,Act.eval,Deferred.ofValue,invoke,Sem.run_bind,Sem.run_pure,Result.andThen_ok]
    have:=run_callFunc hcb (#[]++c.args.map a.eval++ #[]) E.w
    simpa using this
   exact wp_ent hrun hcall fun e w'⟨v,E',he,hw,hle,H',hv⟩=>⟨v,he,by subst hw;exact hnx v E' hle H' hv⟩
  ·cases hact
 ·cases hc
end
end Go.Ev
namespace Go.Ev
open Go Go.RowKit
section
variable{P:Program}{sm:Nat->Bool}{summ:Nat->Option Summ}{base:Nat}{E:Env}{S:St}{a:Act}{o:Oper}{iop:IOp}{args:List Opd}{nid:Nat}{out:Out}
theorem op_sound(hsum:∀f s,summ f=some s->SummOK P f s)(H:HS base E S.hp)(hs:SlotsRep E S a)(hc:compOp P sm o=some (iop,args))(hact:act summ iop (args.map S.eval) S.look nid=some out)(hok:out.ok=true)(hf:lookH S.hp nid= .fresh)(hn:nid<=S.hp.length):OpWp P base E S a o out:=by
 cases ho:o.op with
 |move x=>exact((snd_move hs (.inl ho) hc hact).gen H).wp
 |assign x=>exact((snd_move hs (.inr ho) hc hact).gen H).wp
 |pick c x y=>exact((snd_pick hs ho hc hact).gen H).wp
 |alloc t=>exact(snd_alloc H ho hc hact hf hn).wp
 |box t x=>exact(snd_box H hs ho hc hact hf hn).wp
 |build t parts=>
  cases hu:P.underlying t with
  |none=>simp[compOp,ho,hu]at hc
  |some d=>
   cases d with
   |struct fs=>exact((snd_build hs ho hu hc hact).gen H).wp
   |array n e=>exact(snd_buildArr H hs ho hu hc hact hok).wp
   |_=>simp[compOp,ho,hu]at hc
 |buildSlice t n parts=>exact(snd_buildSl H hs ho hc hact hok hf hn).wp
 |load t x=>exact((snd_load H hs ho hc hact hok).gen H).wp
 |store t x y=>exact(snd_store H hs ho hc hact hok).wp
 |nilCheck x=>exact((snd_nilck hs ho hc hact).gen H).wp
 |binOp op t x y t'=>
  cases hu:P.underlying t with
  |none=>exact((snd_eqAgg hs ho (by simpa only[compOp,ho,hu]using hc) hact).gen H).wp
  |some d=>
   cases d with
   |int k=>exact((snd_bin hs ho hu hc hact hok).gen H).wp
   |bool=>exact((snd_eqb hs ho hu hc hact).gen H).wp
   |string=>exact((snd_eqStr hs ho hu hc hact).gen H).wp
   |_=>exact((snd_eqAgg hs ho (by simpa only[compOp,ho,hu]using hc) hact).gen H).wp
 |unOp op t x=>exact((snd_un hs ho hc hact).gen H).wp
 |convert s t x=>
  by_cases hi:∃k k',P.underlying s=some (.int k)/\P.underlying t=some (.int k')
  ·obtain⟨k,k',h1,h2⟩:=hi
   exact((snd_conv hs ho h1 h2 hc hact).gen H).wp
  ·by_cases hj:∃e,P.underlying s=some (.slice e)/\P.underlying t=some .string
   ·obtain⟨e,h1,h2⟩:=hj
    exact((snd_strB H hs ho h1 h2 hc hact hok).gen H).wp
   ·exact(snd_mark H hs ho (fun k k' h=>hi ⟨k,k',h⟩) (fun e h=>hj ⟨e,h⟩) hc hact hok).wp
 |makeFunc fn first caps=>
  cases fn with
  |func f=>exact((snd_mkFunc hs ho hc hact).gen H).wp
  |_=>simp[compOp,ho]at hc
 |slice t x lo hi mx=>
  cases mx with
  |some m=>exact((snd_slice3 hs ho hc hact hok).gen H).wp
  |none=>
   cases hu:P.underlying t with
   |none=>simp only[compOp,ho,hu]at hc;split at hc<;>simp_all
   |some d=>
    cases d with
    |slice te=>exact((snd_slice H hs ho hu hc hact hok).gen H).wp
    |array n te=>exact((snd_sliceArr hs ho hu hc hact hok).gen H).wp
    |_=>simp only[compOp,ho,hu]at hc;split at hc<;>simp_all
 |fieldAddr t x i=>exact((snd_fieldAddr hs ho hc hact).gen H).wp
 |field t x i=>exact((snd_field hs ho hc hact).gen H).wp
 |indexAddr t x y=>exact((snd_indexAddr H hs ho hc hact hok).gen H).wp
 |makeSlice t x y=>exact(snd_mkSlice H hs ho hc hact hok hf hn).wp
 |index t x i=>exact((snd_index hs ho hc hact hok).gen H).wp
 |extract x i=>exact((snd_extract hs ho hc hact).gen H).wp
 |call c=>
  cases hcl:c.callee with
  |value x=>
   cases x with
   |func f=>
    have:iop= .callS f:=by
     simp only[compOp,ho,hcl]at hc
     split at hc
     ·obtain⟨l,_,h2⟩:=map_some hc
      simp at h2;exact h2.1.symm
     ·cases hc
    subst this
    exact snd_callS hsum H hs ho hcl hc hact hok hf hn
   |_=>simp[compOp,ho,hcl]at hc
  |invoke r m=>simp[compOp,ho,hcl]at hc
  |builtin b=>
   cases b with
   |len=>exact((snd_len H hs ho hcl hc hact).gen H).wp
   |copy=>exact(snd_copy H hs ho hcl hc hact hok).wp
   |clear=>exact(snd_clear H hs ho hcl hc hact hok).wp
   |append=>exact(snd_append H hs ho hcl hc hact hok hf hn).wp
   |min=>
    match ha:c.args.toList with
    |[x,y]=>exact((snd_min hs ho hcl ha hc hact).gen H).wp
    |[]=>simp[compOp,ho,hcl,ha]at hc
    |[_]=>simp[compOp,ho,hcl,ha]at hc
    |_::_::_::_=>simp[compOp,ho,hcl,ha]at hc
   |max=>
    match ha:c.args.toList with
    |[x,y]=>exact((snd_max hs ho hcl ha hc hact).gen H).wp
    |[]=>simp[compOp,ho,hcl,ha]at hc
    |[_]=>simp[compOp,ho,hcl,ha]at hc
    |_::_::_::_=>simp[compOp,ho,hcl,ha]at hc
   |_=>simp[compOp,ho,hcl]at hc
 |_=>simp[compOp,ho]at hc
end
end Go.Ev
namespace Go.Ev
open Go Go.RowKit
def Marks(base:Nat)(E0 E:Env)(ds:List Deferred):Prop:=
 (∀d∈ds,∃D,d= {target:= .collected D,args:= #[]}/\base<=D/\E.I D/\¬E0.I D/\E.w.heap[D]? =some (.deferred (some [])))/\ds.Nodup
theorem Marks.mono{base:Nat}{E0 E E':Env}{ds:List Deferred}(h:Marks base E0 E ds)(hle:E.le base E'):Marks base E0 E' ds:=
 ⟨fun d hd=>by
  obtain⟨D,h1,h2,h3,h4,h5⟩:=h.1 d hd
  exact⟨D,h1,h2,hle.I D h3,h4,by rw[hle.heap D h3];exact h5⟩,h.2⟩
theorem Marks.nil{base:Nat}{E0 E:Env}:Marks base E0 E []:=⟨fun _ h=>(by simp at h),.nil⟩
def Sim(base:Nat)(E0:Env)(S:St)(a:Act)(w:World):Prop:=
 ∃E:Env,E0.le base E/\E.w=w/\HS base E S.hp/\SlotsRep E S a/\Marks base E0 E a.defers/\a.tmps.size=S.sl.length/\(∀b,E0.live b->b<S.fb)/\S.fb<=S.hp.length/\S.fb=E0.fb
def CallEnd{R:Type}(base:Nat)(E:Env)(hp:List Blk)(k:CV->List Blk->Option R)(r:R)(e:Ending)(w':World):Prop:=
 ∃v c hp' E',e= .returned v/\k c hp'=some r/\E'.w=w'/\E.le base E'/\HS base E' hp'/\VRep E' c v/\hp.length<=hp'.length
def rndTmps(rec:Loop)(vs:List Value):Array Value:=(rec.params.zip vs.toArray).foldl (fun tmps(t,a)=>tmps.setIfInBounds t a) rec.tmps
def CallOK{R:Type}(P:Program)(base:Nat)(rk:Nat->Loop->Prop)(call:Nat->List CV->List Blk->(CV->List Blk->Option R)->Option R):Prop:=
 (∀f cs hp k r,Nat.ble RZ f=false->call f cs hp k=some r->∀(E:Env)(vs:List Value),E.rok=rk->HS base E hp->Vs E cs vs->callable P f=true/\Calls P f vs.toArray E.w (CallEnd base E hp k r)) /\
 (∀i b c cs hp k r,call (RZ+i) (.yld b i c::cs) hp k=some r->∀(E:Env)(v0:Value)(vs:List Value),E.rok=rk->HS base E hp->VRep E (.yld b i c) v0->Vs E cs vs->∃l rec,v0= .func (.yield l) #[] #[]/\E.w.heap[l]? =some (.loop rec)/\vs.length=rec.params.size/\
  RoundIn Fence.wide 0 P l rec.fn (rndTmps rec vs) rec.assign rec.body E.w (CallEnd base E hp k r))
def Rel(P:Program)(sm:Nat->Bool)(ops:Array Oper)(o:Oper)(io:IOper):Prop:=
 io=compOne P sm ops.toList o io.rank io.preds
section
variable{R:Type}{P:Program}{sm:Nat->Bool}{summ:Nat->Option Summ}{base:Nat}{E0:Env}{ops:Array Oper}
 {call:Nat->List CV->List Blk->(CV->List Blk->Option R)->Option R}
theorem setH_len(hp:List Blk)(b:Nat)(k:Blk):hp.length<=(setH hp b k).length:=by
 unfold setH;split<;>simp
theorem wrAll_len:∀(hp:List Blk)(wr:List (Nat×Blk)),hp.length<=(wrAll hp wr).length
 |hp,[]=>Nat.le_refl _
 |hp,p::r=>Nat.le_trans (setH_len hp p.1 p.2) (wrAll_len (setH hp p.1 p.2) r)
theorem SlotsRep.put{E:Env}{S:St}{a:Act}(h:SlotsRep E S a)(hl:a.tmps.size=S.sl.length){c:CV}{v:Value}(hv:VRep E c v)(d:Option Nat):SlotsRep E (S.put d c) (a.put d v)/\(a.put d v).tmps.size=(S.put d c).sl.length:=by
 cases d with
 |none=>exact⟨h,hl⟩
 |some d=>
  refine⟨fun t=> ?_,by simp[St.put,Act.put,hl]⟩
  simp only[St.put,Act.put]
  by_cases ht:d=t
  ·subst ht
   by_cases hd:d<S.sl.length
   ·simpa[hd,hl]using hv
   ·have h1:(S.sl.set d c).getD d .junk= .junk:=by rw[List.getD_eq_getElem?_getD,List.getElem?_eq_none (by simp;omega)];rfl
    rw[h1];exact VRep_junk _ _
  ·have h1:(S.sl.set d c).getD t .junk=S.sl.getD t .junk:=by simp[List.getElem?_set,ht]
   have h2:(a.tmps.setIfInBounds d v).getD t undef=a.tmps.getD t undef:=by simp[Array.getElem?_setIfInBounds,ht]
   rw[h1,h2];exact h t
theorem SlotsRep.put_same{E:Env}{S:St}{a:Act}(h:SlotsRep E S a){c:CV}{d:Nat}(hv:VRep E c (a.tmps.getD d undef)):SlotsRep E (S.put (some d) c) a:=by
 intro t
 simp only[St.put]
 by_cases ht:d=t
 ·subst ht
  by_cases hd:d<S.sl.length
  ·simpa[hd]using hv
  ·have h1:(S.sl.set d c).getD d .junk= .junk:=by rw[List.getD_eq_getElem?_getD,List.getElem?_eq_none (by simp;omega)];rfl
   rw[h1];exact VRep_junk _ _
 ·have h1:(S.sl.set d c).getD t .junk=S.sl.getD t .junk:=by simp[List.getElem?_set,ht]
  rw[h1];exact h t
theorem SlotsRep.hp{E:Env}{S:St}{a:Act}(h:SlotsRep E S a)(hp:List Blk):SlotsRep E {S with hp:=hp} a:=h
theorem SlotsRep.mono{E E':Env}{S:St}{a:Act}(h:SlotsRep E S a)(hle:E.le base E'):SlotsRep E' S a:=fun t=>(h t).mono hle
theorem Sim.step{E:Env}{S:St}{a:Act}{w':World}(h0:E0.le base E)(hs:SlotsRep E S a)(hd:Marks base E0 E a.defers)(hl:a.tmps.size=S.sl.length)(hfb:(∀b,E0.live b->b<S.fb)/\S.fb<=S.hp.length/\S.fb=E0.fb){E':Env}{hp':List Blk}(hlen:S.hp.length<=hp'.length)(hle:E.le base E')(H':HS base E' hp')(hw:E'.w=w'){c:CV}{v:Value}(hv:VRep E' c v)(d:Option Nat):Sim base E0 ({S with hp:=hp'}.put d c) (a.put d v) w':=by
 obtain⟨h1,h2⟩:=SlotsRep.put (S:= {S with hp:=hp'}) ((hs.mono hle).hp hp') hl hv d
 refine⟨E',h0.trans hle,hw,?_,h1,?_,h2,?_⟩
 ·cases d<;>exact H'
 ·cases d<;>exact hd.mono hle
 ·cases d<;>exact⟨hfb.1,Nat.le_trans hfb.2.1 hlen,hfb.2.2⟩
def body1(summ:Nat->Option Summ)(call:Nat->List CV->List Blk->(CV->List Blk->Option R)->Option R)(draw:Bool)(base i:Nat)(o:IOper)(log:List LogE)(S:St)(k:List LogE->St->Option R):Option R:=
 match draw with
 |true=>match o.args.map S.eval with
  |vals=>match base+o.rank with
   |nid=>match act summ o.op vals S.look nid with
    |none=>none
    |some out=>gd (drawChk S o.op nid out) (gd out.ok (k (log++[logOf i o o.op vals nid out]) (S.apply o.dst out)))
 |false=>match o.op with
  | .call f=>call f (o.args.map S.eval) S.hp fun v hp=>k log ({S with hp:=hp}.put o.dst v)
  | .callv=>match o.args.map S.eval with
    | .clo f c::vs=>if capsF f c=true then call f (vs++unchain c) S.hp fun v hp=>k log ({S with hp:=hp}.put o.dst v)else none
    | .yld b i' c::vs=>call (RZ+i') (.yld b i' c::vs) S.hp fun v hp=>k log ({S with hp:=hp}.put o.dst v)
    |_=>none
  |op=>match o.args.map S.eval with
   |vals=>match S.hp.length with
    |nid=>match act summ op vals S.look nid with
     |none=>none
     |some out=>gd out.ok (k log (S.apply o.dst out))
theorem unchain_rep{E:Env}:∀ {c:CV}{vs:List Value},CRep E c vs->c.csize=(unchain c).length->(∀x∈unchain c,x.csize=1/\x.isAgg=false/\∀d,x≠ .tup d)->Vs E (unchain c) vs:=by
 intro c
 induction c with
 |pair a b iha ihb=>
  rintro vs ⟨c1,c2,rfl,h1,h2⟩ hs hx
  have h3:=hx a (by simp[unchain])
  have hl:=CRep.len a c1 h1
  rw[h3.1]at hl
  match c1,hl with
  |[v],_=>
   refine⟨(VRep_one h3.2.1 h3.2.2).2 h1,ihb h2 ?_ fun x hx'=>hx x (by simp[unchain,hx'])⟩
   simp only[CV.csize,unchain,List.length_cons,h3.1]at hs
   omega
 |_=>
  intros vs h hs _
  have hl:=CRep.len _ vs h
  simp only[unchain,List.length_nil]at hs⊢
  rw[hs]at hl
  have:vs=[]:=List.eq_nil_of_length_eq_zero hl
  subst this
  trivial
theorem caps_rep{E:Env}{c:CV}{vs:List Value}(h:CRep E c vs)(hc:capsOK c=true):Vs E (unchain c) vs:=by
 simp only[capsOK,Bool.and_eq_true,beq_iff_eq,List.all_eq_true,Bool.not_eq_true']at hc
 refine unchain_rep h hc.1 fun x hx=> ?_
 obtain⟨h1,h2,h3⟩:=hc.2 x hx
 refine⟨h1,h2,fun d e=> ?_⟩
 rw[e]at h3;simp[CV.isTup]at h3
theorem Vs.append{E:Env}:∀ {cs ds:List CV}{vs ws:List Value},Vs E cs vs->Vs E ds ws->Vs E (cs++ds) (vs++ws)
 |[],_,[],_,_,h=>h
 |_::_,_,_::_,_,⟨h1,h2⟩,h=>⟨h1,Vs.append h2 h⟩
theorem fresh_len(hp:List Blk):lookH hp hp.length= .fresh:=by simp[lookH]
theorem comp_cases{o:Oper}{c:IOp×List Opd}(h:compAny P sm o=some c):compCall P sm o=some c\/(compOp P sm o=some c/\c.1.isCall=false):=by
 unfold compAny at h
 split at h
 ·rename_i c' hc'
  simp at h;subst h;exact .inl hc'
 ·split at h
  ·rename_i c' hc'
   split at h
   ·cases h
   ·rename_i hi
    simp at h;subst h
    exact .inr ⟨hc',by simpa using hi⟩
  ·cases h
theorem call_sound{ro:Option Nat}(hcall:CallOK P base E0.rok call){E:Env}{S:St}{a:Act}(h0:E0.le base E)(H:HS base E S.hp)(hs:SlotsRep E S a)(hd:Marks base E0 E a.defers)(hl:a.tmps.size=S.sl.length)(hfb:(∀b,E0.live b->b<S.fb)/\S.fb<=S.hp.length/\S.fb=E0.fb){f:Nat}(hf:Nat.ble RZ f=false){cs:List CV}{vs:List Value}(hvs:Vs E cs vs){o:Oper}
 (hrun:∀w,callable P f=true->(execOp a.eval o).run P w= .ok (.enter f vs.toArray) w)
 {k:St->Option R} {r:R} (h:(call f cs S.hp fun v hp=>k ({S with hp:=hp}.put o.dst v))=some r) {next:Act->World->Prop} {Q:Exit->Act->World->Prop} (hn:∀S' a' w',k S'=some r->Sim base E0 S' a' w'->next a' w'):o.wpIn (FR ro) 0 P a E.w next Q:=by
 obtain⟨hcb,hc⟩:=hcall.1 f cs S.hp _ r hf h E vs h0.rok H hvs
 refine wp_ent (hrun E.w hcb) hc fun e w'⟨v,c,hp',E',he,hk,hw,hle,H',hv,hlen⟩=>⟨v,he,?_⟩
 subst hw
 exact hn _ _ _ hk (Sim.step h0 hs hd hl hfb hlen hle H' rfl hv o.dst)
theorem yield_sound{ro:Option Nat}(hcall:CallOK P base E0.rok call){E:Env}{S:St}{a:Act}(h0:E0.le base E)(H:HS base E S.hp)(hs:SlotsRep E S a)(hd:Marks base E0 E a.defers)(hl:a.tmps.size=S.sl.length)(hfb:(∀b,E0.live b->b<S.fb)/\S.fb<=S.hp.length/\S.fb=E0.fb){b i:Nat}{c:CV}{cs:List CV}{v0:Value}{vs:List Value}(hv0:VRep E (.yld b i c) v0)(hvs:Vs E cs vs){o:Oper}
 (hrun:∀l rec,v0= .func (.yield l) #[] #[]->E.w.heap[l]? =some (.loop rec)->vs.length=rec.params.size->(execOp a.eval o).run P E.w= .ok (.round l rec.fn (rndTmps rec vs) rec.assign rec.body) E.w)
 {k:St->Option R} {r:R} (h:(call (RZ+i) (.yld b i c::cs) S.hp fun v hp=>k ({S with hp:=hp}.put o.dst v))=some r) {next:Act->World->Prop} {Q:Exit->Act->World->Prop} (hn:∀S' a' w',k S'=some r->Sim base E0 S' a' w'->next a' w'):o.wpIn (FR ro) 0 P a E.w next Q:=by
 obtain⟨l,rec,e1,e2,e3,hc⟩:=hcall.2 i b c cs S.hp _ r h E v0 vs h0.rok H hv0 hvs
 refine wp_rnd (hrun l rec e1 e2 e3) hc fun e w'⟨v,c,hp',E',he,hk,hw,hle,H',hv,hlen⟩=>⟨v,he,?_⟩
 subst hw
 exact hn _ _ _ hk (Sim.step h0 hs hd hl hfb hlen hle H' rfl hv o.dst)
theorem body1_sound{ro:Option Nat}(hsum:∀f s,summ f=some s->SummOK P f s)(hcall:CallOK P base E0.rok call){S:St}{a:Act}{w:World}(hS:Sim base E0 S a w){o:Oper}{io:IOper}{c:IOp×List Opd}(hc:compAny P sm o=some c)(hop:io.op=c.1)(hargs:io.args=c.2)(hdst:io.dst=o.dst)
 {bs i:Nat} {log:List LogE} {k:List LogE->St->Option R} {r:R} (h:body1 summ call false bs i io log S k=some r) {next:Act->World->Prop} {Q:Exit->Act->World->Prop} (hn:∀S' a' w' log',k log' S'=some r->Sim base E0 S' a' w'->next a' w'):o.wpIn (FR ro) 0 P a w next Q:=by
 obtain⟨E,h0,hw,H,hs,hd,hl,hfb⟩:=hS
 subst hw
 rcases comp_cases hc with hc'|⟨hc',hnc⟩
 ·unfold compCall at hc'
  split at hc'
  ·rename_i cl ho
   have hargs':∀(l:List Opd),opds P (cl.argTypes.toList.map some) cl.args.toList=some l->Vs E (l.map S.eval) (cl.args.toList.map a.eval):=fun l h1=>opds_rep hs h1
   split at hc'
   ·rename_i f hcl
    split at hc'
    ·cases hc'
    ·rename_i hsf
     have hrz:Nat.ble RZ f=false:=by
      simp only[Bool.or_eq_true,not_or,Bool.not_eq_true]at hsf
      exact hsf.2
     obtain⟨l,h1,h2⟩:=map_some hc'
     subst h2
     unfold body1 at h
     rw[hop,hargs,hdst]at h
     simp only[Bool.false_eq_true,if_false]at h
     refine call_sound hcall h0 H hs hd hl hfb hrz (hargs' l h1) ?_ h fun S' a' w' h1 h2=>hn S' a' w' log h1 h2
     intro w hcb
     unfold execOp
     simp only[ho,resolve,hcl,Act.eval,Deferred.ofValue,invoke,Sem.run_bind,Sem.run_pure,Result.andThen_ok]
     have:=run_callFunc hcb (#[]++cl.args.map a.eval++ #[]) w
     have e:(cl.args.toList.map a.eval).toArray=cl.args.map a.eval:=by rw[<-Array.toList_map,Array.toArray_toList]
     rw[e]
     simpa using this
   ·rename_i x hx hcl
    split at hc'
    ·rename_i q l hq h1
     simp at hc';subst hc'
     unfold body1 at h
     rw[hop,hargs,hdst]at h
     simp only[Bool.false_eq_true,if_false,List.map_cons]at h
     split at h
     ·rename_i f cc vs he
      simp only[List.cons.injEq]at he
      split at h
      ·rename_i hcapF
       have hrz:Nat.ble RZ f=false/\capsOK cc=true:=by
        simp only[capsF,Bool.and_eq_true]at hcapF
        refine⟨?_,hcapF.2⟩
        have h1:=hcapF.1
        cases hb:Nat.ble RZ f
        ·rfl
        ·have h2:=Nat.le_of_ble_eq_true hb
         have h3:f<RZ:=Nat.le_of_ble_eq_true h1
         omega
       obtain⟨hrz,hcap⟩:=hrz
       have hv:=opd_rep hs hq
       rw[he.1]at hv
       obtain⟨caps,hfv,hcr⟩:=VRep_clo.1 hv
       refine call_sound hcall h0 H hs hd hl hfb hrz (vs:=cl.args.toList.map a.eval++caps) (by rw[<-he.2];exact(hargs' l h1).append (caps_rep hcr hcap)) ?_ h fun S' a' w' h1 h2=>hn S' a' w' log h1 h2
       intro w hcb
       unfold execOp
       simp only[ho,resolve,hcl,hfv,Deferred.ofValue,invoke,Sem.run_bind,Sem.run_pure,Result.andThen_ok]
       have:=run_callFunc hcb (#[]++cl.args.map a.eval++caps.toArray) w
       have e:(cl.args.toList.map a.eval++caps).toArray= #[]++cl.args.map a.eval++caps.toArray:=by
        apply Array.ext';simp
       rw[e]
       simpa using this
      ·cases h
     ·rename_i b i' cc vs he
      simp only[List.cons.injEq]at he
      have hv:=opd_rep hs hq
      rw[he.1]at hv
      refine yield_sound hcall h0 H hs hd hl hfb (vs:=cl.args.toList.map a.eval) hv (by rw[<-he.2];exact hargs' l h1) ?_ h fun S' a' w' h1 h2=>hn S' a' w' log h1 h2
      intro lo rec e1 e2 e3
      have e:(cl.args.toList.map a.eval).toArray=cl.args.map a.eval:=by rw[<-Array.toList_map,Array.toArray_toList]
      unfold execOp
      simp only[ho,resolve,hcl,e1,Deferred.ofValue,invoke,Sem.run_bind,Sem.run_pure,Result.andThen_ok]
      have:=run_yield (P:=P) (args:=cl.args.map a.eval) e2 (by rw[<-e3];simp)
      unfold rndTmps
      rw[e]
      simpa using this
     ·cases h
    ·cases hc'
   ·cases hc'
  ·cases hc'
 ·have h':(match act summ c.1 (c.2.map S.eval) S.look S.hp.length with
   |none=>none
   |some out=>gd out.ok (k log (S.apply o.dst out)))=some r:=by
   unfold body1 at h
   rw[hop,hargs,hdst]at h
   cases hc1:c.1<;>rw[hc1]at h hnc<;>first|(simp[IOp.isCall]at hnc;done)|(simpa using h)
  split at h'
  ·cases h'
  ·rename_i out hact
   have hok:out.ok=true:=by
    cases hk:out.ok
    ·rw[hk]at h';cases h'
    ·rfl
   rw[hok]at h'
   refine op_sound hsum H hs hc' hact hok (fresh_len S.hp) (Nat.le_refl _) ro next Q fun v E' hle H' hv=> ?_
   exact hn _ _ _ _ h' (Sim.step h0 hs hd hl hfb (wrAll_len _ _) hle H' rfl hv o.dst)
end
end Go.Ev
namespace Go.Ev
open Go Go.RowKit
section
variable{R:Type}{P:Program}{sm:Nat->Bool}{summ:Nat->Option Summ}{base:Nat}{E0:Env}{ops:Array Oper}
 {call:Nat->List CV->List Blk->(CV->List Blk->Option R)->Option R}
theorem evOps_cons(draw:Bool)(bs i:Nat)(o:IOper)(os:List IOper)(log:List LogE)(S:St)(k:St->Option R) :
 evOps summ call draw bs i (o::os) log S k=(match o.guard with
  |none=>body1 summ call draw bs i o log S fun log S=>evOps summ call draw bs (i+1) os log S k
  |some (d,want)=>match S.sl.getD d .junk with
   | .bool b=>bif b then
    (if want then body1 summ call draw bs i o log (S.put (some d) (.bool true)) fun log S=>evOps summ call draw bs (i+1) os log S k else evOps summ call draw bs (i+1) os log ((S.put (some d) (.bool true)).put o.dst (skp draw)) k)
     else
      (if want then evOps summ call draw bs (i+1) os log ((S.put (some d) (.bool false)).put o.dst (skp draw)) k else body1 summ call draw bs i o log (S.put (some d) (.bool false)) fun log S=>evOps summ call draw bs (i+1) os log S k)
   | .undef=>evOps summ call draw bs (i+1) os log (S.put o.dst .undef) k
   |_=>none):=by
 rw[evOps]
 cases draw<;>rfl
theorem compOne_rel{o:Oper}{rank:Nat}{preds:List Nat}{io:IOper}(h:io=compOne P sm ops.toList o rank preds) :
 (∃c g,compAny P sm o=some c/\guardOf ops.toList o=some g/\io.op=c.1/\io.args=c.2/\io.dst=o.dst/\io.guard=g)\/(io.op= .bad/\io.guard=none):=by
 unfold compOne at h
 split at h
 ·rename_i c g hc hg
  subst h
  exact .inl ⟨c,g,hc,hg,rfl,rfl,rfl,rfl⟩
 ·subst h;exact .inr ⟨rfl,rfl⟩
theorem body1_bad{draw:Bool}{bs i:Nat}{io:IOper}{log:List LogE}{S:St}{k:List LogE->St->Option R}(h:io.op= .bad):body1 summ call draw bs i io log S k=none:=by
 unfold body1
 rw[h]
 cases draw<;>rfl
theorem Sim.put_same{S:St}{a:Act}{w:World}(hS:Sim base E0 S a w){d:Nat}{b:Bool}(h:S.sl.getD d .junk= .bool b):Sim base E0 (S.put (some d) (.bool b)) a w:=by
 obtain⟨E,h0,hw,H,hs,hd,hl,hfb⟩:=hS
 have:=hs d
 rw[h]at this
 exact⟨E,h0,hw,H,SlotsRep.put_same hs this,hd,by simpa[St.put]using hl,hfb⟩
theorem Sim.skip{S:St}{a:Act}{w:World}(hS:Sim base E0 S a w)(d:Option Nat):Sim base E0 (S.put d .junk) (a.put d undef) w:=by
 obtain⟨E,h0,hw,H,hs,hd,hl,hfb⟩:=hS
 obtain⟨h1,h2⟩:=SlotsRep.put hs hl (VRep_junk E undef) d
 refine⟨E,h0,hw,?_,h1,?_,h2,?_⟩
 ·cases d<;>exact H
 ·cases d<;>exact hd
 ·cases d<;>exact hfb
theorem Sim.skipU{S:St}{a:Act}{w:World}(hS:Sim base E0 S a w)(d:Option Nat):Sim base E0 (S.put d .undef) (a.put d undef) w:=by
 obtain⟨E,h0,hw,H,hs,hd,hl,hfb⟩:=hS
 obtain⟨h1,h2⟩:=SlotsRep.put hs hl (VRep_undef E) d
 refine⟨E,h0,hw,?_,h1,?_,h2,?_⟩
 ·cases d<;>exact H
 ·cases d<;>exact hd
 ·cases d<;>exact hfb
theorem Sim.isUndef{S:St}{a:Act}{w:World}(hS:Sim base E0 S a w){d:Nat}(h:S.sl.getD d .junk= .undef):a.tmps.getD d undef=undef:=by
 obtain⟨E,h0,hw,H,hs,hd,hl,hfb⟩:=hS
 have:=hs d
 rw[h]at this
 obtain⟨cs,h1,h2⟩:=this
 have h1:cs=[Go.undef]:=h1
 subst h1
 simpa[CV.isAgg]using h2.symm
theorem Sim.bool{S:St}{a:Act}{w:World}(hS:Sim base E0 S a w){d:Nat}{b:Bool}(h:S.sl.getD d .junk= .bool b):a.tmps.getD d undef= .bool b/\a.tmps[d]? =some (.bool b):=by
 obtain⟨E,h0,hw,H,hs,hd,hl,hfb⟩:=hS
 have:=hs d
 rw[h]at this
 have h1:=VRep_bool.1 this
 refine⟨h1,?_⟩
 cases h2:a.tmps[d]? with
 |none=>simp[h2]at h1;cases h1
 |some v=>simp[h2]at h1;rw[h1]
theorem place_sound{ro:Option Nat}(hsum:∀f s,summ f=some s->SummOK P f s)(hcall:CallOK P base E0.rok call){S:St}{a:Act}{w:World}(hS:Sim base E0 S a w){o:Oper}{io:IOper}{rank:Nat}{preds:List Nat}(hrel:io=compOne P sm ops.toList o rank preds)
 {bs i:Nat} {os:List IOper} {log:List LogE} {k:St->Option R} {r:R} (h:evOps summ call false bs i (io::os) log S k=some r) {next:Act->World->Prop} {Q:Exit->Act->World->Prop}
 (hn:∀S' a' w' log',evOps summ call false bs (i+1) os log' S' k=some r->Sim base E0 S' a' w'->next a' w') :
 if Region.wanted o (yielded ops a.tmps)=true then o.wpIn (FR ro) 0 P a w next Q else next (a.put o.dst undef) w:=by
 rw[evOps_cons]at h
 rcases compOne_rel hrel with⟨c,g,hc,hg,hop,hargs,hdst,hgd⟩|⟨hop,hgd⟩
 ·rw[hgd]at h
  unfold guardOf at hg
  split at hg
  ·rename_i hgo
   simp at hg;subst hg
   have hw:Region.wanted o (yielded ops a.tmps)=true:=by simp[Region.wanted,hgo]
   rw[if_pos hw]
   simp only at h
   exact body1_sound hsum hcall hS hc hop hargs hdst h (fun S' a' w' log' h1 h2=>hn S' a' w' log' h1 h2)
  ·rename_i g' hgo
   split at hg
   ·rename_i d hd
    simp at hg;subst hg
    simp only at h
    split at h
    ·rename_i b hb
     have hB:=hS.bool hb
     have hy:yielded ops a.tmps g'.1=some b:=by
      unfold yielded
      have:(ops[g'.1]?).bind (·.dst)=some d:=by simpa using hd
      rw[this]
      simp[hB.2]
     have hwant:Region.wanted o (yielded ops a.tmps)=(b==g'.2):=by
      simp only[Region.wanted,hgo,hy]
      cases b<;>cases g'.2<;>rfl
     rw[hwant]
     have hS':=hS.put_same hb
     cases b
     ·simp only[cond_false]at h
      cases hg2:g'.2
      ·rw[hg2]at h
       simp only[Bool.false_eq_true,if_false,beq_self_eq_true,if_true]at h⊢
       exact body1_sound hsum hcall hS' hc hop hargs hdst h (fun S' a' w' log' h1 h2=>hn S' a' w' log' h1 h2)
      ·rw[hg2]at h
       simp only[if_true]at h
       rw[if_neg (by decide)]
       rw[<-hdst]
       exact hn _ _ _ _ h (hS'.skipU io.dst)
     ·simp only[cond_true]at h
      cases hg2:g'.2
      ·rw[hg2]at h
       simp only[Bool.false_eq_true,if_false]at h
       rw[if_neg (by decide)]
       rw[<-hdst]
       exact hn _ _ _ _ h (hS'.skipU io.dst)
      ·rw[hg2]at h
       simp only[if_true,beq_self_eq_true]at h⊢
       exact body1_sound hsum hcall hS' hc hop hargs hdst h (fun S' a' w' log' h1 h2=>hn S' a' w' log' h1 h2)
    ·rename_i hu
     have hU:=hS.isUndef hu
     have hy:yielded ops a.tmps g'.1=none:=by
      unfold yielded
      have:(ops[g'.1]?).bind (·.dst)=some d:=by simpa using hd
      rw[this]
      cases ht:a.tmps[d]? with
      |none=>simp[ht]
      |some v=>
       have:v=undef:=by simpa[ht]using hU
       subst this
       simp[ht,undef]
     have hwant:Region.wanted o (yielded ops a.tmps)=false:=by
      simp only[Region.wanted,hgo,hy]
      rfl
     rw[hwant,if_neg (by decide),<-hdst]
     exact hn _ _ _ _ h (hS.skipU io.dst)
    ·cases h
   ·cases hg
 ·rw[hgd]at h
  simp only[body1_bad hop]at h
  cases h
theorem evOps_fixed{ro:Option Nat}{bs:Nat}(hsum:∀f s,summ f=some s->SummOK P f s)(hcall:CallOK P base E0.rok call){Q:Exit->Act->World->Prop}{k:St->Option R}{r:R}(hk:∀S' a' w',k S'=some r->Sim base E0 S' a' w'->Q .normal a' w') :
 ∀(os:List IOper)(i:Nat)(log:List LogE)(S:St)(a:Act)(w:World),(∀j io,os[j]? =some io->∃o rank preds,ops[i+j]? =some o/\io=compOne P sm ops.toList o rank preds) ->
  evOps summ call false bs i os log S k=some r->Sim base E0 S a w->wpOpsIn (FR ro) 0 P ops Q (List.range' i os.length) a w
 |[],i,log,S,a,w,_,h,hS=>by
  simp only[evOps,Bool.false_eq_true,if_false]at h
  exact hk S a w h hS
 |io::os,i,log,S,a,w,hrel,h,hS=>by
  obtain⟨o,rank,preds,ho,hio⟩:=hrel 0 io rfl
  simp only[Nat.add_zero]at ho
  rw[List.length_cons,List.range'_succ]
  simp only[wpOpsIn,ho]
  have hstep:=place_sound (ro:=ro) (Q:=Q) hsum hcall hS hio h (next:=wpOpsIn (FR ro) 0 P ops Q (List.range' (i+1) os.length)) (fun S' a' w' log' h1 h2=>
   evOps_fixed hsum hcall hk os (i+1) log' S' a' w' (fun j io' hj=>by
    obtain⟨o',r',p',h3,h4⟩:=hrel (j+1) io' (by simpa using hj)
    exact⟨o',r',p',by rw[<-h3];congr 1;omega,h4⟩) h1 h2)
  split
  ·rename_i hw
   rw[if_pos hw]at hstep
   exact hstep
  ·rename_i hw
   rw[if_neg hw]at hstep
   exact⟨fun _ _=>trivial,hstep⟩
end
end Go.Ev
namespace Go.Ev
open Go Go.RowKit
theorem regroup_len{E:Env}:∀(c:CV)(cs:List Value),(regroup c cs).length=(unchain c).length:=by
 intro c
 induction c with
 |pair a b _ ihb=>intro cs;simp[regroup,unchain,ihb]
 |_=>intro cs;rfl
theorem headD_app{α:Type}{x y:List α}{d:α}(h:x.length=1):(x++y).headD d=x.headD d:=by
 match x,h with
 |[a],_=>rfl
theorem noTup{E:Env}{c:CV}{cs:List Value}(h:CRep E c cs):∀d,c≠ .tup d:=by
 intro d e
 subst e
 exact h.elim
theorem regroup_at{E:Env}:∀(c:CV)(cs:List Value),CRep E c cs->∀t,VRep E ((unchain c).getD t .junk) ((regroup c cs).getD t undef):=by
 intro c
 induction c with
 |pair a b _ ihb=>
  rintro cs ⟨c1,c2,rfl,h1,h2⟩ t
  have hl:=CRep.len a c1 h1
  have hv:=VRep_of h1 (noTup h1)
  cases t with
  |zero=>
   simp only[unchain,regroup,List.getD_cons_zero]
   rw[<-hl,List.take_left']
   ·cases hag:a.isAgg
    ·rw[hag]at hv
     have hv:VRep E a (c1.headD undef):=by simpa using hv
     have h1':c1.length=1:=by
      rw[hl]
      exact csize_one hag (noTup h1)
     simp only[Bool.false_eq_true,if_false]
     rw[headD_app h1']
     exact hv
    ·rw[hag]at hv
     simpa using hv
   ·rfl
  |succ t=>
   simp only[unchain,regroup,List.getD_cons_succ]
   rw[<-hl,List.drop_left']
   ·exact ihb c2 h2 t
   ·rfl
 |_=>intro cs h t;simpa[unchain,regroup]using VRep_junk E undef
theorem cap_rep{E:Env}{c:CV}{v:Value}(h:VRep E c v):∃cs,CRep E c.cap cs/\(if c.cap.isAgg then Value.agg (cs.take c.cap.csize).toArray else cs.headD undef)=v/\cs.length=c.cap.csize:=by
 by_cases ht:∃d,c= .tup d
 ·obtain⟨d,rfl⟩:=ht
  exact⟨[v],rfl,by simp[CV.cap,CV.isAgg],rfl⟩
 ·have hc:c.cap=c:=by
   cases c with
   |tup d=>exact absurd ⟨d,rfl⟩ ht
   |_=>rfl
  have h1:VRep1 E c v:=by
   cases c with
   |tup d=>exact absurd ⟨d,rfl⟩ ht
   |_=>exact h
  obtain⟨cs,h2,h3⟩:=h1
  have hl:=CRep.len c cs h2
  refine⟨cs,by rw[hc];exact h2,?_,by rw[hc];exact hl⟩
  rw[hc]
  cases hag:c.isAgg
  ·rw[hag]at h3
   have:cs=[v]:=by simpa using h3
   subst this;rfl
  ·rw[hag]at h3
   have:v= .agg cs.toArray:=by simpa using h3
   subst this
   simp[<-hl]
theorem chain_rep{E:Env}:∀(sl:List CV)(vs:List Value),sl.length=vs.length->(∀t,VRep E (sl.getD t .junk) (vs.getD t undef))->∃cells,CRep E (chain (sl.map CV.cap)) cells/\regroup (chain (sl.map CV.cap)) cells=vs
 |[],[],_,_=>⟨[],rfl,rfl⟩
 |[],_::_,h,_=>by simp at h
 |_::_,[],h,_=>by simp at h
 |c::sl,v::vs,h,hv=>by
  obtain⟨cs,h1,h2,h3⟩:=cap_rep (by simpa using hv 0)
  obtain⟨cells,h4,h5⟩:=chain_rep sl vs (by simpa using h) fun t=>by simpa using hv (t+1)
  refine⟨cs++cells,⟨cs,cells,rfl,h1,h4⟩,?_⟩
  show(if c.cap.isAgg then Value.agg ((cs++cells).take c.cap.csize).toArray else(cs++cells).headD undef)::regroup (chain (sl.map CV.cap)) ((cs++cells).drop c.cap.csize)=v::vs
  rw[<-h3,List.drop_left',h5]
  ·congr 1
   rw[<-h2,<-h3]
   cases hag:c.cap.isAgg
   ·have hl:cs.length=1:=by
     rw[h3]
     exact csize_one hag (noTup h1)
    simp only[Bool.false_eq_true,if_false]
    rw[headD_app hl]
   ·simp
  ·rfl
section
variable{base:Nat}{E:Env}{hp:List Blk}{n:Nat}
theorem putObj_below{w:World}{g:Nat}(o:Obj)(h:base<=g):Below base w (w.putObj g o) :=
 ⟨rfl,rfl,rfl,by simp,fun k hk=>World.putObj_heap_other (by omega)⟩
def Env.newLoop(E:Env)(n:Nat)(rec:Loop)(i:Nat):Env:=
 {E with w:=(E.w.alloc (.deferred (some []))).alloc (.loop rec),I:=fun g=>E.I g\/g=E.w.heap.size,μ:=upd E.μ n (E.w.heap.size+1),live:=fun b=>E.live b\/b=n,lr:=fun b=>if b=n then some (rec,i)else E.lr b}
theorem alloc2_old(w:World)(o p:Obj){g:Nat}(h:g<w.heap.size):((w.alloc o).alloc p).heap[g]? =w.heap[g]? :=by
 rw[Below.heap_alloc _ _ _ (by simp;omega),Below.heap_alloc _ _ _ h]
theorem alloc2_new(w:World)(o p:Obj):((w.alloc o).alloc p).heap[w.heap.size+1]? =some p:=by
 have:=World.alloc_heap_new (w.alloc o) p
 rw[World.size_alloc]at this
 exact this
theorem HS.newLoop(H:HS base E hp)(hf:lookH hp n= .fresh)(hn:n<=hp.length){rec:Loop}{i m:Nat}(hm:rec= {rec with state:=(loopSt m).1,pending:=(loopSt m).2})(hok:E.rok i rec) :
 E.le base (E.newLoop n rec i)/\HS base (E.newLoop n rec i) (setH hp n (.ghost m)):=by
 have hnl:=H.notLive hf
 have hal:∀g,g<E.w.heap.size->(E.newLoop n rec i).w.heap[g]? =E.w.heap[g]? :=fun g hg=>alloc2_old _ _ _ hg
 have hb:Below base E.w (E.newLoop n rec i).w:=((Below.refl _ _).alloc H.base _).alloc (by have:=H.base;simp;omega) _
 have hle:E.le base (E.newLoop n rec i) :=
  ⟨fun _ h=> .inl h,fun g hg=>hal g (H.imm g hg),fun _ h=> .inl h,fun b hb=>upd_ne _ _ (fun e=>hnl (e▸hb)),fun _ _=>rfl,hb,fun g hg=>hg.elim .inl fun e=> .inr (by have:=H.base;omega),
   fun b hb=>if_neg (fun(e:b=n)=>hnl (e▸hb)),rfl,rfl⟩
 have hsz:(E.newLoop n rec i).w.heap.size=E.w.heap.size+2:=by
  show((E.w.heap.push _).push _).size=_
  simp
 have hμ:(E.newLoop n rec i).μ n=E.w.heap.size+1:=upd_same _ _ _
 refine⟨hle,H.set hle hn (by simp) (fun _=>Iff.rfl) (fun g hg=> ?_) (fun b g _ hg hI=> ?_) (fun b g _ hg=>hal g (H.held_lt hg)) ?_ ?_ ?_ ?_⟩
 ·rw[hsz]
  rcases hg with h|h
  ·have:=H.imm g h;omega
  ·omega
 ·rcases hI with h|h
  ·exact(H.sep b g hg).1 h
  ·have:=H.held_lt hg;omega
 ·refine⟨rec,i,if_pos rfl,?_⟩
  rw[hμ]
  show((E.w.heap.push _).push _)[E.w.heap.size+1]? =_
  have e0:gObj rec m= .loop rec:=congrArg Obj.loop hm.symm
  rw[e0]
  exact alloc2_new _ _ _
 ·intro g hg
  have hg:g=(E.newLoop n rec i).μ n:=hg
  rw[hμ]at hg
  subst hg
  refine⟨fun h=> ?_,by have:=H.base;omega,fun b _ hb=>by have:=H.held_lt hb;omega⟩
  rcases h with h|h
  ·have:=H.imm _ h;omega
  ·omega
 ·intro b rec' i' h
  have h:(if b=n then some (rec,i)else E.lr b)=some (rec',i'):=h
  split at h
  ·injection h with h
   injection h with h1 h2
   subst h1;subst h2
   exact hok
  ·exact H.eok b rec' i' h
 ·intro g hg hb
  rcases hg with h|h
  ·exact thaw.congr (hal g (H.imm g h)) (H.thw g h hb)
  ·subst h
   refine thaw.other (o:= .deferred (some [])) ?_ (fun _ _ _ e=>by cases e)
   show((E.w.heap.push _).push _)[E.w.heap.size]? =_
   rw[Array.getElem?_push,if_neg (by simp)]
   simp
theorem newLoop_D{rec:Loop}{i:Nat}:(E.newLoop n rec i).w.heap[E.w.heap.size]? =some (.deferred (some [])):=by
 show((E.w.heap.push _).push _)[E.w.heap.size]? =_
 rw[Array.getElem?_push,if_neg (by simp)]
 simp
theorem HS.putLoop(H:HS base E hp){m:Nat}(hg:lookH hp n= .ghost m){rec:Loop}{i:Nat}(hlr:E.lr n=some (rec,i))(o:Obj)(k:Blk)(hk:k= .dead\/∃m',k= .ghost m'/\o=gObj rec m') :
 E.le base {E with w:=E.w.putObj (E.μ n) o}/\HS base {E with w:=E.w.putObj (E.μ n) o} (setH hp n k):=by
 have hhold:holdsB E n (lookH hp n) (E.μ n):=by rw[hg];rfl
 have hl:E.live n:=(H.live n).2 (by rw[hg];simp)
 have hlt:=lookH_lt ((H.live n).1 hl)
 have hsep:=H.sep n _ hhold
 have hsz:=H.held_lt hhold
 have hle:E.le base {E with w:=E.w.putObj (E.μ n) o}:=Env.le_world (putObj_below o hsep.2) fun g hg'=>World.putObj_heap_other (fun e=>hsep.1 (e▸hg'))
 refine⟨hle,H.set hle (by omega) (by rcases hk with rfl|⟨m',rfl,_⟩<;>simp) (fun b=>⟨.inl,fun h=>h.elim id (fun e=>e▸hl)⟩) (fun g hg'=>by have:=H.imm g hg';simpa using this) (fun b g _ hg'=>(H.sep b g hg').1) (fun b g hb hg'=>World.putObj_heap_other (fun e=>hb (H.inj b n g hg' (e▸hhold)))) ?_ ?_ H.eok (H.thw_le hle fun _ h=>h)⟩
 ·rcases hk with rfl|⟨m',rfl,rfl⟩
  ·trivial
  ·exact⟨rec,i,hlr,World.putObj_heap_same hsz⟩
 ·intro g hg'
  rcases hk with rfl|⟨m',rfl,_⟩
  ·exact hg'.elim
  ·have hg':g=E.μ n:=hg'
   subst hg'
   exact⟨hsep.1,hsep.2,fun b hb hb'=>hb (H.inj b n _ hb' hhold)⟩
theorem RepD.cells{w w':World}{I:Nat->Prop}(hc:∀p,w'.cell? p=w.cell? p):∀(t:Ty)(x:t.den)(cs:List Value),RepD w I t x cs->RepD w' I t x cs
 | .int _,_,_,h=>h
 | .bool,_,_,h=>h
 | .str,_,_,h=>h
 | .unit,_,_,h=>h
 | .pair a b,x,_,⟨c1,c2,e,h1,h2⟩=>⟨c1,c2,e,RepD.cells hc a x.1 c1 h1,RepD.cells hc b x.2 c2 h2⟩
 | .arr n e,x,cs,h=>⟨h.1,Rows.mono (fun x c=>RepD.cells hc e x c) x cs h.2⟩
 | .slice e,x,cs,⟨a,c,h,h1,h2,h3⟩=>⟨a,c,h,h1,h2,fun h0=>by
  obtain⟨b,off,rows,ha,hb,hcl,hr⟩:=h3 h0
  exact⟨b,off,rows,ha,hb,fun j u hj=>by rw[hc];exact hcl j u hj,Rows.mono (fun x c=>RepD.cells hc e x c) x rows hr⟩⟩
theorem CRep.cells{w':World}(hc:∀p,w'.cell? p=E.w.cell? p):∀(c:CV)(cs:List Value),CRep E c cs->CRep {E with w:=w'} c cs
 | .junk,_,h=>h
 | .undef,_,h=>h
 | .int _ _,_,h=>h
 | .bool _,_,h=>h
 | .nil _ _,_,h=>h
 | .pure t x,cs,h=>RepD.cells hc t x cs h
 | .pair a b,_,⟨c1,c2,e,h1,h2⟩=>⟨c1,c2,e,CRep.cells hc a c1 h1,CRep.cells hc b c2 h2⟩
 | .whole b,_,h=>h
 | .sub b p sz off len cap,_,h=>h
 | .ptr b p,_,h=>h
 | .ref t x,_,⟨b,off,rows,e,hI,hcl,hr⟩=>⟨b,off,rows,e,hI,fun j u hj=>by rw[hc];exact hcl j u hj,RepD.cells hc t x rows hr⟩
 | .clo f c,_,⟨caps,e,h⟩=>⟨caps,e,CRep.cells hc c caps h⟩
 | .yld b i c,_,⟨hl,e,rec,cells,h1,h2,h3⟩=>⟨hl,e,rec,cells,h1,CRep.cells hc c cells h2,h3⟩
 | .tup _,_,h=>h
 | .jsl e x,cs,h=>RepD.cells hc (.slice e) x cs h
theorem VRep1.cells{w':World}(hc:∀p,w'.cell? p=E.w.cell? p){c:CV}{v:Value}(h:VRep1 E c v):VRep1 {E with w:=w'} c v:=
 let⟨cs,h1,h2⟩:=h
 ⟨cs,CRep.cells hc c cs h1,h2⟩
theorem TRep.cells{w':World}(hc:∀p,w'.cell? p=E.w.cell? p):∀ {c:CV}{vs:List Value},TRep E c vs->TRep {E with w:=w'} c vs:=by
 intro c
 induction c with
 |pair a b _ ihb=>rintro vs ⟨v,r,e,h1,h2⟩;exact⟨v,r,e,h1.cells hc,ihb h2⟩
 |pure t x=>intro vs h;cases t<;>exact h
 |_=>intro vs h;exact h.elim
theorem VRep.cells{w':World}(hc:∀p,w'.cell? p=E.w.cell? p){c:CV}{v:Value}(h:VRep E c v):VRep {E with w:=w'} c v:=by
 cases hc':c with
 |tup d=>
  rw[hc']at h
  obtain⟨vs,e,ht⟩:=h
  exact⟨vs,e,ht.cells hc⟩
 |_=>
  rw[<-hc']
  have h1:VRep1 E c v:=by rw[hc']at h⊢;exact h
  have h2:=h1.cells hc
  rw[hc']at h2⊢
  exact h2
theorem BRep.cells{w':World}{b:Nat}(hc:∀p,w'.cell? p=E.w.cell? p){k:Blk}(hk:∀g,holdsB E b k g->w'.heap[g]? =E.w.heap[g]?)(h:BRep E base b k):BRep {E with w:=w'} base b k:=by
 cases k with
 |mem c=>obtain⟨cs,te,h1,h2⟩:=h;exact⟨cs,te,by rw[<-h1];exact hk _ rfl,CRep.cells hc _ _ h2⟩
 |vec te e xs=>
  obtain⟨cells,h1,h2,h3,h4⟩:=h
  exact⟨cells,Rows.mono (fun x c=>RepD.cells hc e x c) xs cells h1,ownsRow_frame h2 (fun g hg=>hk g hg),h3,h4⟩
 |fvec te e xs=>exact RepD.cells hc (.slice e) xs _ h
 |ghost m=>obtain⟨rec,i,h1,h2⟩:=h;exact⟨rec,i,h1,by rw[<-h2];exact hk _ rfl⟩
 |fresh=>trivial
 |dead=>trivial
theorem HS.shut(H:HS base E hp){D:Nat}(hI:E.I D)(hd:E.w.heap[D]? =some (.deferred (some []))) :
 (∀p,(E.w.putObj D (.deferred none)).cell? p=E.w.cell? p)/\HS base {E with w:=E.w.putObj D (.deferred none)} hp:=by
 have hlt:D<E.w.heap.size:=H.imm D hI
 have hc:∀p,(E.w.putObj D (.deferred none)).cell? p=E.w.cell? p:=by
  intro p
  unfold World.cell?
  by_cases hp:p.block=D
  ·rw[hp,World.putObj_heap_same hlt,hd]
  ·rw[World.putObj_heap_other hp]
 refine⟨hc,⟨fun b=>(H.blk b).cells hc fun g hg=>World.putObj_heap_other (fun e=>(H.sep b g hg).1 (e▸hI)),H.inj,H.sep,fun g hg=>by have:=H.imm g hg;simpa using this,H.live,by have:=H.base;simpa using this,H.eok,H.jI,fun g hg hb=>by
  by_cases e:g=D
  ·subst e;exact thaw.other (World.putObj_heap_same hlt) (fun _ _ _ e=>by cases e)
  ·exact thaw.congr (World.putObj_heap_other (fun h=>e h)) (H.thw g hg hb)⟩⟩
end
end Go.Ev
namespace Go.Ev
open Go Go.RowKit
def toExit:Ex->Exit| .normal=> .normal| .exit id=> .exit id| .ret=> .ret
theorem least{p:Nat->Prop}(h:∃n,p n):∃n,p n/\∀m,p m->n<=m:=by
 obtain⟨n,hn⟩:=h
 induction n using Nat.strongRecOn with
 |_ n ih=>
  by_cases hs:∃m,m<n/\p m
  ·obtain⟨m,hm,hp⟩:=hs
   exact ih m hm hp
  ·exact⟨n,hn,fun m hm=>by
    rcases Nat.lt_or_ge m n with h|h
    ·exact absurd ⟨m,h,hm⟩ hs
    ·exact h⟩
section
variable{ro:Option Nat}{R:Type}{P:Program}{sm:Nat->Bool}{summ:Nat->Option Summ}{base:Nat}{E0:Env}
 {call:Nat->List CV->List Blk->(CV->List Blk->Option R)->Option R}
theorem compOps_rel{ops:Array Oper}{draw:Bool}(j:Nat)(io:IOper)(h:(compOps P sm ops.toList draw)[j]? =some io):∃o rank preds,ops[0+j]? =some o/\io=compOne P sm ops.toList o rank preds:=by
 simp only[compOps,List.getElem?_map,Option.map_eq_some_iff]at h
 obtain⟨⟨o,i⟩,h1,rfl⟩:=h
 rw[List.getElem?_zipIdx]at h1
 simp only[Option.map_eq_some_iff]at h1
 obtain⟨o',h1,h2⟩:=h1
 simp at h2
 obtain⟨rfl,rfl⟩:=h2
 refine⟨o',_,_,by simpa using h1,rfl⟩
theorem compOps_len{ops:Array Oper}{draw:Bool}:(compOps P sm ops.toList draw).length=ops.size:=by simp[compOps]
open Classical in
theorem loop_sound{body:Code}{b:St->(Ex->St->Option R)->Option R}{nrm:St->St}(hnrm:∀S a w,Sim base E0 S a w->Sim base E0 (nrm S) a w)
 {k:Ex->St->Option R} {r:R} {Q:Exit->Act->World->Prop} (hk:∀ex S' a' w',k ex S'=some r->Sim base E0 S' a' w'->Q (toExit ex) a' w')
 (hb:∀(Q':Exit->Act->World->Prop)(k':Ex->St->Option R)(S:St)(a:Act)(w:World),b S k'=some r->Sim base E0 S a w->(∀ex S' a' w',k' ex S'=some r->Sim base E0 S' a' w'->Q' (toExit ex) a' w')->body.wpIn (FR ro) 0 P Q' a w)
 {m:Nat} {S:St} {a:Act} {w:World} (h:evLoop b nrm m S k=some r) (hS:Sim base E0 S a w):(Code.loop body).wpIn (FR ro) 0 P Q a w:=by
 let p:Act->World->Nat->Prop:=fun a w m=>∃S,Sim base E0 S a w/\evLoop b nrm m S k=some r
 let μ:Act->World->Nat:=fun a w=>if h:∃n,p a w n then Classical.choose (least h)else 0
 have hμ:∀a w m,p a w m->p a w (μ a w)/\μ a w<=m:=by
  intro a w m hm
  have hex:∃n,p a w n:=⟨m,hm⟩
  have hs:=Classical.choose_spec (least hex)
  have e:μ a w=Classical.choose (least hex):=dif_pos hex
  rw[e]
  exact⟨hs.1,hs.2 m hm⟩
 refine wpIn_loop (fun a w=>∃m,p a w m) μ ⟨m,S,hS,h⟩ ?_
 intro a w ⟨m,hm⟩
 obtain⟨⟨S,hS,he⟩,hle⟩:=hμ a w m hm
 generalize hμa:μ a w=m0 at he hle
 cases m0 with
 |zero=>simp[evLoop]at he
 |succ m'=>
  simp only[evLoop]at he
  refine hb _ _ _ a w he (hnrm S a w hS) fun ex S' a' w' h1 h2=> ?_
  cases ex with
  |normal=>
   have hp:p a' w' m':=⟨S',h2,h1⟩
   obtain⟨_,h3⟩:=hμ a' w' m' hp
   exact⟨⟨m',hp⟩,by omega⟩
  |exit id=>exact hk (.exit id) S' a' w' h1 h2
  |ret=>exact hk .ret S' a' w' h1 h2
theorem cut_ind{p:IC->Prop}(hcut:∀l b,p b->p (.cut l b))(h:∀ic,(∀l b,ic≠ .cut l b)->p ic):∀ic,p ic:=by
 intro ic
 induction ic with
 |cut l b ih=>exact hcut l b ih
 |_=>exact h _ (fun _ _ e=>by cases e)
theorem region_cut{fu:Nat}(hnrm:∀live S a w,Sim base E0 S a w->Sim base E0 (St.norm live S) a w){d:Bool}{n:Nat}{ops:List IOper}{a:Act}{w:World}{r:R}{k:Ex->St->Option R}:∀(p:IC),p.erase= .region d n ops->∀ {S:St},evCode summ fu call p S k=some r->Sim base E0 S a w->∃S',Sim base E0 S' a w/\evCode summ fu call (.region d n ops) S' k=some r:=by
 refine cut_ind (fun l b ih hc S h hS=>ih hc h (hnrm l S a w hS)) ?_
 intro ic hnc hc S h hS
 cases ic<;>first|exact absurd rfl (hnc _ _)|simp[IC.erase]at hc
 obtain⟨rfl,rfl,rfl⟩:=hc
 exact⟨S,hS,h⟩
theorem seq_cut{fu:Nat}(hnrm:∀live S a w,Sim base E0 S a w->Sim base E0 (St.norm live S) a w){a:Act}{w:World}{r:R}{k:Ex->St->Option R}{x y:IC}:∀(p:IC),p.erase= .seq x y->∀ {S:St},evCode summ fu call p S k=some r->Sim base E0 S a w->∃S' p1 p2,Sim base E0 S' a w/\evCode summ fu call p1 S' (fun ex S=>match ex with| .normal=>evCode summ fu call p2 S k|ex=>k ex S)=some r/\p1.erase=x/\p2.erase=y:=by
 refine cut_ind (fun l b ih hc S h hS=>ih hc h (hnrm l S a w hS)) ?_
 intro ic hnc hc S h hS
 cases ic<;>first|exact absurd rfl (hnc _ _)|simp[IC.erase]at hc
 rename_i p q
 simp only[evCode]at h
 exact⟨S,p,q,hS,h,hc.1,hc.2⟩
theorem evCode_sound(hsum:∀f s,summ f=some s->SummOK P f s)(hcall:CallOK P base E0.rok call)(hnrm:∀live S a w,Sim base E0 S a w->Sim base E0 (St.norm live S) a w)
 (hdraw:∀(Q:Exit->Act->World->Prop)(id nnew:Nat)(ops:Array Oper)(k:St->Option R)(r:R)(S:St)(a:Act)(w:World),edgesOK ops.toList=true->slotsOK 0 (compOps P sm ops.toList true)=true->evOps summ call true S.hp.length 0 (compOps P sm ops.toList true) [] {S with hp:=S.hp++List.replicate nnew .fresh} k=some r->Sim base E0 S a w->(∀S' a' w',k S'=some r->Sim base E0 S' a' w'->Q .normal a' w')->(Code.region id ops true).wpIn (FR ro) 0 P Q a w)
 (hdrawC:∀(Q:Exit->Act->World->Prop)(id nnew:Nat)(ops:Array Oper)(e:Nat)(k:St->Option R)(r:R)(S:St)(a:Act)(w:World),edgesOK ops.toList=true->midCall P sm ops.toList=some e->slotsOK 0 ((compOps P sm ops.toList true).take e)=true->evOps summ call true S.hp.length 0 ((compOps P sm ops.toList true).take e) [] {S with hp:=S.hp++List.replicate nnew .fresh} k=some r->Sim base E0 S a w->
  (∀(next:Act->World->Prop)(o:Oper)S' a' w',k S'=some r->Sim base E0 S' a' w'->ops.toList[e]? =some o->
   (∀S2 a2 w2(k2:St->Option R),slotsOK 0 (postOps P sm ops.toList e)=true->evOps summ call true S2.hp.length 0 (postOps P sm ops.toList e) [] S2 k2=some r->Sim base E0 S2 a2 w2->(∀S3 a3 w3,k2 S3=some r->Sim base E0 S3 a3 w3->Q .normal a3 w3)->next a2 w2) ->
   if Region.wanted o (yielded ops a'.tmps)=true then o.wpIn (FR ro) 0 P a' w' next Q else next (a'.put o.dst undef) w')->(Code.region id ops true).wpIn (FR ro) 0 P Q a w)
 {fu:Nat} {r:R} {fno:Nat}:∀(code:Code)(ic:IC),compC P sm fno code=ic.erase->(∀x∈rngs code,ro=none/\∀rec:Loop,rec.params.toList=x.1->rec.assign=x.2.1->rec.body=x.2.2->E0.rok fno rec)->∀(Q:Exit->Act->World->Prop)(k:Ex->St->Option R)(S:St)(a:Act)(w:World),evCode summ fu call ic S k=some r->Sim base E0 S a w->
  (∀ex S' a' w',k ex S'=some r->Sim base E0 S' a' w'->Q (toExit ex) a' w')->code.wpIn (FR ro) 0 P Q a w:=by
 intro code
 induction code with
 |skip=>
  refine cut_ind (fun l b ih hc hr Q k S a w h hS hk=>ih hc hr Q k _ a w h (hnrm l S a w hS) hk) ?_
  intro ic hnc hc hr Q k S a w h hS hk
  cases ic<;>first|exact absurd rfl (hnc _ _)|simp[compC,IC.erase]at hc
  exact wpIn_skip (hk .normal S a w h hS)
 |region id ops draw=>
  refine cut_ind (fun l b ih hc hr Q k S a w h hS hk=>ih hc hr Q k _ a w h (hnrm l S a w hS) hk) ?_
  intro ic hnc hc hr Q k S a w h hS hk
  simp only[compC]at hc
  split at hc
  ·cases ic<;>first|exact absurd rfl (hnc _ _)|simp[IC.erase]at hc
   obtain⟨rfl,rfl,rfl⟩:=hc
   simp[evCode,evOps,act]at h
  ·rename_i hed
   split at hc
   ·rename_i e hlc
    cases draw
    ·cases hlc
    simp only[↓reduceIte]at hlc
    have hex:∀(o:Oper),ops.toList[e]? =some o->∃io,(compOps P sm ops.toList true)[e]? =some io/\io=compOne P sm ops.toList o io.rank io.preds:=by
     intro o ho
     cases hg:(compOps P sm ops.toList true)[e]? with
     |none=>
      rw[List.getElem?_eq_none_iff]at hg
      rw[List.getElem?_eq_none (by simpa[compOps]using hg)]at ho
      cases ho
     |some io=>
      refine⟨io,rfl,?_⟩
      obtain⟨o',rank,preds,h6,h7⟩:=compOps_rel _ io hg
      have:o'=o:=by
       simp at h6 ho
       rw[h6]at ho
       exact Option.some.inj ho
      subst this
      subst h7
      have:∀(o:Oper)(r:Nat)(p:List Nat),(compOne P sm ops.toList o r p).rank=r/\(compOne P sm ops.toList o r p).preds=p:=by
       intro o r p
       unfold compOne
       split<;>exact⟨rfl,rfl⟩
      rw[(this _ _ _).1,(this _ _ _).2]
    cases ic<;>first|exact absurd rfl (hnc _ _)|simp[IC.erase]at hc
    rename_i p q
    obtain⟨hc1,hc2⟩:=hc
    simp only[evCode]at h
    obtain⟨S2,hS2,h2⟩:=region_cut hnrm p hc1.symm h hS
    simp only[evCode]at h2
    have hsl:slotsOK 0 ((compOps P sm ops.toList true).take e)=true:=by
     cases hx:slotsOK 0 ((compOps P sm ops.toList true).take e)
     ·rw[hx]at h2;cases h2
     ·rfl
    rw[hsl]at h2
    refine hdrawC Q id _ ops e _ r S2 a w (by simpa using hed) hlc hsl h2 hS2 ?_
    intro next o S' a' w' h3 h4 hlo hq
    obtain⟨io,hio,hrel⟩:=hex o hlo
    rw[hio]at hc2
    by_cases hend:e+1=ops.size
    ·rw[if_pos hend]at hc2
     obtain⟨S5,hS5,h5⟩:=region_cut hnrm q hc2.symm h3 h4
     simp only[evCode]at h5
     have hpn:postOps P sm ops.toList e=[]:=by
      unfold postOps
      rw[List.drop_eq_nil_of_le (by simp[compOps];omega)]
      rfl
     rw[hpn]at hq
     exact place_sound hsum hcall hS5 hrel h5 (fun S6 a6 w6 log6 h6 h7=>hq S6 a6 w6 (k .normal) rfl (by simpa[evOps,logOK,gd]using h6) h7 (fun S3 a3 w3 h8 h9=>hk .normal S3 a3 w3 h8 h9))
    ·rw[if_neg hend]at hc2
     obtain⟨q1,q2,S7,hS7,h7,hq1,hq2⟩:∃q1 q2 S7,Sim base E0 S7 a' w'/\evCode summ fu call q1 S7 (fun ex S=>match ex with| .normal=>evCode summ fu call q2 S k|ex=>k ex S)=some r/\q1.erase= .region false 0 [io]/\q2.erase= .region true 0 (postOps P sm ops.toList e):=by
      obtain⟨S7,q1,q2,g1,g2,g3,g4⟩:=seq_cut hnrm q hc2.symm h3 h4
      exact⟨q1,q2,S7,g1,g2,g3,g4⟩
     obtain⟨S5,hS5,h5⟩:=region_cut hnrm q1 hq1 h7 hS7
     simp only[evCode]at h5
     exact place_sound hsum hcall hS5 hrel h5 (fun S6 a6 w6 log6 h6 h7=>by
      simp only[evOps]at h6
      obtain⟨S8,hS8,h8⟩:=region_cut hnrm q2 hq2 h6 h7
      simp only[evCode]at h8
      have hsl2:slotsOK 0 (postOps P sm ops.toList e)=true:=by
       cases hx:slotsOK 0 (postOps P sm ops.toList e)
       ·rw[hx]at h8;cases h8
       ·rfl
      rw[hsl2]at h8
      exact hq S8 a6 w6 (k .normal) hsl2 (by simpa[gd]using h8) hS8 (fun S3 a3 w3 h8 h9=>hk .normal S3 a3 w3 h8 h9))
   rename_i hlc
   cases ic<;>first|exact absurd rfl (hnc _ _)|simp[IC.erase]at hc
   obtain⟨rfl,rfl,rfl⟩:=hc
   simp only[evCode]at h
   cases draw
   ·refine wpIn_region ?_
    have:=evOps_fixed (ro:=ro) (ops:=ops) (Q:=Q) hsum hcall (fun S' a' w' h1 h2=>hk .normal S' a' w' h1 h2) (compOps P sm ops.toList false) 0 [] S a w (fun j io hj=>compOps_rel j io hj) h hS
    rw[compOps_len,<-List.range_eq_range']at this
    exact this
   ·have hsl:slotsOK 0 (compOps P sm ops.toList true)=true:=by
     cases hx:slotsOK 0 (compOps P sm ops.toList true)
     ·rw[hx]at h;cases h
     ·rfl
    rw[hsl]at h
    exact hdraw Q id _ ops (k .normal) r S a w (by simpa using hed) hsl h hS (fun S' a' w' h1 h2=>hk .normal S' a' w' h1 h2)
 |seq x y ihx ihy=>
  refine cut_ind (fun l b ih hc hr Q k S a w h hS hk=>ih hc hr Q k _ a w h (hnrm l S a w hS) hk) ?_
  intro ic hnc hc hr Q k S a w h hS hk
  cases ic<;>first|exact absurd rfl (hnc _ _)|simp[compC,IC.erase]at hc
  rename_i p q
  simp only[evCode]at h
  refine wpIn_seq (ihx p hc.1 (fun x hx=>hr x (List.mem_append_left _ hx)) _ _ S a w h hS ?_)
  intro ex S' a' w' h1 h2
  cases ex with
  |normal=>exact ihy q hc.2 (fun x hx=>hr x (List.mem_append_right _ hx)) Q k S' a' w' h1 h2 hk
  |exit id=>exact hk (.exit id) S' a' w' h1 h2
  |ret=>exact hk .ret S' a' w' h1 h2
 |cond c x y ihx ihy=>
  refine cut_ind (fun l b ih hc hr Q k S a w h hS hk=>ih hc hr Q k _ a w h (hnrm l S a w hS) hk) ?_
  intro ic hnc hc hr Q k S a w h hS hk
  cases ic<;>first|exact absurd rfl (hnc _ _)|simp[compC,IC.erase]at hc
  rename_i c' p q
  obtain⟨hc1,hc2,hc3⟩:=hc
  simp only[evCode]at h
  cases hq:opd P none c with
  |none=>
   rw[hq]at hc1
   simp at hc1;subst hc1
   simp at h
  |some q'=>
   rw[hq]at hc1
   simp at hc1;subst hc1
   have hS2:=hS
   obtain⟨E,h0,hw,H,hs,hd,hl,hfb⟩:=hS2
   have hv:=opd_rep hs hq
   split at h
   ·rename_i t
    split at h
    ·rename_i b hb
     simp only[St.eval]at hv
     rw[hb]at hv
     have hev:=VRep_bool.1 hv
     have hS':=hS.put_same hb
     cases b
     ·exact wpIn_cond_false hev (ihy q hc3 (fun x hx=>hr x (List.mem_append_right _ hx)) Q k _ a w h hS' hk)
     ·exact wpIn_cond_true hev (ihx p hc2 (fun x hx=>hr x (List.mem_append_left _ hx)) Q k _ a w h hS' hk)
    ·cases h
   ·rename_i b
    have hev:=VRep_bool.1 hv
    cases b
    ·exact wpIn_cond_false hev (ihy q hc3 (fun x hx=>hr x (List.mem_append_right _ hx)) Q k _ a w h hS hk)
    ·exact wpIn_cond_true hev (ihx p hc2 (fun x hx=>hr x (List.mem_append_left _ hx)) Q k _ a w h hS hk)
   ·cases h
 |block id b ih=>
  refine cut_ind (fun l b ih hc hr Q k S a w h hS hk=>ih hc hr Q k _ a w h (hnrm l S a w hS) hk) ?_
  intro ic hnc hc hr Q k S a w h hS hk
  cases ic<;>first|exact absurd rfl (hnc _ _)|simp[compC,IC.erase]at hc
  rename_i id' p
  obtain⟨rfl,hc⟩:=hc
  simp only[evCode]at h
  refine wpIn_block (ih p hc (fun x hx=>hr x hx) _ _ S a w h hS ?_)
  intro ex S' a' w' h1 h2
  cases ex with
  |normal=>exact hk .normal S' a' w' h1 h2
  |exit j=>
   simp only at h1
   by_cases hj:j=id
   ·rw[if_pos hj]at h1
    show(if j=id then Q .normal a' w' else Q (.exit j) a' w')
    rw[if_pos hj];exact hk .normal S' a' w' h1 h2
   ·rw[if_neg hj]at h1
    show(if j=id then Q .normal a' w' else Q (.exit j) a' w')
    rw[if_neg hj];exact hk (.exit j) S' a' w' h1 h2
  |ret=>exact hk .ret S' a' w' h1 h2
 |loop b ih=>
  refine cut_ind (fun l b ih hc hr Q k S a w h hS hk=>ih hc hr Q k _ a w h (hnrm l S a w hS) hk) ?_
  intro ic hnc hc hr Q k S a w h hS hk
  cases ic<;>first|exact absurd rfl (hnc _ _)|simp[compC,IC.erase]at hc
  rename_i live p
  simp only[evCode]at h
  exact loop_sound (hnrm live) hk (fun Q' k' S a w h1 h2 h3=>ih p hc (fun x hx=>hr x hx) Q' k' S a w h1 h2 h3) h hS
 |exit id=>
  refine cut_ind (fun l b ih hc hr Q k S a w h hS hk=>ih hc hr Q k _ a w h (hnrm l S a w hS) hk) ?_
  intro ic hnc hc hr Q k S a w h hS hk
  cases ic<;>first|exact absurd rfl (hnc _ _)|simp[compC,IC.erase]at hc
  subst hc
  exact wpIn_exit (hk (.exit id) S a w h hS)
 |ret=>
  refine cut_ind (fun l b ih hc hr Q k S a w h hS hk=>ih hc hr Q k _ a w h (hnrm l S a w hS) hk) ?_
  intro ic hnc hc hr Q k S a w h hS hk
  cases ic<;>first|exact absurd rfl (hnc _ _)|simp[compC,IC.erase]at hc
  exact wpIn_ret (hk .ret S a w h hS)
 |rangeFunc g ps asg body _ _=>
  refine cut_ind (fun l b ih hc hr Q k S a w h hS hk=>ih hc hr Q k _ a w h (hnrm l S a w hS) hk) ?_
  intro ic hnc hc hr Q k S a w h hS hk
  cases ic<;>first|exact absurd rfl (hnc _ _)|simp[compC,IC.erase]at hc
  rename_i id g' lv ps' p q
  obtain⟨rfl,hc1,rfl,hc2,hc3⟩:=hc
  obtain⟨hro,hrok⟩:=hr _ (List.mem_cons_self ..)
  subst hro
  simp only[evCode]at h
  cases hq:opd P none g with
  |none=>
   rw[hq]at hc1
   simp at hc1;subst hc1
   simp[St.eval]at h
  |some q'=>
   rw[hq]at hc1
   simp at hc1;subst hc1
   obtain⟨E,h0,hw,H,hs,hd,hl,hfb⟩:=hS
   subst hw
   have hv:=opd_rep hs hq
   split at h
   ·rename_i f c hclo
    rw[hclo]at hv
    split at h
    ·rename_i hcapF
     have hrz:Nat.ble RZ f=false/\capsOK c=true:=by
      simp only[capsF,Bool.and_eq_true]at hcapF
      refine⟨?_,hcapF.2⟩
      have h1:=hcapF.1
      cases hb:Nat.ble RZ f
      ·rfl
      ·have h2:=Nat.le_of_ble_eq_true hb
       have h3:f<RZ:=Nat.le_of_ble_eq_true h1
       omega
     obtain⟨hrz,hcap⟩:=hrz
     obtain⟨caps,hfv,hcr⟩:=VRep_clo.1 hv
     refine wpIn_rangeFunc fun fn _=> ?_
     let rec0:Loop:= {state:= .ready,pending:=none,fn:=fn,tmps:=a.tmps,params:=ps,assign:=asg,body:=body,defers:=E.w.heap.size}
     have hok:E.rok fno rec0:=by rw[h0.rok];exact hrok rec0 rfl rfl rfl
     obtain⟨hle1,H1⟩:=H.newLoop (fresh_len S.hp) (Nat.le_refl _) (rec:=rec0) (i:=fno) (m:=0) rfl hok
     have hset:setH S.hp S.hp.length (.ghost 0)=S.hp++[.ghost 0]:=by unfold setH;rw[if_neg (by omega)]
     rw[hset]at H1
     obtain⟨cells,hcells,hreg⟩:=chain_rep (E:=E) (killS lv S.sl) a.tmps.toList (by simpa[killS]using hl.symm) (fun t=>by
      have h1:=hs t
      simp only[killS,List.getD_eq_getElem?_getD,List.getElem?_map,List.getElem?_zipIdx]at h1⊢
      cases hx:S.sl[t]? with
      |none=>exact VRep_junk _ _
      |some c=>
       rw[hx]at h1
       simp only[Option.map_some,Option.getD_some]
       split
       ·simpa using h1
       ·exact VRep_junk _ _)
     have hyld:VRep (E.newLoop S.hp.length rec0 fno) (.yld S.hp.length fno (chain ((killS lv S.sl).map CV.cap))) (.func (.yield (E.w.heap.size+1)) #[] #[]):=by
      refine(VRep_one rfl (by simp)).2 ⟨.inr rfl,?_,rec0,cells,if_pos rfl,CRep.mono hle1 _ _ hcells,?_⟩
      ·show _=[Value.func (.yield (upd E.μ S.hp.length _ S.hp.length)) #[] #[]]
       rw[upd_same]
      ·rw[hreg]
     have hvs:Vs (E.newLoop S.hp.length rec0 fno) (.yld S.hp.length fno (chain ((killS lv S.sl).map CV.cap))::unchain c) (.func (.yield (E.w.heap.size+1)) #[] #[]::caps):=⟨hyld,caps_rep (CRep.mono hle1 _ _ hcr) hcap⟩
     obtain⟨hcb,hcalls⟩:=hcall.1 f _ _ _ r hrz h _ _ (hle1.rok.trans h0.rok) H1 hvs
     refine⟨E.w.heap.size+1,[{target:= .collected E.w.heap.size,args:= #[]}],(E.newLoop S.hp.length rec0 fno).w,{target:= .fn (.func f) caps.toArray,args:= #[.func (.yield (E.w.heap.size+1)) #[] #[]]},(E.newLoop S.hp.length rec0 fno).w,f,(Value.func (.yield (E.w.heap.size+1)) #[] #[]::caps).toArray,(E.newLoop S.hp.length rec0 fno).w,run_enterLoop_outer fn a.tmps ps asg body,?_,fun _ _=>trivial,?_,fun h=>(by cases h),?_⟩
     ·unfold resolve
      simp only[rangeCall,hfv,Deferred.ofValue,Sem.run_bind,Sem.run_pure,Result.andThen_ok]
      have:(#[]:Array Value)++Array.map a.eval #[Operand.const (Value.func (Fn.yield (E.w.heap.size+1)) #[] #[])]= #[Value.func (Fn.yield (E.w.heap.size+1)) #[] #[]]:=by
       simp[Act.eval]
      rw[this]
     ·simp only[invoke]
      have:=run_callFunc hcb (Value.func (.yield (E.w.heap.size+1)) #[] #[]::caps).toArray (E.newLoop S.hp.length rec0 fno).w
      simpa using this
     ·have hci:CallsIn Fence.wide 0 P f (Value.func (.yield (E.w.heap.size+1)) #[] #[]::caps).toArray (E.newLoop S.hp.length rec0 fno).w (CallEnd base (E.newLoop S.hp.length rec0 fno) (S.hp++[.ghost 0]) _ r):=callsIn_wide.2 hcalls
      refine CallsIn.mono (F:=FR none) hci fun e w'⟨v,c',hp',E',he,hk',hw',hle',H',hv',hlen⟩=> ?_
      subst he hw'
      have hlv:(E.newLoop S.hp.length rec0 fno).live S.hp.length:= .inr rfl
      have hlr:E'.lr S.hp.length=some (rec0,fno):=(hle'.lr _ hlv).trans (if_pos rfl)
      have hμ:E'.μ S.hp.length=E.w.heap.size+1:=(hle'.μ _ hlv).trans (upd_same _ _ _)
      have hID:(E.newLoop S.hp.length rec0 fno).I E.w.heap.size:= .inr rfl
      have hDh:E'.w.heap[E.w.heap.size]? =some (.deferred (some [])):=(hle'.heap _ hID).trans newLoop_D
      have key:∀m,lookH hp' S.hp.length= .ghost m->m≠1->k (exOf m) {S with hp:=setH hp' S.hp.length .dead}=some r->
       ∃w4,(Instr.endLoop (E.w.heap.size+1)).run P E'.w= .ok (loopSt m).2 w4/\Q (toExit (exOf m)) {a with defers:=[{target:= .collected E.w.heap.size,args:= #[]}]++a.defers} w4:=by
       intro m hgm hm1 hkm
       have hb:=H'.blk S.hp.length
       rw[hgm]at hb
       obtain⟨rec',i',hlr',hh⟩:=hb
       rw[hlr]at hlr'
       injection hlr' with hlr'
       injection hlr' with e1 e2
       subst e1 e2
       rw[hμ]at hh
       have hst:({rec0 with state:=(loopSt m).1,pending:=(loopSt m).2}:Loop).state≠ .busy:=by
        match m,hm1 with
        |0,_=>simp[loopSt]
        |1,h=>exact absurd rfl h
        |2,_=>simp[loopSt]
        |n+3,_=>simp[loopSt]
       refine⟨_,run_endLoop hh hst,?_⟩
       obtain⟨hle2,H2⟩:=H'.putLoop hgm hlr (.loop {({rec0 with state:=(loopSt m).1,pending:=(loopSt m).2}:Loop)with state:= .exhausted}) .dead (.inl rfl)
       rw[hμ]at hle2 H2
       refine hk (exOf m) _ _ _ hkm ⟨_,h0.trans (hle1.trans (hle'.trans hle2)),rfl,H2,hs.mono (hle1.trans (hle'.trans hle2)),⟨?_,?_⟩,hl,hfb.1,?_,hfb.2.2⟩
       ·intro d hdm
        rcases List.mem_append.1 hdm with h|h
        ·simp at h;subst h
         refine⟨E.w.heap.size,rfl,H.base,hle'.I _ hID,fun h=>Nat.lt_irrefl _ (H.imm _ (h0.I _ h)),?_⟩
         show(World.putObj _ _ _).heap[_]? =_
         rw[World.putObj_heap_other (by omega)]
         exact hDh
        ·exact(hd.mono (hle1.trans (hle'.trans hle2))).1 d h
       ·rw[List.singleton_append,List.nodup_cons]
        refine⟨fun hm=> ?_,hd.2⟩
        obtain⟨D,e1,_,e3,_⟩:=hd.1 _ hm
        have e1:E.w.heap.size=D:=by simpa using e1
        subst e1
        exact Nat.lt_irrefl _ (H.imm _ e3)
       ·show S.fb<=(setH _ _ _).length
        have h1:=setH_len hp' S.hp.length .dead
        have h2:=hfb.2.1
        simp at hlen;omega
      have hk':(match lookH hp' S.hp.length with
       | .ghost 1=>none
       | .ghost n=>k (exOf n) {S with hp:=setH hp' S.hp.length .dead}
       |_=>none)=some r:=hk'
      split at hk'
      ·cases hk'
      ·rename_i m hm1 hgm
       obtain⟨w4,h1,h2⟩:=key m hgm (fun e=>hm1 e) hk'
       refine⟨_,w4,h1,?_⟩
       match m with
       |0=>exact h2
       |1=>exact absurd rfl hm1
       |2=>exact wpIn_ret h2
       |n+3=>exact wpIn_exit h2
      ·cases hk'
    ·cases h
   ·cases h
 |_=>
  refine cut_ind (fun l b ih hc hr Q k S a w h hS hk=>ih hc hr Q k _ a w h (hnrm l S a w hS) hk) ?_
  intro ic hnc hc hr Q k S a w h hS hk
  cases ic<;>first|exact absurd rfl (hnc _ _)|simp[compC,IC.erase]at hc
  obtain⟨rfl,rfl,rfl⟩:=hc
  simp[evCode,evOps,act]at h
end
end Go.Ev
namespace Go.Ev
open Go Go.RowKit
section
variable{base:Nat}{E0 E:Env}
theorem vecify_agg(n:Nat):∀(c:CV)(ext:List Blk),(vecify n c ext).1.isAgg=c.isAgg/\(∀d,c≠ .tup d->(vecify n c ext).1≠ .tup d):=by
 intro c
 cases c with
 |nil te e=>intro ext;simp only[vecify];split<;>simp[CV.isAgg]
 |pair a b=>intro ext;simp[vecify,CV.isAgg]
 |_=>intro ext;simp[vecify]
theorem vecify_sound{hp:List Blk}:∀(c:CV)(ext:List Blk)(E:Env)(cs:List Value),HS base E (hp++ext)->CRep E c cs->
 ∃E',E.le base E'/\E'.w=E.w/\HS base E' (hp++(vecify hp.length c ext).2)/\CRep E' (vecify hp.length c ext).1 cs/\ext.length<=(vecify hp.length c ext).2.length:=by
 intro c
 induction c with
 |nil te e=>
  intro ext E cs H hc
  simp only[vecify]
  split
  ·rename_i hpos
   have hlen:(hp++ext).length=hp.length+ext.length:=by simp
   obtain⟨hle,H'⟩:=H.newVec (n:=hp.length+ext.length) (by rw[<-hlen];exact fresh_len _) (by rw[hlen];exact Nat.le_refl _) (w':=E.w) (v:= .slice none 0 0) (te:=te) (e:=e) (xs:=[]) (cells:=[]) (Below.refl _ _) (fun _ _=>rfl) (fun _ _ _=>rfl) rfl (World.ownsRow_nil _ _ _ _) hpos (fun g hg=>by cases hg)
   refine⟨_,hle,rfl,?_,?_,by simp⟩
   ·have e1:setH (hp++ext) (hp.length+ext.length) (.vec te e [])=hp++(ext++[.vec te e []]):=by
     unfold setH;rw[if_neg (by simp)];simp
    rw[<-e1];exact H'
   ·have hcs:cs=[.slice none 0 0]:=hc
    subst hcs
    refine⟨.inr rfl,?_,?_⟩
    ·show _=[upd E.σ _ _ _];rw[upd_same]
    ·exact⟨_,_,_,by show upd E.σ _ _ _=_;rw[upd_same]⟩
  ·exact⟨E,Env.le.refl _ _,rfl,H,hc,Nat.le_refl _⟩
 |pair a b iha ihb=>
  intro ext E cs H hc
  obtain⟨c1,c2,rfl,h1,h2⟩:=hc
  obtain⟨E1,l1,w1,H1,r1,n1⟩:=iha ext E c1 H h1
  obtain⟨E2,l2,w2,H2,r2,n2⟩:=ihb _ E1 c2 H1 (CRep.mono l1 _ _ h2)
  exact⟨E2,l1.trans l2,w2.trans w1,H2,⟨c1,c2,rfl,CRep.mono l2 _ _ r1,r2⟩,Nat.le_trans n1 n2⟩
 |_=>intro ext E cs H hc;exact⟨E,Env.le.refl _ _,rfl,H,hc,Nat.le_refl _⟩
theorem vecify_v{hp:List Blk}(H:HS base E hp){c:CV}{v:Value}(hv:VRep E c v) :
 ∃E',E.le base E'/\E'.w=E.w/\HS base E' (hp++(vecify hp.length c []).2)/\VRep E' (vecify hp.length c []).1 v:=by
 cases c with
 |tup d=>exact⟨E,Env.le.refl _ _,rfl,by simpa[vecify]using H,by simpa[vecify]using hv⟩
 |junk=>exact⟨E,Env.le.refl _ _,rfl,by simpa[vecify]using H,by simpa[vecify]using hv⟩
 |undef=>exact⟨E,Env.le.refl _ _,rfl,by simpa[vecify]using H,by simpa[vecify]using hv⟩
 |int k n=>exact⟨E,Env.le.refl _ _,rfl,by simpa[vecify]using H,by simpa[vecify]using hv⟩
 |bool b=>exact⟨E,Env.le.refl _ _,rfl,by simpa[vecify]using H,by simpa[vecify]using hv⟩
 |pure t x=>exact⟨E,Env.le.refl _ _,rfl,by simpa[vecify]using H,by simpa[vecify]using hv⟩
 |whole b=>exact⟨E,Env.le.refl _ _,rfl,by simpa[vecify]using H,by simpa[vecify]using hv⟩
 |sub b p sz o l c=>exact⟨E,Env.le.refl _ _,rfl,by simpa[vecify]using H,by simpa[vecify]using hv⟩
 |ptr b p=>exact⟨E,Env.le.refl _ _,rfl,by simpa[vecify]using H,by simpa[vecify]using hv⟩
 |ref t x=>exact⟨E,Env.le.refl _ _,rfl,by simpa[vecify]using H,by simpa[vecify]using hv⟩
 |clo f c=>exact⟨E,Env.le.refl _ _,rfl,by simpa[vecify]using H,by simpa[vecify]using hv⟩
 |yld b i c=>exact⟨E,Env.le.refl _ _,rfl,by simpa[vecify]using H,by simpa[vecify]using hv⟩
 |jsl e x=>exact⟨E,Env.le.refl _ _,rfl,by simpa[vecify]using H,by simpa[vecify]using hv⟩
 |nil te e=>
  obtain⟨cs,h1,h2⟩:=hv
  obtain⟨E',l,hw,H',r,_⟩:=vecify_sound (hp:=hp) (.nil te e) [] E cs (by simpa using H) h1
  refine⟨E',l,hw,H',?_⟩
  have hag:=vecify_agg hp.length (.nil te e) []
  have:VRep1 E' (vecify hp.length (.nil te e) []).1 v:=⟨cs,r,by rw[hag.1];exact h2⟩
  revert this
  cases hx:(vecify hp.length (.nil te e) []).1 with
  |tup d=>exact absurd hx (hag.2 d (by simp))
  |_=>exact fun h=>h
 |pair x y=>
  obtain⟨cs,h1,h2⟩:=hv
  obtain⟨E',l,hw,H',r,_⟩:=vecify_sound (hp:=hp) (.pair x y) [] E cs (by simpa using H) h1
  refine⟨E',l,hw,H',?_⟩
  have hag:=vecify_agg hp.length (.pair x y) []
  have:VRep1 E' (vecify hp.length (.pair x y) []).1 v:=⟨cs,r,by rw[hag.1];exact h2⟩
  revert this
  cases hx:(vecify hp.length (.pair x y) []).1 with
  |tup d=>exact absurd hx (hag.2 d (by simp))
  |_=>exact fun h=>h
theorem Sim.kill{S:St}{a:Act}{w:World}(live:List Nat)(hS:Sim base E0 S a w):Sim base E0 {S with sl:=killS live S.sl} a w:=by
 obtain⟨E,h0,hw,H,hs,hd,hl,hfb⟩:=hS
 refine⟨E,h0,hw,H,fun t=> ?_,hd,by simpa[killS]using hl,hfb⟩
 have h1:=hs t
 simp only[killS,List.getD_eq_getElem?_getD,List.getElem?_map,List.getElem?_zipIdx]at h1⊢
 cases hx:S.sl[t]? with
 |none=>exact VRep_junk _ _
 |some c=>
  rw[hx]at h1
  simp only[Option.map_some,Option.getD_some]
  split
  ·exact h1
  ·exact VRep_junk _ _
theorem Sim.vecSlot{S:St}{a:Act}{w:World}(i:Nat)(hS:Sim base E0 S a w):Sim base E0 (vecSlot S i) a w:=by
 obtain⟨E,h0,hw,H,hs,hd,hl,hfb⟩:=hS
 obtain⟨E',hle,hw',H',hv⟩:=vecify_v H (hs i)
 refine⟨E',h0.trans hle,hw'.trans hw,H',?_,hd.mono hle,?_,hfb.1,?_,hfb.2.2⟩
 ·have:=SlotsRep.put_same (S:= {S with hp:=S.hp++(vecify S.hp.length (S.sl.getD i .junk) []).2}) (hs.mono hle) hv
  exact this
 ·show _=(S.sl.set i _).length
  simpa using hl
 ·show S.fb<=(S.hp++_).length
  have:=hfb.2.1
  simp;omega
theorem Sim.vecBlk{S:St}{a:Act}{w:World}(i:Nat)(hS:Sim base E0 S a w):Sim base E0 (vecBlk S i) a w:=by
 unfold Go.Ev.vecBlk
 split
 ·rename_i c hc
  obtain⟨E,h0,hw,H,hs,hd,hl,hfb⟩:=hS
  have hc':lookH S.hp i= .mem c:=hc
  have hb:=H.blk i
  rw[hc']at hb
  obtain⟨cs,te,hh,hcr⟩:=hb
  obtain⟨E',hle,hw',H',r,_⟩:=vecify_sound (hp:=S.hp) c [] E cs.toList (by simpa using H) hcr
  have hli:E.live i:=(H.live i).2 (by rw[hc'];simp)
  have hlt:=lookH_lt ((H.live i).1 hli)
  have hlk:lookH (S.hp++(vecify S.hp.length c []).2) i= .mem c:=by
   rw[<-hc'];unfold lookH
   simp[List.getElem?_append_left hlt]
  have H2:HS base E' (setH (S.hp++(vecify S.hp.length c []).2) i (.mem (vecify S.hp.length c []).1)):=by
   refine H'.set (Env.le.refl base E') (by simp;omega) (by simp) (fun b=>⟨.inl,fun h=>h.elim id (fun e=>e▸hle.live i hli)⟩) H'.imm (fun b g _ hg=>(H'.sep b g hg).1) (fun _ _ _ _=>rfl) ⟨cs,te,by rw[hle.μ i hli,hw'];exact hh,r⟩ ?_ H'.eok H'.thw
   intro g hg
   have hg':holdsB E' i (lookH (S.hp++(vecify S.hp.length c []).2) i) g:=by rw[hlk];exact hg
   exact⟨(H'.sep i g hg').1,(H'.sep i g hg').2,fun b hb hb'=>hb (H'.inj b i g hb' hg')⟩
  refine⟨E',h0.trans hle,hw'.trans hw,H2,hs.mono hle,hd.mono hle,hl,hfb.1,?_,hfb.2.2⟩
  show S.fb<=(setH _ _ _).length
  have h1:=setH_len (S.hp++(vecify S.hp.length c []).2) i (.mem (vecify S.hp.length c []).1)
  have h2:=hfb.2.1
  simp at h1⊢;omega
 ·exact hS
theorem Sim.foldS{f:St->Nat->St}{a:Act}{w:World}(hf:∀S i,Sim base E0 S a w->Sim base E0 (f S i) a w):∀(is:List Nat)(S:St),Sim base E0 S a w->Sim base E0 (foldS f is S) a w
 |[],_,h=>h
 |i::is,S,h=>Sim.foldS hf is (f S i) (hf S i h)
end
end Go.Ev
namespace Go.Ev
open Go Go.RowKit
def rho(fb:Nat)(keep:List Nat)(b:Nat):Nat:=if b<fb then b else keep.getD (b-fb) 0
def Env.ren(E:Env)(fb:Nat)(keep:List Nat)(hp':List Blk):Env:=
 {w:=E.w,I:=E.I,μ:=fun b=>E.μ (rho fb keep b),σ:=fun b=>E.σ (rho fb keep b),live:=fun b=>lookH hp' b≠ .fresh,fb:=E.fb,lr:=fun b=>E.lr (rho fb keep b),rok:=E.rok,J:=E.J}
theorem reach_spec(hp:List Blk)(fb:Nat):∀(n:Nat)(todo seen:List Nat),seen.Nodup->(∀x∈seen,fb<=x)->(reach hp fb n todo seen).Nodup/\∀x∈reach hp fb n todo seen,fb<=x
 |0,_,seen,h1,h2=>by simp only[reach];exact⟨h1,h2⟩
 |n+1,[],seen,h1,h2=>by simp only[reach];exact⟨h1,h2⟩
 |n+1,b::todo,seen,h1,h2=>by
  simp only[reach]
  split
  ·exact reach_spec hp fb n todo seen h1 h2
  ·rename_i hc
   simp only[Bool.or_eq_true,decide_eq_true_eq,not_or]at hc
   refine reach_spec hp fb n _ (seen++[b]) ?_ ?_
   ·rw[List.nodup_append]
    refine⟨h1,by simp,fun x hx y hy=> ?_⟩
    simp at hy;subst hy
    intro e;subst e
    exact hc.2 (by simpa using hx)
   ·intro x hx
    rcases List.mem_append.1 hx with h|h
    ·exact h2 x h
    ·simp at h;subst h;omega
theorem lookH_comp{fb:Nat}{keep:List Nat}{hp:List Blk}(hfb:fb<=hp.length)(b:Nat):lookH (compHp fb keep hp) b=if b<fb+keep.length then(lookH hp (rho fb keep b)).ren fb keep else .fresh:=by
 have hlen:((hp.take fb).map (Blk.ren fb keep)).length=fb:=by simp;omega
 unfold lookH compHp rho
 by_cases h1:b<fb
 ·rw[if_pos (by omega),if_pos h1]
  rw[List.getD_eq_getElem?_getD,List.getElem?_append_left (by omega)]
  simp[h1,List.getElem?_eq_getElem (show b<hp.length by omega)]
 ·rw[if_neg h1]
  rw[List.getD_eq_getElem?_getD,List.getElem?_append_right (by omega),hlen]
  by_cases h2:b<fb+keep.length
  ·rw[if_pos h2]
   have h3:b-fb<keep.length:=by omega
   simp[List.getElem?_eq_getElem h3]
  ·rw[if_neg h2]
   rw[List.getElem?_eq_none (by simp;omega)]
   rfl
theorem ren_fresh{fb:Nat}{keep:List Nat}{k:Blk}:k.ren fb keep= .fresh↔k= .fresh:=by
 cases k<;>simp[Blk.ren]
section
variable{base:Nat}{E0 E:Env}{fb:Nat}{keep:List Nat}{hp:List Blk}
theorem idx_rho{b i:Nat}(h:keep.idxOf? b=some i):i<keep.length/\rho fb keep (fb+i)=b:=by
 rw[List.idxOf?_eq_some_iff]at h
 obtain⟨hi,hb,_⟩:=h
 refine⟨hi,?_⟩
 unfold rho
 rw[if_neg (by omega)]
 have e:fb+i-fb=i:=by omega
 simpa[e,hi]using hb
theorem live_ren(H:HS base E hp)(hfb:fb<=hp.length){b:Nat}(hb:E.live b)(h:b<fb):(E.ren fb keep (compHp fb keep hp)).live b:=by
 show lookH (compHp fb keep hp) b≠ .fresh
 rw[lookH_comp hfb,if_pos (by omega),Ne,ren_fresh]
 unfold rho;rw[if_pos h]
 exact(H.live b).1 hb
theorem live_ren2(H:HS base E hp)(hfb:fb<=hp.length){b i:Nat}(hb:E.live b)(h:keep.idxOf? b=some i):(E.ren fb keep (compHp fb keep hp)).live (fb+i):=by
 obtain⟨h1,h2⟩:=idx_rho (fb:=fb) h
 show lookH (compHp fb keep hp) (fb+i)≠ .fresh
 rw[lookH_comp hfb,if_pos (by omega),Ne,ren_fresh,h2]
 exact(H.live b).1 hb
theorem rho_lt{b:Nat}(h:b<fb):rho fb keep b=b:=by unfold rho;rw[if_pos h]
theorem ren_agg0:∀(c:CV),(c.ren fb keep).isAgg=c.isAgg:=by
 intro c
 cases c with
 |whole b=>simp only[CV.ren];split<;>(try rfl);split<;>rfl
 |sub b p sz o l cp=>simp only[CV.ren];split<;>(try rfl);split<;>rfl
 |ptr b p=>simp only[CV.ren];split<;>(try rfl);split<;>rfl
 |yld b i c=>simp only[CV.ren];split<;>(try rfl);split<;>rfl
 |_=>rfl
theorem ren_csize:∀(c:CV),(c.ren fb keep).csize=c.csize:=by
 intro c
 induction c with
 |whole b=>simp only[CV.ren];split<;>(try rfl);split<;>rfl
 |sub b p sz o l cp=>simp only[CV.ren];split<;>(try rfl);split<;>rfl
 |ptr b p=>simp only[CV.ren];split<;>(try rfl);split<;>rfl
 |yld b i c _=>simp only[CV.ren];split<;>(try rfl);split<;>rfl
 |pair a b iha ihb=>show(a.ren fb keep).csize+(b.ren fb keep).csize=_;rw[iha,ihb];rfl
 |_=>rfl
theorem regroup_ren:∀(c:CV)(cs:List Value),regroup (c.ren fb keep) cs=regroup c cs:=by
 intro c
 induction c with
 |whole b=>intro cs;simp only[CV.ren];split<;>(try rfl);split<;>rfl
 |sub b p sz o l cp=>intro cs;simp only[CV.ren];split<;>(try rfl);split<;>rfl
 |ptr b p=>intro cs;simp only[CV.ren];split<;>(try rfl);split<;>rfl
 |yld b i c _=>intro cs;simp only[CV.ren];split<;>(try rfl);split<;>rfl
 |pair a b _ ihb=>
  intro cs
  show(if(a.ren fb keep).isAgg then Value.agg (cs.take (a.ren fb keep).csize).toArray else cs.headD undef)::regroup (b.ren fb keep) (cs.drop (a.ren fb keep).csize)=_
  rw[ren_agg0,ren_csize,ihb];rfl
 |_=>intro cs;rfl
theorem CRep_ren(H:HS base E hp)(hfb:fb<=hp.length):∀(c:CV)(cs:List Value),CRep E c cs->CRep (E.ren fb keep (compHp fb keep hp)) (c.ren fb keep) cs:=by
 intro c
 induction c with
 |whole b=>
  intro cs ⟨hl,e,hs⟩
  simp only[CV.ren]
  split
  ·rename_i h
   refine⟨live_ren H hfb hl h,?_,?_⟩
   ·show cs=[E.σ (rho fb keep b)];rw[rho_lt h];exact e
   ·show ∃a n c,E.σ (rho fb keep b)=_;rw[rho_lt h];exact hs
  ·split
   ·rename_i i hi
    refine⟨live_ren2 H hfb hl hi,?_,?_⟩
    ·show cs=[E.σ (rho fb keep (fb+i))];rw[(idx_rho hi).2];exact e
    ·show ∃a n c,E.σ (rho fb keep (fb+i))=_;rw[(idx_rho hi).2];exact hs
   ·rw[e];rfl
 |sub b p sz o l cp=>
  intro cs ⟨hl,ad,c,h1,h2,h3,h4,e⟩
  simp only[CV.ren]
  split
  ·rename_i h
   refine⟨live_ren H hfb hl h,ad,c,h1,h2,h3,?_,e⟩
   show _->ad=some ⟨E.μ (rho fb keep b),_,_⟩;rw[rho_lt h];exact h4
  ·split
   ·rename_i i hi
    refine⟨live_ren2 H hfb hl hi,ad,c,h1,h2,h3,?_,e⟩
    show _->ad=some ⟨E.μ (rho fb keep (fb+i)),_,_⟩;rw[(idx_rho hi).2];exact h4
   ·rw[e];rfl
 |ptr b p=>
  intro cs ⟨hl,e⟩
  simp only[CV.ren]
  split
  ·rename_i h
   refine⟨live_ren H hfb hl h,?_⟩
   show cs=[.pointer (some ⟨E.μ (rho fb keep b),_,_⟩)];rw[rho_lt h];exact e
  ·split
   ·rename_i i hi
    refine⟨live_ren2 H hfb hl hi,?_⟩
    show cs=[.pointer (some ⟨E.μ (rho fb keep (fb+i)),_,_⟩)];rw[(idx_rho hi).2];exact e
   ·rw[e];rfl
 |pair a b iha ihb=>
  intro cs ⟨c1,c2,e,h1,h2⟩
  exact⟨c1,c2,e,iha c1 h1,ihb c2 h2⟩
 |clo f c ih=>
  intro cs ⟨caps,e,h⟩
  exact⟨caps,e,ih caps h⟩
 |yld b i c ih=>
  intro cs ⟨hl,e,rec,cells,h1,h2,h3⟩
  simp only[CV.ren]
  split
  ·rename_i h
   refine⟨live_ren H hfb hl h,?_,rec,cells,?_,ih cells h2,by rw[regroup_ren];exact h3⟩
   ·show cs=[.func (.yield (E.μ (rho fb keep b))) #[] #[]];rw[rho_lt h];exact e
   ·show E.lr (rho fb keep b)=_;rw[rho_lt h];exact h1
  ·split
   ·rename_i j hj
    refine⟨live_ren2 H hfb hl hj,?_,rec,cells,?_,ih cells h2,by rw[regroup_ren];exact h3⟩
    ·show cs=[.func (.yield (E.μ (rho fb keep (fb+j)))) #[] #[]];rw[(idx_rho hj).2];exact e
    ·show E.lr (rho fb keep (fb+j))=_;rw[(idx_rho hj).2];exact h1
   ·rw[e];rfl
 |tup c=>intro cs h;exact h.elim
 |_=>intro cs h;exact h
theorem ren_agg:∀(c:CV),(c.ren fb keep).isAgg=c.isAgg:=by
 intro c
 cases c with
 |whole b=>simp only[CV.ren];split<;>(try rfl);split<;>rfl
 |sub b p sz o l cp=>simp only[CV.ren];split<;>(try rfl);split<;>rfl
 |ptr b p=>simp only[CV.ren];split<;>(try rfl);split<;>rfl
 |yld b i c=>simp only[CV.ren];split<;>(try rfl);split<;>rfl
 |_=>rfl
theorem ren_tup{c d:CV}(h:c.ren fb keep= .tup d):∃e,c= .tup e:=by
 cases c with
 |whole b=>simp only[CV.ren]at h;split at h<;>(try cases h);split at h<;>cases h
 |sub b p sz o l cp=>simp only[CV.ren]at h;split at h<;>(try cases h);split at h<;>cases h
 |ptr b p=>simp only[CV.ren]at h;split at h<;>(try cases h);split at h<;>cases h
 |yld b i c=>simp only[CV.ren]at h;split at h<;>(try cases h);split at h<;>cases h
 |tup e=>exact⟨e,rfl⟩
 |_=>simp[CV.ren]at h
theorem VRep1_ren(H:HS base E hp)(hfb:fb<=hp.length){c:CV}{v:Value}(h:VRep1 E c v):VRep1 (E.ren fb keep (compHp fb keep hp)) (c.ren fb keep) v:=by
 obtain⟨cs,h1,h2⟩:=h
 exact⟨cs,CRep_ren H hfb c cs h1,by rw[ren_agg];exact h2⟩
theorem TRep_ren(H:HS base E hp)(hfb:fb<=hp.length):∀ {c:CV}{vs:List Value},TRep E c vs->TRep (E.ren fb keep (compHp fb keep hp)) (c.ren fb keep) vs:=by
 intro c
 induction c with
 |pair a b iha ihb=>
  intro vs ⟨v,r,e,h1,h2⟩
  exact⟨v,r,e,VRep1_ren H hfb h1,ihb h2⟩
 |pure t x=>
  intro vs h
  cases t<;>exact h
 |_=>intro vs h;exact h.elim
theorem VRep_ren(H:HS base E hp)(hfb:fb<=hp.length){c:CV}{v:Value}(h:VRep E c v):VRep (E.ren fb keep (compHp fb keep hp)) (c.ren fb keep) v:=by
 cases hc:c with
 |tup d=>
  rw[hc]at h
  obtain⟨vs,e,ht⟩:=h
  exact⟨vs,e,TRep_ren H hfb ht⟩
 |_=>
  rw[<-hc]
  have h1:VRep1 E c v:=by rw[hc]at h⊢;exact h
  have:=VRep1_ren (fb:=fb) (keep:=keep) H hfb h1
  revert this
  cases hx:c.ren fb keep with
  |tup d=>
   obtain⟨e,he⟩:=ren_tup hx
   rw[hc]at he;cases he
  |_=>exact fun h=>h
theorem BRep_ren(H:HS base E hp)(hfb:fb<=hp.length){b b':Nat}(hb:rho fb keep b'=b):∀ {k:Blk},BRep E base b k->BRep (E.ren fb keep (compHp fb keep hp)) base b' (k.ren fb keep)
 | .mem c,⟨cs,te,h1,h2⟩=>⟨cs,te,by show E.w.heap[E.μ (rho fb keep b')]? =_;rw[hb];exact h1,CRep_ren H hfb _ _ h2⟩
 | .vec te e xs,⟨cells,h1,h2,h3,h4⟩=>⟨cells,h1,by show E.w.ownsRow base te e.size (E.σ (rho fb keep b')) _ _;rw[hb];exact h2,h3,by show ∀g,(E.σ (rho fb keep b')).ownBlock=some g->g=E.μ (rho fb keep b');rw[hb];exact h4⟩
 | .fvec te e xs,h1=>by
   show RepD E.w E.R (.slice e) xs [E.σ (rho fb keep b')]
   rw[hb];exact h1
 | .ghost n,⟨rec,i,h1,h2⟩=>⟨rec,i,by show E.lr (rho fb keep b')=_;rw[hb];exact h1,by show E.w.heap[E.μ (rho fb keep b')]? =_;rw[hb];exact h2⟩
 | .fresh,_=>trivial
 | .dead,_=>trivial
theorem holds_ren{b' g:Nat}{k:Blk}:holdsB (E.ren fb keep (compHp fb keep hp)) b' (k.ren fb keep) g↔holdsB E (rho fb keep b') k g:=by
 cases k<;>exact Iff.rfl
theorem rho_inj(hn:keep.Nodup)(hge:∀x∈keep,fb<=x){b b':Nat}(h1:b<fb+keep.length)(h2:b'<fb+keep.length)(h:rho fb keep b=rho fb keep b'):b=b':=by
 unfold rho at h
 have mem:∀i,i<keep.length->fb<=keep.getD i 0:=fun i hi=>by
  apply hge
  simp[List.getElem?_eq_getElem hi]
 split at h<;>split at h
 ·exact h
 ·have:=mem (b'-fb) (by omega);omega
 ·have:=mem (b-fb) (by omega);omega
 ·have i1:b-fb<keep.length:=by omega
  have i2:b'-fb<keep.length:=by omega
  simp only[List.getD_eq_getElem?_getD,List.getElem?_eq_getElem i1,List.getElem?_eq_getElem i2,Option.getD_some]at h
  have:=(List.getElem_inj hn).1 h
  omega
theorem HS_ren(H:HS base E hp)(hfb:fb<=hp.length)(hn:keep.Nodup)(hge:∀x∈keep,fb<=x):HS base (E.ren fb keep (compHp fb keep hp)) (compHp fb keep hp):=by
 have hold:∀b g,holdsB (E.ren fb keep (compHp fb keep hp)) b (lookH (compHp fb keep hp) b) g->b<fb+keep.length/\holdsB E (rho fb keep b) (lookH hp (rho fb keep b)) g:=by
  intro b g h
  rw[lookH_comp hfb]at h
  split at h
  ·exact⟨by assumption,holds_ren.1 h⟩
  ·exact h.elim
 refine⟨fun b=> ?_,fun b b' g h1 h2=> ?_,fun b g h=> ?_,H.imm,fun b=>Iff.rfl,H.base,fun b rec i h=>H.eok _ rec i h,H.jI,H.thw⟩
 ·rw[lookH_comp hfb]
  split
  ·exact BRep_ren H hfb rfl (H.blk _)
  ·trivial
 ·obtain⟨i1,j1⟩:=hold b g h1
  obtain⟨i2,j2⟩:=hold b' g h2
  exact rho_inj hn hge i1 i2 (H.inj _ _ g j1 j2)
 ·exact H.sep _ g (hold b g h).2
theorem le_ren(h0:E0.le base E)(H:HS base E hp)(hfb:fb<=hp.length)(hl:∀b,E0.live b->b<fb):E0.le base (E.ren fb keep (compHp fb keep hp)) :=
 ⟨h0.I,h0.heap,fun b hb=>live_ren H hfb (h0.live b hb) (hl b hb),fun b hb=>by show E.μ (rho fb keep b)=_;rw[rho_lt (hl b hb)];exact h0.μ b hb,fun b hb=>by show E.σ (rho fb keep b)=_;rw[rho_lt (hl b hb)];exact h0.σ b hb,h0.bel,h0.new,fun b hb=>by show E.lr (rho fb keep b)=_;rw[rho_lt (hl b hb)];exact h0.lr b hb,h0.rok,h0.J⟩
theorem compHp_len(hfb:fb<=hp.length):fb<=(compHp fb keep hp).length:=by simp[compHp];omega
theorem Sim.comp{S:St}{a:Act}{w:World}(hS:Sim base E0 S a w):Sim base E0 S.comp a w:=by
 obtain⟨E,h0,hw,H,hs,hd,hl,hfb⟩:=hS
 have hr:=reach_spec S.hp S.fb 1000 ((S.sl.flatMap CV.refs)++(S.hp.take S.fb).flatMap Blk.refs) [] (by simp) (by simp)
 refine⟨E.ren S.fb (compact S.fb (S.sl.flatMap CV.refs) S.hp) (compHp S.fb (compact S.fb (S.sl.flatMap CV.refs) S.hp) S.hp),le_ren h0 H hfb.2.1 hfb.1,hw,HS_ren H hfb.2.1 hr.1 hr.2,fun t=> ?_,hd,?_,hfb.1,compHp_len hfb.2.1,hfb.2.2⟩
 ·have:=VRep_ren (fb:=S.fb) (keep:=compact S.fb (S.sl.flatMap CV.refs) S.hp) H hfb.2.1 (hs t)
  have e:(St.comp S).sl.getD t CV.junk=(S.sl.getD t CV.junk).ren S.fb (compact S.fb (S.sl.flatMap CV.refs) S.hp):=by
   show(S.sl.map _).getD t CV.junk=_
   simp only[List.getD_eq_getElem?_getD,List.getElem?_map]
   cases S.sl[t]? <;>rfl
  rw[e];exact this
 ·show _=(S.sl.map _).length
  simpa using hl
theorem norm_sound{S:St}{a:Act}{w:World}(live:List Nat)(hS:Sim base E0 S a w):Sim base E0 (S.norm live) a w:=
 (Sim.foldS (fun _ i h=>h.vecBlk i) _ _ (Sim.foldS (fun _ i h=>h.vecSlot i) live _ (hS.kill live))).comp
end
end Go.Ev
namespace Go.Ev
open Go Go.RowKit
section
variable{P:Program}{base:Nat}{E:Env}{S:St}{a:Act}
theorem VRep_1{c:CV}{v:Value}(h:VRep E c v)(ht:c.isTup=false):VRep1 E c v:=by
 cases c with
 |tup d=>simp[CV.isTup]at ht
 |_=>exact h
theorem VRep_of1{c:CV}{v:Value}(h:VRep1 E c v)(ht:c.isTup=false):VRep E c v:=by
 cases c with
 |tup d=>simp[CV.isTup]at ht
 |_=>exact h
theorem isVal_isTup{c:CV}(h:c.isVal=true):c.isTup=false:=by
 cases c<;>simp_all [CV.isVal,CV.isTup]
def resF(a:Act):ResultVar->Sem Value
 | .tmp t=>pure (a.tmps.getD t undef)
 | .cell x t=>do loadVar t (<-asAddr (a.tmps.getD x undef))
theorem results_list(H:HS base E S.hp)(hs:SlotsRep E S a):∀ {rs:List ResultVar}{l:List CV},resOf S (rs.map (resC P))=some l->
 ∃vs:List Value,vs.length=l.length/\TRep E (chain l) vs/\(∀c∈l,c.isTup=false)/\(rs.mapM (resF a)).run P E.w= .ok vs E.w
 |[],l,h=>by
  simp[resOf]at h;subst h
  exact⟨[],rfl,rfl,by simp,rfl⟩
 | .tmp t::rs,l,h=>by
   simp only[List.map_cons,resC,resOf]at h
   split at h
   ·cases h
   ·rename_i htup
    split at h
    ·rename_i l' hl'
     simp at h;subst h
     obtain⟨vs,h1,h2,h3,h4⟩:=results_list H hs hl'
     have ht:(S.sl.getD t .junk).isTup=false:=by simpa using htup
     refine⟨a.tmps.getD t undef::vs,by simp[h1],⟨_,_,rfl,VRep_1 (hs t) ht,h2⟩,?_,?_⟩
     ·intro c hc
      rcases List.mem_cons.1 hc with rfl|hc
      ·simpa using ht
      ·exact h3 c hc
     ·rw[List.mapM_cons]
      simp only[resF,Sem.run_bind,Sem.run_pure,Result.andThen_ok,h4]
    ·cases h
 | .cell x t::rs,l,h=>by
   simp only[List.map_cons,resC]at h
   have key:∀(ag:Bool)(sz:Nat),resOf S (.inr (x,ag,sz)::rs.map (resC P))=some l->(hasT P t=true/\(P.underlying t).isSome=true/\ag=isAggT P t/\sz=szT P t) ->
    ∃vs:List Value,vs.length=l.length/\TRep E (chain l) vs/\(∀c∈l,c.isTup=false)/\((ResultVar.cell x t::rs).mapM (resF a)).run P E.w= .ok vs E.w:=by
    intro ag sz h hk
    simp only[resOf]at h
    split at h
    ·rename_i b l' hb hl'
     split at h
     ·rename_i c hc
      split at h
      ·rename_i h3
       simp at h;subst h
       obtain⟨vs,i1,i2,i3,i4⟩:=results_list H hs hl'
       have hv:=hs x
       rw[hb]at hv
       have hp:=VRep_ptr.1 hv
       have hbk:=H.blk b
       have hc':lookH S.hp b= .mem c:=hc
       rw[hc']at hbk
       obtain⟨cs,te,hh,hcr⟩:=hbk
       have hcells:=cells_seg (l:=[]) (m:=cs.toList) (r:=[]) hh (by simp)
       have hl:=CRep.len c _ hcr
       have hload:=load_run (P:=P) E.w (b:=E.μ b) (off:=0) (t:=t) hcells (by rw[hl,h3.1];exact hk.2.2.2) hk.1 hk.2.1 (fun hag=>by rw[hl];exact csize_one (by rw[h3.2.1,hk.2.2.1];exact hag) (isVal_tup h3.2.2))
       refine⟨(if isAggT P t then Value.agg cs.toList.toArray else cs.toList.headD undef)::vs,by simp[i1],⟨_,_,rfl,?_,i2⟩,?_,?_⟩
       ·have:=VRep_of hcr (isVal_tup h3.2.2)
        rw[h3.2.1,hk.2.2.1]at this
        exact VRep_1 this (isVal_isTup h3.2.2)
       ·intro c' hc'
        rcases List.mem_cons.1 hc' with rfl|hc'
        ·exact isVal_isTup h3.2.2
        ·exact i3 c' hc'
       ·rw[List.mapM_cons]
        have e:(resF a (.cell x t)).run P E.w= .ok (if isAggT P t then Value.agg cs.toList.toArray else cs.toList.headD undef) E.w:=by
         simp only[resF,Sem.run_bind,hp.2,asAddr,Sem.run_pure,Result.andThen_ok]
         simp only[Instr.loadAt,Instr.sureAddr,Sem.run_bind,Sem.run_pure,Result.andThen_ok]at hload
         simpa[poff]using hload
        simp only[Sem.run_bind,e,Result.andThen_ok,i4,Sem.run_pure]
      ·cases h
     ·cases h
    ·cases h
   split at h
   ·rename_i hk
    simp only[Bool.and_eq_true]at hk
    exact key _ _ h ⟨hk.1,hk.2,rfl,rfl⟩
   ·exfalso
    simp only[resOf]at h
    split at h
    ·split at h
     ·split at h
      ·rename_i h3
       have h4:=csize_one h3.2.1 (isVal_tup h3.2.2)
       rw[h3.1]at h4
       cases h4
      ·cases h
     ·cases h
    ·cases h
theorem results_run(H:HS base E S.hp)(hs:SlotsRep E S a){fn:Func}{l:List CV}(h:resOf S (fn.results.toList.map (resC P))=some l) :
 ∃v,(results fn a.tmps).run P E.w= .ok v E.w/\VRep E (tupOf l) v:=by
 obtain⟨vs,h1,h2,h3,h4⟩:=results_list H hs h
 have hm:(fn.results.mapM (resF a)).run P E.w= .ok vs.toArray E.w:=by
  rw[Array.mapM_eq_mapM_toList,map_eq_pure_bind]
  simp only[Sem.run_bind,h4,Result.andThen_ok]
  rfl
 have hfe:results fn a.tmps=(do let vs <-fn.results.mapM (resF a);pure (if h:vs.size=1 then vs[0]else .tuple vs)):=by
  unfold results
  refine congrArg (fun g:ResultVar->Sem Value=>(do let vs <-fn.results.mapM g;pure (if h:vs.size=1 then vs[0]else .tuple vs):Sem Value)) (funext fun r=> ?_)
  cases r<;>rfl
 have hr:(results fn a.tmps).run P E.w= .ok (if h:vs.toArray.size=1 then vs.toArray[0]else .tuple vs.toArray) E.w:=by
  rw[hfe]
  simp only[Sem.run_bind,hm,Result.andThen_ok,Sem.run_pure]
 refine⟨_,hr,?_⟩
 match l,vs,h1,h2,h3 with
 |[c],[v],_,⟨v',r,e,hv,_⟩,h3=>
  simp at e
  obtain⟨rfl,_⟩:=e
  exact VRep_of1 hv (h3 c (by simp))
 |[],[],_,h2,_=>exact⟨[],rfl,rfl⟩
 |c::c'::l,v::v'::vs,_,h2,_=>exact⟨v::v'::vs,by simp,h2⟩
def FnsOK(P:Program)(sm:Nat->Bool)(fns:Nat->Option IFn):Prop:=∀f fn,fns f=some fn->fnKey P sm f=fn.key
def DrawOK(P:Program)(sm:Nat->Bool)(R:Type)(summ:Nat->Option Summ):Prop:=
 ∀(ro:Option Nat)(base:Nat)(E0:Env)(call:Nat->List CV->List Blk->(CV->List Blk->Option R)->Option R)(Q:Exit->Act->World->Prop)(id nnew:Nat)(ops:Array Oper)(k:St->Option R)(r:R)(S:St)(a:Act)(w:World),
  edgesOK ops.toList=true->slotsOK 0 (compOps P sm ops.toList true)=true->evOps summ call true S.hp.length 0 (compOps P sm ops.toList true) [] {S with hp:=S.hp++List.replicate nnew .fresh} k=some r->Sim base E0 S a w->(∀S' a' w',k S'=some r->Sim base E0 S' a' w'->Q .normal a' w')->(Code.region id ops true).wpIn (FR ro) 0 P Q a w
def DrawOKC(P:Program)(sm:Nat->Bool)(R:Type)(summ:Nat->Option Summ):Prop:=
 ∀(ro:Option Nat)(base:Nat)(E0:Env)(call:Nat->List CV->List Blk->(CV->List Blk->Option R)->Option R)(Q:Exit->Act->World->Prop)(id nnew:Nat)(ops:Array Oper)(e:Nat)(k:St->Option R)(r:R)(S:St)(a:Act)(w:World),
  edgesOK ops.toList=true->midCall P sm ops.toList=some e->slotsOK 0 ((compOps P sm ops.toList true).take e)=true->evOps summ call true S.hp.length 0 ((compOps P sm ops.toList true).take e) [] {S with hp:=S.hp++List.replicate nnew .fresh} k=some r->Sim base E0 S a w->
   (∀(next:Act->World->Prop)(o:Oper)S' a' w',k S'=some r->Sim base E0 S' a' w'->ops.toList[e]? =some o->
    (∀S2 a2 w2(k2:St->Option R),slotsOK 0 (postOps P sm ops.toList e)=true->evOps summ call true S2.hp.length 0 (postOps P sm ops.toList e) [] S2 k2=some r->Sim base E0 S2 a2 w2->(∀S3 a3 w3,k2 S3=some r->Sim base E0 S3 a3 w3->Q .normal a3 w3)->next a2 w2) ->
    if Region.wanted o (yielded ops a'.tmps)=true then o.wpIn (FR ro) 0 P a' w' next Q else next (a'.put o.dst undef) w')->(Code.region id ops true).wpIn (FR ro) 0 P Q a w
theorem Vs_len{E:Env}:∀ {cs:List CV}{vs:List Value},Vs E cs vs->cs.length=vs.length
 |[],[],_=>rfl
 |_::_,_::_,⟨_,h⟩=>by simp[Vs_len h]
theorem Vs_get{E:Env}:∀ {cs:List CV}{vs:List Value}(t:Nat),Vs E cs vs->VRep E (cs.getD t .junk) (vs.getD t undef)
 |[],[],t,_=>by simpa using VRep_junk E undef
 |c::cs,v::vs,0,⟨h,_⟩=>by simpa using h
 |c::cs,v::vs,t+1,⟨_,h⟩=>by simpa using Vs_get t h
theorem Vs_undef{E:Env}:∀n:Nat,Vs E (List.replicate n .junk) (List.replicate n undef)
 |0=>trivial
 |n+1=>⟨VRep_junk _ _,Vs_undef n⟩
theorem Env.fb_le{E:Env}(n:Nat):E.le base {E with fb:=n}:=⟨fun _ h=>h,fun _ _=>rfl,fun _ h=>h,fun _ _=>rfl,fun _ _=>rfl,Below.refl _ _,fun _ h=> .inl h,fun _ _=>rfl,rfl,rfl⟩
theorem Env.le_fb{E E':Env}{n:Nat}(h:Env.le base {E with fb:=n} E'):E.le base E':=⟨h.I,h.heap,h.live,h.μ,h.σ,h.bel,h.new,h.lr,h.rok,h.J⟩
theorem HS.fb_{E:Env}{hp:List Blk}(H:HS base E hp)(n:Nat):HS base {E with fb:=n} hp:=by
 have hle:E.le base {E with fb:=n}:=Env.fb_le n
 refine⟨fun b=> ?_,H.inj,H.sep,H.imm,H.live,H.base,H.eok,H.jI,H.thw⟩
 by_cases hl:E.live b
 ·exact(H.blk b).mono hle hl _ (fun _ _=>rfl)
 ·have:lookH hp b= .fresh:=by
   rcases Classical.em (lookH hp b= .fresh)with h1|h1
   ·exact h1
   ·exact absurd ((H.live b).2 h1) hl
  rw[this];trivial
theorem Vs.mono{E E':Env}(hle:E.le base E'):∀ {cs:List CV}{vs:List Value},Vs E cs vs->Vs E' cs vs
 |[],[],h=>h
 |_::_,_::_,⟨h1,h2⟩=>⟨h1.mono hle,Vs.mono hle h2⟩
theorem findR_erase:∀ic:IC,findR ic.erase=(findR ic).map fun x=>(x.1,x.2.1.erase,x.2.2.erase):=by
 intro ic
 induction ic with
 |seq a b iha ihb=>simp only[IC.erase,findR,iha,ihb];cases findR a<;>rfl
 |cond c a b iha ihb=>simp only[IC.erase,findR,iha,ihb];cases findR a<;>rfl
 |block id b ih=>simp only[IC.erase,findR,ih]
 |loop l b ih=>simp only[IC.erase,findR,ih]
 |cut l b ih=>simp only[IC.erase,findR,ih]
 |rangef id g lv ps a b _ _=>rfl
 |_=>rfl
theorem findR_comp{sm:Nat->Bool}{fno:Nat}:∀code:Code,findR (compC P sm fno code)=(rngs code).head?.map fun x=>(x.1,compC P sm fno x.2.1,compC P sm fno x.2.2):=by
 intro code
 induction code with
 |region id ops draw=>
  simp only[compC,rngs]
  split
  ·rfl
  ·split
   ·split<;>rfl
   ·rfl
 |seq a b iha ihb=>simp only[compC,rngs,findR,iha,ihb];cases rngs a<;>simp
 |cond c a b iha ihb=>simp only[compC,rngs,findR,iha,ihb];cases rngs a<;>simp
 |block id b ih=>simp only[compC,rngs,findR,ih]
 |loop b ih=>simp only[compC,rngs,findR,ih]
 |rangeFunc g ps a b _ _=>rfl
 |_=>rfl
theorem rngs_in:∀(code:Code),∀x∈rngs code,(rngs x.2.1).length+(rngs x.2.2).length+1<=(rngs code).length:=by
 intro code
 induction code with
 |seq a b iha ihb=>
  intro x hx
  simp only[rngs,List.length_append]
  rcases List.mem_append.1 hx with h|h
  ·have:=iha x h;omega
  ·have:=ihb x h;omega
 |cond c a b iha ihb=>
  intro x hx
  simp only[rngs,List.length_append]
  rcases List.mem_append.1 hx with h|h
  ·have:=iha x h;omega
  ·have:=ihb x h;omega
 |block id b ih=>intro x hx;exact ih x hx
 |loop b ih=>intro x hx;exact ih x hx
 |rangeFunc g ps a b iha ihb=>
  intro x hx
  simp only[rngs,List.length_cons,List.length_append]
  rcases List.mem_cons.1 hx with h|h
  ·subst h;exact Nat.le_refl _
  ·rcases List.mem_append.1 h with h|h
   ·have:=iha x h;omega
   ·have:=ihb x h;omega
 |_=>intro x hx;simp[rngs]at hx
def rokOf(P:Program)(sm:Nat->Bool)(fns:Nat->Option IFn)(i:Nat)(rec:Loop):Prop:=
 ∃fn x,fns i=some fn/\findR fn.body=some x/\rec.params.toList=x.1/\compC P sm i rec.assign=x.2.1.erase/\compC P sm i rec.body=x.2.2.erase/\rngs rec.assign=[]/\rngs rec.body=[]
theorem rok_of{sm:Nat->Bool}{fns:Nat->Option IFn}{f:Nat}{fn:IFn}{code:Code}(hfn:fns f=some fn)(hc:compC P sm f code=fn.body.erase)(h1:oneR code=true):∀x∈rngs code,(none:Option Nat)=none/\∀rec:Loop,rec.params.toList=x.1->rec.assign=x.2.1->rec.body=x.2.2->rokOf P sm fns f rec:=by
 intro x hx
 refine⟨rfl,fun rec e1 e2 e3=> ?_⟩
 have h2:=Nat.le_of_ble_eq_true h1
 have h3:=rngs_in code x hx
 have h4:rngs code=[x]:=by
  cases hr:rngs code with
  |nil=>rw[hr]at hx;simp at hx
  |cons y l=>
   rw[hr]at h2 hx
   have:l=[]:=by simpa using h2
   subst this
   simp at hx;rw[hx]
 have h5:=findR_comp (P:=P) (sm:=sm) (fno:=f) code
 rw[hc,findR_erase,h4]at h5
 cases hfr:findR fn.body with
 |none=>rw[hfr]at h5;simp at h5
 |some y=>
  rw[hfr]at h5
  simp only[Option.map_some,List.head?_cons,Option.some.injEq,Prod.mk.injEq]at h5
  refine⟨fn,y,hfn,hfr,by rw[e1,h5.1],by rw[e2,h5.2.1],by rw[e3,h5.2.2],?_,?_⟩
  ·rw[e2];exact List.eq_nil_of_length_eq_zero (by omega)
  ·rw[e3];exact List.eq_nil_of_length_eq_zero (by omega)
theorem leavesM{E0:Env}{hp:List Blk}{fn:Func}{tmps:Array Value}{R:Ending->World->Prop}:∀(ds:List Deferred)(E1:Env),HS base E1 hp->E0.le base E1->Marks base E0 E1 ds->
 (∀w2,(∀p,w2.cell? p=E1.w.cell? p)->HS base {E1 with w:=w2} hp->E0.le base {E1 with w:=w2}->∃v,(results fn tmps).run P w2= .ok v w2/\R (.returned v) w2)->LeavesInM Fence.wide 0 P fn tmps R ds .returning E1.w
 |[],E1,H,h0,_,hk=>hk E1.w (fun _=>rfl) H h0
 |d::ds,E1,H,h0,hm,hk=>by
  obtain⟨D,hd,hb,hI,hI0,hh⟩:=hm.1 d (by simp)
  obtain⟨hc,H2⟩:=H.shut hI hh
  have hle2:E0.le base {E1 with w:=E1.w.putObj D (.deferred none)}:=⟨h0.I,fun g hg=>(World.putObj_heap_other (fun(e:g=D)=>hI0 (e▸hg))).trans (h0.heap g hg),h0.live,h0.μ,h0.σ,h0.bel.trans (putObj_below _ hb),h0.new,h0.lr,h0.rok,h0.J⟩
  refine⟨by simp,.inl ⟨D,_,by rw[hd],run_takeDeferred hh,leavesM ds _ H2 hle2 ⟨fun d' hd'=> ?_,(List.nodup_cons.1 hm.2).2⟩ fun w2 h1 h2 h3=>hk w2 (fun p=>(h1 p).trans (hc p)) h2 h3⟩⟩
  obtain⟨D',e1,e2,e3,e4,e5⟩:=hm.1 d' (by simp[hd'])
  refine⟨D',e1,e2,e3,e4,?_⟩
  show(World.putObj _ _ _).heap[_]? =_
  rw[World.putObj_heap_other (fun e=> ?_)]
  ·exact e5
  ·subst e
   refine(List.nodup_cons.1 hm.2).1 ?_
   rw[hd,<-e1];exact hd'
theorem rndEnd{R:Type}{E E0:Env}{hp:List Blk}(hE:E0= {E with fb:=hp.length}){S:St}{a:Act}{w:World}(hS:Sim base E0 S a w){b i:Nat}{rec:Loop}(hb:E.live b)(hlr:E.lr b=some (rec,i))(hg:lookH S.hp b= .ghost 1){jump:Option Code}{m:Nat}(hj:loopSt m=(if jump.isNone then .ready else .done,jump)){k:CV->List Blk->Option R}{r:R}
 (h:k (.bool jump.isNone) (compHp S.fb (compact S.fb [] (setH S.hp b (.ghost m))) (setH S.hp b (.ghost m)))=some r) :
 ∃v w4,(Instr.endRound (E.μ b) jump).run P w= .ok v w4/\CallEnd base E hp k r (.returned v) w4:=by
 obtain⟨E1,h0,hw,H,hs,hd,hl,hfb⟩:=hS
 subst hE hw
 have h0':=Env.le_fb h0
 have hlr1:E1.lr b=some (rec,i):=(h0'.lr b hb).trans hlr
 have hμ:E1.μ b=E.μ b:=h0'.μ b hb
 have hbk:=H.blk b
 rw[hg]at hbk
 obtain⟨rec',i',e1,hh⟩:=hbk
 rw[hlr1]at e1
 injection e1 with e1
 injection e1 with e1 e2
 subst e1 e2
 rw[hμ]at hh
 have hrun:=run_endRound (P:=P) jump hh
 refine⟨_,_,hrun,?_⟩
 have ho:(Obj.loop {({rec with state:=(loopSt 1).1,pending:=(loopSt 1).2}:Loop)with state:=if jump.isNone then .ready else .done,pending:=jump})=gObj rec m:=by
  unfold gObj
  rw[hj]
 obtain⟨hle2,H2⟩:=H.putLoop hg hlr1 (gObj rec m) (.ghost m) (.inr ⟨m,rfl,rfl⟩)
 rw[hμ]at hle2 H2
 have hr:=reach_spec (setH S.hp b (.ghost m)) S.fb 1000 ([]++((setH S.hp b (.ghost m)).take S.fb).flatMap Blk.refs) [] (by simp) (by simp)
 have hfb2:S.fb<=(setH S.hp b (.ghost m)).length:=Nat.le_trans hfb.2.1 (setH_len _ _ _)
 refine⟨.bool jump.isNone,.bool jump.isNone,_,Env.ren {E1 with w:=E1.w.putObj (E.μ b) (gObj rec m)} S.fb (compact S.fb [] (setH S.hp b (.ghost m))) (compHp S.fb (compact S.fb [] (setH S.hp b (.ghost m))) (setH S.hp b (.ghost m))),rfl,h,?_,?_,HS_ren H2 hfb2 hr.1 hr.2,VRep_bool.2 rfl,?_⟩
 ·show E1.w.putObj (E.μ b) (gObj rec m)=_
  rw[ho]
 ·have:=le_ren (fb:=S.fb) (keep:=compact S.fb [] (setH S.hp b (.ghost m))) (h0.trans hle2) H2 hfb2 hfb.1
  exact Env.le_fb this
 ·have:=compHp_len (fb:=S.fb) (keep:=compact S.fb [] (setH S.hp b (.ghost m))) hfb2
  have e:S.fb=hp.length:=hfb.2.2
  omega
theorem putAll_rep{E:Env}{hp:List Blk}{fb:Nat}:∀(ps:List Nat)(cs:List CV)(vs:List Value)(sl:List CV)(tm:Array Value),Vs E cs vs->SlotsRep E {sl:=sl,hp:=hp,fb:=fb} {tmps:=tm,defers:=[]}->tm.size=sl.length->
 SlotsRep E {sl:=putAll ps cs sl,hp:=hp,fb:=fb} {tmps:=(ps.zip vs).foldl (fun tmps(t,a)=>tmps.setIfInBounds t a) tm,defers:=[]}/\((ps.zip vs).foldl (fun tmps(t,a)=>tmps.setIfInBounds t a) tm).size=(putAll ps cs sl).length
 |[],_,_,_,_,_,h,hl=>⟨h,hl⟩
 |_::_,[],[],_,_,_,h,hl=>⟨h,hl⟩
 |p::ps,c::cs,v::vs,sl,tm,⟨h1,h2⟩,h,hl=>by
  obtain⟨g1,g2⟩:=SlotsRep.put h hl h1 (some p)
  exact putAll_rep ps cs vs (sl.set p c) (tm.setIfInBounds p v) h2 g1 g2
theorem evFn_sound{R:Type}{sm:Nat->Bool}{summ:Nat->Option Summ}{fns:Nat->Option IFn}{fu:Nat}(hsum:∀f s,summ f=some s->SummOK P f s)(hfns:FnsOK P sm fns)(hdraw:DrawOK P sm R summ)(hdrawC:DrawOKC P sm R summ) :
 ∀n,CallOK P base (rokOf P sm fns) (evFn (R:=R) summ fns fu n)
 |0=>⟨fun f cs hp k r _ h=>(by simp[evFn]at h),fun i b c cs hp k r h=>(by simp[evFn]at h)⟩
 |n+1=>⟨fun f cs hp k r hrz h E vs hrk H hvs=>(by
  simp only[evFn,hrz]at h
  split at h
  ·cases h
  ·rename_i fn hfn
   have hkey:=hfns f fn hfn
   unfold fnKey IFn.key at hkey
   split at hkey
   ·rename_i func hfunc
    split at hkey
    ·rename_i code hcode
     simp only[Option.some.injEq,Prod.mk.injEq]at hkey
     obtain⟨hname,hnt,hres,hcomp⟩:=hkey
     rw[Bool.and_eq_true]at hname
     obtain⟨hname,hone⟩:=hname
     refine⟨by unfold callable;rw[hfunc];simp only[hname,hcode];rfl,?_⟩
     refine callsIn_wide.1 (callsIn_of_wp_marks (F:=Fence.wide) (n:=0) hfunc hcode trivial ?_)
     let E0:Env:= {E with fb:=hp.length}
     have H0:HS base E0 hp:=H.fb_ hp.length
     have hlen:=Vs_len hvs
     have hvs':Vs E0 (cs++List.replicate (fn.ntmps-cs.length) .junk) (vs++List.replicate (func.ntmps-vs.length) undef):=by
      rw[hnt,hlen]
      have h1:Vs E0 cs vs:=hvs.mono (base:=base) (Env.fb_le _)
      exact h1.append (Vs_undef _)
     have hS:Sim base E0 {sl:=cs++List.replicate (fn.ntmps-cs.length) .junk,hp:=hp,fb:=hp.length} {tmps:=vs.toArray++Array.replicate (func.ntmps-vs.toArray.size) undef,defers:=[]} E.w:=by
      refine⟨E0,Env.le.refl _ _,rfl,H0,fun t=> ?_,Marks.nil,?_,fun b hb=>lookH_lt ((H.live b).1 hb),Nat.le_refl _,rfl⟩
      ·have:=Vs_get t hvs'
       have e:(vs.toArray++Array.replicate (func.ntmps-vs.toArray.size) undef).getD t undef=(vs++List.replicate (func.ntmps-vs.length) undef).getD t undef:=by
        have:(vs.toArray++Array.replicate (func.ntmps-vs.toArray.size) undef)=(vs++List.replicate (func.ntmps-vs.length) undef).toArray:=by
         apply Array.ext';simp
        rw[this];simp
       rw[e];exact this
      ·simp[hnt,hlen]
     refine evCode_sound (ro:=none) (fno:=f) hsum (by rw[show E0.rok=rokOf P sm fns from hrk];exact evFn_sound hsum hfns hdraw hdrawC n) (fun live S a w h=>norm_sound live h) (fun Q id nnew ops k r S a w he h0 h1 h2 h3=>hdraw none base E0 _ Q id nnew ops k r S a w he h0 h1 h2 h3) (fun Q id nnew ops e k r S a w he hl h0 h1 h2 h3=>hdrawC none base E0 _ Q id nnew ops e k r S a w he hl h0 h1 h2 h3) code fn.body hcomp (by rw[show E0.rok=rokOf P sm fns from hrk];exact rok_of hfn hcomp hone) _ _ _ _ _ h hS ?_
     intro ex S' a' w' h1 h2
     have fin:(match resOf S' fn.results with
      |none=>none
      |some l=>match compact S'.fb (l.flatMap CV.refs) S'.hp with
       |keep=>k ((tupOf l).ren S'.fb keep) (compHp S'.fb keep S'.hp))=some r->LeavesInM Fence.wide 0 P func a'.tmps (CallEnd base E hp k r) a'.defers .returning w':=by
      intro h1
      obtain⟨E1,h0,hw,H1,hs1,hd1,hl1,hfb⟩:=h2
      subst hw
      split at h1
      ·cases h1
      ·rename_i l hl
       rw[<-hres]at hl
       refine leavesM a'.defers E1 H1 h0 hd1 fun w2 hcell H2 hle2=> ?_
       have hs2:SlotsRep {E1 with w:=w2} S' a':=fun t=>(hs1 t).cells hcell
       obtain⟨v,hrun,hv⟩:=results_run (E:= {E1 with w:=w2}) H2 hs2 hl
       have hr:=reach_spec S'.hp S'.fb 1000 ((l.flatMap CV.refs)++(S'.hp.take S'.fb).flatMap Blk.refs) [] (by simp) (by simp)
       refine⟨v,hrun,v,_,_,Env.ren {E1 with w:=w2} S'.fb (compact S'.fb (l.flatMap CV.refs) S'.hp) (compHp S'.fb (compact S'.fb (l.flatMap CV.refs) S'.hp) S'.hp),rfl,h1,rfl,?_,HS_ren H2 hfb.2.1 hr.1 hr.2,VRep_ren H2 hfb.2.1 hv,?_⟩
       ·exact Env.le_fb (le_ren (fb:=S'.fb) (keep:=compact S'.fb (l.flatMap CV.refs) S'.hp) hle2 H2 hfb.2.1 hfb.1)
       ·have:=compHp_len (fb:=S'.fb) (keep:=compact S'.fb (l.flatMap CV.refs) S'.hp) hfb.2.1
        have e:S'.fb=hp.length:=hfb.2.2
        omega
     cases ex with
     |normal=>exact fin h1
     |exit id=>cases h1
     |ret=>exact fin h1
    ·cases hkey
   ·cases hkey),
  fun i b c cs hp k r h E v0 vs hrk H hv0 hvs=>by
  have hrz:Nat.ble RZ (RZ+i)=true:=Nat.ble_eq_true_of_le (by omega)
  simp only[evFn,hrz,Nat.add_sub_cancel_left]at h
  split at h
  ·rename_i fn hfn
   split at h
   ·rename_i x hx
    obtain⟨hlb,hv0,rec,cells,hlr,hcr,htm⟩:=(VRep_one rfl (by simp)).1 hv0
    have hv0:v0= .func (.yield (E.μ b)) #[] #[]:=by simpa using hv0
    simp only[evRnd]at h
    split at h
    ·rename_i hg
     have hg:lookH hp b= .ghost 0:=hg
     split at h
     ·rename_i hlen
      have hbk:=H.blk b
      rw[hg]at hbk
      obtain⟨rec',i',e1,hh⟩:=hbk
      rw[hlr]at e1
      injection e1 with e1
      injection e1 with e1 e2
      subst e1 e2
      have hok:=H.eok b rec i hlr
      rw[hrk]at hok
      obtain⟨fn',x',g1,g2,g3,g4,g5,g6,g7⟩:=hok
      rw[hfn]at g1
      injection g1 with g1
      subst g1
      rw[hx]at g2
      injection g2 with g2
      subst g2
      have hvl:=Vs_len hvs
      have hps:rec.params.size=x.1.length:=by rw[<-g3];simp
      refine⟨E.μ b,_,hv0,hh,by rw[<-hvl,hlen];exact hps.symm,?_⟩
      let E0:Env:= {E with fb:=hp.length}
      have H0:HS base E0 hp:=H.fb_ hp.length
      have hcall:CallOK P base E0.rok (evFn (R:=R) summ fns fu n):=by rw[show E0.rok=rokOf P sm fns from hrk];exact evFn_sound hsum hfns hdraw hdrawC n
      have hsl0:SlotsRep E0 {sl:=unchain c,hp:=hp,fb:=hp.length} {tmps:=rec.tmps,defers:=[]}:=by
       intro t
       have:=(regroup_at c cells hcr t).mono (E':=E0) (base:=base) (Env.fb_le _)
       rw[htm]
       simpa using this
      have hpar:=putAll_rep (E:=E0) (hp:=hp) (fb:=hp.length) x.1 cs vs (unchain c) rec.tmps (hvs.mono (base:=base) (Env.fb_le _)) hsl0 (by rw[htm];simpa using regroup_len (E:=E) c cells)
      have htmps:∀st pd,rndTmps {rec with state:=st,pending:=pd} vs=(x.1.zip vs).foldl (fun tmps(t,a)=>tmps.setIfInBounds t a) rec.tmps:=by
       intro st pd
       unfold rndTmps
       rw[<-g3,<-Array.foldl_toList]
       simp
      have hS0:Sim base E0 {sl:=putAll x.1 cs (unchain c),hp:=hp,fb:=hp.length} {tmps:=rndTmps {rec with state:=(loopSt 0).1,pending:=(loopSt 0).2} vs,defers:=[]} E.w:=by
       rw[htmps]
       exact⟨E0,Env.le.refl _ _,rfl,H0,hpar.1,Marks.nil,hpar.2,fun b hb=>lookH_lt ((H.live b).1 hb),Nat.le_refl _,rfl⟩
      refine roundIn_of_wpIn (F:=Fence.wide) (n:=0) trivial ?_
      refine evCode_sound (ro:=some (E.μ b)) (fno:=i) hsum hcall (fun live S a w h=>norm_sound live h) (fun Q id nnew ops k r S a w he h0 h1 h2 h3=>hdraw (some (E.μ b)) base E0 _ Q id nnew ops k r S a w he h0 h1 h2 h3) (fun Q id nnew ops e k r S a w he hl h0 h1 h2 h3=>hdrawC (some (E.μ b)) base E0 _ Q id nnew ops e k r S a w he hl h0 h1 h2 h3) rec.assign x.2.1 g4 (by rw[g6];simp) _ _ _ _ _ h hS0 ?_
      intro ex S1 a1 w1 h1 hS1
      cases ex with
      |exit id=>cases h1
      |ret=>cases h1
      |normal=>
       simp only at h1
       split at h1
       ·rename_i hg1
        have hg1:lookH S1.hp b= .ghost 0:=hg1
        obtain⟨E1,h0,hw,H1,hs1,hd1,hl1,hfb⟩:=hS1
        subst hw
        have hlr1:E1.lr b=some (rec,i):=(h0.lr b hlb).trans hlr
        have hμ:E1.μ b=E.μ b:=h0.μ b hlb
        have hbk:=H1.blk b
        rw[hg1]at hbk
        obtain⟨rec',i',e1,hh1⟩:=hbk
        rw[hlr1]at e1
        injection e1 with e1
        injection e1 with e1 e2
        subst e1 e2
        rw[hμ]at hh1
        refine⟨_,run_beginRound hh1 rfl,?_⟩
        obtain⟨hle2,H2⟩:=H1.putLoop hg1 hlr1 (gObj rec 1) (.ghost 1) (.inr ⟨1,rfl,rfl⟩)
        rw[hμ]at hle2 H2
        have hS2:Sim base E0 {S1 with hp:=setH S1.hp b (.ghost 1)} a1 (E1.w.putObj (E.μ b) (gObj rec 1)) :=
         ⟨_,h0.trans hle2,rfl,H2,(hs1.mono hle2),hd1.mono hle2,hl1,hfb.1,Nat.le_trans hfb.2.1 (setH_len _ _ _),hfb.2.2⟩
        refine evCode_sound (ro:=some (E.μ b)) (fno:=i) hsum hcall (fun live S a w h=>norm_sound live h) (fun Q id nnew ops k r S a w he h0 h1 h2 h3=>hdraw (some (E.μ b)) base E0 _ Q id nnew ops k r S a w he h0 h1 h2 h3) (fun Q id nnew ops e k r S a w he hl h0 h1 h2 h3=>hdrawC (some (E.μ b)) base E0 _ Q id nnew ops e k r S a w he hl h0 h1 h2 h3) rec.body x.2.2 g5 (by rw[g7];simp) _ _ _ _ _ h1 hS2 ?_
        intro ex S2 a2 w2 h2 hS2
        split at h2
        ·rename_i hg2
         have hg2:lookH S2.hp b= .ghost 1:=hg2
         cases ex with
         |normal=>exact rndEnd (E:=E) (E0:=E0) rfl hS2 hlb hlr hg2 (jump:=none) (m:=0) rfl h2
         |ret=>exact rndEnd (E:=E) (E0:=E0) rfl hS2 hlb hlr hg2 (jump:=some .ret) (m:=2) rfl h2
         |exit id=>exact rndEnd (E:=E) (E0:=E0) rfl hS2 hlb hlr hg2 (jump:=some (.exit id)) (m:=id+3) rfl (by
          have e:(exN (.exit id)==0)=false:=by simp[exN]
          rw[e]at h2
          exact h2)
        ·cases h2
       ·cases h1
     ·cases h
    ·cases h
   ·cases h
  ·cases h⟩
end
end Go.Ev
namespace Go.Ev
open Go Go.RowKit
theorem toPH_congr{look look':Look}:∀ {t:Ty}{c:CV},(∀b∈c.refs,look b=look' b)->toPH look t c=toPH look' t c:=by
 intro t
 induction t with
 |pair a b iha ihb=>
  intro c h
  cases c<;>simp only[toPH]<;>try rfl
  rename_i x y
  rw[iha (fun b hb=>h b (by simp[CV.refs,hb])),ihb (fun b hb=>h b (by simp[CV.refs,hb]))]
 |slice e ih=>
  intro c h
  cases c<;>simp only[toPH]<;>try rfl
  ·rename_i b;rw[h b (by simp[CV.refs])]
  ·rename_i b p sz off len cap;rw[h b (by simp[CV.refs])]
 |_=>
  intros c h
  cases c<;>simp only[toPH]<;>rfl
theorem subOK_congr{look look':Look}:∀ {c:CV},(∀b∈c.refs,look b=look' b)->c.subOK look=c.subOK look':=by
 intro c
 induction c with
 |pair a b iha ihb=>
  intro h
  simp only[CV.subOK]
  rw[iha (fun b hb=>h b (by simp[CV.refs,hb])),ihb (fun b hb=>h b (by simp[CV.refs,hb]))]
 |sub b p sz off len cap=>intro h;simp only[CV.subOK];rw[h b (by simp[CV.refs])]
 |_=>intro h;rfl
theorem allPH_congr{look look':Look}{e:Ty}:∀ {cs:List CV},(∀b∈cs.flatMap CV.refs,look b=look' b)->allPH look e cs=allPH look' e cs
 |[],_=>rfl
 |c::cs,h=>by
  simp only[allPH]
  rw[toPH_congr (fun b hb=>h b (by simp[hb])),allPH_congr (fun b hb=>h b (by rw[List.flatMap_cons];exact List.mem_append_right _ hb))]
theorem subsOK_congr{look look':Look}:∀ {cs:List CV},(∀b∈cs.flatMap CV.refs,look b=look' b)->subsOK look cs=subsOK look' cs
 |[],_=>rfl
 |c::cs,h=>by
  have h2:=subsOK_congr (cs:=cs) (fun b hb=>h b (by rw[List.flatMap_cons];exact List.mem_append_right _ hb))
  simp only[subsOK,List.all_cons]at h2⊢
  rw[subOK_congr (fun b hb=>h b (by simp[hb])),h2]
theorem frzs_congr{look look':Look}{cs:List CV}(h:∀b∈cs.flatMap CV.refs,look b=look' b):frzs look cs=frzs look' cs:=by
 unfold frzs
 apply List.map_congr_left
 intro b hb
 rw[h b hb]
theorem lenOf_congr{look look':Look}{c:CV}(h:∀b∈c.refs,look b=look' b):lenOf look c=lenOf look' c:=by
 cases c with
 |whole b=>simp only[lenOf,listOf];rw[h b (by simp[CV.refs])]
 |pure t x=>cases t<;>rfl
 |_=>rfl
def SummC(s:Summ):Prop:=∀(cs:List CV)(look look':Look)(nid:Nat),(∀b∈cs.flatMap CV.refs,look b=look' b)->s cs look nid=s cs look' nid
section
variable{summ:Nat->Option Summ}{look look':Look}{nid:Nat}
theorem idxSl_congr{sz:Nat}{vals:List CV}(h:∀b∈vals.flatMap CV.refs,look b=look' b):aIdxSl sz look vals=aIdxSl sz look' vals:=by
 unfold aIdxSl
 split<;>try rfl
 rename_i b k i
 rw[h b (by simp[CV.refs])]
theorem slice_congr{sz:Nat}{lo hi:Bool}{vals:List CV}(h:∀b∈vals.flatMap CV.refs,look b=look' b):aSlice sz lo hi look vals=aSlice sz lo hi look' vals:=by
 unfold aSlice
 split<;>try rfl
 rename_i s is
 split<;>try rfl
 split<;>try rfl
 split<;>try rfl
 rename_i b
 rw[h b (by simp[CV.refs])]
theorem store_congr{sz:Nat}{vals:List CV}(h:∀b∈vals.flatMap CV.refs,look b=look' b):aStore sz look vals=aStore sz look' vals:=by
 unfold aStore
 split<;>try rfl
 rename_i b p v
 have e1:=h b (by simp[CV.refs])
 have h2:∀b∈v.refs,look b=look' b:=fun b hb=>h b (by simp[hb])
 have e2:frzs look [v]=frzs look' [v]:=frzs_congr (by simpa using h2)
 have e3:=fun t=>toPH_congr (t:=t) h2
 have e4:=subOK_congr h2
 simp only[e1,e2,e3,e4]
theorem append_congr{te bytes:Nat}{e:Ty}{vals:List CV}(h:∀b∈vals.flatMap CV.refs,look b=look' b):aAppend te e bytes look nid vals=aAppend te e bytes look' nid vals:=by
 unfold aAppend
 split<;>try rfl
 rename_i s src
 have h2:∀b∈src.refs,look b=look' b:=fun b hb=>h b (by simp[hb])
 rw[toPH_congr h2,subOK_congr h2]
 split<;>try rfl
 split<;>try rfl
 ·rename_i b;rw[h b (by simp[CV.refs])]
 ·rename_i b p sz off len cap;rw[h b (by simp[CV.refs])]
theorem copy_congr{e:Ty}{vals:List CV}(h:∀b∈vals.flatMap CV.refs,look b=look' b):aCopy e look vals=aCopy e look' vals:=by
 unfold aCopy
 split<;>try rfl
 rename_i d src
 have h2:∀b∈src.refs,look b=look' b:=fun b hb=>h b (by simp[hb])
 rw[toPH_congr h2,subOK_congr h2]
 split<;>try rfl
 split<;>try rfl
 ·rename_i b;rw[h b (by simp[CV.refs])]
 ·rename_i b p sz off len cap;rw[h b (by simp[CV.refs])]
theorem clear_congr{e:Ty}{vals:List CV}(h:∀b∈vals.flatMap CV.refs,look b=look' b):aClear e look vals=aClear e look' vals:=by
 unfold aClear
 split<;>try rfl
 rename_i b p sz off len cap
 rw[h b (by simp[CV.refs])]
theorem unchain_refs:∀(c:CV)(b:Nat),b∈(unchain c).flatMap CV.refs->b∈c.refs:=by
 intro c
 induction c with
 |pair x y _ ihy=>
  intro b hb
  simp only[unchain,List.flatMap_cons,List.mem_append]at hb
  simp only[CV.refs,List.mem_append]
  exact hb.elim .inl fun h=> .inr (ihy b h)
 |_=>intro b hb;simp[unchain]at hb
theorem act_congr(hsum:∀f s,summ f=some s->SummC s)(op:IOp)(vals:List CV)(h:∀b∈need op vals,look b=look' b):act summ op vals look nid=act summ op vals look' nid:=by
 cases op<;>simp only[act]<;>simp only[need]at h
 case buildArr n e=>unfold aBuildArr;dsimp only;rw[allPH_congr h,subsOK_congr h,frzs_congr h]
 case buildArrP n e=>unfold aBuildArrP;dsimp only;rw[allPH_congr h,subsOK_congr h,frzs_congr h]
 case buildSl te e n=>unfold aBuildSl;dsimp only;rw[allPH_congr h,subsOK_congr h,frzs_congr h]
 case load ag sz=>
  unfold aLoad
  split<;>try rfl
  rename_i b p
  rw[h b (by simp)]
 case store sz=>exact store_congr h
 case eqb neg t=>
  unfold aEqb
  split<;>try rfl
  rename_i x y
  rw[toPH_congr (c:=x) (fun b hb=>h b (by simp[hb])),toPH_congr (c:=y) (fun b hb=>h b (by simp[hb])),subOK_congr (c:=x) (fun b hb=>h b (by simp[hb]))]
 case idxSl sz=>exact idxSl_congr h
 case index n e=>
  unfold aIndex
  split<;>try rfl
  rename_i x k i
  rw[toPH_congr (c:=x) (fun b hb=>h b (by simp[hb]))]
 case slice sz lo hi=>exact slice_congr h
 case len=>
  unfold aLen
  split<;>try rfl
  rename_i c
  rw[lenOf_congr (c:=c) (fun b hb=>h b (by simp[hb]))]
 case append te e bytes=>exact append_congr h
 case mark=>
  unfold aMark
  split<;>try rfl
  rename_i b
  rw[h b (by simp[CV.refs])]
 case strB=>
  unfold aStrB
  split<;>try rfl
  rename_i c
  rw[toPH_congr (c:=c) (fun b hb=>h b (by simp[hb])),subOK_congr (c:=c) (fun b hb=>h b (by simp[hb]))]
 case copy e=>exact copy_congr h
 case clear e=>exact clear_congr h
 case callS f=>
  unfold aCallS
  split<;>try rfl
  rename_i s hs
  exact hsum f s hs vals look look' nid h
 case callv=>
  unfold aCallV
  split<;>try rfl
  rename_i f c vs
  split<;>try rfl
  split<;>try rfl
  rename_i s hs
  refine hsum f s hs _ look look' nid fun b hb=>h b ?_
  rw[List.flatMap_append,List.mem_append]at hb
  show b∈(CV.clo f c::vs).flatMap CV.refs
  rw[List.flatMap_cons,List.mem_append]
  exact hb.elim .inr fun h=> .inl (unchain_refs c b h)
theorem act_nid{nid':Nat}(op:IOp)(vals:List CV)(h:isNew op=false):act summ op vals look nid=act summ op vals look nid':=by
 cases op<;>first|rfl|(simp[isNew]at h)
end
end Go.Ev
