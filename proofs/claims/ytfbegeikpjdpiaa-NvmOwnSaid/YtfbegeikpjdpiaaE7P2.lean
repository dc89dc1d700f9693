/- Part of a typed evaluator of the program's functions, proved sound. No condition. -/
import Derived.Test.YtfbegeikpjdpiaaE7P1
import Derived.IntWalk
import Derived.Shelf.SlicesE.Clone
import Derived.Shelf.Lays2
import Derived.Shelf.SlGeneric
import Derived.Shelf.RegionOpenPlain
import Derived.WalkKit
import Derived.Lib.Walk
import Derived.Lib.SliceRun
import Derived.Lib.JoinLaws
import Derived.Lib.AppendZeros
import Derived.Lib.AppendZerosOnto
import Derived.Laws.NewBlocks
import Derived.Lib.Overlaps
import Derived.Laws.Externs
import Derived.Laws.IdiomCopy
set_option maxRecDepth 10000
set_option linter.unusedVariables false
set_option linter.unusedSimpArgs false
namespace Go.Ev
open Go Go.RowKit
abbrev IO2:=Nat×IOper
section
variable(summ:Nat->Option Summ)(bs:Nat)
def goD(x:IO2)(S:St):Option (List LogE×St) :=
 match act summ x.2.op (x.2.args.map S.eval) S.look (bs+x.2.rank)with
 |none=>none
 |some out=>if drawChk S x.2.op (bs+x.2.rank) out=true/\out.ok=true then some ([logOf x.1 x.2 x.2.op (x.2.args.map S.eval) (bs+x.2.rank) out],S.apply x.2.dst out)else none
def stepD(x:IO2)(S:St):Option (List LogE×St) :=
 match x.2.guard with
 |none=>goD summ bs x S
 |some g=>match S.sl.getD g.1 .junk with
  | .bool b=>if b=g.2 then goD summ bs x S else some ([],S.put x.2.dst .undef)
  | .undef=>some ([],S.put x.2.dst .undef)
  |_=>none
def execD:List IO2->St->Option (List LogE×St)
 |[],S=>some ([],S)
 |x::r,S=>match stepD summ bs x S with
  |none=>none
  |some (l,S')=>match execD r S' with
   |none=>none
   |some (L,S'')=>some (l++L,S'')
end
def enum:Nat->List IOper->List IO2
 |_,[]=>[]
 |i,o::os=>(i,o)::enum (i+1) os
section
variable{R:Type}{summ:Nat->Option Summ}{bs:Nat}{call:Nat->List CV->List Blk->(CV->List Blk->Option R)->Option R}
theorem put_id{S:St}{d:Nat}{c:CV}(h:S.sl.getD d .junk=c)(hc:c≠ .junk):S.put (some d) c=S:=by
 obtain⟨sl,hp,fb⟩:=S
 simp only[St.put,St.mk.injEq,and_true]
 apply List.ext_getElem?
 intro j
 rw[List.getElem?_set]
 split
 ·rename_i hj
  subst hj
  simp only[List.getD_eq_getElem?_getD]at h
  cases hx:sl[d]? with
  |none=>rw[hx]at h;exact absurd h.symm hc
  |some v=>
   rw[hx]at h
   have hlt:d<sl.length:=by
    rcases Nat.lt_or_ge d sl.length with h1|h1
    ·exact h1
    ·rw[List.getElem?_eq_none h1]at hx;cases hx
   simp at h
   rw[if_pos hlt,h]
 ·rfl
theorem body1_goD{i:Nat}{o:IOper}{log:List LogE}{S:St}{k:List LogE->St->Option R}{r:R}(h:body1 summ call true bs i o log S k=some r) :
 ∃l S',goD summ bs (i,o) S=some (l,S')/\k (log++l) S'=some r:=by
 have h':(match act summ o.op (o.args.map S.eval) S.look (bs+o.rank)with
  |none=>none
  |some out=>gd (drawChk S o.op (bs+o.rank) out) (gd out.ok (k (log++[logOf i o o.op (o.args.map S.eval) (bs+o.rank) out]) (S.apply o.dst out))))=some r:=by
  exact h
 split at h'
 ·cases h'
 ·rename_i out hact
  cases h1:drawChk S o.op (bs+o.rank) out
  ·rw[h1]at h';cases h'
  ·cases h2:out.ok
   ·rw[h1,h2]at h';cases h'
   ·rw[h1,h2]at h'
    refine⟨_,_,?_,h'⟩
    unfold goD
    simp only[hact,h1,h2,and_self,if_true]
theorem evOps_execD{k:St->Option R}{r:R}:∀(os:List IOper)(i:Nat)(log:List LogE)(S:St),evOps summ call true bs i os log S k=some r->
 ∃L S',execD summ bs (enum i os) S=some (L,S')/\logOK (log++L)=true/\k S'=some r
 |[],i,log,S,h=>by
  simp only[evOps,if_true]at h
  cases hl:logOK log
  ·rw[hl]at h;cases h
  ·rw[hl]at h
   exact⟨[],S,rfl,by simpa using hl,h⟩
 |o::os,i,log,S,h=>by
  rw[evOps_cons]at h
  have run:∀S:St,(body1 summ call true bs i o log S fun log S=>evOps summ call true bs (i+1) os log S k)=some r->∃l S1,goD summ bs (i,o) S=some (l,S1)/\∃L S',execD summ bs (enum (i+1) os) S1=some (L,S')/\logOK (log++(l++L))=true/\k S'=some r:=by
   intro S h
   obtain⟨l,S1,h1,h2⟩:=body1_goD h
   obtain⟨L,S',h3,h4,h5⟩:=evOps_execD os (i+1) (log++l) S1 h2
   exact⟨l,S1,h1,L,S',h3,by simpa using h4,h5⟩
  split at h
  ·rename_i hg
   obtain⟨l,S1,h1,L,S',h3,h4,h5⟩:=run S h
   refine⟨l++L,S',?_,h4,h5⟩
   simp only[enum,execD,stepD,hg,h1,h3]
  ·rename_i d want hg
   split at h
   ·rename_i b hb
    have hput:S.put (some d) (.bool b)=S:=put_id hb (by simp)
    have skip:evOps summ call true bs (i+1) os log (S.put o.dst .undef) k=some r->b≠want->∃L S',execD summ bs (enum i (o::os)) S=some (L,S')/\logOK (log++L)=true/\k S'=some r:=by
     intro h hne
     obtain⟨L,S',h3,h4,h5⟩:=evOps_execD os (i+1) log _ h
     refine⟨L,S',?_,h4,h5⟩
     simp only[enum,execD,stepD,hg,hb,if_neg hne,h3,List.nil_append]
    have go:(body1 summ call true bs i o log S fun log S=>evOps summ call true bs (i+1) os log S k)=some r->b=want->∃L S',execD summ bs (enum i (o::os)) S=some (L,S')/\logOK (log++L)=true/\k S'=some r:=by
     intro h he
     obtain⟨l,S1,h1,L,S',h3,h4,h5⟩:=run S h
     refine⟨l++L,S',?_,h4,h5⟩
     simp only[enum,execD,stepD,hg,hb,if_pos he,h1,h3]
    cases b
    ·simp only[cond_false]at h
     rw[hput]at h
     cases want
     ·simp only[Bool.false_eq_true,if_false]at h;exact go h rfl
     ·simp only[if_true]at h;exact skip h (by simp)
    ·simp only[cond_true]at h
     rw[hput]at h
     cases want
     ·simp only[Bool.false_eq_true,if_false]at h;exact skip h (by simp)
     ·simp only[if_true]at h;exact go h rfl
   ·rename_i hu
    obtain⟨L,S',h3,h4,h5⟩:=evOps_execD os (i+1) log _ h
    refine⟨L,S',?_,h4,h5⟩
    simp only[enum,execD,stepD,hg,hu,h3,List.nil_append]
   ·cases h
def setO(sl:List CV)(d:Option Nat)(v:CV):List CV:=match d with|some d=>sl.set d v|none=>sl
theorem put_eq(S:St)(d:Option Nat)(v:CV):S.put d v= {S with sl:=setO S.sl d v}:=by cases d<;>rfl
theorem setH_in{hp:List Blk}{b:Nat}(h:b<hp.length)(k:Blk):setH hp b k=hp.set b k:=by unfold setH;rw[if_pos h]
theorem wrAll_length:∀(wr:List (Nat×Blk))(hp:List Blk),(wr.all fun p=>decide (p.1<hp.length))=true->(wrAll hp wr).length=hp.length
 |[],_,_=>rfl
 |p::wr,hp,h=>by
  simp only[List.all_cons,Bool.and_eq_true,decide_eq_true_eq]at h
  have e:(setH hp p.1 p.2).length=hp.length:=by rw[setH_in h.1];simp
  show(wrAll (setH hp p.1 p.2) wr).length=_
  rw[wrAll_length wr _ (by rw[e];exact h.2),e]
theorem wrAll_look:∀(wr:List (Nat×Blk))(hp:List Blk)(b:Nat),(wr.all fun p=>decide (p.1<hp.length))=true->b∉wr.map (·.1)->lookH (wrAll hp wr) b=lookH hp b
 |[],_,_,_,_=>rfl
 |p::wr,hp,b,h,hb=>by
  simp only[List.all_cons,Bool.and_eq_true,decide_eq_true_eq]at h
  have e:(setH hp p.1 p.2).length=hp.length:=by rw[setH_in h.1];simp
  show lookH (wrAll (setH hp p.1 p.2) wr) b=_
  rw[wrAll_look wr _ b (by rw[e];exact h.2) (fun hm=>hb (by simp only[List.map_cons];exact List.mem_cons_of_mem _ hm)),lookH_set (by omega),if_neg (fun e=>hb (by simp[e]))]
theorem wrAll_set:∀(wr:List (Nat×Blk))(hp:List Blk)(b:Nat)(k:Blk),(wr.all fun p=>decide (p.1<hp.length))=true->b<hp.length->b∉wr.map (·.1)->wrAll (setH hp b k) wr=setH (wrAll hp wr) b k
 |[],_,_,_,_,_,_=>rfl
 |p::wr,hp,b,k,h,hb,hn=>by
  simp only[List.all_cons,Bool.and_eq_true,decide_eq_true_eq]at h
  have e:(setH hp p.1 p.2).length=hp.length:=by rw[setH_in h.1];simp
  have hne:b≠p.1:=fun e=>hn (by simp[e])
  show wrAll (setH (setH hp b k) p.1 p.2) wr=setH (wrAll (setH hp p.1 p.2) wr) b k
  rw[<-wrAll_set wr _ b k (by rw[e];exact h.2) (by omega) (fun hm=>hn (by simp only[List.map_cons];exact List.mem_cons_of_mem _ hm))]
  congr 1
  rw[setH_in hb,setH_in h.1,setH_in (by simpa using h.1),setH_in (by simpa using hb),List.set_comm _ _ hne]
theorem wrAll_comm:∀(w1 w2:List (Nat×Blk))(hp:List Blk),(w1.all fun p=>decide (p.1<hp.length))=true->(w2.all fun p=>decide (p.1<hp.length))=true->(∀b∈w1.map (·.1),b∉w2.map (·.1))->wrAll (wrAll hp w1) w2=wrAll (wrAll hp w2) w1
 |[],_,_,_,_,_=>rfl
 |p::w1,w2,hp,h1,h2,hd=>by
  simp only[List.all_cons,Bool.and_eq_true,decide_eq_true_eq]at h1
  have e:(setH hp p.1 p.2).length=hp.length:=by rw[setH_in h1.1];simp
  show wrAll (wrAll (setH hp p.1 p.2) w1) w2=wrAll (setH (wrAll hp w2) p.1 p.2) w1
  rw[wrAll_comm w1 w2 _ (by rw[e];exact h1.2) (by rw[e];exact h2) (fun b hb=>hd b (by simp only[List.map_cons];exact List.mem_cons_of_mem _ hb)),wrAll_set w2 hp p.1 p.2 h2 h1.1 (hd p.1 (by simp))]
structure Eff(summ:Nat->Option Summ)(bs:Nat)(x:IO2)(S:St)(l:List LogE)(S':St)(v:CV)(wr:List (Nat×Blk)):Prop where
 out:S'= {S with sl:=setO S.sl x.2.dst v,hp:=wrAll S.hp wr}
 inr:(wr.all fun p=>decide (p.1<S.hp.length))=true
 log:∀b∈wr.map (·.1),∃e∈l,b∈e.wr
 tag:∀e∈l,e.i=x.1/\e.preds=x.2.preds
 len:l.length<=1
 loc:∀T:St,T.fb=S.fb->(∀s∈x.2.rds,T.sl.getD s .junk=S.sl.getD s .junk)->(∀e∈l,∀b∈e.rd,lookH T.hp b=lookH S.hp b)->T.hp.length=S.hp.length->stepD summ bs x T=some (l,{T with sl:=setO T.sl x.2.dst v,hp:=wrAll T.hp wr})
theorem stepD_eff(hsum:∀f s,summ f=some s->SummC s){x:IO2}{S S':St}{l:List LogE}(h:stepD summ bs x S=some (l,S')):∃v wr,Eff summ bs x S l S' v wr:=by
 have hgo:(∀T:St,(∀s∈x.2.rds,T.sl.getD s .junk=S.sl.getD s .junk)->goD summ bs x T=stepD summ bs x T\/True):=fun _ _=> .inr trivial
 clear hgo
 have evalT:∀T:St,(∀s∈x.2.rds,T.sl.getD s .junk=S.sl.getD s .junk)->x.2.args.map T.eval=x.2.args.map S.eval:=by
  intro T hT
  apply List.map_congr_left
  intro o ho
  cases o with
  |cst c=>rfl
  |tmp t=>exact hT t (by simp only[IOper.rds,List.mem_append,List.mem_flatMap];exact .inl ⟨_,ho,by simp⟩)
 have goE:∀ {l:List LogE}{S':St},goD summ bs x S=some (l,S')->∃v wr,S'= {S with sl:=setO S.sl x.2.dst v,hp:=wrAll S.hp wr}/\(wr.all fun p=>decide (p.1<S.hp.length))=true/\(∀b∈wr.map (·.1),∃e∈l,b∈e.wr)/\(∀e∈l,e.i=x.1/\e.preds=x.2.preds)/\l.length<=1/\
  ∀T:St,(∀s∈x.2.rds,T.sl.getD s .junk=S.sl.getD s .junk)->(∀e∈l,∀b∈e.rd,lookH T.hp b=lookH S.hp b)->T.hp.length=S.hp.length->goD summ bs x T=some (l,{T with sl:=setO T.sl x.2.dst v,hp:=wrAll T.hp wr}):=by
  intro l S' h
  unfold goD at h
  split at h
  ·cases h
  ·rename_i out hact
   split at h
   ·rename_i hk
    simp at h
    obtain⟨rfl,rfl⟩:=h
    have hchk:=hk.1
    simp only[drawChk,Bool.and_eq_true]at hchk
    refine⟨out.v,out.wr,by rw[St.apply,put_eq],hchk.1,fun b hb=>⟨_,List.mem_singleton.2 rfl,hb⟩,fun e he=>by simp at he;subst he;exact⟨rfl,rfl⟩,by simp,fun T hT hb hlen=> ?_⟩
    have hb':=hb _ (List.mem_singleton.2 rfl)
    have hva:=evalT T hT
    have hact':act summ x.2.op (x.2.args.map T.eval) T.look (bs+x.2.rank)=some out:=by
     rw[hva,<-hact]
     exact act_congr hsum _ _ (fun b hb=>hb' b (by simp only[logOf];exact List.mem_append_right _ hb))
    have hchk':drawChk T x.2.op (bs+x.2.rank) out=true:=by
     simp only[drawChk,hlen,Bool.and_eq_true]
     refine⟨hchk.1,?_⟩
     cases hn:isNew x.2.op
     ·rfl
     ·have:=hchk.2
      rw[hn]at this
      have e:T.look (bs+x.2.rank)=S.look (bs+x.2.rank):=hb' _ (by simp[logOf,hn])
      rw[e];exact this
    unfold goD
    rw[hact']
    simp only[hchk',hk.2,and_self,if_true]
    rw[hva,St.apply,put_eq]
   ·cases h
 unfold stepD at h
 split at h
 ·rename_i hg
  obtain⟨v,wr,h1,h2,h3,h4,h5,h6⟩:=goE h
  exact⟨v,wr,h1,h2,h3,h4,h5,fun T _ a b c=>by unfold stepD;rw[hg];exact h6 T a b c⟩
 ·rename_i g hg
  have hgr:g.1∈x.2.rds:=by simp[IOper.rds,hg]
  split at h
  ·rename_i b hb
   split at h
   ·rename_i he
    obtain⟨v,wr,h1,h2,h3,h4,h5,h6⟩:=goE h
    exact⟨v,wr,h1,h2,h3,h4,h5,fun T _ a' b' c'=>by unfold stepD;rw[hg];simp only[a' _ hgr,hb,if_pos he];exact h6 T a' b' c'⟩
   ·rename_i he
    simp at h
    obtain⟨rfl,rfl⟩:=h
    refine⟨.undef,[],by rw[put_eq];rfl,rfl,by simp,by simp,by simp,fun T _ a' b' c'=> ?_⟩
    unfold stepD;rw[hg];simp only[a' _ hgr,hb,if_neg he]
    rw[put_eq];rfl
  ·rename_i hu
   simp at h
   obtain⟨rfl,rfl⟩:=h
   refine⟨.undef,[],by rw[put_eq];rfl,rfl,by simp,by simp,by simp,fun T _ a' b' c'=> ?_⟩
   unfold stepD;rw[hg];simp only[a' _ hgr,hu]
   rw[put_eq];rfl
  ·cases h
theorem setO_getD{sl:List CV}{d:Option Nat}{v:CV}{s:Nat}(h:d≠some s):(setO sl d v).getD s .junk=sl.getD s .junk:=by
 cases d with
 |none=>rfl
 |some d=>
  have hne:d≠s:=fun e=>h (by rw[e])
  simp[setO,List.getElem?_set,hne]
theorem setO_comm{sl:List CV}{d e:Option Nat}{v u:CV}(h:∀x,d=some x->e≠some x):setO (setO sl d v) e u=setO (setO sl e u) d v:=by
 cases d with
 |none=>rfl
 |some d=>
  cases e with
  |none=>rfl
  |some e=>
   have hne:d≠e:=fun he=>h d rfl (by rw[he])
   exact List.set_comm _ _ hne
theorem slotApart_spec{a b:IOper}(h:slotApart a b=true):(∀d,a.dst=some d->d∉b.rds/\b.dst≠some d)/\∀d,b.dst=some d->d∉a.rds:=by
 simp only[slotApart,Bool.and_eq_true]at h
 refine⟨fun d hd=> ?_,fun d hd=> ?_⟩
 ·have:=h.1
  rw[hd]at this
  simpa using this
 ·have:=h.2
  rw[hd]at this
  simpa using this
theorem apart_spec{a b:LogE}(h:apart a b=true):∀x∈a.wr,x∉b.rd/\x∉b.wr:=by
 intro x hx
 simp only[apart,List.all_eq_true,Bool.and_eq_true,Bool.not_eq_true']at h
 have:=h x hx
 exact⟨fun hm=>by rw[List.contains_iff_mem.2 hm]at this;simp at this,fun hm=>by rw[List.contains_iff_mem.2 hm]at this;simp at this⟩
theorem swap(hsum:∀f s,summ f=some s->SummC s){x y:IO2}{S S1 S2:St}{lx ly:List LogE}(h1:stepD summ bs x S=some (lx,S1))(h2:stepD summ bs y S1=some (ly,S2))(hs:slotApart x.2 y.2=true)
 (hl:∀a∈lx,∀b∈ly,apart a b=true/\apart b a=true):∃T,stepD summ bs y S=some (ly,T)/\stepD summ bs x T=some (lx,S2):=by
 obtain⟨v,wx,ex⟩:=stepD_eff hsum h1
 obtain⟨u,wy,ey⟩:=stepD_eff hsum h2
 obtain⟨s1,s2⟩:=slotApart_spec hs
 have hS1:=ex.out
 subst hS1
 have hlen1:(wrAll S.hp wx).length=S.hp.length:=wrAll_length wx S.hp ex.inr
 have iny:(wy.all fun p=>decide (p.1<S.hp.length))=true:=by have:=ey.inr;simpa[hlen1]using this
 have hwx:∀e∈ly,∀b∈e.rd,b∉wx.map (·.1):=by
  intro e he b hb hm
  obtain⟨a,ha,hba⟩:=ex.log b hm
  exact(apart_spec (hl a ha e he).1 b hba).1 hb
 have hwy:∀e∈lx,∀b∈e.rd,b∉wy.map (·.1):=by
  intro e he b hb hm
  obtain⟨a,ha,hba⟩:=ey.log b hm
  exact(apart_spec (hl e he a ha).2 b hba).1 hb
 have hdis:∀b∈wx.map (·.1),b∉wy.map (·.1):=by
  intro b hb hm
  obtain⟨a,ha,hba⟩:=ex.log b hb
  obtain⟨c,hc,hbc⟩:=ey.log b hm
  exact(apart_spec (hl a ha c hc).1 b hba).2 hbc
 have hy:=ey.loc S rfl (fun s hs'=>(setO_getD (fun e=>(s1 s e).1 hs')).symm) (fun e he b hb=>(wrAll_look wx S.hp b ex.inr (hwx e he b hb)).symm) hlen1.symm
 refine⟨_,hy,?_⟩
 have hlen2:(wrAll S.hp wy).length=S.hp.length:=wrAll_length wy S.hp iny
 have hx:=ex.loc {S with sl:=setO S.sl y.2.dst u,hp:=wrAll S.hp wy} rfl (fun s hs'=>setO_getD (fun e=>s2 s e hs')) (fun e he b hb=>wrAll_look wy S.hp b iny (hwy e he b hb)) hlen2
 rw[hx,ey.out]
 simp only[Option.some.injEq,Prod.mk.injEq,true_and,St.mk.injEq,and_true]
 exact⟨(setO_comm (fun d hd=>(s1 d hd).2)).symm,(wrAll_comm wx wy S.hp ex.inr iny hdis).symm⟩
theorem logOK_cons{a:LogE}{l:List LogE}:logOK (a::l)=true↔(∀b∈l,b.preds.contains a.i=true\/(apart a b=true/\apart b a=true))/\logOK l=true:=by
 simp[logOK,List.all_eq_true]
theorem logOK_app:∀ {l m:List LogE},logOK (l++m)=true->logOK m=true
 |[],_,h=>h
 |a::l,m,h=>logOK_app (logOK_cons.1 h).2
theorem take_first(hsum:∀f s,summ f=some s->SummC s){y:IO2}{post:List IO2}{Sf:St}:∀(pre:List IO2)(S:St)(L:List LogE),execD summ bs (pre++y::post) S=some (L,Sf)->logOK L=true->
 (∀x∈pre,slotApart x.2 y.2=true/\y.2.preds.contains x.1=false) ->
 ∃ly S' L',stepD summ bs y S=some (ly,S')/\execD summ bs (pre++post) S'=some (L',Sf)/\logOK L'=true/\(∀b∈L',b∈L)/\(∀b∈ly,b∈L)
 |[],S,L,h,hl,_=>by
  simp only[List.nil_append,execD]at h
  split at h
  ·cases h
  ·rename_i ly S' hy
   split at h
   ·cases h
   ·rename_i L' S'' hp
    simp at h
    obtain⟨rfl,rfl⟩:=h
    exact⟨ly,S',L',hy,hp,logOK_app hl,fun b hb=>List.mem_append_right _ hb,fun b hb=>List.mem_append_left _ hb⟩
 |x::pre,S,L,h,hl,hpre=>by
  simp only[List.cons_append,execD]at h
  split at h
  ·cases h
  ·rename_i lx S1 hx
   split at h
   ·cases h
   ·rename_i L1 S'' hp
    simp at h
    obtain⟨rfl,rfl⟩:=h
    have hl1:=logOK_app hl
    obtain⟨ly,S1',L1',h1,h2,h3,h4,h5⟩:=take_first hsum pre S1 L1 hp hl1 (fun z hz=>hpre z (by simp[hz]))
    obtain⟨_,_,ex⟩:=stepD_eff hsum hx
    obtain⟨_,_,ey⟩:=stepD_eff hsum h1
    have hxy:=hpre x (by simp)
    have hap:∀a∈lx,∀b∈L1,b.preds.contains a.i=true\/(apart a b=true/\apart b a=true):=by
     intro a ha b hb
     match lx,ex.len,ha,hl with
     |[a'],_,ha,hl=>
      simp at ha;subst ha
      exact(logOK_cons.1 hl).1 b hb
    obtain⟨T,t1,t2⟩:=swap hsum hx h1 hxy.1 (fun a ha b hb=>by
     rcases hap a ha b (h5 b hb)with h|h
     ·rw[(ey.tag b hb).2,(ex.tag a ha).1,hxy.2]at h;cases h
     ·exact h)
    refine⟨ly,T,lx++L1',t1,?_,?_,?_,fun b hb=>List.mem_append_right _ (h5 b hb)⟩
    ·simp only[List.cons_append,execD,t2,h2]
    ·match lx,ex.len,hap with
     |[],_,_=>exact h3
     |[a],_,hap=>
      refine logOK_cons.2 ⟨fun b hb=>hap a (by simp) b (h4 b hb),h3⟩
    ·intro b hb
     rcases List.mem_append.1 hb with h|h
     ·exact List.mem_append_left _ h
     ·exact List.mem_append_right _ (h4 b h)
end
end Go.Ev
namespace Go.Ev
open Go Go.RowKit
theorem predsGo_acc:∀(os:List Oper)(acc:List (List Nat))(i:Nat),i<acc.length->(predsGo os acc).getD i []=acc.getD i []
 |[],_,_,_=>rfl
 |o::os,acc,i,h=>by
  rw[predsGo,predsGo_acc os _ i (by simp;omega)]
  simp[List.getElem?_append_left h]
theorem predsGo_spec:∀(os:List Oper)(acc:List (List Nat))(j:Nat)(o:Oper),os[j]? =some o->∀p∈(predsGo os acc).getD (acc.length+j) [],
 ∃e∈o.after.toList,Region.binds .any e=true/\(p=e.on\/p∈(predsGo os acc).getD e.on [])
 |[],_,_,_,h,_,_=>by simp at h
 |o::os,acc,0,o',h,p,hp=>by
  simp at h;subst h
  rw[predsGo]at hp⊢
  rw[predsGo_acc os _ _ (by simp)]at hp
  have e1:(acc++[predOf acc o]).getD (acc.length+0) []=predOf acc o:=by simp
  rw[e1]at hp
  unfold predOf at hp
  rw[List.mem_eraseDups,List.mem_flatMap]at hp
  obtain⟨e,he,hm⟩:=hp
  split at hm
  ·rename_i hb
   refine⟨e,he,hb,?_⟩
   rcases List.mem_cons.1 hm with h|h
   ·exact .inl h
   ·right
    by_cases hlt:e.on<acc.length
    ·rw[predsGo_acc os _ _ (by simp;omega)]
     simpa[List.getElem?_append_left hlt]using h
    ·simp[List.getElem?_eq_none (show acc.length<=e.on by omega)]at h
  ·cases hm
 |o::os,acc,j+1,o',h,p,hp=>by
  rw[predsGo]at hp⊢
  have:=predsGo_spec os (acc++[predOf acc o]) j o' (by simpa using h) p (by simpa[Nat.add_assoc,Nat.add_comm 1 j]using hp)
  exact this
theorem slots_pair:∀(l:List IOper)(i:Nat),slotsOK i l=true->(enum i l).Pairwise fun x y=>y.2.preds.contains x.1=true\/slotApart x.2 y.2=true
 |[],_,_=> .nil
 |a::l,i,h=>by
  simp only[slotsOK,Bool.and_eq_true,List.all_eq_true,Bool.or_eq_true]at h
  refine .cons (fun y hy=> ?_) (slots_pair l (i+1) h.2)
  have:∀(l:List IOper)(i:Nat),∀y∈enum i l,y.2∈l:=by
   intro l
   induction l with
   |nil=>intro i y hy;simp[enum]at hy
   |cons b l ih=>
    intro i y hy
    simp only[enum,List.mem_cons]at hy
    rcases hy with rfl|hy
    ·simp
    ·exact List.mem_cons_of_mem _ (ih _ y hy)
  exact h.1 y.2 (this l (i+1) y hy)
theorem enum_asc:∀(l:List IOper)(i:Nat),(enum i l).Pairwise (fun x y=>x.1<y.1)/\∀x∈enum i l,i<=x.1
 |[],_=>⟨.nil,by simp[enum]⟩
 |a::l,i=>by
  obtain⟨h1,h2⟩:=enum_asc l (i+1)
  refine⟨.cons (fun y hy=>by have:=h2 y hy;show i<y.1;omega) h1,fun x hx=> ?_⟩
  simp only[enum,List.mem_cons]at hx
  rcases hx with rfl|hx
  ·exact Nat.le_refl _
  ·have:=h2 x hx;omega
theorem enum_mem:∀(l:List IOper)(i:Nat)(x:IO2),x∈enum i l↔∃j,l[j]? =some x.2/\x.1=i+j
 |[],_,x=>by simp[enum]
 |a::l,i,x=>by
  simp only[enum,List.mem_cons,enum_mem l (i+1) x]
  constructor
  ·rintro(rfl|⟨j,h1,h2⟩)
   ·exact⟨0,rfl,rfl⟩
   ·exact⟨j+1,by simpa using h1,by omega⟩
  ·rintro⟨j,h1,h2⟩
   cases j with
   |zero=>
    simp at h1 h2
    left
    obtain⟨x1,x2⟩:=x
    simp at h1 h2
    rw[h1,h2]
   |succ j=>exact .inr ⟨j,by simpa using h1,by omega⟩
section
variable{R:Type}{P:Program}{sm:Nat->Bool}{summ:Nat->Option Summ}{base bs:Nat}{E0:Env}{ops:Array Oper}
theorem snd_callV(hsum:∀f s,summ f=some s->SummOK P f s){E:Env}{S:St}{a:Act}(H:HS base E S.hp)(hs:SlotsRep E S a){o:Oper}{cl:Call}{y:Operand}(ho:o.op= .call cl)(hcl:cl.callee= .value y){q:Opd}{l:List Opd}(hq:opd P none y=some q)(h1:opds P (cl.argTypes.toList.map some) cl.args.toList=some l){nid:Nat}{out:Out}
 (hact:act summ .callv ((q::l).map S.eval) S.look nid=some out) (hok:out.ok=true) (hf:lookH S.hp nid= .fresh) (hn:nid<=S.hp.length):OpWp P base E S a o out:=by
 simp only[act,aCallV,List.map_cons]at hact
 split at hact
 ·rename_i f cc vs he
  simp only[List.cons.injEq]at he
  split at hact
  ·rename_i hcap
   split at hact
   ·rename_i s hsf
    obtain⟨hcb,_,hcalls⟩:=hsum f s hsf
    have hv:=opd_rep hs hq
    rw[he.1]at hv
    obtain⟨caps,hfv,hcr⟩:=VRep_clo.1 hv
    have hvs:Vs E (vs++unchain cc) (cl.args.toList.map a.eval++caps):=by
     rw[<-he.2];exact(opds_rep hs h1).append (caps_rep hcr hcap)
    intro ro next Q hnx
    have hcall:=hcalls base E S.hp _ _ nid out H hvs hact hok hf hn
    have e:(cl.args.toList.map a.eval++caps).toArray= #[]++cl.args.map a.eval++caps.toArray:=by
     apply Array.ext';simp
    have hrun:(execOp a.eval o).run P E.w= .ok (.enter f (cl.args.toList.map a.eval++caps).toArray) E.w:=by
     unfold execOp
     simp only[ho,resolve,hcl,hfv,Deferred.ofValue,invoke,Sem.run_bind,Sem.run_pure,Result.andThen_ok]
     have:=run_callFunc hcb (#[]++cl.args.map a.eval++caps.toArray) E.w
     rw[e]
     simpa using this
    exact wp_ent hrun hcall fun e w'⟨v,E',he,hw,hle,H',hv⟩=>⟨v,he,by subst hw;exact hnx v E' hle H' hv⟩
   ·cases hact
  ·cases hact
 ·cases hact
theorem step_wp{ro:Option Nat}(hsum:∀f s,summ f=some s->SummOK P f s){S S':St}{a:Act}{w:World}(hS:Sim base E0 S a w){x:IO2}{l:List LogE}(h:stepD summ bs x S=some (l,S')){o:Oper}(hrel:x.2=compOne P sm ops.toList o x.2.rank x.2.preds)
 {next:Act->World->Prop} {Q:Exit->Act->World->Prop} (hn:∀a' w',Sim base E0 S' a' w'->next a' w') :
 if Region.wanted o (yielded ops a.tmps)=true then o.wpIn (FR ro) 0 P a w next Q else next (a.put o.dst undef) w:=by
 have goW:∀ {c:IOp×List Opd},compAny P sm o=some c->x.2.op=c.1->x.2.args=c.2->x.2.dst=o.dst->goD summ bs x S=some (l,S')->o.wpIn (FR ro) 0 P a w next Q:=by
  intro c hc hop hargs hdst hg
  obtain⟨E,h0,hw,H,hs,hd,hl,hfb⟩:=hS
  subst hw
  unfold goD at hg
  rw[hop,hargs]at hg
  split at hg
  ·cases hg
  ·rename_i out hact
   split at hg
   ·rename_i hk
    simp at hg
    obtain⟨_,rfl⟩:=hg
    have hnx0:∀v E',E.le base E'->HS base E' (wrAll S.hp out.wr)->VRep E' out.v v->next (a.put o.dst v) E'.w:=fun v E' hle H' hv=>by
     rw[hdst]at hn
     exact hn _ _ (Sim.step h0 hs hd hl hfb (wrAll_len _ _) hle H' rfl hv o.dst)
    by_cases hcv:compOp P sm o=some (c.1,c.2)
    rotate_left
    ·have hfresh:isNew c.1=true->lookH S.hp (bs+x.2.rank)= .fresh/\bs+x.2.rank<=S.hp.length:=by
      intro hnew
      have hchk:=hk.1
      simp only[drawChk,hnew,Bool.not_true,Bool.false_or,Bool.and_eq_true,decide_eq_true_eq]at hchk
      refine⟨?_,hchk.2.2⟩
      have:=hchk.2.1
      have e:S.look (bs+x.2.rank)=lookH S.hp (bs+x.2.rank):=rfl
      rw[e]at this
      cases hb:lookH S.hp (bs+x.2.rank)<;>rw[hb]at this<;>simp[Blk.isFresh]at this
     rcases comp_cases hc with h|⟨h,_⟩
     rotate_left
     ·exact absurd h hcv
     unfold compCall at h
     split at h
     ·rename_i cl ho
      split at h
      ·split at h
       ·cases h
       ·obtain⟨_,_,h2⟩:=map_some h
        subst h2
        simp[act]at hact
      ·rename_i y hy hcl
       split at h
       ·rename_i q l hq h1
        simp at h;subst h
        obtain⟨hf1,hf2⟩:=hfresh rfl
        exact snd_callV hsum H hs ho hcl hq h1 hact hk.2 hf1 hf2 ro next Q hnx0
       ·cases h
      ·cases h
     ·cases h
    have hc':compOp P sm o=some (c.1,c.2):=hcv
    have hnx:∀v E',E.le base E'->HS base E' (wrAll S.hp out.wr)->VRep E' out.v v->next (a.put o.dst v) E'.w:=fun v E' hle H' hv=>by
     rw[hdst]at hn
     exact hn _ _ (Sim.step h0 hs hd hl hfb (wrAll_len _ _) hle H' rfl hv o.dst)
    cases hnew:isNew c.1
    ·rw[act_nid (nid':=S.hp.length) _ _ hnew]at hact
     exact op_sound hsum H hs hc' hact hk.2 (fresh_len S.hp) (Nat.le_refl _) ro next Q hnx
    ·have hchk:=hk.1
     simp only[drawChk,hnew,Bool.not_true,Bool.false_or,Bool.and_eq_true,decide_eq_true_eq]at hchk
     have hfr:lookH S.hp (bs+x.2.rank)= .fresh:=by
      have:=hchk.2.1
      have e:S.look (bs+x.2.rank)=lookH S.hp (bs+x.2.rank):=rfl
      rw[e]at this
      cases hb:lookH S.hp (bs+x.2.rank)<;>rw[hb]at this<;>simp[Blk.isFresh]at this
     exact op_sound hsum H hs hc' hact hk.2 hfr hchk.2.2 ro next Q hnx
   ·cases hg
 rcases compOne_rel hrel with⟨c,g,hc,hg,hop,hargs,hdst,hgd⟩|⟨hop,hgd⟩
 ·unfold stepD at h
  rw[hgd]at h
  unfold guardOf at hg
  split at hg
  ·rename_i hgo
   simp at hg;subst hg
   have hw:Region.wanted o (yielded ops a.tmps)=true:=by simp[Region.wanted,hgo]
   rw[if_pos hw]
   exact goW hc hop hargs hdst h
  ·rename_i g' hgo
   split at hg
   ·rename_i d hd
    simp at hg;subst hg
    simp only at h
    split at h
    ·rename_i b hb
     have hB:=hS.bool hb
     have hy:yielded ops a.tmps g'.1=some b:=by
      unfold yielded
      have:(ops[g'.1]?).bind (·.dst)=some d:=by simpa using hd
      rw[this]
      simp[hB.2]
     have hwant:Region.wanted o (yielded ops a.tmps)=(b==g'.2):=by
      simp only[Region.wanted,hgo,hy]
      cases b<;>cases g'.2<;>rfl
     rw[hwant]
     split at h
     ·rename_i he
      rw[if_pos (by simpa using he)]
      exact goW hc hop hargs hdst h
     ·rename_i he
      rw[if_neg (by simpa using he)]
      simp at h
      obtain⟨_,rfl⟩:=h
      rw[<-hdst]
      exact hn _ _ (hS.skipU x.2.dst)
    ·rename_i hu
     have hU:=hS.isUndef hu
     have hy:yielded ops a.tmps g'.1=none:=by
      unfold yielded
      have:(ops[g'.1]?).bind (·.dst)=some d:=by simpa using hd
      rw[this]
      cases ht:a.tmps[d]? with
      |none=>simp[ht]
      |some v=>
       have:v=undef:=by simpa[ht]using hU
       subst this
       simp[ht,undef]
     have hwant:Region.wanted o (yielded ops a.tmps)=false:=by
      simp only[Region.wanted,hgo,hy]
      rfl
     rw[hwant,if_neg (by decide),<-hdst]
     simp at h
     obtain⟨_,rfl⟩:=h
     exact hn _ _ (hS.skipU x.2.dst)
    ·cases h
   ·cases hg
 ·unfold stepD at h
  rw[hgd]at h
  unfold goD at h
  rw[hop]at h
  simp[act]at h
theorem ready_preds{listed:Array Bool}{i:Nat}(h5:∀i,listed.getD i false=true->∀p∈(predsOf ops.toList).getD i [],listed.getD p false=true)(hi:i∈Region.ready .any ops listed):∀p∈(predsOf ops.toList).getD i [],listed.getD p false=true:=by
 unfold Region.ready at hi
 rw[List.mem_filter]at hi
 obtain⟨hir,hic⟩:=hi
 have hilt:i<ops.size:=by simpa using hir
 simp only[Bool.and_eq_true,Bool.not_eq_true']at hic
 obtain⟨hil,hia⟩:=hic
 intro p hp
 obtain⟨o,ho⟩:∃o,ops[i]? =some o:=⟨ops[i],by simp[hilt]⟩
 rw[ho]at hia
 simp only[Option.map_some,Option.getD_some]at hia
 rw[Array.all_eq_true_iff_forall_mem]at hia
 obtain⟨e',he',hb,hpe⟩:=predsGo_spec ops.toList [] i o (by simpa using ho) p (by simpa[predsOf]using hp)
 have hle:=hia e' (by simpa using he')
 rw[hb]at hle
 simp only[Bool.not_true,Bool.false_or]at hle
 rcases hpe with rfl|hpe
 ·exact hle
 ·exact h5 e'.on hle p hpe
theorem edge_lt(hed:edgesOK ops.toList=true)(i:Nat)(o:Oper)(ho:ops[i]? =some o):∀e∈o.after.toList,Region.binds .any e=true->e.on<i:=by
 intro e he hb
 unfold edgesOK at hed
 rw[List.all_eq_true]at hed
 have hm:(o,i)∈ops.toList.zipIdx:=by
  rw[List.mem_zipIdx_iff_getElem?]
  simpa using ho
 have:=hed _ hm
 rw[List.all_eq_true]at this
 have:=this e he
 simp only[hb,Bool.not_true,Bool.false_or,decide_eq_true_eq]at this
 exact this
theorem ready_mem(hed:edgesOK ops.toList=true){listed:Array Bool}(hsz:listed.size=ops.size){i:Nat}(hi:i<ops.size)(hl:listed.getD i true=false)(hj:∀j,j<i->listed.getD j true=true):i∈Region.ready .any ops listed:=by
 obtain⟨o,ho⟩:∃o,ops[i]? =some o:=⟨ops[i],by simp[hi]⟩
 unfold Region.ready
 rw[List.mem_filter]
 refine⟨by simpa using hi,?_⟩
 rw[hl]
 simp only[Bool.not_false,Bool.true_and,ho,Option.map_some,Option.getD_some]
 rw[Array.all_eq_true_iff_forall_mem]
 intro e' he'
 cases hb:Region.binds .any e'
 ·rfl
 ·simp only[Bool.not_true,Bool.false_or]
  have hlt:=edge_lt hed i o ho e' (by simpa using he') hb
  have:=hj _ hlt
  simpa[Array.getD,hsz,show e'.on<ops.size by omega]using this
theorem anyW{ro:Option Nat}(hsum:∀f s,summ f=some s->SummOK P f s)(hsc:∀f s,summ f=some s->SummC s)(hed:edgesOK ops.toList=true){Q:Exit->Act->World->Prop}{Sf:St}{off n0:Nat}{later:Nat->Prop}
 (hfin:∀listed a' w',listed.size=ops.size->(∀i,i<ops.size->listed.getD i true=false->later i)->(∀i,i<ops.size->later i->listed.getD i true=false)->(∀i,listed.getD i false=true->∀p∈(predsOf ops.toList).getD i [],listed.getD p false=true)->Sim base E0 Sf a' w'->wpAnyIn (FR ro) 0 P .any ops Q n0 listed a' w') :
 ∀(n:Nat)(rem:List IO2)(listed:Array Bool)(S:St)(a:Act)(w:World)(L:List LogE),rem.length=n->listed.size=ops.size->
  (∀x∈rem,listed.getD (x.1+off) true=false/\∃o,ops[x.1+off]? =some o/\x.2=compOne P sm ops.toList o x.2.rank x.2.preds/\∀p∈x.2.preds,p+off∈(predsOf ops.toList).getD (x.1+off) []) ->
  (∀i,i<ops.size->later i->listed.getD i true=false/\∀x∈rem,x.1+off<i/\x.1+off∈(predsOf ops.toList).getD i []) ->
  (∀i,i<ops.size->listed.getD i true=false->later i\/∃x∈rem,x.1+off=i) ->
  rem.Pairwise (fun x y=>x.1<y.1)->(∀i,listed.getD i false=true->∀p∈(predsOf ops.toList).getD i [],listed.getD p false=true) ->
  rem.Pairwise (fun x y=>y.2.preds.contains x.1=true\/slotApart x.2 y.2=true) ->
  execD summ bs rem S=some (L,Sf)->logOK L=true->Sim base E0 S a w->wpAnyIn (FR ro) 0 P .any ops Q (n+n0) listed a w:=by
 intro n
 induction n with
 |zero=>
  intro rem listed S a w L hn hsz h2 hla h3 h4 h5 h6 hex hlog hS
  have:rem=[]:=List.eq_nil_of_length_eq_zero hn
  subst this
  simp only[execD,Option.some.injEq,Prod.mk.injEq]at hex
  obtain⟨rfl,rfl⟩:=hex
  rw[Nat.zero_add]
  exact hfin listed a w hsz (fun i hi hl=>by
   rcases h3 i hi hl with h|⟨x,hx,_⟩
   ·exact h
   ·simp at hx) (fun i hi h=>(hla i hi h).1) h5 hS
 |succ n ih=>
  intro rem listed S a w L hn hsz h2 hla h3 h4 h5 h6 hex hlog hS
  rw[show n+1+n0=(n+n0)+1 by omega]
  have gl:∀i,i<ops.size->listed.getD i true=listed.getD i false:=by
   intro i hi
   simp[Array.getD,hsz,hi]
  refine⟨fun hnil=> ?_,fun i hi=> ?_⟩
  ·exfalso
   match rem,hn with
   |z::rest,_=>
    obtain⟨hz1,o,ho,_,_⟩:=h2 z (by simp)
    have hzlt:z.1+off<ops.size:=by
     rcases Nat.lt_or_ge (z.1+off) ops.size with h|h
     ·exact h
     ·rw[Array.getElem?_eq_none h]at ho;cases ho
    have:z.1+off∈Region.ready .any ops listed:=by
     refine ready_mem hed hsz hzlt hz1 (fun j hj=> ?_)
     cases hle:listed.getD j true
     ·rcases h3 j (by omega) hle with hxe|⟨x,hx,hxe⟩
      ·have:=((hla j (by omega) hxe).2 z (by simp)).1
       omega
      rcases List.mem_cons.1 hx with rfl|hx
      ·omega
      ·have:=List.rel_of_pairwise_cons h4 hx
       omega
     ·rfl
    rw[hnil]at this
    cases this
  ·have hpred:=ready_preds h5 hi
   unfold Region.ready at hi
   rw[List.mem_filter]at hi
   obtain⟨hir,hic⟩:=hi
   have hilt:i<ops.size:=by simpa using hir
   simp only[Bool.and_eq_true,Bool.not_eq_true']at hic
   obtain⟨hil,hia⟩:=hic
   rcases h3 i hilt hil with hie|⟨y,hy,rfl⟩
   ·exfalso
    match rem,hn with
    |z::rest,_=>
     obtain⟨hz1,o,ho,_,_⟩:=h2 z (by simp)
     have hz:=(hla i hilt hie).2 z (by simp)
     have:=hpred (z.1+off) hz.2
     rw[<-gl _ (by omega),hz1]at this
     cases this
   obtain⟨_,o,ho,hrel,hpr⟩:=h2 y hy
   obtain⟨pre,post,rfl⟩:=List.append_of_mem hy
   have hpre:∀x∈pre,slotApart x.2 y.2=true/\y.2.preds.contains x.1=false:=by
    intro x hx
    have hx1:=(h2 x (by simp[hx])).1
    have hxlt:x.1+off<ops.size:=by
     obtain⟨_,o',ho',_⟩:=h2 x (by simp[hx])
     rcases Nat.lt_or_ge (x.1+off) ops.size with h|h
     ·exact h
     ·rw[Array.getElem?_eq_none h]at ho';cases ho'
    have hnc:y.2.preds.contains x.1=false:=by
     cases hcn:y.2.preds.contains x.1
     ·rfl
     ·have:=hpred _ (hpr x.1 (List.contains_iff_mem.1 hcn))
      rw[<-gl _ hxlt,hx1]at this
      cases this
    refine⟨?_,hnc⟩
    have:=(List.pairwise_append.1 h6).2.2 x hx y (by simp)
    rcases this with h|h
    ·rw[h]at hnc;cases hnc
    ·exact h
   obtain⟨ly,S',L',t1,t2,t3,_,_⟩:=take_first hsc pre S L hex hlog hpre
   have hsub:(pre++post).Sublist (pre++y::post):=List.Sublist.append_left (List.sublist_cons_self y post) pre
   have hstep:=step_wp (ro:=ro) (ops:=ops) (sm:=sm) (Q:=Q) hsum hS t1 hrel (next:=wpAnyIn (FR ro) 0 P .any ops Q (n+n0) (listed.setIfInBounds (y.1+off) true)) (fun a' w' hS'=>by
    have hne:∀x∈pre++post,x.1≠y.1:=by
     intro x hx
     rcases List.mem_append.1 hx with hx|hx
     ·have:=(List.pairwise_append.1 h4).2.2 x hx y (by simp);omega
     ·have:=List.rel_of_pairwise_cons (List.pairwise_append.1 h4).2.1 hx;omega
    have gs:∀(j:Nat)(d:Bool),j≠y.1+off->(listed.setIfInBounds (y.1+off) true).getD j d=listed.getD j d:=by
     intro j d hj
     simp[Array.getD_eq_getD_getElem?,Array.getElem?_setIfInBounds_ne (Ne.symm hj)]
    have gy:(listed.setIfInBounds (y.1+off) true).getD (y.1+off) false=true:=by
     simp[Array.getD_eq_getD_getElem?,Array.getElem?_setIfInBounds,hsz,hilt]
    refine ih (pre++post) (listed.setIfInBounds (y.1+off) true) S' a' w' L' (by simp at hn⊢;omega) (by simpa using hsz) ?_ ?_ ?_ (h4.sublist hsub) ?_ (h6.sublist hsub) t2 t3 hS'
    ·intro x hx
     have:=h2 x (hsub.subset hx)
     have hn:=hne x hx
     exact⟨by rw[gs _ _ (by omega)];exact this.1,this.2⟩
    ·intro i hi hl
     have h:=hla i hi hl
     have hy':=(h.2 y (by simp)).1
     exact⟨by rw[gs _ _ (by omega)];exact h.1,fun x hx=>h.2 x (hsub.subset hx)⟩
    ·intro j hj hjl
     have hjy:j≠y.1+off:=by
      intro e;subst e
      have:(listed.setIfInBounds (y.1+off) true).getD (y.1+off) true=true:=by simp[Array.getD_eq_getD_getElem?,Array.getElem?_setIfInBounds,hsz,hilt]
      rw[this]at hjl;cases hjl
     rw[gs _ _ hjy]at hjl
     rcases h3 j hj hjl with hje|⟨x,hx,hxj⟩
     ·exact .inl hje
     refine .inr ⟨x,?_,hxj⟩
     rcases List.mem_append.1 hx with h|h
     ·exact List.mem_append_left _ h
     ·rcases List.mem_cons.1 h with rfl|h
      ·exact absurd hxj.symm hjy
      ·exact List.mem_append_right _ h
    ·intro j hj p hp
     have hlp:listed.getD p false=true:=by
      by_cases hjy:j=y.1+off
      ·subst hjy;exact hpred p hp
      ·rw[gs _ _ hjy]at hj
       exact h5 j hj p hp
     by_cases hpy:p=y.1+off
     ·rw[hpy];exact gy
     ·rw[gs _ _ hpy];exact hlp)
   unfold wpOpIn
   rw[ho]
   simp only
   split
   ·rename_i hw
    rw[if_pos hw]at hstep
    exact hstep
   ·rename_i hw
    rw[if_neg hw]at hstep
    exact⟨fun _ _=>trivial,hstep⟩
end
end Go.Ev
namespace Go.Ev
open Go Go.RowKit
section
variable{R:Type}{P:Program}{sm:Nat->Bool}{summ:Nat->Option Summ}
theorem compOne_ro{ops:List Oper}(o:Oper)(r:Nat)(p:List Nat):(compOne P sm ops o r p).rank=r/\(compOne P sm ops o r p).preds=p:=by
 unfold compOne
 split<;>exact⟨rfl,rfl⟩
theorem compOps_get{ops:List Oper}{j:Nat}{io:IOper}(h:(compOps P sm ops true)[j]? =some io) :
 ∃o,ops[j]? =some o/\io=compOne P sm ops o io.rank io.preds/\io.preds=(predsOf ops).getD j []:=by
 unfold compOps at h
 simp only[List.getElem?_map,List.getElem?_zipIdx]at h
 cases ho:ops[j]? with
 |none=>rw[ho]at h;simp at h
 |some o=>
  rw[ho]at h
  simp at h
  subst h
  refine⟨o,rfl,?_,?_⟩
  ·rw[(compOne_ro _ _ _).1,(compOne_ro _ _ _).2]
  ·rw[(compOne_ro _ _ _).2,List.getD_eq_getElem?_getD]
theorem enum_len:∀(l:List IOper)(i:Nat),(enum i l).length=l.length
 |[],_=>rfl
 |_::l,i=>by simp[enum,enum_len l]
theorem lookH_fresh(hp:List Blk)(n b:Nat):lookH (hp++List.replicate n .fresh) b=lookH hp b:=by
 unfold lookH
 rw[List.getD_eq_getElem?_getD,List.getD_eq_getElem?_getD]
 by_cases h:b<hp.length
 ·rw[List.getElem?_append_left h]
 ·rw[List.getElem?_append_right (by omega),List.getElem?_eq_none (show hp.length<=b by omega),List.getElem?_replicate]
  split<;>rfl
theorem HS.lookEq{base:Nat}{E:Env}{hp hp':List Blk}(H:HS base E hp)(h:∀b,lookH hp' b=lookH hp b):HS base E hp':=
 ⟨fun b=>by rw[h b];exact H.blk b,fun b b' g=>by rw[h b,h b'];exact H.inj b b' g,fun b g=>by rw[h b];exact H.sep b g,H.imm,fun b=>by rw[h b];exact H.live b,H.base,H.eok,H.jI,H.thw⟩
theorem ready_nil{ops:Array Oper}{listed:Array Bool}(h:∀i,i<ops.size->listed.getD i true=true):Region.ready .any ops listed=[]:=by
 unfold Region.ready
 rw[List.filter_eq_nil_iff]
 intro i hi
 have hlt:i<ops.size:=by simpa using hi
 rw[h i hlt];simp
theorem draw_ok(hm:P.follows .mixedOrders=true)(hsum:∀f s,summ f=some s->SummOK P f s)(hsc:∀f s,summ f=some s->SummC s):DrawOK P sm R summ:=by
 intro ro base E0 call Q id nnew ops k r S a w hed hsl hev hS hk
 refine wpIn_region_any hm ?_
 obtain⟨E,h0,hw,H,hs,hd,hl,hfb⟩:=hS
 subst hw
 obtain⟨hle,H1⟩:=HS.world (w':= {E.w with drawn:=E.w.drawn+1}) H ⟨rfl,rfl,rfl,Nat.le_refl _,fun _ _=>rfl⟩ (fun _ _=>rfl)
 have hS1:Sim base E0 {S with hp:=S.hp++List.replicate nnew .fresh} a {E.w with drawn:=E.w.drawn+1} :=
  ⟨_,h0.trans hle,rfl,H1.lookEq (lookH_fresh _ _),hs.mono hle,hd,hl,⟨hfb.1,by simp;omega,hfb.2.2⟩⟩
 obtain⟨L,Sf,h1,h2,h3⟩:=evOps_execD _ _ _ _ hev
 refine anyW (ro:=ro) (sm:=sm) (off:=0) (later:=fun _=>False) (n0:=0) hsum hsc hed (fun listed a' w' hsz hl _ _ h=>⟨ready_nil (fun i hi=>by
  cases hb:listed.getD i true
  ·exact(hl i hi hb).elim
  ·rfl),hk Sf a' w' h3 h⟩) ops.size (enum 0 (compOps P sm ops.toList true)) _ _ _ _ L ?_ ?_ ?_ (fun _ _ h=>h.elim) ?_ ?_ ?_ ?_ h1 ?_ hS1
 ·rw[enum_len,compOps_len]
 ·simp
 ·intro x hx
  obtain⟨j,hj,hxj⟩:=(enum_mem _ _ _).1 hx
  obtain⟨o,ho,hrel,hpr⟩:=compOps_get hj
  have:x.1=j:=by omega
  have hlt:j<ops.size:=by
   rcases Nat.lt_or_ge j ops.size with h|h
   ·exact h
   ·rw[List.getElem?_eq_none (by simpa using h)]at ho;cases ho
  simp only[Nat.add_zero]
  refine⟨by rw[this];simp[Array.getD,hlt],o,by rw[this];simpa using ho,hrel,by rw[this,hpr];exact fun p hp=>hp⟩
 ·intro i hi _
  right
  have hlt:i<(compOps P sm ops.toList true).length:=by rw[compOps_len];simpa using hi
  exact⟨(i,(compOps P sm ops.toList true)[i]),(enum_mem _ _ _).2 ⟨i,by simp,by simp⟩,rfl⟩
 ·exact(enum_asc _ _).1
 ·intro i hi
  exfalso
  by_cases hlt:i<ops.size
  ·simp[Array.getD,hlt]at hi
  ·simp[Array.getD,hlt]at hi
 ·exact slots_pair _ _ hsl
 ·simpa using h2
theorem shiftPost_rel{ops:List Oper}(o:Oper)(e:Nat){io:IOper}(h:io=compOne P sm ops o io.rank io.preds):shiftPost e io=compOne P sm ops o (shiftPost e io).rank (shiftPost e io).preds:=by
 have:∀(r:Nat)(p q:List Nat),{compOne P sm ops o r p with preds:=q}=compOne P sm ops o r q:=by
  intro r p q
  unfold compOne
  split<;>rfl
 show({io with preds:=_}:IOper)=compOne P sm ops o io.rank _
 rw[<-this io.rank io.preds,<-h]
 rfl
theorem drawC_ok(hm:P.follows .mixedOrders=true)(hsum:∀f s,summ f=some s->SummOK P f s)(hsc:∀f s,summ f=some s->SummC s):DrawOKC P sm R summ:=by
 intro ro base E0 call Q id nnew ops e k r S a w hed hlc hsl hev hS hk
 refine wpIn_region_any hm ?_
 obtain⟨E,h0,hw,H,hs,hd,hl,hfb⟩:=hS
 subst hw
 obtain⟨hle,H1⟩:=HS.world (w':= {E.w with drawn:=E.w.drawn+1}) H ⟨rfl,rfl,rfl,Nat.le_refl _,fun _ _=>rfl⟩ (fun _ _=>rfl)
 have hS1:Sim base E0 {S with hp:=S.hp++List.replicate nnew .fresh} a {E.w with drawn:=E.w.drawn+1} :=
  ⟨_,h0.trans hle,rfl,H1.lookEq (lookH_fresh _ _),hs.mono hle,hd,hl,⟨hfb.1,by simp;omega,hfb.2.2⟩⟩
 obtain⟨L,Sf,h1,h2,h3⟩:=evOps_execD _ _ _ _ hev
 have hlen:(compOps P sm ops.toList true).length=ops.size:=compOps_len
 have hmid:midOK P sm ops.toList e=true/\e<ops.size:=by
  unfold midCall at hlc
  split at hlc
  ·rename_i e' he'
   split at hlc
   ·rename_i hok
    cases hlc
    refine⟨hok,?_⟩
    rw[List.findIdx?_eq_some_iff_getElem]at he'
    obtain⟨hlt,_⟩:=he'
    rw[hlen]at hlt
    exact hlt
   ·cases hlc
  ·cases hlc
 obtain⟨hmid,helt⟩:=hmid
 unfold midOK at hmid
 rw[List.all_eq_true]at hmid
 have hmid':∀i,i<ops.size->(e<=i->∀j,j<e->j∈(predsOf ops.toList).getD i [])/\(e<i->e∈(predsOf ops.toList).getD i []):=by
  intro i hi
  have hg:(compOps P sm ops.toList true)[i]? =some (compOps P sm ops.toList true)[i]:=List.getElem?_eq_getElem (by omega)
  obtain⟨o,ho,_,hpr⟩:=compOps_get hg
  have:=hmid ((compOps P sm ops.toList true)[i],i) (by rw[List.mem_zipIdx_iff_getElem?];simp)
  simp only[Bool.and_eq_true,Bool.or_eq_true,decide_eq_true_eq,List.all_eq_true,List.mem_range]at this
  rw[<-hpr]
  refine⟨fun hei j hj=> ?_,fun hei=> ?_⟩
  ·rcases this.1 with h|h
   ·omega
   ·exact List.contains_iff_mem.1 (h j hj)
  ·rcases this.2 with h|h
   ·omega
   ·exact List.contains_iff_mem.1 h.1
 have hdl:∀j x,((compOps P sm ops.toList true).take e)[j]? =some x->j<e/\(compOps P sm ops.toList true)[j]? =some x:=by
  intro j x hx
  have hlt:j<((compOps P sm ops.toList true).take e).length:=(List.getElem?_eq_some_iff.1 hx).1
  rw[List.length_take,hlen]at hlt
  refine⟨by omega,?_⟩
  rw[List.getElem?_take,if_pos (by omega)]at hx
  exact hx
 have hdll:((compOps P sm ops.toList true).take e).length=e:=by rw[List.length_take,hlen];omega
 have hoe:∃oe,ops[e]? =some oe:=⟨ops[e],by simp[helt]⟩
 obtain⟨oe,hoe⟩:=hoe
 have key:=anyW (ro:=ro) (P:=P) (base:=base) (E0:=E0) (ops:=ops) (Q:=Q) (Sf:=Sf) (sm:=sm) (off:=0) (later:=fun i=>e<=i) (n0:=(ops.size-(e+1))+1) hsum hsc hed (fun listed a' w' hsz hl hla h5 h=>by
  have gl:∀i,i<ops.size->listed.getD i true=listed.getD i false:=by
   intro i hi
   simp[Array.getD,hsz,hi]
  have hbe:∀i,i<e->listed.getD i true=true:=fun i hi=>by
   cases hb:listed.getD i true
   ·exact absurd (hl i (by omega) hb) (by omega)
   ·rfl
  refine⟨fun hnil=> ?_,fun i hi=> ?_⟩
  ·exfalso
   have:=ready_mem hed hsz helt (hla e helt (Nat.le_refl _)) hbe
   rw[hnil]at this
   cases this
  ·have hpred:=ready_preds h5 hi
   unfold Region.ready at hi
   rw[List.mem_filter]at hi
   obtain⟨hir,hic⟩:=hi
   have hilt:i<ops.size:=by simpa using hir
   simp only[Bool.and_eq_true,Bool.not_eq_true']at hic
   have hie:i=e:=by
    have h1:=hl i hilt hic.1
    rcases Nat.lt_or_ge e i with h2|h2
    ·exfalso
     have:=hpred e ((hmid' i hilt).2 h2)
     rw[<-gl e helt,hla e helt (Nat.le_refl _)]at this
     cases this
    ·omega
   subst hie
   unfold wpOpIn
   rw[hoe]
   simp only
   have hnext:∀S2 a2 w2(k2:St->Option R),slotsOK 0 (postOps P sm ops.toList i)=true->evOps summ call true S2.hp.length 0 (postOps P sm ops.toList i) [] S2 k2=some r->Sim base E0 S2 a2 w2->(∀S3 a3 w3,k2 S3=some r->Sim base E0 S3 a3 w3->Q .normal a3 w3)->wpAnyIn (FR ro) 0 P .any ops Q (ops.size-(i+1)) (listed.setIfInBounds i true) a2 w2:=by
    intro S2 a2 w2 k2 hsl2 hev2 hS2 hk2
    obtain⟨L2,Sf2,g1,g2,g3⟩:=evOps_execD _ _ _ _ hev2
    have gs:∀(j:Nat)(d:Bool),j≠i->(listed.setIfInBounds i true).getD j d=listed.getD j d:=by
     intro j d hj
     simp[Array.getD_eq_getD_getElem?,Array.getElem?_setIfInBounds_ne (Ne.symm hj)]
    have gy:∀d,(listed.setIfInBounds i true).getD i d=true:=by
     intro d
     simp[Array.getD_eq_getD_getElem?,Array.getElem?_setIfInBounds,hsz,hilt]
    have hpl:(postOps P sm ops.toList i).length=ops.size-(i+1):=by
     unfold postOps
     rw[List.length_map,List.length_drop,hlen]
    have hpo:∀j x,(postOps P sm ops.toList i)[j]? =some x->j+(i+1)<ops.size/\∃io,(compOps P sm ops.toList true)[j+(i+1)]? =some io/\x=shiftPost i io:=by
     intro j x hx
     have hlt:j<(postOps P sm ops.toList i).length:=(List.getElem?_eq_some_iff.1 hx).1
     rw[hpl]at hlt
     unfold postOps at hx
     rw[List.getElem?_map,List.getElem?_drop,Option.map_eq_some_iff]at hx
     obtain⟨io,hio,rfl⟩:=hx
     exact⟨by omega,io,by rw[<-hio];congr 1;omega,rfl⟩
    have:=anyW (ro:=ro) (P:=P) (base:=base) (E0:=E0) (ops:=ops) (Q:=Q) (Sf:=Sf2) (sm:=sm) (off:=i+1) (later:=fun _=>False) (n0:=0) hsum hsc hed (fun listed a' w' hsz hl _ _ h=>⟨ready_nil (fun i hi=>by
     cases hb:listed.getD i true
     ·exact(hl i hi hb).elim
     ·rfl),hk2 Sf2 a' w' g3 h⟩) (ops.size-(i+1)) (enum 0 (postOps P sm ops.toList i)) (listed.setIfInBounds i true) S2 a2 w2 L2 (by rw[enum_len,hpl]) (by simpa using hsz) ?_ (fun _ _ h=>h.elim) ?_ (enum_asc _ _).1 ?_ (slots_pair _ _ hsl2) g1 (by simpa using g2) hS2
    ·exact this
    ·intro x hx
     obtain⟨j,hj,hxj⟩:=(enum_mem _ _ _).1 hx
     obtain⟨hlt,io,hio,hxe⟩:=hpo j _ hj
     obtain⟨o,ho,hrel,hpr⟩:=compOps_get hio
     have hxj':x.1=j:=by omega
     rw[hxj']
     refine⟨?_,o,by simpa using ho,by rw[hxe];exact shiftPost_rel o i hrel,fun p hp=> ?_⟩
     ·rw[gs _ _ (by omega)]
      exact hla _ hlt (by omega)
     ·rw[hxe]at hp
      unfold shiftPost at hp
      simp only[List.mem_map,List.mem_filter,decide_eq_true_eq]at hp
      obtain⟨q,⟨hq,hqi⟩,rfl⟩:=hp
      rw[hpr]at hq
      rw[show q-(i+1)+(i+1)=q by omega]
      exact hq
    ·intro j hj hjl
     right
     have hji:i<j:=by
      rcases Nat.lt_trichotomy j i with h|h|h
      ·rw[gs _ _ (by omega),hbe j h]at hjl;cases hjl
      ·rw[h,gy]at hjl;cases hjl
      ·exact h
     have hlt:j-(i+1)<(postOps P sm ops.toList i).length:=by rw[hpl];omega
     exact⟨(j-(i+1),(postOps P sm ops.toList i)[j-(i+1)]),(enum_mem _ _ _).2 ⟨j-(i+1),List.getElem?_eq_getElem hlt,by simp⟩,by simp;omega⟩
    ·intro j hj p hp
     by_cases hji:j=i
     ·subst hji
      have:=hpred p hp
      by_cases hpj:p=j
      ·rw[hpj];exact gy _
      ·rw[gs _ _ hpj];exact this
     ·rw[gs _ _ hji]at hj
      have:=h5 j hj p hp
      by_cases hpj:p=i
      ·rw[hpj];exact gy _
      ·rw[gs _ _ hpj];exact this
   have:=hk _ oe Sf a' w' h3 h (by simpa using hoe) hnext
   split
   ·rename_i hw
    rw[if_pos hw]at this
    exact this
   ·rename_i hw
    rw[if_neg hw]at this
    exact⟨fun _ _=>trivial,this⟩) e (enum 0 ((compOps P sm ops.toList true).take e)) (Array.replicate ops.size false) _ a _ L ?_ ?_ ?_ ?_ ?_ ?_ ?_ ?_ h1 ?_ hS1
 ·rw[show e+(ops.size-(e+1)+1)=ops.size by omega]at key
  exact key
 ·rw[enum_len,hdll]
 ·simp
 ·intro x hx
  obtain⟨j,hj,hxj⟩:=(enum_mem _ _ _).1 hx
  obtain⟨hjl,hj'⟩:=hdl j _ hj
  obtain⟨o,ho,hrel,hpr⟩:=compOps_get hj'
  have:x.1=j:=by omega
  simp only[Nat.add_zero]
  refine⟨by rw[this];simp[Array.getD];omega,o,by rw[this];simpa using ho,hrel,by rw[this,hpr];exact fun p hp=>hp⟩
 ·intro i hi hei
  refine⟨by simp[Array.getD,hi],fun x hx=> ?_⟩
  obtain⟨j,hj,hxj⟩:=(enum_mem _ _ _).1 hx
  have:=(hdl j _ hj).1
  have hxj':x.1=j:=by omega
  rw[hxj']
  exact⟨by omega,(hmid' i hi).1 hei j this⟩
 ·intro i hi _
  rcases Nat.lt_or_ge i e with hie|hie
  ·right
   have hlt:i<((compOps P sm ops.toList true).take e).length:=by rw[hdll];omega
   exact⟨(i,((compOps P sm ops.toList true).take e)[i]),(enum_mem _ _ _).2 ⟨i,List.getElem?_eq_getElem hlt,by simp⟩,rfl⟩
  ·exact .inl hie
 ·exact(enum_asc _ _).1
 ·intro i hi
  exfalso
  by_cases hlt:i<ops.size
  ·simp[Array.getD,hlt]at hi
  ·simp[Array.getD,hlt]at hi
 ·exact slots_pair _ _ hsl
 ·simpa using h2
end
end Go.Ev
namespace Go.Ev
open Go Go.RowKit
theorem ev_sound{P:Program}{base:Nat}{R:Type}{sm:Nat->Bool}{summ:Nat->Option Summ}{fns:Nat->Option IFn}{fu:Nat}(hm:P.follows .mixedOrders=true)(hsum:∀f s,summ f=some s->SummOK P f s)(hsc:∀f s,summ f=some s->SummC s)(hfns:FnsOK P sm fns)(n:Nat):CallOK P base (rokOf P sm fns) (evFn (R:=R) summ fns fu n) :=
 evFn_sound hsum hfns (draw_ok hm hsum hsc) (drawC_ok hm hsum hsc) n
end Go.Ev
namespace Go.Ev
open Go Go.RowKit
def purify(look:Look):List Ty->List CV->Option (List CV)
 |[],[]=>some []
 |t::ts,c::cs=>match toPH look t c,purify look ts cs with|some x,some l=>some (ofP t x::l)|_,_=>none
 |_,_=>none
theorem toPH_agg{look:Look}:∀ {t:Ty}{c:CV}{x:t.den},toPH look t c=some x->c.isAgg=t.agg/\∀d,c≠ .tup d:=by
 intro t c x h
 cases t<;>cases c<;>simp only[toPH]at h<;>first
  |(cases h;done)
  |exact⟨rfl,fun d=>by simp⟩
  |(split at h
    ·rename_i ht;subst ht;exact⟨rfl,fun d=>by simp⟩
    ·cases h)
theorem VRep.one1{E:Env}{c:CV}{v:Value}(h:VRep E c v)(ht:∀d,c≠ .tup d):VRep1 E c v:=by
 cases c with
 |tup d=>exact absurd rfl (ht d)
 |_=>exact h
theorem VRep1.up{E:Env}{c:CV}{v:Value}(h:VRep1 E c v)(ht:∀d,c≠ .tup d):VRep E c v:=by
 cases c with
 |tup d=>exact absurd rfl (ht d)
 |_=>exact h
theorem purify_rep{E E':Env}{base:Nat}{look:Look}(L:LRep E base look)(hw:E'.w=E.w)(hI:∀g,E.R g->E'.R g):∀ {ts:List Ty}{cs cs':List CV}{vs:List Value},purify look ts cs=some cs'->subsOK look cs=true->Vs E cs vs->(∀c∈cs,∀g,refH E look c g->E'.R g)->Vs E' cs' vs
 |[],[],_,vs,h,_,hv,_=>by
  simp[purify]at h;subst h
  cases vs<;>exact hv
 |[],_::_,_,_,h,_,_,_=>by simp[purify]at h
 |_::_,[],_,_,h,_,_,_=>by simp[purify]at h
 |t::ts,c::cs,cs',[],_,_,hv,_=>hv.elim
 |t::ts,c::cs,cs',v::vs,h,hs,hv,hr=>by
  simp only[purify]at h
  split at h
  ·rename_i x l hx hl
   simp at h;subst h
   simp only[subsOK,List.all_cons,Bool.and_eq_true]at hs
   refine⟨?_,purify_rep L hw hI hl hs.2 hv.2 (fun c' hc'=>hr c' (by simp[hc']))⟩
   obtain⟨ha,ht⟩:=toPH_agg hx
   obtain⟨cells,h1,h2⟩:=hv.1.one1 ht
   have hd:=toPH_rep L (I':=E'.R) hI hx hs.1 h1 (hr c (by simp))
   rw[<-hw]at hd
   refine VRep1.up ⟨cells,CRep_ofP hd,?_⟩ (isVal_tup (isVal_ofP t x))
   rw[isAgg_ofP,<-ha]
   exact h2
  ·cases h
section
variable{P:Program}{base:Nat}{E:Env}{hp:List Blk}
def Env.clean(E:Env)(rk:Nat->Loop->Prop):Env:= {E with live:=fun _=>False,lr:=fun _=>none,rok:=rk}
theorem HS.empty{rk:Nat->Loop->Prop}(H:HS base E hp):HS E.w.heap.size (E.clean rk) []:=by
 have hf:∀b,lookH [] b= .fresh:=fun b=>by simp[lookH]
 refine⟨fun b=>by rw[hf];trivial,fun b b' g h=>by rw[hf]at h;exact h.elim,fun b g h=>by rw[hf]at h;exact h.elim,H.imm,fun b=> ?_,Nat.le_refl _,(fun b rec i h=>by cases h),H.jI,fun g hg hb=>absurd (H.imm g hg) (by have hb:E.w.heap.size<=g:=hb;omega)⟩
 show False↔_
 simp[hf]
theorem HS.back{rk:Nat->Loop->Prop}(H:HS base E hp){E1:Env}{hp1:List Blk}(H1:HS E.w.heap.size E1 hp1)(hle:Env.le E.w.heap.size (E.clean rk) E1)(I2:Nat->Prop)
 (hI1:∀g,E1.I g->I2 g) (hI2:∀g,I2 g->E1.I g\/(E.w.heap.size<=g/\g<E1.w.heap.size/\thaw E1.w g)):E.le base {E with w:=E1.w,I:=I2}/\HS base {E with w:=E1.w,I:=I2} hp:=by
 have hheap:∀g,g<E.w.heap.size->E1.w.heap[g]? =E.w.heap[g]? :=fun g hg=>hle.bel.block g hg
 have hnew:∀g,I2 g->E.I g\/E.w.heap.size<=g:=fun g hg=>by
  rcases hI2 g hg with h|h
  ·exact hle.new g h
  ·exact .inr h.1
 have hle':E.le base {E with w:=E1.w,I:=I2} :=
  ⟨fun g hg=>hI1 g (hle.I g hg),fun g hg=>hheap g (H.imm g hg),fun _ h=>h,fun _ _=>rfl,fun _ _=>rfl,
   ⟨hle.bel.os,hle.bel.tape,hle.bel.output,hle.bel.size,fun k hk=>hheap k (Nat.lt_of_lt_of_le hk H.base)⟩,fun g hg=>(hnew g hg).elim .inl fun h=> .inr (Nat.le_trans H.base h),fun _ _=>rfl,rfl,rfl⟩
 refine⟨hle',⟨fun b=> ?_,H.inj,fun b g hg=>⟨fun hI=> ?_,(H.sep b g hg).2⟩,fun g hg=> ?_,H.live,Nat.le_trans H.base hle.bel.size,H.eok,hle'.jI H.jI,fun g hg hb=> ?_⟩⟩
 ·by_cases hl:E.live b
  ·exact(H.blk b).mono hle' hl _ (fun g hg=>hheap g (H.held_lt hg))
  ·have:lookH hp b= .fresh:=by
    rcases Classical.em (lookH hp b= .fresh)with h1|h1
    ·exact h1
    ·exact absurd ((H.live b).2 h1) hl
   rw[this];trivial
 ·rcases hnew g hI with h|h
  ·exact(H.sep b g hg).1 h
  ·exact absurd (H.held_lt hg) (by omega)
 ·rcases hI2 g hg with h|h
  ·exact H1.imm g h
  ·exact h.2.1
 ·rcases hI2 g hg with h|h
  ·rcases Nat.lt_or_ge g E.w.heap.size with hlt|hge
   ·refine thaw.congr (hheap g hlt) (H.thw g ?_ hb)
    rcases hle.new g h with h1|h1
    ·exact h1
    ·exact absurd hlt (by omega)
   ·exact H1.thw g h hge
  ·exact h.2.2
end
end Go.Ev
namespace Go.Ev
open Go Go.RowKit
def pureS(ts:List Ty)(F:List CV->Option (Bool×List CV)):Summ:=fun cs look _=>match purify look ts cs with
 |none=>none
 |some cs'=>match F cs' with
  |none=>none
  |some r=>some ⟨subsOK look cs&&r.1,tupOf r.2,frzs look cs⟩
theorem purify_congr{look look':Look}:∀ {ts:List Ty}{cs:List CV},(∀b∈cs.flatMap CV.refs,look b=look' b)->purify look ts cs=purify look' ts cs
 |[],[],_=>rfl
 |[],_::_,_=>rfl
 |_::_,[],_=>rfl
 |t::ts,c::cs,h=>by
  simp only[purify]
  rw[toPH_congr (fun b hb=>h b (by simp[hb])),purify_congr (fun b hb=>h b (by rw[List.flatMap_cons];exact List.mem_append_right _ hb))]
theorem pureS_congr(ts:List Ty)(F:List CV->Option (Bool×List CV)):SummC (pureS ts F):=by
 intro cs look look' nid h
 unfold pureS
 rw[purify_congr h,subsOK_congr h,frzs_congr h]
theorem purify_tup{look:Look}:∀ {ts:List Ty}{cs cs':List CV},purify look ts cs=some cs'->cs'.length=cs.length/\(∀c∈cs,∀d,c≠ .tup d)/\∀c∈cs',∀d,c≠ .tup d
 |[],[],_,h=>by simp[purify]at h;subst h;simp
 |[],_::_,_,h=>by simp[purify]at h
 |_::_,[],_,h=>by simp[purify]at h
 |t::ts,c::cs,cs',h=>by
  simp only[purify]at h
  split at h
  ·rename_i x l hx hl
   simp at h;subst h
   obtain⟨h1,h2,h3⟩:=purify_tup hl
   exact⟨by simp[h1],by intro c' hc';rcases List.mem_cons.1 hc' with rfl|hc';exact(toPH_agg hx).2;exact h2 c' hc',by intro c' hc';rcases List.mem_cons.1 hc' with rfl|hc';exact isVal_tup (isVal_ofP _ _);exact h3 c' hc'⟩
  ·cases h
theorem TRep_vs{E:Env}:∀ {l:List CV}{vs:List Value},TRep E (chain l) vs->(∀c∈l,∀d,c≠ .tup d)->Vs E l vs
 |[],vs,h,_=>by
  have:vs=[]:=h
  subst this;trivial
 |c::l,vs,⟨v,r,e,h1,h2⟩,ht=>by
  subst e
  exact⟨h1.up (ht c (by simp)),TRep_vs h2 (fun c' hc'=>ht c' (by simp[hc']))⟩
theorem Vs_TRep{E:Env}:∀ {l:List CV}{vs:List Value},Vs E l vs->(∀c∈l,∀d,c≠ .tup d)->TRep E (chain l) vs
 |[],[],_,_=>rfl
 |[],_::_,h,_=>h.elim
 |_::_,[],h,_=>h.elim
 |c::l,v::vs,⟨h1,h2⟩,ht=>⟨v,vs,rfl,h1.one1 (ht c (by simp)),Vs_TRep h2 (fun c' hc'=>ht c' (by simp[hc']))⟩
theorem tup_split{E:Env}{l:List CV}{v:Value}(h:VRep E (tupOf l) v)(ht:∀c∈l,∀d,c≠ .tup d) :
 ∃vs,Vs E l vs/\∀(E':Env)(l':List CV),Vs E' l' vs->l'.length=l.length->(∀c∈l',∀d,c≠ .tup d)->VRep E' (tupOf l') v:=by
 match l with
 |[c] =>
  refine⟨[v],⟨h,trivial⟩,fun E' l' h' hl _=> ?_⟩
  match l',hl with
  |[c'],_=>exact h'.1
 |[] =>
  obtain⟨vs,rfl,h2⟩:=h
  refine⟨vs,TRep_vs h2 ht,fun E' l' h' hl ht'=> ?_⟩
  match l',hl with
  |[],_=>exact⟨vs,rfl,Vs_TRep h' ht'⟩
 |c::d::r=>
  obtain⟨vs,rfl,h2⟩:=h
  refine⟨vs,TRep_vs (l:=c::d::r) h2 ht,fun E' l' h' hl ht'=> ?_⟩
  match l',hl with
  |_::_::_,_=>exact⟨vs,rfl,Vs_TRep h' ht'⟩
theorem Vs_refs{E:Env}:∀ {cs:List CV}{vs:List Value},Vs E cs vs->(∀c∈cs,∀d,c≠ .tup d)->∀b∈cs.flatMap CV.refs,E.live b
 |[],_,_,_,b,hb=>by simp at hb
 |c::cs,[],h,_,_,_=>h.elim
 |c::cs,v::vs,⟨h1,h2⟩,ht,b,hb=>by
  rw[List.flatMap_cons,List.mem_append]at hb
  rcases hb with hb|hb
  ·obtain⟨cells,h3,_⟩:=h1.one1 (ht c (by simp))
   exact CRep.refs c cells h3 b hb
  ·exact Vs_refs h2 (fun c' hc'=>ht c' (by simp[hc'])) b hb
end Go.Ev
namespace Go.Ev
open Go Go.RowKit
variable{P:Program}
theorem summ_of_ev{rk:Nat->Loop->Prop}{f:Nat}{ts rs:List Ty}{F:List CV->Option (Bool×List CV)}{call:Nat->List CV->List Blk->(CV->List Blk->Option (CV×List Blk))->Option (CV×List Blk)}(hcall:∀base,CallOK P base rk call)(hrz:Nat.ble RZ f=false)(hcb:callable P f=true)
 (hF:∀look cs cs' l,purify look ts cs=some cs'->F cs'=some (true,l)->∃l0 hp2,call f cs' [] (fun v h=>some (v,h))=some (tupOf l0,hp2)/\purify (lookH hp2) rs l0=some l/\subsOK (lookH hp2) l0=true):SummOK P f (pureS ts F):=by
 refine⟨hcb,pureS_congr ts F,?_⟩
 intro base E hp cs vs nid out H hvs hs hok _ _
 unfold pureS at hs
 split at hs
 ·cases hs
 ·rename_i cs' hcs'
  split at hs
  ·cases hs
  ·rename_i r hr
   simp at hs;subst hs
   obtain⟨ok,l⟩:=r
   simp only[Bool.and_eq_true]at hok
   obtain⟨hsub,rfl⟩:=hok
   obtain⟨_,ht,_⟩:=purify_tup hcs'
   obtain⟨E',hle,H',hw,_,_,_,hI⟩:=HS.frzs (lookH hp) (cs.flatMap CV.refs) H (fun _=> .inl rfl) (Vs_refs hvs ht)
   obtain⟨l0,hp2,hev,hpl,hsl⟩:=hF _ _ _ _ hcs' hr
   have hvs0:Vs (E'.clean rk) cs' vs:=purify_rep (base:=base) (E':=(E'.clean rk)) H.blk hw hle.R hcs' hsub hvs (fun c hc g⟨b,hb,hg⟩=>hI g (.inr ⟨b,List.mem_flatMap.2 ⟨c,hc,hb⟩,hg⟩))
   have hc:=((hcall _).1 f cs' [] _ _ hrz hev (E'.clean rk) vs rfl H'.empty hvs0).2
   rw[<-hw]
   refine Calls.mono hc ?_
   rintro e w' ⟨v,c,hp1,E1,rfl,hk,rfl,hle1,H1,hv,_⟩
   simp only[Option.some.injEq,Prod.mk.injEq]at hk
   obtain⟨rfl,rfl⟩:=hk
   obtain⟨hll,ht0,htl⟩:=purify_tup hpl
   obtain⟨us,hus,hback⟩:=tup_split hv ht0
   obtain⟨hle3,H3⟩:=H'.back H1 hle1 (fun g=>E1.I g\/∃c∈l0,refH E1 (lookH hp1) c g) (fun _ h=> .inl h) (fun g hg=>by
    rcases hg with h|⟨c,_,b,_,h⟩
    ·exact .inl h
    ·exact .inr ⟨(H1.sep b g h).2,H1.held_lt h,H1.heldThaw h⟩)
   refine⟨v,{E' with w:=E1.w,I:=fun g=>E1.I g\/∃c∈l0,refH E1 (lookH hp1) c g},rfl,rfl,hle.trans hle3,H3,hback _ _ ?_ hll htl⟩
   exact purify_rep (base:=E'.w.heap.size) (E:=E1) (E':= {E' with w:=E1.w,I:=fun g=>E1.I g\/∃c∈l0,refH E1 (lookH hp1) c g}) H1.blk rfl (fun g(h:E1.R g)=>⟨Or.inl h.1,fun hj=>h.2 (by rw[hle1.J];exact hj)⟩) hpl hsl hus (fun c hc g hg=>⟨Or.inr ⟨c,hc,hg⟩,fun hj=>by
    obtain⟨b,_,hb⟩:=hg
    exact H1.heldJ hb (by rw[hle1.J];exact hj)⟩)
section
variable{R:Type}
def evLoopN(body:St->(Ex->St->Option R)->Option R)(nrm:St->St):Nat->St->(Ex->St->Option R)->Option R
 |0,_,_=>none
 |m+1,T,k=>body T fun ex S'=>match ex with
  | .normal=>evLoopN body nrm m (nrm S') k
  |e=>k e S'
theorem evLoop_eq(body:St->(Ex->St->Option R)->Option R)(nrm:St->St):∀m S k,evLoop body nrm m S k=evLoopN body nrm m (nrm S) k
 |0,_,_=>rfl
 |m+1,S,k=>by
  simp only[evLoop,evLoopN]
  congr 1
  funext ex S'
  cases ex with
  |normal=>exact evLoop_eq body nrm m S' k
  |_=>rfl
inductive LT(R:Type)where
 |nil
 |node (a b:LT R)
 |orc (o:St->(Ex->St->Option R)->Option R)
variable(summ:Nat->Option Summ)(fu:Nat)(call:Nat->List CV->List Blk->(CV->List Blk->Option R)->Option R)
def evCodeL:LT R->IC->St->(Ex->St->Option R)->Option R
 | .nil,c,S,k=>evCode summ fu call c S k
 | .node x y,.seq a b,S,k=>evCodeL x a S fun ex S'=>match ex with| .normal=>evCodeL y b S' k|e=>k e S'
 | .node x y,.cond c a b,S,k=>match c with
   | .tmp t=>match S.sl.getD t .junk with
     | .bool v=>bif v then evCodeL x a (S.put (some t) (.bool true)) k else evCodeL y b (S.put (some t) (.bool false)) k
     |_=>none
   | .cst (.bool v)=>bif v then evCodeL x a S k else evCodeL y b S k
   |_=>none
 | .node x _,.block id b,S,k=>evCodeL x b S fun ex S'=>match ex with
   | .exit j=>if j=id then k .normal S' else k (.exit j) S'
   |e=>k e S'
 | .orc o,.loop live _,S,k=>o (St.norm live S) k
 | .orc o,.cut live _,S,k=>o (St.norm live S) k
 | .node x _,.cut live b,S,k=>evCodeL x b (St.norm live S) k
 |_,_,_,_=>none
def LTok:LT R->IC->Prop
 | .nil,_=>True
 | .node x y,.seq a b=>LTok x a/\LTok y b
 | .node x y,.cond _ a b=>LTok x a/\LTok y b
 | .node x _,.block _ b=>LTok x b
 | .orc o,.loop live b=>∀T k r,o T k=some r->evLoopN (evCode summ fu call b) (St.norm live) fu T k=some r
 | .orc o,.cut _ b=>∀T k r,o T k=some r->evCode summ fu call b T k=some r
 | .node x _,.cut _ b=>LTok x b
 |_,_=>True
def Kle(k k':Ex->St->Option R):Prop:=∀e S r,k e S=some r->k' e S=some r
def CallLe(call call2:Nat->List CV->List Blk->(CV->List Blk->Option R)->Option R):Prop:=∀f cs hp(k k':CV->List Blk->Option R)r,(∀v h r,k v h=some r->k' v h=some r)->call f cs hp k=some r->call2 f cs hp k'=some r
theorem gd_mono{c:Bool}{x y:Option R}{r:R}(h:x=some r->y=some r)(hx:gd c x=some r):gd c y=some r:=by
 cases c
 ·cases hx
 ·exact h hx
variable{summ fu call}{call2:Nat->List CV->List Blk->(CV->List Blk->Option R)->Option R}
theorem evOps_monoF(hc:CallLe call call2)(base:Nat):∀(os:List IOper)(i:Nat)(log:List LogE)(S:St)(k k':St->Option R)(r:R),(∀S r,k S=some r->k' S=some r)->evOps summ call false base i os log S k=some r->evOps summ call2 false base i os log S k'=some r:=by
 intro os
 induction os with
 |nil=>
  intro i log S k k' r hk h
  unfold evOps at h⊢
  exact hk _ _ h
 |cons o os ih=>
  intro i log S k k' r hk h
  have hrun:∀S:St,(match o.op with
   | .call f=>call f (o.args.map S.eval) S.hp fun v hp=>evOps summ call false base (i+1) os log ({S with hp:=hp}.put o.dst v) k
   | .callv=>match o.args.map S.eval with
     | .clo f c::vs=>if capsF f c=true then call f (vs++unchain c) S.hp fun v hp=>evOps summ call false base (i+1) os log ({S with hp:=hp}.put o.dst v) k else none
     | .yld b i' c::vs=>call (RZ+i') (.yld b i' c::vs) S.hp fun v hp=>evOps summ call false base (i+1) os log ({S with hp:=hp}.put o.dst v) k
     |_=>none
   |op=>match o.args.map S.eval with
    |vals=>match S.hp.length with
     |nid=>match act summ op vals S.look nid with
      |none=>none
      |some out=>gd out.ok (evOps summ call false base (i+1) os log (S.apply o.dst out) k))=some r->
   (match o.op with
   | .call f=>call2 f (o.args.map S.eval) S.hp fun v hp=>evOps summ call2 false base (i+1) os log ({S with hp:=hp}.put o.dst v) k'
   | .callv=>match o.args.map S.eval with
     | .clo f c::vs=>if capsF f c=true then call2 f (vs++unchain c) S.hp fun v hp=>evOps summ call2 false base (i+1) os log ({S with hp:=hp}.put o.dst v) k' else none
     | .yld b i' c::vs=>call2 (RZ+i') (.yld b i' c::vs) S.hp fun v hp=>evOps summ call2 false base (i+1) os log ({S with hp:=hp}.put o.dst v) k'
     |_=>none
   |op=>match o.args.map S.eval with
    |vals=>match S.hp.length with
     |nid=>match act summ op vals S.look nid with
      |none=>none
      |some out=>gd out.ok (evOps summ call2 false base (i+1) os log (S.apply o.dst out) k'))=some r:=by
   intro S h
   split at h
   ·exact hc _ _ _ _ _ _ (fun v hp r=>ih _ _ _ _ _ _ hk) h
   ·split at h
    ·rename_i hv
     split at h
     ·rename_i hcap;simp only[hcap,if_true];exact hc _ _ _ _ _ _ (fun v hp r=>ih _ _ _ _ _ _ hk) h
     ·cases h
    ·exact hc _ _ _ _ _ _ (fun v hp r=>ih _ _ _ _ _ _ hk) h
    ·cases h
   ·dsimp only at h⊢
    split at h
    ·cases h
    ·rename_i out hout
     exact gd_mono (ih _ _ _ _ _ _ hk) h
  unfold evOps at h⊢
  cases hg:o.guard with
  |none=>rw[hg]at h;exact hrun _ h
  |some g=>
   obtain⟨d,want⟩:=g
   rw[hg]at h
   simp only[]at h⊢
   split at h
   ·rename_i b hb
    cases b<;>cases want
    ·exact hrun _ h
    ·exact ih _ _ _ _ _ _ hk h
    ·exact ih _ _ _ _ _ _ hk h
    ·exact hrun _ h
   ·exact ih _ _ _ _ _ _ hk h
   ·cases h
theorem evOps_monoT(hc:CallLe call call2)(base:Nat):∀(os:List IOper)(i:Nat)(log:List LogE)(S:St)(k k':St->Option R)(r:R),(∀S r,k S=some r->k' S=some r)->evOps summ call true base i os log S k=some r->evOps summ call2 true base i os log S k'=some r:=by
 intro os
 induction os with
 |nil=>
  intro i log S k k' r hk h
  unfold evOps at h⊢
  exact gd_mono (hk _ _) h
 |cons o os ih=>
  intro i log S k k' r hk h
  have hrun:∀S:St,(match o.args.map S.eval with
   |vals=>match base+o.rank with
    |nid=>match act summ o.op vals S.look nid with
     |none=>none
     |some out=>gd (drawChk S o.op nid out) (gd out.ok (evOps summ call true base (i+1) os (log++[logOf i o o.op vals nid out]) (S.apply o.dst out) k)))=some r->
   (match o.args.map S.eval with
    |vals=>match base+o.rank with
     |nid=>match act summ o.op vals S.look nid with
      |none=>none
      |some out=>gd (drawChk S o.op nid out) (gd out.ok (evOps summ call2 true base (i+1) os (log++[logOf i o o.op vals nid out]) (S.apply o.dst out) k')))=some r:=by
   intro S h
   dsimp only at h⊢
   split at h
   ·cases h
   ·rename_i out hout
    exact gd_mono (gd_mono (ih _ _ _ _ _ _ hk)) h
  unfold evOps at h⊢
  cases hg:o.guard with
  |none=>rw[hg]at h;exact hrun _ h
  |some g=>
   obtain⟨d,want⟩:=g
   rw[hg]at h
   simp only[]at h⊢
   split at h
   ·rename_i b hb
    cases b<;>cases want
    ·exact hrun _ h
    ·exact ih _ _ _ _ _ _ hk h
    ·exact ih _ _ _ _ _ _ hk h
    ·exact hrun _ h
   ·exact ih _ _ _ _ _ _ hk h
   ·cases h
theorem evLoop_mono{body body2:St->(Ex->St->Option R)->Option R}{nrm:St->St}(hb:∀S k k' r,Kle k k'->body S k=some r->body2 S k'=some r):∀m S k k' r,Kle k k'->evLoop body nrm m S k=some r->evLoop body2 nrm m S k'=some r
 |0,_,_,_,_,_,h=>by cases h
 |m+1,S,k,k',r,hk,h=>by
  refine hb _ _ _ _ (fun e S' r' h'=> ?_) h
  cases e with
  |normal=>exact evLoop_mono hb m _ _ _ _ hk h'
  |_=>exact hk _ _ _ h'
theorem rngK_mono{k k':Ex->St->Option R}(hk:Kle k k'){S:St}{r:R}:∀x:Blk,(match x with| .ghost 1=>none| .ghost n=>k (exOf n) S|_=>none)=some r->(match x with| .ghost 1=>none| .ghost n=>k' (exOf n) S|_=>none)=some r
 | .ghost 0,h=>hk _ _ _ h
 | .ghost 1,h=>by cases h
 | .ghost (n+2),h=>hk _ _ _ h
 | .fresh,h=>by cases h
 | .dead,h=>by cases h
 | .mem _,h=>by cases h
 | .vec _ _ _,h=>by cases h
 | .fvec _ _ _,h=>by cases h
theorem evCode_mono(hc:CallLe call call2):∀(c:IC)(S:St)(k k':Ex->St->Option R)(r:R),Kle k k'->evCode summ fu call c S k=some r->evCode summ fu call2 c S k'=some r
 | .skip,_,_,_,_,hk,h=>hk _ _ _ h
 | .region draw _ ops,S,_,_,_,hk,h=>by
   unfold evCode at h⊢
   cases draw
   ·exact evOps_monoF hc _ _ _ _ _ _ _ _ (fun S r=>hk .normal S r) h
   ·exact gd_mono (evOps_monoT hc _ _ _ _ _ _ _ _ (fun S r=>hk .normal S r)) h
 | .seq a b,S,_,_,_,hk,h=>by
   unfold evCode at h⊢
   refine evCode_mono hc a _ _ _ _ (fun e S' r' h'=> ?_) h
   cases e with
   |normal=>exact evCode_mono hc b _ _ _ _ hk h'
   |_=>exact hk _ _ _ h'
 | .cond c a b,S,_,_,_,hk,h=>by
   unfold evCode at h⊢
   split at h
   ·split at h
    ·rename_i x hx
     cases x
     ·exact evCode_mono hc b _ _ _ _ hk h
     ·exact evCode_mono hc a _ _ _ _ hk h
    ·cases h
   ·rename_i x
    cases x
    ·exact evCode_mono hc b _ _ _ _ hk h
    ·exact evCode_mono hc a _ _ _ _ hk h
   ·cases h
 | .block id b,S,_,_,_,hk,h=>by
   unfold evCode at h⊢
   refine evCode_mono hc b _ _ _ _ (fun e S' r' h'=> ?_) h
   cases e with
   |exit j=>
    simp only[]at h'⊢
    split at h'
    ·rename_i hj;simp only[hj,if_true];exact hk _ _ _ h'
    ·rename_i hj;simp only[hj,if_false];exact hk _ _ _ h'
   |_=>exact hk _ _ _ h'
 | .loop live b,S,_,_,_,hk,h=>by
   unfold evCode at h⊢
   exact evLoop_mono (fun S k k' r=>evCode_mono hc b S k k' r) _ _ _ _ _ hk h
 | .cut live b,S,_,_,_,hk,h=>by
   unfold evCode at h⊢
   exact evCode_mono hc b _ _ _ _ hk h
 | .exit _,_,_,_,_,hk,h=>hk _ _ _ h
 | .ret,_,_,_,_,hk,h=>hk _ _ _ h
 | .rangef id g lv ps a b,S,k,k',r,hk,h=>by
   unfold evCode at h⊢
   split at h
   ·rename_i f c hclo
    split at h
    ·rename_i hcap
     simp only[hclo,hcap,if_true]
     exact hc _ _ _ _ _ _ (fun v hp r h'=>rngK_mono hk _ h') h
    ·cases h
   ·cases h
theorem evRnd_mono(hc:CallLe call call2){ps:List Nat}{asg body:IC}:∀(cs:List CV)(hp:List Blk)(k k':CV->List Blk->Option R)(r:R),(∀v h r,k v h=some r->k' v h=some r)->evRnd summ fu call ps asg body cs hp k=some r->evRnd summ fu call2 ps asg body cs hp k'=some r:=by
 intro cs hp k k' r hk h
 unfold evRnd at h⊢
 split at h
 ·split at h
  ·rename_i hg
   split at h
   ·rename_i hl
    simp only[hg,hl,if_true]
    refine evCode_mono hc asg _ _ _ _ (fun e S r' h'=> ?_) h
    cases e with
    |normal=>
     try simp only at h'⊢
     split at h'
     ·rename_i hg1
      try simp only[hg1]
      refine evCode_mono hc body _ _ _ _ (fun e S r' h'=> ?_) h'
      split at h'
      ·rename_i hg2
       try simp only[hg2]
       exact hk _ _ _ h'
      ·cases h'
     ·cases h'
    |_=>cases h'
   ·cases h
  ·cases h
 ·cases h
theorem evCodeL_sound(hc:CallLe call call2)(hc2:CallLe call2 call2):∀(t:LT R)(c:IC)(S:St)(k k':Ex->St->Option R)(r:R),LTok summ fu call2 t c->Kle k k'->evCodeL summ fu call t c S k=some r->evCode summ fu call2 c S k'=some r
 | .nil,c,S,k,k',r,_,hk,h=>evCode_mono hc c S k k' r hk (by unfold evCodeL at h;exact h)
 | .node x y,.seq a b,S,k,k',r,ht,hk,h=>by
   unfold evCodeL at h;unfold evCode
   refine evCodeL_sound hc hc2 x a _ _ _ _ ht.1 (fun e S' r' h'=> ?_) h
   cases e with
   |normal=>exact evCodeL_sound hc hc2 y b _ _ _ _ ht.2 hk h'
   |_=>exact hk _ _ _ h'
 | .node x y,.cond c a b,S,k,k',r,ht,hk,h=>by
   unfold evCodeL at h;unfold evCode
   split at h
   ·split at h
    ·rename_i v hx
     simp only[hx]
     cases v
     ·exact evCodeL_sound hc hc2 y b _ _ _ _ ht.2 hk h
     ·exact evCodeL_sound hc hc2 x a _ _ _ _ ht.1 hk h
    ·cases h
   ·rename_i v
    cases v
    ·exact evCodeL_sound hc hc2 y b _ _ _ _ ht.2 hk h
    ·exact evCodeL_sound hc hc2 x a _ _ _ _ ht.1 hk h
   ·cases h
 | .node x _,.block id b,S,k,k',r,ht,hk,h=>by
   unfold evCodeL at h;unfold evCode
   refine evCodeL_sound hc hc2 x b _ _ _ _ ht (fun e S' r' h'=> ?_) h
   cases e with
   |exit j=>
    simp only[]at h'⊢
    split at h'
    ·rename_i hj;simp only[hj,if_true];exact hk _ _ _ h'
    ·rename_i hj;simp only[hj,if_false];exact hk _ _ _ h'
   |_=>exact hk _ _ _ h'
 | .orc o,.loop live b,S,k,k',r,ht,hk,h=>by
   unfold evCodeL at h;unfold evCode
   have:=ht _ _ _ h
   rw[<-evLoop_eq]at this
   exact evLoop_mono (fun S k k' r=>evCode_mono hc2 b S k k' r) _ _ _ _ _ hk this
 | .orc o,.cut live b,S,k,k',r,ht,hk,h=>by
   unfold evCodeL at h;unfold evCode
   exact evCode_mono hc2 b _ _ _ _ hk (ht _ _ _ h)
 | .node x _,.cut live b,S,k,k',r,ht,hk,h=>by
   unfold evCodeL at h;unfold evCode
   exact evCodeL_sound hc hc2 x b _ _ _ _ ht hk h
 | .node _ _,.skip,_,_,_,_,_,_,h=>by unfold evCodeL at h;cases h
 | .node _ _,.region _ _ _,_,_,_,_,_,_,h=>by unfold evCodeL at h;cases h
 | .node _ _,.loop _ _,_,_,_,_,_,_,h=>by unfold evCodeL at h;cases h
 | .node _ _,.exit _,_,_,_,_,_,_,h=>by unfold evCodeL at h;cases h
 | .node _ _,.ret,_,_,_,_,_,_,h=>by unfold evCodeL at h;cases h
 | .orc _,.skip,_,_,_,_,_,_,h=>by unfold evCodeL at h;cases h
 | .orc _,.region _ _ _,_,_,_,_,_,_,h=>by unfold evCodeL at h;cases h
 | .orc _,.seq _ _,_,_,_,_,_,_,h=>by unfold evCodeL at h;cases h
 | .orc _,.cond _ _ _,_,_,_,_,_,_,h=>by unfold evCodeL at h;cases h
 | .orc _,.block _ _,_,_,_,_,_,_,h=>by unfold evCodeL at h;cases h
 | .orc _,.exit _,_,_,_,_,_,_,h=>by unfold evCodeL at h;cases h
 | .orc _,.ret,_,_,_,_,_,_,h=>by unfold evCodeL at h;cases h
 | .node _ _,.rangef _ _ _ _ _ _,_,_,_,_,_,_,h=>by unfold evCodeL at h;cases h
 | .orc _,.rangef _ _ _ _ _ _,_,_,_,_,_,_,h=>by unfold evCodeL at h;cases h
variable(summ fu)in
theorem evFn_mono(fns:Nat->Option IFn):∀n,CallLe (evFn (R:=R) summ fns fu n) (evFn (R:=R) summ fns fu n)
 |0,_,_,_,_,_,_,_,h=>by cases h
 |n+1,f,cs,hp,k,k',r,hk,h=>by
  unfold evFn at h⊢
  split at h
  ·rename_i hz
   try simp only[hz]
   split at h
   ·rename_i fn hfn
    try simp only[hfn]
    split at h
    ·rename_i x hx
     try simp only[hx]
     exact evRnd_mono (evFn_mono fns n) _ _ _ _ _ hk h
    ·cases h
   ·cases h
  ·rename_i hz
   try simp only[hz]
   split at h
   ·cases h
   ·rename_i fn hfn
    try simp only[hfn]
    refine evCode_mono (evFn_mono fns n) _ _ _ _ _ (fun e S r' h'=> ?_) h
    split at h'
    ·cases h'
    ·rename_i hne
     split at h'
     ·cases h'
     ·rename_i l hl
      cases e with
      |exit j=>exact absurd rfl (hne j)
      |_=>exact hk _ _ _ h'
def evFnL(summ:Nat->Option Summ)(fu:Nat)(call:Nat->List CV->List Blk->(CV->List Blk->Option R)->Option R)(t:LT R)(fn:IFn)(args:List CV)(hp:List Blk)(k:CV->List Blk->Option R):Option R:=
 evCodeL summ fu call t fn.body {sl:=args++List.replicate (fn.ntmps-args.length) .junk,hp:=hp,fb:=hp.length} fun ex S=>
  match ex with
  | .exit _=>none
  |_=>match resOf S fn.results with
   |none=>none
   |some l=>match compact S.fb (l.flatMap CV.refs) S.hp with
    |keep=>k ((tupOf l).ren S.fb keep) (compHp S.fb keep S.hp)
def ovr(o:Nat->Option (List CV->List Blk->(CV->List Blk->Option R)->Option R))(call:Nat->List CV->List Blk->(CV->List Blk->Option R)->Option R):Nat->List CV->List Blk->(CV->List Blk->Option R)->Option R:=fun f args hp k=>match o f with
 |some g=>g args hp k
 |none=>call f args hp k
def OvrOK(o:Nat->Option (List CV->List Blk->(CV->List Blk->Option R)->Option R))(call:Nat->List CV->List Blk->(CV->List Blk->Option R)->Option R):Prop:=∀f g,o f=some g->∀args hp k r,g args hp k=some r->call f args hp k=some r
theorem ovr_le{o:Nat->Option (List CV->List Blk->(CV->List Blk->Option R)->Option R)}(hm:CallLe call call)(ho:OvrOK o call):CallLe (ovr o call) call:=by
 intro f cs hp k k' r hk h
 unfold ovr at h
 split at h
 ·rename_i g hg
  exact hm f cs hp k k' r hk (ho f g hg _ _ _ _ h)
 ·exact hm f cs hp k k' r hk h
def noO:Nat->Option (List CV->List Blk->(CV->List Blk->Option R)->Option R):=fun _=>none
theorem noO_ok:OvrOK noO call:=by intro f g h;cases h
theorem evFnL_sound{fns:Nat->Option IFn}{n f:Nat}{fn:IFn}(hrz:Nat.ble RZ f=false)(hf:fns f=some fn){t:LT R}{o:Nat->Option (List CV->List Blk->(CV->List Blk->Option R)->Option R)}(ho:OvrOK o (evFn summ fns fu n))(ht:LTok summ fu (evFn summ fns fu n) t fn.body){args:List CV}{hp:List Blk}{k:CV->List Blk->Option R}{r:R}
 (h:evFnL summ fu (ovr o (evFn summ fns fu n)) t fn args hp k=some r):evFn summ fns fu (n+1) f args hp k=some r:=by
 unfold evFn
 simp only[hrz,hf]
 exact evCodeL_sound (ovr_le (evFn_mono summ fu fns n) ho) (evFn_mono summ fu fns n) t _ _ _ _ _ ht (fun _ _ _ h=>h) h
def evRndL(summ:Nat->Option Summ)(fu:Nat)(call:Nat->List CV->List Blk->(CV->List Blk->Option R)->Option R)(t:LT R)(ps:List Nat)(asg body:IC):List CV->List Blk->(CV->List Blk->Option R)->Option R
 | .yld b _ c::vs,hp,k=>match hp.getD b .fresh with
   | .ghost 0=>if vs.length=ps.length then evCode summ fu call asg {sl:=putAll ps vs (unchain c),hp:=hp,fb:=hp.length} fun ex S=>match ex with
    | .normal=>match S.hp.getD b .fresh with
      | .ghost 0=>evCodeL summ fu call t body {S with hp:=setH S.hp b (.ghost 1)} fun ex S=>match S.hp.getD b .fresh with
        | .ghost 1=>match setH S.hp b (.ghost (exN ex))with
          |hp'=>match compact S.fb [] hp' with
           |keep=>k (.bool (exN ex==0)) (compHp S.fb keep hp')
        |_=>none
      |_=>none
    |_=>none else none
   |_=>none
 |_,_,_=>none
def rndO(fn:IFn):List Nat×IC×IC:=match findR fn.body with|some x=>x|none=>([],.skip,.skip)
theorem bodyL_sound{fns:Nat->Option IFn}{n:Nat}{b:IC}{t:LT R}{o:Nat->Option (List CV->List Blk->(CV->List Blk->Option R)->Option R)}(ho:OvrOK o (evFn summ fns fu n))(ht:LTok summ fu (evFn summ fns fu n) t b){T:St}{k:Ex->St->Option R}{r:R}
 (h:evCodeL summ fu (ovr o (evFn summ fns fu n)) t b T k=some r):evCode summ fu (evFn summ fns fu n) b T k=some r:=
 evCodeL_sound (ovr_le (evFn_mono summ fu fns n) ho) (evFn_mono summ fu fns n) t _ _ _ _ _ ht (fun _ _ _ h=>h) h
end
end Go.Ev
namespace Go.Ev
open Go Go.RowKit
@[reducible] def HDen:List Ty->Type
 |[]=>Unit
 |t::ts=>t.den×HDen ts
def ofH:(ts:List Ty)->HDen ts->List CV
 |[],_=>[]
 |t::ts,x=>ofP t x.1::ofH ts x.2
def toH:(ts:List Ty)->List CV->Option (HDen ts)
 |[],[]=>some ()
 |t::ts,c::cs=>match toPH noLook t c,toH ts cs with|some x,some l=>some (x,l)|_,_=>none
 |_,_=>none
theorem toPH_ofP(look:Look):∀(t:Ty)(x:t.den),toPH look t (ofP t x)=some x:=by
 intro t x
 cases t<;>simp[toPH,ofP]
theorem toH_ofH:∀(ts:List Ty)(x:HDen ts),toH ts (ofH ts x)=some x
 |[],_=>rfl
 |t::ts,x=>by simp[toH,ofH,toPH_ofP,toH_ofH ts x.2]
theorem purify_ofH{look:Look}:∀ {ts:List Ty}{cs cs':List CV},purify look ts cs=some cs'->∃x,cs'=ofH ts x
 |[],[],_,h=>⟨(),by simp[purify]at h;simp[ofH,h]⟩
 |[],_::_,_,h=>by simp[purify]at h
 |_::_,[],_,h=>by simp[purify]at h
 |t::ts,c::cs,cs',h=>by
  simp only[purify]at h
  split at h
  ·rename_i x l hx hl
   simp at h;subst h
   obtain⟨y,rfl⟩:=purify_ofH hl
   exact⟨(x,y),rfl⟩
  ·cases h
def fS(ts rs:List Ty)(pre:HDen ts->Bool)(fn:HDen ts->HDen rs):Summ:=pureS ts fun cs=>match toH ts cs with
 |some x=>some (pre x,ofH rs (fn x))
 |none=>none
def Rets(rs:List Ty)(r:Option (CV×List Blk))(y:HDen rs):Prop:=∃l0 hp2,r=some (tupOf l0,hp2)/\purify (lookH hp2) rs l0=some (ofH rs y)/\subsOK (lookH hp2) l0=true
theorem summ_fn{rk:Nat->Loop->Prop}{P:Program}{f:Nat}{ts rs:List Ty}{pre:HDen ts->Bool}{fn:HDen ts->HDen rs}{call:Nat->List CV->List Blk->(CV->List Blk->Option (CV×List Blk))->Option (CV×List Blk)}(hcall:∀base,CallOK P base rk call)(hrz:Nat.ble RZ f=false)(hcb:callable P f=true)
 (h:∀x,pre x=true->Rets rs (call f (ofH ts x) [] fun v h=>some (v,h)) (fn x)):SummOK P f (fS ts rs pre fn):=by
 refine summ_of_ev (rs:=rs) hcall hrz hcb ?_
 intro look cs cs' l hcs hF
 obtain⟨x,rfl⟩:=purify_ofH hcs
 rw[toH_ofH]at hF
 simp only[Option.some.injEq,Prod.mk.injEq]at hF
 obtain⟨hp,rfl⟩:=hF
 exact h x hp
theorem Rets.of{rs:List Ty}{r:Option (CV×List Blk)}{y:HDen rs}{l0:List CV}{hp2:List Blk}(h:r=some (tupOf l0,hp2))(h1:purify (lookH hp2) rs l0=some (ofH rs y))(h2:subsOK (lookH hp2) l0=true):Rets rs r y:=⟨l0,hp2,h,h1,h2⟩
def evLB{R:Type}(body:St->(Ex->St->Option R)->Option R)(nrm:St->St)(T:St)(K0:St->Option R)(K1:Ex->St->Option R):Option R:=body T fun ex S=>match ex with| .normal=>K0 (nrm S)|e=>K1 e S
theorem evLoopN_succ{R:Type}(body:St->(Ex->St->Option R)->Option R)(nrm:St->St)(m:Nat)(T:St)(k:Ex->St->Option R):evLoopN body nrm (m+1) T k=evLB body nrm T (fun S=>evLoopN body nrm m S k) k:=by
 rw[evLoopN,evLB]
 all_goals congr 1
theorem gd_some{R:Type}{c:Bool}{x:Option R}{r:R}(h:gd c x=some r):c=true/\x=some r:=by
 cases c
 ·cases h
 ·exact⟨rfl,h⟩
def fndB(p:Nat->Bool):Nat->Nat->Bool
 |_,0=>false
 |j,d+1=>p j||fndB p (j+1) d
def fstB(p:Nat->Bool):Nat->Nat->Nat
 |j,0=>j
 |j,d+1=>bif p j then j else fstB p (j+1) d
section
variable{R:Type}{body:St->(Ex->St->Option R)->Option R}{nrm:St->St}
def foldB{α:Type}(step:Nat->α->α):Nat->Nat->α->α
 |_,0,a=>a
 |j,d+1,a=>foldB step (j+1) d (step j a)
end
def only{R:Type}(f:Nat)(g:List CV->List Blk->(CV->List Blk->Option R)->Option R):Nat->Option (List CV->List Blk->(CV->List Blk->Option R)->Option R):=fun f'=>bif f'==f then some g else none
theorem room_ok{n b:Nat}(h:n*b<=140737488355328)(h2:n<=140737488355328):room n b=true:=by simp[room,h,h2]
theorem evLoopN_L{R:Type}{summ:Nat->Option Summ}{fu:Nat}{fns:Nat->Option IFn}{n:Nat}{b:IC}{t:LT R}{o:Nat->Option (List CV->List Blk->(CV->List Blk->Option R)->Option R)}(ho:OvrOK o (evFn summ fns fu n))(ht:LTok summ fu (evFn summ fns fu n) t b){nrm:St->St} :
 ∀m T k r,evLoopN (evCodeL summ fu (ovr o (evFn summ fns fu n)) t b) nrm m T k=some r->evLoopN (evCode summ fu (evFn summ fns fu n) b) nrm m T k=some r
 |0,_,_,_,h=>by cases h
 |m+1,T,k,r,h=>by
  rw[evLoopN]at h⊢
  refine evCodeL_sound (ovr_le (evFn_mono summ fu fns n) ho) (evFn_mono summ fu fns n) t b T _ _ r ht (fun e S r' h'=> ?_) h
  cases e with
  |normal=>exact evLoopN_L ho ht m _ k r' h'
  |_=>exact h'
def CV.isJunk:CV->Bool| .junk=>true|_=>false
def fill(n:Nat)(asg:List (Nat×CV)):List CV:=(List.range n).map fun i=>(asg.lookup i).getD .junk
def shapeOK(T:St)(n:Nat)(live:List Nat)(fb:Nat):Bool:=T.sl.length==n&&(T.fb==fb&&(List.range n).all fun i=>live.contains i||(T.sl.getD i .junk).isJunk)
def allAt(sl:List CV):List (Nat×CV)->Prop
 |[]=>True
 |p::r=>sl.getD p.1 .junk=p.2/\allAt sl r
theorem allAt_mem{sl:List CV}:∀ {asg:List (Nat×CV)}{i:Nat}{c:CV},allAt sl asg->asg.lookup i=some c->sl.getD i .junk=c
 |[],_,_,_,h=>by simp at h
 |p::r,i,c,⟨h1,h2⟩,h=>by
  rw[List.lookup_cons]at h
  split at h
  ·rename_i he
   simp at h;subst h
   rw[beq_iff_eq.1 he];exact h1
  ·exact allAt_mem h2 h
theorem lookup_none{asg:List (Nat×CV)}{i:Nat}(h:asg.lookup i=none):(asg.map (·.1)).contains i=false:=by
 induction asg with
 |nil=>rfl
 |cons p r ih=>
  rw[List.lookup_cons]at h
  split at h
  ·cases h
  ·rename_i he
   rw[List.map_cons,List.contains_cons,ih h,he];rfl
theorem st_of{T:St}{n fb:Nat}{asg:List (Nat×CV)}{hp:List Blk}(hs:shapeOK T n (asg.map (·.1)) fb=true)(ha:allAt T.sl asg)(hh:T.hp=hp):T=⟨fill n asg,hp,fb⟩:=by
 unfold shapeOK at hs
 simp only[Bool.and_eq_true,beq_iff_eq]at hs
 obtain⟨h1,h2,h3⟩:=hs
 obtain⟨sl,hp',fb'⟩:=T
 simp only at h1 h2 h3 ha hh
 subst h2 hh
 congr 1
 refine List.ext_getElem (by simp[fill,h1]) fun i hi hi2=> ?_
 have hin:i<n:=by omega
 have hg:sl.getD i .junk=sl[i]:=by simp[List.getD,hi]
 simp only[fill,List.getElem_map,List.getElem_range]
 cases hl:asg.lookup i with
 |some c=>rw[<-hg,allAt_mem ha hl];rfl
 |none=>
  have:=List.all_eq_true.1 h3 i (by simpa using hin)
  rw[lookup_none hl,Bool.false_or,hg]at this
  cases hc:sl[i]<;>rw[hc]at this<;>first|rfl|cases this
end Go.Ev
namespace Go.Ev
open Go Go.RowKit
def FU:Nat:=4611686018427387904
abbrev CallT(R:Type):=Nat->List CV->List Blk->(CV->List Blk->Option R)->Option R
section
variable(summ:Nat->Option Summ)(fu:Nat)
def NatC(c:∀R,CallT R):Prop:=∀R f cs hp(k:CV->List Blk->Option R)r,c R f cs hp k=some r->∃v h,k v h=some r/\∀R'(k':CV->List Blk->Option R')r',k' v h=some r'->c R' f cs hp k'=some r'
def NatS(α:Type)(c:∀R,(α->Option R)->Option R):Prop:=∀R(k:α->Option R)r,c R k=some r->∃x,k x=some r/\∀R'(k':α->Option R')r',k' x=some r'->c R' k'=some r'
def NatE(c:∀R,(Ex->St->Option R)->Option R):Prop:=∀R(k:Ex->St->Option R)r,c R k=some r->∃e S,k e S=some r/\∀R'(k':Ex->St->Option R')r',k' e S=some r'->c R' k'=some r'
variable{summ fu}{c:∀R,CallT R}
theorem evOps_natF(hc:NatC c)(base:Nat):∀(os:List IOper)(i:Nat)(log:List LogE)(S:St),NatS St fun R k=>evOps summ (c R) false base i os log S k:=by
 intro os
 induction os with
 |nil=>
  intro i log S R k r h
  unfold evOps at h
  exact⟨S,h,fun R' k' r' h'=>by unfold evOps;exact h'⟩
 |cons o os ih=>
  intro i log S R k r h
  have hrun:∀S:St,NatS St fun R k=>(match o.op with
   | .call f=>c R f (o.args.map S.eval) S.hp fun v hp=>evOps summ (c R) false base (i+1) os log ({S with hp:=hp}.put o.dst v) k
   | .callv=>match o.args.map S.eval with
     | .clo f cc::vs=>if capsF f cc=true then c R f (vs++unchain cc) S.hp fun v hp=>evOps summ (c R) false base (i+1) os log ({S with hp:=hp}.put o.dst v) k else none
     | .yld b i' cc::vs=>c R (RZ+i') (.yld b i' cc::vs) S.hp fun v hp=>evOps summ (c R) false base (i+1) os log ({S with hp:=hp}.put o.dst v) k
     |_=>none
   |op=>match o.args.map S.eval with
    |vals=>match S.hp.length with
     |nid=>match act summ op vals S.look nid with
      |none=>none
      |some out=>gd out.ok (evOps summ (c R) false base (i+1) os log (S.apply o.dst out) k)):=by
   intro S R k r h
   split at h
   ·obtain⟨v,hp,h1,h2⟩:=hc _ _ _ _ _ _ h
    obtain⟨x,h3,h4⟩:=ih _ _ _ _ _ _ h1
    exact⟨x,h3,fun R' k' r' h'=>h2 _ _ _ (h4 _ _ _ h')⟩
   ·split at h
    ·split at h
     ·obtain⟨v,hp,h1,h2⟩:=hc _ _ _ _ _ _ h
      obtain⟨x,h3,h4⟩:=ih _ _ _ _ _ _ h1
      rename_i hcap
      exact⟨x,h3,fun R' k' r' h'=>by simp only[hcap,if_true];exact h2 _ _ _ (h4 _ _ _ h')⟩
     ·cases h
    ·obtain⟨v,hp,h1,h2⟩:=hc _ _ _ _ _ _ h
     obtain⟨x,h3,h4⟩:=ih _ _ _ _ _ _ h1
     exact⟨x,h3,fun R' k' r' h'=>h2 _ _ _ (h4 _ _ _ h')⟩
    ·cases h
   ·dsimp only at h
    split at h
    ·cases h
    ·rename_i out hout
     obtain⟨h1,h2⟩:=gd_some h
     obtain⟨x,h3,h4⟩:=ih _ _ _ _ _ _ h2
     exact⟨x,h3,fun R' k' r' h'=>by
      have:=h4 _ _ _ h'
      dsimp only at this⊢
      simp only[hout,h1,this];rfl⟩
  unfold evOps at h
  cases hg:o.guard with
  |none=>
   rw[hg]at h
   obtain⟨x,h1,h2⟩:=hrun _ _ _ _ h
   exact⟨x,h1,fun R' k' r' h'=>by unfold evOps;rw[hg];exact h2 _ _ _ h'⟩
  |some g=>
   obtain⟨d,want⟩:=g
   rw[hg]at h
   simp only[]at h
   split at h
   ·rename_i b hb
    cases b<;>cases want
    ·obtain⟨x,h1,h2⟩:=hrun _ _ _ _ h
     exact⟨x,h1,fun R' k' r' h'=>by unfold evOps;simp only[hg,hb];exact h2 _ _ _ h'⟩
    ·obtain⟨x,h1,h2⟩:=ih _ _ _ _ _ _ h
     exact⟨x,h1,fun R' k' r' h'=>by unfold evOps;simp only[hg,hb];exact h2 _ _ _ h'⟩
    ·obtain⟨x,h1,h2⟩:=ih _ _ _ _ _ _ h
     exact⟨x,h1,fun R' k' r' h'=>by unfold evOps;simp only[hg,hb];exact h2 _ _ _ h'⟩
    ·obtain⟨x,h1,h2⟩:=hrun _ _ _ _ h
     exact⟨x,h1,fun R' k' r' h'=>by unfold evOps;simp only[hg,hb];exact h2 _ _ _ h'⟩
   ·rename_i hb
    obtain⟨x,h1,h2⟩:=ih _ _ _ _ _ _ h
    exact⟨x,h1,fun R' k' r' h'=>by unfold evOps;simp only[hg,hb];exact h2 _ _ _ h'⟩
   ·cases h
theorem evOps_natT(base:Nat):∀(os:List IOper)(i:Nat)(log:List LogE)(S:St),NatS St fun R k=>evOps summ (c R) true base i os log S k:=by
 intro os
 induction os with
 |nil=>
  intro i log S R k r h
  unfold evOps at h
  obtain⟨h1,h2⟩:=gd_some h
  exact⟨S,h2,fun R' k' r' h'=>by unfold evOps;rw[h1];exact h'⟩
 |cons o os ih=>
  intro i log S R k r h
  have hrun:∀S:St,NatS St fun R k=>(match o.args.map S.eval with
   |vals=>match base+o.rank with
    |nid=>match act summ o.op vals S.look nid with
     |none=>none
     |some out=>gd (drawChk S o.op nid out) (gd out.ok (evOps summ (c R) true base (i+1) os (log++[logOf i o o.op vals nid out]) (S.apply o.dst out) k))):=by
   intro S R k r h
   dsimp only at h
   split at h
   ·cases h
   ·rename_i out hout
    obtain⟨h0,h⟩:=gd_some h
    obtain⟨h1,h2⟩:=gd_some h
    obtain⟨x,h3,h4⟩:=ih _ _ _ _ _ _ h2
    exact⟨x,h3,fun R' k' r' h'=>by
     have:=h4 _ _ _ h'
     dsimp only at this⊢
     simp only[hout,h0,h1,this];rfl⟩
  unfold evOps at h
  cases hg:o.guard with
  |none=>
   rw[hg]at h
   obtain⟨x,h1,h2⟩:=hrun _ _ _ _ h
   exact⟨x,h1,fun R' k' r' h'=>by unfold evOps;rw[hg];exact h2 _ _ _ h'⟩
  |some g=>
   obtain⟨d,want⟩:=g
   rw[hg]at h
   simp only[]at h
   split at h
   ·rename_i b hb
    cases b<;>cases want
    ·obtain⟨x,h1,h2⟩:=hrun _ _ _ _ h
     exact⟨x,h1,fun R' k' r' h'=>by unfold evOps;simp only[hg,hb];exact h2 _ _ _ h'⟩
    ·obtain⟨x,h1,h2⟩:=ih _ _ _ _ _ _ h
     exact⟨x,h1,fun R' k' r' h'=>by unfold evOps;simp only[hg,hb];exact h2 _ _ _ h'⟩
    ·obtain⟨x,h1,h2⟩:=ih _ _ _ _ _ _ h
     exact⟨x,h1,fun R' k' r' h'=>by unfold evOps;simp only[hg,hb];exact h2 _ _ _ h'⟩
    ·obtain⟨x,h1,h2⟩:=hrun _ _ _ _ h
     exact⟨x,h1,fun R' k' r' h'=>by unfold evOps;simp only[hg,hb];exact h2 _ _ _ h'⟩
   ·rename_i hb
    obtain⟨x,h1,h2⟩:=ih _ _ _ _ _ _ h
    exact⟨x,h1,fun R' k' r' h'=>by unfold evOps;simp only[hg,hb];exact h2 _ _ _ h'⟩
   ·cases h
theorem evLoop_nat{body:∀R,St->(Ex->St->Option R)->Option R}{nrm:St->St}(hb:∀S,NatE fun R k=>body R S k):∀m S,NatE fun R k=>evLoop (body R) nrm m S k
 |0,_,_,_,_,h=>by cases h
 |m+1,S,R,k,r,h=>by
  obtain⟨e,S',h1,h2⟩:=hb _ _ _ _ h
  cases e with
  |normal=>
   obtain⟨e,S',h3,h4⟩:=evLoop_nat hb m _ _ _ _ h1
   exact⟨e,S',h3,fun R' k' r' h'=>h2 _ _ _ (h4 _ _ _ h')⟩
  |_=>exact⟨_,S',h1,fun R' k' r' h'=>h2 _ _ _ h'⟩
theorem rngK_nat{R:Type}{k:Ex->St->Option R}{S:St}{r:R}:∀x:Blk,(match x with| .ghost 1=>none| .ghost n=>k (exOf n) S|_=>none)=some r->∃e,k e S=some r/\∀R'(k':Ex->St->Option R')r',k' e S=some r'->(match x with| .ghost 1=>none| .ghost n=>k' (exOf n) S|_=>none)=some r'
 | .ghost 0,h=>⟨_,h,fun _ _ _ h'=>h'⟩
 | .ghost 1,h=>by cases h
 | .ghost (n+2),h=>⟨_,h,fun _ _ _ h'=>h'⟩
 | .fresh,h=>by cases h
 | .dead,h=>by cases h
 | .mem _,h=>by cases h
 | .vec _ _ _,h=>by cases h
 | .fvec _ _ _,h=>by cases h
theorem evCode_nat(hc:NatC c):∀(cd:IC)(S:St),NatE fun R k=>evCode summ fu (c R) cd S k
 | .skip,S,R,k,r,h=>⟨_,_,h,fun _ _ _ h'=>h'⟩
 | .region draw nn ops,S,R,k,r,h=>by
   unfold evCode at h
   cases draw
   ·obtain⟨x,h1,h2⟩:=evOps_natF hc _ _ _ _ _ _ _ _ h
    exact⟨_,x,h1,fun R' k' r' h'=>by unfold evCode;exact h2 _ _ _ h'⟩
   ·dsimp only at h
    obtain⟨h0,h⟩:=gd_some h
    obtain⟨x,h1,h2⟩:=evOps_natT _ _ _ _ _ _ _ _ h
    exact⟨_,x,h1,fun R' k' r' h'=>by unfold evCode;dsimp only;rw[h0];exact h2 _ _ _ h'⟩
 | .seq a b,S,R,k,r,h=>by
   unfold evCode at h
   obtain⟨e,S',h1,h2⟩:=evCode_nat hc a _ _ _ _ h
   cases e with
   |normal=>
    obtain⟨e,S',h3,h4⟩:=evCode_nat hc b _ _ _ _ h1
    exact⟨e,S',h3,fun R' k' r' h'=>by unfold evCode;exact h2 _ _ _ (h4 _ _ _ h')⟩
   |_=>exact⟨_,S',h1,fun R' k' r' h'=>by unfold evCode;exact h2 _ _ _ h'⟩
 | .cond cc a b,S,R,k,r,h=>by
   unfold evCode at h
   split at h
   ·split at h
    ·rename_i x hx
     cases x
     ·obtain⟨e,S',h3,h4⟩:=evCode_nat hc b _ _ _ _ h
      exact⟨e,S',h3,fun R' k' r' h'=>by unfold evCode;simp only[hx];exact h4 _ _ _ h'⟩
     ·obtain⟨e,S',h3,h4⟩:=evCode_nat hc a _ _ _ _ h
      exact⟨e,S',h3,fun R' k' r' h'=>by unfold evCode;simp only[hx];exact h4 _ _ _ h'⟩
    ·cases h
   ·rename_i x
    cases x
    ·obtain⟨e,S',h3,h4⟩:=evCode_nat hc b _ _ _ _ h
     exact⟨e,S',h3,fun R' k' r' h'=>by unfold evCode;exact h4 _ _ _ h'⟩
    ·obtain⟨e,S',h3,h4⟩:=evCode_nat hc a _ _ _ _ h
     exact⟨e,S',h3,fun R' k' r' h'=>by unfold evCode;exact h4 _ _ _ h'⟩
   ·cases h
 | .block id b,S,R,k,r,h=>by
   unfold evCode at h
   obtain⟨e,S',h1,h2⟩:=evCode_nat hc b _ _ _ _ h
   cases e with
   |exit j=>
    simp only[]at h1
    by_cases hj:j=id
    ·rw[if_pos hj]at h1
     exact⟨_,S',h1,fun R' k' r' h'=>by unfold evCode;exact h2 _ _ _ (by simp only[hj,if_true];exact h')⟩
    ·rw[if_neg hj]at h1
     exact⟨_,S',h1,fun R' k' r' h'=>by unfold evCode;exact h2 _ _ _ (by simp only[hj,if_false];exact h')⟩
   |_=>exact⟨_,S',h1,fun R' k' r' h'=>by unfold evCode;exact h2 _ _ _ h'⟩
 | .loop live b,S,R,k,r,h=>by
   unfold evCode at h
   obtain⟨e,S',h1,h2⟩:=evLoop_nat (fun S=>evCode_nat hc b S) _ _ _ _ _ h
   exact⟨e,S',h1,fun R' k' r' h'=>by unfold evCode;exact h2 _ _ _ h'⟩
 | .cut live b,S,R,k,r,h=>by
   unfold evCode at h
   obtain⟨e,S',h1,h2⟩:=evCode_nat hc b _ _ _ _ h
   exact⟨e,S',h1,fun R' k' r' h'=>by unfold evCode;exact h2 _ _ _ h'⟩
 | .exit _,S,R,k,r,h=>⟨_,_,h,fun _ _ _ h'=>h'⟩
 | .ret,S,R,k,r,h=>⟨_,_,h,fun _ _ _ h'=>h'⟩
 | .rangef id g lv ps a b,S,R,k,r,h=>by
   unfold evCode at h
   split at h
   ·rename_i f cc hclo
    split at h
    ·rename_i hcap
     obtain⟨v,hp,h1,h2⟩:=hc _ _ _ _ _ _ h
     obtain⟨e,h3,h4⟩:=rngK_nat _ h1
     exact⟨e,_,h3,fun R' k' r' h'=>by unfold evCode;simp only[hclo,hcap,if_true];exact h2 _ _ _ (h4 _ _ _ h')⟩
    ·cases h
   ·cases h
theorem evRnd_nat(hc:NatC c){ps:List Nat}{asg body:IC}(cs:List CV)(hp:List Blk):∀(R:Type)(k:CV->List Blk->Option R)r,evRnd summ fu (c R) ps asg body cs hp k=some r->∃v h,k v h=some r/\∀R'(k':CV->List Blk->Option R')r',k' v h=some r'->evRnd summ fu (c R') ps asg body cs hp k'=some r':=by
 intro R k r h
 unfold evRnd at h
 split at h
 ·split at h
  ·rename_i hg
   split at h
   ·rename_i hl
    obtain⟨e,S1,h1,h2⟩:=evCode_nat hc asg _ _ _ _ h
    cases e with
    |normal=>
     simp only at h1
     split at h1
     ·rename_i hg1
      obtain⟨e2,S2,h3,h4⟩:=evCode_nat hc body _ _ _ _ h1
      split at h3
      ·rename_i hg2
       refine⟨_,_,h3,fun R' k' r' h'=> ?_⟩
       unfold evRnd
       simp only[hg,hl,if_true]
       apply h2
       simp only[hg1]
       apply h4
       simp only[hg2]
       exact h'
      ·cases h3
     ·cases h1
    |exit j=>cases h1
    |ret=>cases h1
   ·cases h
  ·cases h
 ·cases h
variable(summ fu)in
theorem evFn_nat(fns:Nat->Option IFn):∀n,NatC fun R=>evFn (R:=R) summ fns fu n
 |0,_,_,_,_,_,_,h=>by cases h
 |n+1,R,f,cs,hp,k,r,h=>by
  dsimp only at h
  unfold evFn at h
  split at h
  ·rename_i hz
   split at h
   ·rename_i fn hfn
    split at h
    ·rename_i x hx
     obtain⟨v,hh,h1,h2⟩:=evRnd_nat (summ:=summ) (fu:=fu) (evFn_nat fns n) _ _ _ _ _ h
     exact⟨v,hh,h1,fun R' k' r' h'=>by dsimp only;unfold evFn;simp only[hz,hfn,hx];exact h2 _ _ _ h'⟩
    ·cases h
   ·cases h
  ·rename_i hz
   split at h
   ·cases h
   ·rename_i fn hfn
    obtain⟨e,S,h1,h2⟩:=evCode_nat (summ:=summ) (fu:=fu) (evFn_nat fns n) _ _ _ _ _ h
    have key:∀(hne:∀j,e≠ .exit j),(match resOf S fn.results with
     |none=>none
     |some l=>match compact S.fb (l.flatMap CV.refs) S.hp with
      |keep=>k ((tupOf l).ren S.fb keep) (compHp S.fb keep S.hp))=some r->∃v h,k v h=some r/\∀R'(k':CV->List Blk->Option R')r',k' v h=some r'->evFn summ fns fu (n+1) f cs hp k'=some r':=by
     intro hne h1
     cases hl:resOf S fn.results with
     |none=>rw[hl]at h1;cases h1
     |some l=>
      rw[hl]at h1
      refine⟨_,_,h1,fun R' k' r' h'=> ?_⟩
      unfold evFn
      simp only[hz,hfn]
      apply h2
      cases e with
      |exit j=>exact absurd rfl (hne j)
      |_=>simp only[hl];exact h'
    cases e with
    |exit j=>cases h1
    |normal=>exact key (fun j=>by simp) h1
    |ret=>exact key (fun j=>by simp) h1
end
theorem evFn_dep{R:Type}{summ:Nat->Option Summ}{fns:Nat->Option IFn}{fu:Nat}:∀n,CallLe (evFn (R:=R) summ fns fu n) (evFn (R:=R) summ fns fu (n+1))
 |0,_,_,_,_,_,_,_,h=>by cases h
 |n+1,f,cs,hp,k,k',r,hk,h=>by
  rw[evFn]at h⊢
  split at h
  ·rename_i hz
   split at h
   ·rename_i fn hfn
    split at h
    ·rename_i x hx
     try simp only[hz,hfn,hx]
     exact evRnd_mono (evFn_dep n) _ _ _ _ _ hk h
    ·cases h
   ·cases h
  ·rename_i hz
   split at h
   ·cases h
   ·rename_i fn hfn
    try simp only[hz,hfn]
    refine evCode_mono (evFn_dep n) _ _ _ _ _ (fun e S r' h'=> ?_) h
    split at h'
    ·cases h'
    ·rename_i hne
     split at h'
     ·cases h'
     ·rename_i l hl
      cases e with
      |exit j=>exact absurd rfl (hne j)
      |_=>exact hk _ _ _ h'
theorem evFn_le{R:Type}{summ:Nat->Option Summ}{fns:Nat->Option IFn}{fu:Nat}{f:Nat}{cs:List CV}{hp:List Blk}{k:CV->List Blk->Option R}{r:R}{n:Nat}:∀d,evFn summ fns fu n f cs hp k=some r->evFn summ fns fu (n+d) f cs hp k=some r
 |0,h=>h
 |d+1,h=>evFn_dep _ _ _ _ _ _ _ (fun _ _ _ h=>h) (evFn_le d h)
theorem nbeq_ne{a b:Nat}(h:¬a=b):Nat.beq a b=false:=by
 cases hb:Nat.beq a b
 ·rfl
 ·exact absurd (Nat.eq_of_beq_eq_true hb) h
def evJ{R:Type}(body:St->(Ex->St->Option R)->Option R)(T:St)(k:Ex->St->Option R):Option R:=body T k
def unch:Nat->CV->Option (List CV)
 |0,.pure .unit _=>some []
 |n+1,.pair a b=>match unch n b with|some l=>some (a::l)|none=>none
 |_,_=>none
def untup(n:Nat)(v:CV):Option (List CV):=if n=1 then some [v]else match v with| .tup c=>unch n c|_=>none
theorem unch_chain:∀ {n:Nat}{c:CV}{l:List CV},unch n c=some l->chain l=c/\l.length=n
 |0,c,l,h=>by
  unfold unch at h
  split at h
  ·simp at h;subst h;exact⟨rfl,rfl⟩
  ·rename_i he;cases he
  ·cases h
 |n+1,c,l,h=>by
  cases c with
  |pair a b=>
   simp only[unch]at h
   split at h
   ·rename_i l' hl
    simp at h;subst h
    obtain⟨h1,h2⟩:=unch_chain hl
    exact⟨by simp[chain,h1],by simp[h2]⟩
   ·cases h
  |_=>simp[unch]at h
theorem untup_tup{n:Nat}{v:CV}{l:List CV}(h:untup n v=some l):tupOf l=v:=by
 unfold untup at h
 split at h
 ·simp at h;subst h;rfl
 ·rename_i hn
  split at h
  ·obtain⟨h1,h2⟩:=unch_chain h
   match l,h2 with
   |[],_=>simp[tupOf,h1]
   |[_],h2=>simp at h2;exact absurd h2.symm hn
   |_::_::_,_=>simp[tupOf,h1]
  ·cases h
def pureK(rs:List Ty)(v:CV)(hp:List Blk):Option (HDen rs):=match untup rs.length v with
 |none=>none
 |some l=>gd (subsOK (lookH hp) l) (match purify (lookH hp) rs l with|some cs=>toH rs cs|none=>none)
theorem pureK_some{rs:List Ty}{v:CV}{hp:List Blk}{y:HDen rs}(h:pureK rs v hp=some y):∃l,v=tupOf l/\purify (lookH hp) rs l=some (ofH rs y)/\subsOK (lookH hp) l=true:=by
 unfold pureK at h
 split at h
 ·cases h
 ·rename_i l hl
  obtain⟨h1,h2⟩:=gd_some h
  split at h2
  ·rename_i cs hcs
   obtain⟨x,rfl⟩:=purify_ofH hcs
   rw[toH_ofH]at h2
   simp at h2;subst h2
   exact⟨l,(untup_tup hl).symm,hcs,h1⟩
  ·cases h2
def dfH:(rs:List Ty)->HDen rs
 |[]=>()
 |t::rs=>(t.dflt,dfH rs)
def shS(ts rs:List Ty)(p:HDen ts->Bool)(v:HDen ts->HDen rs):Summ:=fS ts rs p v
def pureN(ts:List Ty)(F:List CV->Option (Bool×List CV)):Summ:=fun cs look _=>match purify look ts cs with
 |none=>none
 |some cs'=>match F cs' with
  |none=>none
  |some r=>some ⟨subsOK look cs&&r.1,tupOf r.2,[]⟩
theorem toPH_norefs{look:Look}:∀ {t:Ty}{c:CV}{x:t.den},t.slices=false->toPH look t c=some x->c.refs=[]:=by
 intro t
 induction t with
 |pair a b iha ihb=>
  intro c x ht h
  simp only[Ty.slices,Bool.or_eq_false_iff]at ht
  cases c<;>simp only[toPH]at h<;>try (first|rfl|(cases h;done))
  split at h
  ·rename_i hy hz
   simp[CV.refs,iha ht.1 hy,ihb ht.2 hz]
  ·cases h
 |slice e ih=>intro c x ht h;simp[Ty.slices]at ht
 |_=>
  intros c x ht h
  cases c<;>simp only[toPH]at h<;>try (first|rfl|(cases h;done))
theorem RepD_any{w w':World}{I I':Nat->Prop}:∀(t:Ty)(x:t.den)(cs:List Value),t.slices=false->RepD w I t x cs->RepD w' I' t x cs
 | .int _,_,_,_,h=>h
 | .bool,_,_,_,h=>h
 | .str,_,_,_,h=>h
 | .unit,_,_,_,h=>h
 | .pair a b,x,_,ht,⟨c1,c2,e,h1,h2⟩=>by
   simp only[Ty.slices,Bool.or_eq_false_iff]at ht
   exact⟨c1,c2,e,RepD_any a x.1 c1 ht.1 h1,RepD_any b x.2 c2 ht.2 h2⟩
 | .arr n e,x,cs,ht,h=>⟨h.1,Rows.mono (fun x c=>RepD_any e x c ht) x cs h.2⟩
 | .slice e,_,_,ht,_=>by simp[Ty.slices]at ht
theorem refH_none{E:Env}{look:Look}{c:CV}(h:c.refs=[])(g:Nat):¬refH E look c g:=by
 rintro⟨b,hb,_⟩
 rw[h]at hb;cases hb
theorem subOK_norefs{look:Look}:∀ {c:CV},c.refs=[]->c.subOK look=true:=by
 intro c
 induction c with
 |pair a b iha ihb=>intro h;simp[CV.refs]at h;simp[CV.subOK,iha h.1,ihb h.2]
 |sub b p sz off len cap=>intro h;simp[CV.refs]at h
 |_=>intro h;rfl
theorem purify_any{base:Nat}{E E':Env}{look:Look}:∀ {ts:List Ty}{cs cs':List CV}{vs:List Value},(ts.all fun t=> !t.slices)=true->LRep E base look->purify look ts cs=some cs'->Vs E cs vs->Vs E' cs' vs
 |[],[],_,vs,_,_,h,hv=>by
  simp[purify]at h;subst h
  cases vs<;>exact hv
 |[],_::_,_,_,_,_,h,_=>by simp[purify]at h
 |_::_,[],_,_,_,_,h,_=>by simp[purify]at h
 |t::ts,c::cs,cs',[],_,_,_,hv=>hv.elim
 |t::ts,c::cs,cs',v::vs,ht,L,h,hv=>by
  simp only[List.all_cons,Bool.and_eq_true,Bool.not_eq_true']at ht
  simp only[purify]at h
  split at h
  ·rename_i x l hx hl
   simp at h;subst h
   refine⟨?_,purify_any ht.2 L hl hv.2⟩
   obtain⟨ha,htp⟩:=toPH_agg hx
   obtain⟨cells,h1,h2⟩:=hv.1.one1 htp
   have hn:=toPH_norefs ht.1 hx
   have hd:=toPH_rep L (I':=E.R) (fun _ h=>h) hx (subOK_norefs hn) h1 (fun g hg=>absurd hg (refH_none hn g))
   refine VRep1.up ⟨cells,CRep_ofP (E:=E') (RepD_any t x cells ht.1 hd),?_⟩ (isVal_tup (isVal_ofP t x))
   rw[isAgg_ofP,<-ha]
   exact h2
  ·cases h
def fN(ts rs:List Ty)(pre:HDen ts->Bool)(fn:HDen ts->HDen rs):Summ:=pureN ts fun cs=>match toH ts cs with
 |some x=>some (pre x,ofH rs (fn x))
 |none=>none
def shN(ts rs:List Ty)(p:HDen ts->Bool)(v:HDen ts->HDen rs):Summ:=fN ts rs p v
theorem summ_sh{rk:Nat->Loop->Prop}{P:Program}{f:Nat}{ts rs:List Ty}{F:HDen ts->Option (HDen rs)}{p:HDen ts->Bool}{v:HDen ts->HDen rs}{summ:Nat->Option Summ}{fns:Nat->Option IFn}{fu n:Nat}
 (hp:∀x,p x=(F x).isSome) (hv:∀x,v x=(F x).getD (dfH rs)) (hcall:∀base,CallOK P base rk (evFn (R:=CV×List Blk) summ fns fu n)) (hrz:Nat.ble RZ f=false) (hcb:callable P f=true)
 (h:∀x y,F x=some y->evFn summ fns fu n f (ofH ts x) [] (pureK rs)=some y):SummOK P f (shS ts rs p v):=by
 refine summ_fn hcall hrz hcb fun x hx=> ?_
 rw[hp]at hx
 obtain⟨y,hy⟩:=Option.isSome_iff_exists.1 hx
 obtain⟨c,hp2,h1,h2⟩:=evFn_nat summ fu fns n _ _ _ _ _ _ (h x y hy)
 obtain⟨l,rfl,h3,h4⟩:=pureK_some h1
 refine⟨l,hp2,h2 _ _ _ rfl,?_,h4⟩
 rw[h3,hv,hy];rfl
namespace Sp
def andI(k:IntKind)(x y:Int):Int:=k.wrap (BitVec.ofInt k.bits x&&&BitVec.ofInt k.bits y).toNat
def orI(k:IntKind)(x y:Int):Int:=k.wrap (BitVec.ofInt k.bits x|||BitVec.ofInt k.bits y).toNat
def xorI(k:IntKind)(x y:Int):Int:=k.wrap (BitVec.ofInt k.bits x ^^^ BitVec.ofInt k.bits y).toNat
def andnI(k:IntKind)(x y:Int):Int:=k.wrap (BitVec.ofInt k.bits x&&& ~~~ BitVec.ofInt k.bits y).toNat
end Sp
def jk:CV:= .junk
def bk(v:CV)(_:List Blk):Option Bool:=match v with| .bool b=>some b|_=>none
end Go.Ev
namespace Go.Ev
open Go Go.RowKit Go.Shelf Go.Lib Go.Proofs
variable{P:Program}{ρ:Ren}
set_option maxHeartbeats 2000000 in
set_option maxRecDepth 100000 in
theorem clone_zero(L:SlLaysE0.n41 P ρ)(i0:TypeInfo)(z:Value)(size bytes:Nat)(hi:P.info? (ρ.t 23)=some i0)(hz0:i0.zero=some z)(hz1:i0.size=size)(hz2:i0.bytes=bytes)(hzs:z.cells.size=size)(hsz:0<size)
 (z23:∀w,(Go.sizeOf (ρ.t 23)).run P w= .ok size w) (a:Addr) (c:Nat) (w:World) :
 Calls P (ρ.f 41) #[.slice (some a) 0 c] w fun e w'=>∃v',e= .returned v'/\w'.ownsRow w.heap.size (ρ.t 23) size v' 0 []/\v'≠ .slice none 0 0/\Below w.heap.size w w':=by
 have mixed:=L.mixed;have t4:=L.t4;have a4:=L.a4;have z4:=L.z4;have v4:=L.v4;have t22:=L.t22;have a22:=L.a22;have z22:=L.z22;have v22:=L.v22
 have q22:∀(w:World)(a:Option Addr)(n c n' c':Nat),(binOp .eql (ρ.t 22) (.slice a n c) (.slice none n' c')).run P w= .ok (.bool a.isNone) w:=fun w a n c n' c'=>Lib.run_eql_slice_nil w _ _ a n c n' c' L.t22
 have u22:∀w,Sem.run P (underlying (ρ.t 22)) w= .ok (TypeDesc.slice (ρ.t 23)) w:=run_underlying t22
 obtain⟨_,_,FG⟩:=L.f41
 go_enter FG,SlBodyN.n41_ntmps ρ
 go_wp2_with (at_builtin;refine wpList_append_own _ rfl _ _ (ρ.t 22) rfl w.heap.size (ρ.t 23) i0 z size bytes t22 hi hz0 hz1 hz2 hzs hsz _ _ _ rfl (World.ownsRow_made w #[] 0 (Nat.le_refl _) (Nat.zero_le _) (by simp)) a 0 c [] rfl (by simp) (by intro j u hj;simp at hj) (by intro u hu;cases hu) (by unfold maxLen;omega) (by omega) (by simp) ?_)
 intro v' w1 hown hgrow hnil
 go_wp2
 go_ret
 refine⟨v',rfl,by simpa using hown,?_,?_⟩
 ·exact hnil
 ·exact((Below.refl _ w).alloc (Nat.le_refl _) _).grown hgrow (by simp) (by intro k hk;simp[Value.ownBlock]at hk;omega)
end Go.Ev
namespace Go.Ev
open Go Go.RowKit
variable{P:Program}
def pureE(w:World)(I:Nat->Prop):Env:= {w:=w,I:=I,μ:=fun _=>0,σ:=fun _=>undef,live:=fun _=>False}
theorem HS.pureE{w:World}{I:Nat->Prop}(himm:∀g,I g->g<w.heap.size):HS w.heap.size (pureE w I) []:=by
 have hf:∀b,lookH [] b= .fresh:=fun b=>by simp[lookH]
 refine⟨fun b=>by rw[hf];trivial,fun b b' g h=>by rw[hf]at h;exact h.elim,fun b g h=>by rw[hf]at h;exact h.elim,himm,fun b=> ?_,Nat.le_refl _,(fun b rec i h=>by cases h),fun _ h=>h.elim,fun g hg hb=>absurd (himm g hg) (by have hb:w.heap.size<=g:=hb;omega)⟩
 show False↔_
 simp[hf]
end Go.Ev
namespace Go.Ev
open Go Go.RowKit
variable{P:Program}
def cloneF(u:Ty)(bytes:Nat):List CV->Option (Bool×List CV)
 |[.pure (.slice u') xs]=>if u'=u then some (room (List.length xs) bytes,[.pure (.slice u') xs])else none
 |_=>none
end Go.Ev
namespace Go.Ev
open Go Go.RowKit
variable{P:Program}
def vecS(u:Ty)(te bytes:Nat):Summ:=fun cs look nid=>match cs with
 |[c]=>match toPH look (.slice u) c with
  |some xs=>some ⟨c.subOK look&&room (List.length xs) bytes,.whole nid,[(nid,.vec te u xs)]⟩
  |none=>none
 |_=>none
theorem own_base{w:World}{b b' te size n:Nat}{v:Value}{xs:List Value}(h:b<=b')(ho:w.ownsRow b' te size v n xs):w.ownsRow b te size v n xs:=by
 refine⟨ho.1,?_⟩
 rcases ho.2 with h1|⟨g,cap,cur,h1,h2,h3⟩
 ·exact .inl h1
 ·exact .inr ⟨g,cap,cur,h1,by omega,h3⟩
end Go.Ev
namespace Go.Ev
open Go Go.RowKit
deriving instance DecidableEq for Step
def beqC:CV->CV->Bool
 | .junk,.junk=>true
 | .undef,.undef=>true
 | .nil a e,.nil b f=>Nat.beq a b&&decide (e=f)
 | .pure .unit _,.pure .unit _=>true
 | .pair a b,.pair c d=>beqC a c&&beqC b d
 | .whole a,.whole b=>Nat.beq a b
 | .ptr a p,.ptr b q=>Nat.beq a b&&decide (p=q)
 | .clo f a,.clo g b=>Nat.beq f g&&beqC a b
 | .tup a,.tup b=>beqC a b
 |_,_=>false
theorem beqC_eq:∀(a b:CV),beqC a b=true->a=b
 | .junk,b,h=>by cases b<;>first|rfl|cases h
 | .undef,b,h=>by cases b<;>first|rfl|cases h
 | .nil a e,b,h=>by
   cases b<;>first|(cases h;done)|skip
   simp only[beqC,Bool.and_eq_true,decide_eq_true_eq]at h
   rw[Nat.eq_of_beq_eq_true h.1,h.2]
 | .pure t x,b,h=>by
   cases b<;>first|(cases t<;>cases h;done)|skip
   rename_i u y
   cases t<;>cases u<;>first|(cases h;done)|rfl
 | .pair a b,c,h=>by
   cases c<;>first|(cases h;done)|skip
   simp only[beqC,Bool.and_eq_true]at h
   rw[beqC_eq _ _ h.1,beqC_eq _ _ h.2]
 | .whole a,b,h=>by
   cases b<;>first|(cases h;done)|skip
   rw[Nat.eq_of_beq_eq_true h]
 | .ptr a p,b,h=>by
   cases b<;>first|(cases h;done)|skip
   simp only[beqC,Bool.and_eq_true,decide_eq_true_eq]at h
   rw[Nat.eq_of_beq_eq_true h.1,h.2]
 | .clo f a,b,h=>by
   cases b<;>first|(cases h;done)|skip
   simp only[beqC,Bool.and_eq_true]at h
   rw[Nat.eq_of_beq_eq_true h.1,beqC_eq _ _ h.2]
 | .tup a,b,h=>by
   cases b<;>first|(cases h;done)|skip
   rename_i c
   exact congrArg CV.tup (beqC_eq a c h)
 | .int _ _,b,h=>by cases b<;>cases h
 | .bool _,b,h=>by cases b<;>cases h
 | .sub _ _ _ _ _ _,b,h=>by cases b<;>cases h
 | .ref _ _,b,h=>by cases b<;>cases h
 | .yld _ _ _,b,h=>by cases b<;>cases h
 | .jsl _ _,b,h=>by cases b<;>cases h
inductive PV where
 |kc (v:CV)|hv (t:Ty)|rf (t:Ty)|js (t:Ty)|pr (a b:PV)|cl (f:Nat) (a:PV)|yl (b i:Nat) (a:PV)
 |sb (b:Nat) (p:Path) (sz:Nat) (o l:Option Nat) (cap:Option (Option Nat))|px (b sz:Nat)
@[reducible] def nE (o:Option Nat) (r:Type):Type:=match o with|none=>Nat×r|some _=>r
@[reducible] def nE2 (o:Option (Option Nat)) (r:Type):Type:=match o with|none=>r|some o=>nE o r
@[reducible] def PV.E:PV->Type->Type
 | .kc _,r=>r
 | .hv t,r=>t.den×r
 | .rf t,r=>t.den×r
 | .js t,r=>List t.den×r
 | .pr a b,r=>a.E (b.E r)
 | .cl _ a,r=>a.E r
 | .yl _ _ a,r=>a.E r
 | .sb _ _ _ o l c,r=>nE o (nE l (nE2 c r))
 | .px _ _,r=>Nat×r
def nI{r:Type}:(o:Option Nat)->nE o r->Nat×r
 |none,e=>(e.1,e.2)
 |some n,e=>(n,e)
def nI2{r:Type}:(o:Option (Option Nat))->nE2 o r->Option Nat×r
 |none,e=>(none,e)
 |some o,e=>(some (nI o e).1,(nI o e).2)
def PV.inst:(p:PV)-> {r:Type}->p.E r->CV×r
 | .kc v,_,e=>(v,e)
 | .hv t,_,e=>(ofP t e.1,e.2)
 | .rf t,_,e=>(.ref t e.1,e.2)
 | .js t,_,e=>(.jsl t e.1,e.2)
 | .pr a b,_,e=>(.pair (a.inst e).1 (b.inst (a.inst e).2).1,(b.inst (a.inst e).2).2)
 | .cl f a,_,e=>(.clo f (a.inst e).1,(a.inst e).2)
 | .yl b i a,_,e=>(.yld b i (a.inst e).1,(a.inst e).2)
 | .sb b p sz o l c,_,e=>(.sub b p sz (nI o e).1 (nI l (nI o e).2).1 (nI2 c (nI l (nI o e).2).2).1,(nI2 c (nI l (nI o e).2).2).2)
 | .px b sz,_,e=>(.ptr b [.ix e.1 sz],e.2)
def nD{r:Type}:(o:Option Nat)->Nat->r->Option (nE o r)
 |none,n,t=>some (n,t)
 |some m,n,t=>if n=m then some t else none
def nD2{r:Type}:(o:Option (Option Nat))->Option Nat->r->Option (nE2 o r)
 |none,none,t=>some t
 |some o,some n,t=>nD o n t
 |_,_,_=>none
def ext:(t:Ty)->CV->Option t.den
 | .int k,.int k' n=>if k'=k then some n else none
 | .bool,.bool b=>some b
 | .int _,_=>none
 | .bool,_=>none
 |t,.pure t' x=>if h:t'=t then some (h▸x)else none
 |_,_=>none
def PV.dec:(p:PV)-> {r:Type}->CV->r->Option (p.E r)
 | .kc v,_,w,t=>if beqC w v=true then some t else none
 | .hv u,_,w,t=>match ext u w with|some x=>some (x,t)|none=>none
 | .rf u,_,w,t=>match w with| .ref u' x=>if h:u'=u then some (h▸x,t)else none|_=>none
 | .js u,_,w,t=>match w with| .jsl u' x=>if h:u'=u then some (h▸x,t)else none|_=>none
 | .pr a b,_,w,t=>match w with| .pair x y=>(match b.dec y t with|some t'=>a.dec x t'|none=>none)|_=>none
 | .cl f a,_,w,t=>match w with| .clo g x=>if g=f then a.dec x t else none|_=>none
 | .yl b i a,_,w,t=>match w with| .yld b' i' x=>if b'=b/\i'=i then a.dec x t else none|_=>none
 | .sb b p sz o l c,_,w,t=>match w with
   | .sub b' p' sz' o' l' c'=>if b'=b/\p'=p/\sz'=sz then(match nD2 c c' t with|some t1=>(match nD l l' t1 with|some t2=>nD o o' t2|none=>none)|none=>none)else none
   |_=>none
 | .px b sz,_,w,t=>match w with| .ptr b' [.ix n s]=>if b'=b/\s=sz then some (n,t)else none|_=>none
theorem nD_inst{r:Type}{o:Option Nat}{n:Nat}{t:r}{e:nE o r}(h:nD o n t=some e):nI o e=(n,t):=by
 cases o with
 |none=>simp only[nD,Option.some.injEq]at h;subst h;rfl
 |some m=>
  simp only[nD]at h
  split at h
  ·rename_i hm;injection h with h;subst h;subst hm;rfl
  ·cases h
theorem nD2_inst{r:Type}{o:Option (Option Nat)}{n:Option Nat}{t:r}{e:nE2 o r}(h:nD2 o n t=some e):nI2 o e=(n,t):=by
 cases o with
 |none=>
  cases n with
  |none=>simp only[nD2,Option.some.injEq]at h;subst h;rfl
  |some n=>cases h
 |some o=>
  cases n with
  |none=>cases h
  |some n=>simp only[nD2]at h;have:=nD_inst h;simp only[nI2,this]
theorem ext_eq{t:Ty}{w:CV}{x:t.den}(h:ext t w=some x):ofP t x=w:=by
 cases t<;>cases w<;>simp only[ext]at h<;>first|(cases h;done)|skip
 all_goals first
  |(split at h
    ·rename_i hk;subst hk;injection h with h;subst h;rfl
    ·cases h)
  |(injection h with h;subst h;rfl)
theorem PV.dec_inst:∀(p:PV){r:Type}{w:CV}{t:r}{e:p.E r},p.dec w t=some e->p.inst e=(w,t)
 | .kc v,r,w,t,e,h=>by
   simp only[PV.dec]at h
   split at h
   ·rename_i hb;injection h with h;subst h;rw[beqC_eq _ _ hb];rfl
   ·cases h
 | .hv u,r,w,t,e,h=>by
   simp only[PV.dec]at h
   split at h
   ·rename_i x hx;injection h with h;subst h;simp only[PV.inst,ext_eq hx]
   ·cases h
 | .rf u,r,w,t,e,h=>by
   simp only[PV.dec]at h
   split at h
   ·split at h
    ·rename_i hu;subst hu;injection h with h;subst h;rfl
    ·cases h
   ·cases h
 | .js u,r,w,t,e,h=>by
   simp only[PV.dec]at h
   split at h
   ·split at h
    ·rename_i hu;subst hu;injection h with h;subst h;rfl
    ·cases h
   ·cases h
 | .pr a b,r,w,t,e,h=>by
   simp only[PV.dec]at h
   split at h
   ·split at h
    ·rename_i x y t' ht
     have h1:=PV.dec_inst b ht
     have h2:=PV.dec_inst a h
     simp only[PV.inst,h2,h1]
    ·cases h
   ·cases h
 | .cl f a,r,w,t,e,h=>by
   simp only[PV.dec]at h
   split at h
   ·split at h
    ·rename_i hg;subst hg
     have h2:=PV.dec_inst a h
     simp only[PV.inst,h2]
    ·cases h
   ·cases h
 | .yl b i a,r,w,t,e,h=>by
   simp only[PV.dec]at h
   split at h
   ·split at h
    ·rename_i hg;obtain⟨rfl,rfl⟩:=hg
     have h2:=PV.dec_inst a h
     simp only[PV.inst,h2]
    ·cases h
   ·cases h
 | .sb b p sz o l c,r,w,t,e,h=>by
   simp only[PV.dec]at h
   split at h
   ·split at h
    ·rename_i hb
     obtain⟨rfl,rfl,rfl⟩:=hb
     split at h
     ·split at h
      ·rename_i h1 _ _ h2
       have h3:=nD_inst h
       have h4:=nD_inst h2
       have h5:=nD2_inst h1
       simp only[PV.inst,h3,h4,h5]
      ·cases h
     ·cases h
    ·cases h
   ·cases h
 | .px b sz,r,w,t,e,h=>by
   simp only[PV.dec]at h
   split at h
   ·split at h
    ·rename_i hb
     obtain⟨rfl,rfl⟩:=hb
     injection h with h;subst h;rfl
    ·cases h
   ·cases h
inductive PB where
 |dead|fresh|gh (n:Nat)|mem (p:PV)|vec (te:Nat) (e:Ty)|fvec (te:Nat) (e:Ty)
@[reducible] def PB.E:PB->Type->Type
 | .mem p,r=>p.E r
 | .vec _ e,r=>List e.den×r
 | .fvec _ e,r=>List e.den×r
 |_,r=>r
def PB.inst:(p:PB)-> {r:Type}->p.E r->Blk×r
 | .dead,_,e=>(.dead,e)
 | .fresh,_,e=>(.fresh,e)
 | .gh n,_,e=>(.ghost n,e)
 | .mem p,_,e=>(.mem (p.inst e).1,(p.inst e).2)
 | .vec te u,_,e=>(.vec te u e.1,e.2)
 | .fvec te u,_,e=>(.fvec te u e.1,e.2)
def PB.dec:(p:PB)-> {r:Type}->Blk->r->Option (p.E r)
 | .dead,_,b,t=>match b with| .dead=>some t|_=>none
 | .fresh,_,b,t=>match b with| .fresh=>some t|_=>none
 | .gh n,_,b,t=>match b with| .ghost m=>if m=n then some t else none|_=>none
 | .mem p,_,b,t=>match b with| .mem c=>p.dec c t|_=>none
 | .vec te u,_,b,t=>match b with| .vec te' u' x=>if h:u'=u then if te'=te then some (h▸x,t)else none else none|_=>none
 | .fvec te u,_,b,t=>match b with| .fvec te' u' x=>if h:u'=u then if te'=te then some (h▸x,t)else none else none|_=>none
theorem PB.dec_inst:∀(p:PB){r:Type}{b:Blk}{t:r}{e:p.E r},p.dec b t=some e->p.inst e=(b,t)
 | .dead,r,b,t,e,h=>by
   simp only[PB.dec]at h
   split at h
   ·injection h with h;subst h;rfl
   ·cases h
 | .fresh,r,b,t,e,h=>by
   simp only[PB.dec]at h
   split at h
   ·injection h with h;subst h;rfl
   ·cases h
 | .gh n,r,b,t,e,h=>by
   simp only[PB.dec]at h
   split at h
   ·split at h
    ·rename_i hm;subst hm;injection h with h;subst h;rfl
    ·cases h
   ·cases h
 | .mem p,r,b,t,e,h=>by
   simp only[PB.dec]at h
   split at h
   ·simp only[PB.inst,p.dec_inst h]
   ·cases h
 | .vec te u,r,b,t,e,h=>by
   simp only[PB.dec]at h
   split at h
   ·split at h
    ·rename_i hu;subst hu
     split at h
     ·rename_i ht;subst ht;injection h with h;subst h;rfl
     ·cases h
    ·cases h
   ·cases h
 | .fvec te u,r,b,t,e,h=>by
   simp only[PB.dec]at h
   split at h
   ·split at h
    ·rename_i hu;subst hu
     split at h
     ·rename_i ht;subst ht;injection h with h;subst h;rfl
     ·cases h
    ·cases h
   ·cases h
@[reducible] def bE:List PB->Type->Type
 |[],r=>r
 |p::ps,r=>p.E (bE ps r)
def bI:(ps:List PB)-> {r:Type}->bE ps r->List Blk×r
 |[],_,e=>([],e)
 |p::ps,_,e=>((p.inst e).1::(bI ps (p.inst e).2).1,(bI ps (p.inst e).2).2)
def bD:(ps:List PB)-> {r:Type}->List Blk->r->Option (bE ps r)
 |[],_,l,t=>match l with|[]=>some t|_=>none
 |p::ps,_,l,t=>match l with|b::l=>(match bD ps l t with|some t'=>p.dec b t'|none=>none)|_=>none
theorem bD_inst:∀(ps:List PB){r:Type}{l:List Blk}{t:r}{e:bE ps r},bD ps l t=some e->bI ps e=(l,t)
 |[],r,l,t,e,h=>by
  simp only[bD]at h
  split at h
  ·injection h with h;subst h;rfl
  ·cases h
 |p::ps,r,l,t,e,h=>by
  simp only[bD]at h
  split at h
  ·split at h
   ·rename_i t' ht
    have h1:=bD_inst ps ht
    have h2:=p.dec_inst h
    simp only[bI,h2,h1]
   ·cases h
  ·cases h
@[reducible] def sE:List (Nat×PV)->Type->Type
 |[],r=>r
 |p::ps,r=>p.2.E (sE ps r)
def sI:(ps:List (Nat×PV))-> {r:Type}->sE ps r->List (Nat×CV)×r
 |[],_,e=>([],e)
 |p::ps,_,e=>((p.1,(p.2.inst e).1)::(sI ps (p.2.inst e).2).1,(sI ps (p.2.inst e).2).2)
def sD:(ps:List (Nat×PV))-> {r:Type}->List CV->r->Option (sE ps r)
 |[],_,_,t=>some t
 |p::ps,_,l,t=>match sD ps l t with|some t'=>p.2.dec (l.getD p.1 .junk) t'|none=>none
theorem sD_inst:∀(ps:List (Nat×PV)){r:Type}{l:List CV}{t:r}{e:sE ps r},sD ps l t=some e->allAt l (sI ps e).1/\(sI ps e).1.map (·.1)=ps.map (·.1)/\(sI ps e).2=t
 |[],r,l,t,e,h=>by
  simp only[sD]at h
  injection h with h;subst h;exact⟨trivial,rfl,rfl⟩
 |p::ps,r,l,t,e,h=>by
  simp only[sD]at h
  split at h
  ·rename_i t' ht
   obtain⟨h1,h2,h3⟩:=sD_inst ps ht
   have h4:=p.2.dec_inst h
   have e1:(p.2.inst e).1=l.getD p.1 .junk:=by rw[h4]
   have e2:(p.2.inst e).2=t':=by rw[h4]
   simp only[sI,e1,e2,List.map_cons,h2]
   exact⟨⟨rfl,h1⟩,trivial,h3⟩
  ·cases h
structure PS where
 n:Nat
 sl:List (Nat×PV)
 hp:List PB
 fb:Nat
@[reducible] def PS.E (T:PS):Type:=sE T.sl (bE T.hp Unit)
def PS.inst(T:PS)(e:T.E):St:=⟨fill T.n (sI T.sl e).1,(bI T.hp (sI T.sl e).2).1,T.fb⟩
def PS.dec(T:PS)(S:St):Option T.E:=if shapeOK S T.n (T.sl.map (·.1)) T.fb=true then match bD T.hp S.hp ()with|some t=>sD T.sl S.sl t|none=>none else none
theorem PS.dec_inst{T:PS}{S:St}{e:T.E}(h:T.dec S=some e):S=T.inst e:=by
 unfold PS.dec at h
 split at h
 ·rename_i hs
  split at h
  ·rename_i t ht
   obtain⟨h1,h2,h3⟩:=sD_inst T.sl h
   have h4:=bD_inst T.hp ht
   unfold PS.inst
   rw[<-h2]at hs
   rw[st_of hs h1 rfl,h3,h4]
  ·cases h
 ·cases h
def sx(n:Nat)(l:List (Nat×CV))(hp:List Blk)(fb:Nat:=0):St:=⟨fill n l,hp,fb⟩
abbrev Orc(R:Type):=St->(Ex->St->Option R)->Option R
def orc{R:Type}(T:PS)(G:T.E->(Ex->St->Option R)->Option R)(o:Orc R:=fun _ _=>none):Orc R:=fun S k=>match T.dec S with|some e=>G e k|none=>o S k
def orL{R E:Type}(T:PS)(L:T.E->Option E)(Y:(Ex->St->Option R)->E->Option R)(o:Orc R:=fun _ _=>none):Orc R:=orc T (fun a k=>(L a).bind (Y k)) o
def isEnd:IC->Bool| .ret=>true| .exit _=>true|_=>false
def outer:IC->List IC
 | .seq a b=>outer a++outer b
 | .cond _ a b=>outer a++outer b
 | .block _ b=>outer b
 | .loop l b=>[.loop l b]
 | .cut l b=>if isEnd b=true then []else [.cut l b]
 |_=>[]
def inner:IC->IC| .loop _ b=>b| .cut _ b=>b|c=>c
def lv:IC->List Nat| .loop l _=>l| .cut l _=>l|_=>[]
def isLoop:IC->Bool| .loop _ _=>true|_=>false
def isCut:IC->Bool| .cut _ _=>true|_=>false
def mkT{R:Type}:IC->List (Orc R)->LT R
 | .seq a b,os=> .node (mkT a os) (mkT b (os.drop (outer a).length))
 | .cond _ a b,os=> .node (mkT a os) (mkT b (os.drop (outer a).length))
 | .block _ b,os=> .node (mkT b os) .nil
 | .loop _ _,os=>match os with|o::_=> .orc o|[]=> .nil
 | .cut _ b,os=>if isEnd b=true then .nil else match os with|o::_=> .orc o|[]=> .nil
 |_,_=> .nil
section
variable{R:Type}(summ:Nat->Option Summ)(fu:Nat)(call:CallT R)
def okN(c:IC)(o:Orc R):Prop:=match c with
 | .loop l b=>∀T k r,o T k=some r->evLoopN (evCode summ fu call b) (St.norm l) fu T k=some r
 | .cut _ b=>∀T k r,o T k=some r->evCode summ fu call b T k=some r
 |_=>True
def allN:List IC->List (Orc R)->Prop
 |c::cs,o::os=>okN summ fu call c o/\allN cs os
 |_,_=>True
variable{summ fu call}
theorem allN_app:∀(xs ys:List IC)(os:List (Orc R)),allN summ fu call (xs++ys) os->allN summ fu call xs os/\allN summ fu call ys (os.drop xs.length)
 |[],ys,os,h=>⟨trivial,h⟩
 |x::xs,ys,[],h=>⟨trivial,by cases ys<;>trivial⟩
 |x::xs,ys,o::os,h=>by
  obtain⟨h1,h2⟩:=allN_app xs ys os h.2
  exact⟨⟨h.1,h1⟩,h2⟩
theorem mkT_ok:∀(c:IC)(os:List (Orc R)),allN summ fu call (outer c) os->LTok summ fu call (mkT c os) c
 | .seq a b,os,h=>by
   obtain⟨h1,h2⟩:=allN_app _ _ _ h
   exact⟨mkT_ok a _ h1,mkT_ok b _ h2⟩
 | .cond _ a b,os,h=>by
   obtain⟨h1,h2⟩:=allN_app _ _ _ h
   exact⟨mkT_ok a _ h1,mkT_ok b _ h2⟩
 | .block _ b,os,h=>mkT_ok b os h
 | .loop l b,[],_=>trivial
 | .loop l b,o::os,h=>h.1
 | .cut l b,os,h=>by
   simp only[mkT,outer]at h⊢
   split
   ·trivial
   ·rename_i hb
    rw[if_neg hb]at h
    cases os with
    |nil=>trivial
    |cons o os=>exact h.1
 | .skip,_,_=>trivial
 | .region _ _ _,_,_=>trivial
 | .exit _,_,_=>trivial
 | .ret,_,_=>trivial
 | .rangef _ _ _ _ _ _,_,_=>trivial
end
def nd(c:IC)(i:Nat):IC:=(outer c).getD i .skip
def oksFrom{R:Type}(summ:Nat->Option Summ)(fu:Nat)(call:CallT R)(c:IC):Nat->List (Orc R)->Prop
 |_,[]=>True
 |i,o::os=>okN summ fu call (nd c i) o/\oksFrom summ fu call c (i+1) os
theorem oks_all{R:Type}{summ:Nat->Option Summ}{fu:Nat}{call:CallT R}{c:IC}:∀(os:List (Orc R))(i:Nat),oksFrom summ fu call c i os->allN summ fu call ((outer c).drop i) os
 |[],i,_=>by cases (outer c).drop i<;>trivial
 |o::os,i,h=>by
  rcases Nat.lt_or_ge i (outer c).length with hi|hi
  ·rw[List.drop_eq_getElem_cons hi]
   refine⟨?_,oks_all os (i+1) h.2⟩
   have:=h.1
   unfold nd at this
   rw[List.getD_eq_getElem?_getD,List.getElem?_eq_getElem hi]at this
   exact this
  ·rw[List.drop_eq_nil_of_le hi];trivial
theorem oks_ok{R:Type}{summ:Nat->Option Summ}{fu:Nat}{call:CallT R}{c:IC}{os:List (Orc R)}(h:oksFrom summ fu call c 0 os):LTok summ fu call (mkT c os) c:=mkT_ok c os (oks_all os 0 h)
theorem gdN{A B:Type}{c:Bool}{x:Option A}{f:A->Option B}{y:Option B}(h:x.bind f=y):(gd c x).bind f=gd c y:=by cases c;rfl;exact h
theorem condN{A B:Type}{c:Bool}{x x':Option A}{f:A->Option B}{y y':Option B}(h:x.bind f=y)(h':x'.bind f=y'):(bif c then x else x').bind f=bif c then y else y':=by cases c;exact h';exact h
section
variable{summ:Nat->Option Summ}{fns:Nat->Option IFn}{n:Nat}
theorem lpN{R E:Type}{b:St->(Ex->St->Option R)->Option R}{nrm:St->St}{T:PS}(L:Nat->T.E->Option E)(Sf:(R:Type)->(T.E->Option R)->(E->Option R)->T.E->Option R){k:Ex->St->Option R}{Y:E->Option R}
 (h0:∀a,L 0 a=none) (hs:∀m a,L (m+1) a=Sf E (L m) some a)
 (hb:∀K a,evLB b nrm (T.inst a) K k=Sf R (fun a=>K (T.inst a)) Y a)
 (hn:∀(K:T.E->Option E)a,(Sf E K some a).bind Y=Sf R (fun a=>(K a).bind Y) Y a):∀m a,evLoopN b nrm m (T.inst a) k=(L m a).bind Y
 |0,a=>by rw[h0];rfl
 |m+1,a=>by
  rw[evLoopN_succ,hb,hs,hn]
  congr 1
  funext a
  exact lpN L Sf h0 hs hb hn m a
theorem lp{R E:Type}{c:IC}{ov:Nat->Option (List CV->List Blk->(CV->List Blk->Option R)->Option R)}(ho:OvrOK ov (evFn summ fns FU n)){os:List (Orc R)}(hi:oksFrom summ FU (evFn summ fns FU n) (inner c) 0 os)(T:PS)(L:Nat->T.E->Option E)(Sf:(R:Type)->(T.E->Option R)->(E->Option R)->T.E->Option R)(Y:(Ex->St->Option R)->E->Option R)
 (h0:∀a,L 0 a=none) (hs:∀m a,L (m+1) a=Sf E (L m) some a)
 (hb:∀k K a,evLB (evCodeL summ FU (ovr ov (evFn summ fns FU n)) (mkT (inner c) os) (inner c)) (St.norm (lv c)) (T.inst a) K k=Sf R (fun a=>K (T.inst a)) (Y k) a)
 (hn:∀(Y:E->Option R)(K:T.E->Option E)a,(Sf E K some a).bind Y=Sf R (fun a=>(K a).bind Y) Y a) {o:Orc R} (hq:okN summ FU (evFn summ fns FU n) c o) (hc:isLoop c=true:=by kernel_rfl) :
 okN summ FU (evFn summ fns FU n) c (orL T (L FU) Y o):=by
 cases c with
 |loop l b=>
  intro S k r h
  unfold orL orc at h
  split at h
  ·rename_i e he
   rw[PS.dec_inst he]
   refine evLoopN_L ho (oks_ok hi) _ _ _ _ ?_
   rw[<-h]
   exact lpN L Sf h0 hs (hb k) (hn (Y k)) FU e
  ·exact hq _ _ _ h
 |_=>cases hc
theorem lpN2{R E E2:Type}{b:St->(Ex->St->Option R)->Option R}{nrm:St->St}{T T2:PS}(L:Nat->T.E->Option E)(L2:Nat->T2.E->Option E2)(Sf:(R:Type)->(T.E->Option R)->(T2.E->Option R)->(E->Option R)->T.E->Option R){k:Ex->St->Option R}{Y:E->Option R}{Y2:E2->Option R}(C:E2->E)
 (h0:∀a,L 0 a=none) (hs:∀m a,L (m+1) a=Sf E (L m) (fun q=>(L2 m q).bind fun e=>some (C e)) some a) (hC:∀e,Y (C e)=Y2 e)
 (h2:∀m q,evLoopN b nrm m (T2.inst q) k=(L2 m q).bind Y2)
 (hb:∀K a,evLB b nrm (T.inst a) K k=Sf R (fun a=>K (T.inst a)) (fun q=>K (T2.inst q)) Y a)
 (hn:∀(K:T.E->Option E)(K2:T2.E->Option E)a,(Sf E K K2 some a).bind Y=Sf R (fun a=>(K a).bind Y) (fun q=>(K2 q).bind Y) Y a):∀m a,evLoopN b nrm m (T.inst a) k=(L m a).bind Y
 |0,a=>by rw[h0];rfl
 |m+1,a=>by
  rw[evLoopN_succ,hb,hs,hn]
  congr 1
  ·funext a
   exact lpN2 L L2 Sf C h0 hs hC h2 hb hn m a
  ·funext q
   rw[h2]
   cases L2 m q with
   |none=>rfl
   |some e=>exact(hC e).symm
theorem lp2{R E E2:Type}{c:IC}{ov:Nat->Option (List CV->List Blk->(CV->List Blk->Option R)->Option R)}(ho:OvrOK ov (evFn summ fns FU n)){os:List (Orc R)}(hi:oksFrom summ FU (evFn summ fns FU n) (inner c) 0 os)(T T2:PS)(L:Nat->T.E->Option E)(L2:Nat->T2.E->Option E2)(Sf:(R:Type)->(T.E->Option R)->(T2.E->Option R)->(E->Option R)->T.E->Option R)(Y:(Ex->St->Option R)->E->Option R)(Y2:(Ex->St->Option R)->E2->Option R)(C:E2->E)
 (h0:∀a,L 0 a=none) (hs:∀m a,L (m+1) a=Sf E (L m) (fun q=>(L2 m q).bind fun e=>some (C e)) some a) (hC:∀k e,Y k (C e)=Y2 k e)
 (h2:∀k m q,evLoopN (evCodeL summ FU (ovr ov (evFn summ fns FU n)) (mkT (inner c) os) (inner c)) (St.norm (lv c)) m (T2.inst q) k=(L2 m q).bind (Y2 k))
 (hb:∀k K a,evLB (evCodeL summ FU (ovr ov (evFn summ fns FU n)) (mkT (inner c) os) (inner c)) (St.norm (lv c)) (T.inst a) K k=Sf R (fun a=>K (T.inst a)) (fun q=>K (T2.inst q)) (Y k) a)
 (hn:∀(Y:E->Option R)(K:T.E->Option E)(K2:T2.E->Option E)a,(Sf E K K2 some a).bind Y=Sf R (fun a=>(K a).bind Y) (fun q=>(K2 q).bind Y) Y a) {o:Orc R} (hq:okN summ FU (evFn summ fns FU n) c o) (hc:isLoop c=true:=by kernel_rfl) :
 okN summ FU (evFn summ fns FU n) c (orL T (L FU) Y o):=by
 cases c with
 |loop l b=>
  intro S k r h
  unfold orL orc at h
  split at h
  ·rename_i e he
   rw[PS.dec_inst he]
   refine evLoopN_L ho (oks_ok hi) _ _ _ _ ?_
   rw[<-h]
   exact lpN2 L L2 Sf C h0 hs (hC k) (h2 k) (hb k) (hn (Y k)) FU e
  ·exact hq _ _ _ h
 |_=>cases hc
theorem lp0{R E:Type}{c:IC}(T:PS)(L:Nat->T.E->Option E)(Sf:(R:Type)->(T.E->Option R)->(E->Option R)->T.E->Option R)(Y:(Ex->St->Option R)->E->Option R)
 (hb:∀k K a,evLB (evCodeL summ FU (ovr noO (evFn summ fns FU n)) (mkT (inner c) []) (inner c)) (St.norm (lv c)) (T.inst a) K k=Sf R (fun a=>K (T.inst a)) (Y k) a)
 (hn:∀(Y:E->Option R)(K:T.E->Option E)a,(Sf E K some a).bind Y=Sf R (fun a=>(K a).bind Y) Y a) {o:Orc R} (hq:okN summ FU (evFn summ fns FU n) c o) (h0:∀a,L 0 a=none:=by intro _;rfl) (hs:∀m a,L (m+1) a=Sf E (L m) some a:=by intro _ _;rfl) (hc:isLoop c=true:=by kernel_rfl) :
 okN summ FU (evFn summ fns FU n) c (orL T (L FU) Y o):=lp noO_ok (os:=[]) trivial T L Sf Y h0 hs hb hn hq hc
theorem ok0{R:Type}{call:CallT R}(c:IC):okN summ FU call c (fun _ _=>none):=by
 unfold okN
 cases c<;>first|trivial|(intro _ _ _ h;cases h)
theorem jp{R E:Type}{c:IC}{ov:Nat->Option (List CV->List Blk->(CV->List Blk->Option R)->Option R)}(ho:OvrOK ov (evFn summ fns FU n)){os:List (Orc R)}(hi:oksFrom summ FU (evFn summ fns FU n) (inner c) 0 os)(T:PS)(Sf:(R:Type)->(E->Option R)->T.E->Option R)(Y:(Ex->St->Option R)->E->Option R)
 (hb:∀k a,evJ (evCodeL summ FU (ovr ov (evFn summ fns FU n)) (mkT (inner c) os) (inner c)) (T.inst a) k=Sf R (Y k) a)
 (hn:∀(Y:E->Option R)a,(Sf E some a).bind Y=Sf R Y a) {o:Orc R} (hq:okN summ FU (evFn summ fns FU n) c o) (hc:isCut c=true:=by kernel_rfl) :
 okN summ FU (evFn summ fns FU n) c (orL T (Sf E some) Y o):=by
 cases c with
 |cut l b=>
  intro S k r h
  unfold orL orc at h
  split at h
  ·rename_i e he
   rw[PS.dec_inst he]
   refine bodyL_sound ho (oks_ok hi) ?_
   rw[<-h]
   exact(hb k e).trans (hn (Y k) e).symm
  ·exact hq _ _ _ h
 |_=>cases hc
end
theorem erase_if{p:Prop} [Decidable p]{l:List Nat}{x:IC}:(if p then IC.cut l x else x).erase=x.erase:=by split<;>rfl
theorem flow_erase(wm:Nat)(ret:List Nat):∀(c:IC)(ex:List (Nat×List Nat))(out:List Nat)(es:List AEnv)(acc:Nat),(flow wm ret c ex out es acc).c.erase=c.erase
 | .skip,_,_,_,_=>rfl
 | .region _ _ _,_,_,_,_=>rfl
 | .seq a b,ex,out,es,acc=>by simp only[flow,IC.erase,erase_if,flow_erase wm ret a,flow_erase wm ret b]
 | .cond c a b,ex,out,es,acc=>by simp only[flow,IC.erase,erase_if,flow_erase wm ret a,flow_erase wm ret b]
 | .block id b,ex,out,es,acc=>by simp only[flow,IC.erase,flow_erase wm ret b]
 | .loop l b,ex,out,es,acc=>by simp only[flow,IC.erase,flow_erase wm ret b]
 | .cut l b,ex,out,es,acc=>by simp only[flow,IC.erase,flow_erase wm ret b]
 | .exit _,_,_,_,_=>rfl
 | .ret,_,_,_,_=>rfl
 | .rangef id g lv ps a b,ex,out,es,acc=>by simp only[flow,IC.erase,flow_erase wm [] a,flow_erase wm [] b]
theorem compC_erase(P:Program)(sm:Nat->Bool)(f:Nat):∀c:Code,(compC P sm f c).erase=compC P sm f c
 | .region _ ops draw=>by
   simp only[compC]
   split
   ·rfl
   ·split
    ·split<;>rfl
    ·rfl
 | .seq a b=>by simp only[compC,IC.erase,compC_erase P sm f a,compC_erase P sm f b]
 | .cond c a b=>by simp only[compC,IC.erase,compC_erase P sm f a,compC_erase P sm f b]
 | .block id b=>by simp only[compC,IC.erase,compC_erase P sm f b]
 | .loop b=>by simp only[compC,IC.erase,compC_erase P sm f b]
 | .skip=>rfl
 | .exit _=>rfl
 | .ret=>rfl
 | .goto _=>rfl
 | .label _=>rfl
 | .scope _=>rfl
 | .refuse _=>rfl
 | .rangeFunc _ _ a b=>by simp only[compC,IC.erase,compC_erase P sm f a,compC_erase P sm f b]
def oneF(fn:Func):Bool:=match fn.body with|some b=>oneR b|none=>true
def cutB(c:Bool)(n:Nat)(g:IFn):IFn:=if c=true then {g with body:= .cut (List.range n) g.body}else g
def fnsP(P:Program)(sm:Nat->Bool)(w:Nat->Nat)(cf df:Nat->Bool)(f:Nat):Option IFn:=match P.funcs[f]? with
 |some fn=>if df f=true\/fn.name= "runtime.NumGoroutine" \/oneF fn=false then none else match comp P sm f fn (w f)with
  |some g=>some (cutB (cf f) (fn.params.size+fn.nfree) g)
  |none=>none
 |none=>none
theorem fnsP_ok{P:Program}{sm:Nat->Bool}{w:Nat->Nat}{cf df:Nat->Bool}:FnsOK P sm (fnsP P sm w cf df):=by
 intro f g h
 unfold fnsP at h
 split at h
 ·rename_i fn hfn
  split at h
  ·cases h
  ·rename_i hn
   split at h
   ·rename_i g' hg
    injection h with h
    subst h
    unfold comp at hg
    split at hg
    ·cases hg
    ·rename_i b hb
     injection hg with hg
     subst hg
     have hk:∀(n:Nat)(c:Bool)(g:IFn),(cutB c n g).key=g.key:=by
      intro n c g
      unfold cutB IFn.key
      split<;>rfl
     rw[hk]
     unfold fnKey IFn.key
     simp only[hfn,hb,flow_erase,compC_erase]
     have h1:=not_or.1 (not_or.1 hn).2
     have h2:(fn.name != "runtime.NumGoroutine")=true:=by simpa using h1.1
     have h3:oneR b=true:=by
      have:=h1.2
      unfold oneF at this
      simp only[hb]at this
      simpa using this
     rw[h2,h3]
     rfl
   ·cases h
 ·cases h
def fO(fns:Nat->Option IFn)(f:Nat):IFn:=match fns f with|some g=>g|none=>⟨0,[],.skip⟩
abbrev fB(fns:Nat->Option IFn)(f:Nat):IC:=(fO fns f).body
section
variable{summ:Nat->Option Summ}{fns:Nat->Option IFn}{d:Nat}
theorem runG{R:Type}{N:Nat}{ov:Nat->Option (List CV->List Blk->(CV->List Blk->Option R)->Option R)}(ho:OvrOK ov (evFn summ fns FU d)){os:List (Orc R)}(hos:oksFrom summ FU (evFn summ fns FU d) (fB fns N) 0 os){args:List CV}{hp:List Blk}{k:CV->List Blk->Option R}{r:R}
 (h:evFnL summ FU (ovr ov (evFn summ fns FU d)) (mkT (fB fns N) os) (fO fns N) args hp k=some r) (hf:(fns N).isSome=true:=by kernel_rfl) (hrz:Nat.ble RZ N=false:=by kernel_rfl):evFn summ fns FU (d+1) N args hp k=some r:=by
 obtain⟨fn,hfn⟩:=Option.isSome_iff_exists.1 hf
 have e:fO fns N=fn:=by unfold fO;rw[hfn]
 unfold fB at hos h
 rw[e]at hos h
 exact evFnL_sound hrz hfn ho (oks_ok hos) h
end
abbrev fR(fns:Nat->Option IFn)(f:Nat):List Nat×IC×IC:=rndO (fO fns f)
theorem pvG{α:Type}{o:Option α}{e y:α}(h:o=some y):o.isSome=true/\o.getD e=y:=by subst h;exact⟨rfl,rfl⟩
def smL:List (Nat×Summ)->Nat->Option Summ
 |[],_=>none
 |p::l,f=>bif Nat.beq f p.1 then some p.2 else smL l f
def SmAll(P:Program):List (Nat×Summ)->Prop
 |[]=>True
 |p::l=>SummOK P p.1 p.2/\SmAll P l
theorem smL_ok{P:Program}:∀ {l:List (Nat×Summ)},SmAll P l->∀f s,smL l f=some s->SummOK P f s
 |[],_,f,s,h=>by cases h
 |p::l,h,f,s,e=>by
  unfold smL at e
  cases hb:Nat.beq f p.1
  ·rw[hb]at e;exact smL_ok h.2 f s e
  ·rw[hb]at e
   injection e with e
   subst e
   rw[Nat.eq_of_beq_eq_true hb]
   exact h.1
theorem callG{P:Program}{sm:Nat->Bool}{w:Nat->Nat}{cf df:Nat->Bool}(hm:P.follows .mixedOrders=true){l:List (Nat×Summ)}(h:SmAll P l){R:Type}(n base:Nat):CallOK P base (rokOf P sm (fnsP P sm w cf df)) (evFn (R:=R) (smL l) (fnsP P sm w cf df) FU n) :=
 ev_sound hm (smL_ok h) (fun f s e=>(smL_ok h f s e).2.1) fnsP_ok n
theorem sokS{P:Program}{sm:Nat->Bool}{w:Nat->Nat}{cf df:Nat->Bool}(hm:P.follows .mixedOrders=true){l:List (Nat×Summ)}{f n:Nat}{ts rs:List Ty}{F:HDen ts->Option (HDen rs)}
 (h:∀x y,F x=some y->evFn (smL l) (fnsP P sm w cf df) FU n f (ofH ts x) [] (pureK rs)=some y) (hl:SmAll P l) (hcb:callable P f=true:=by kernel_rfl) (hrz:Nat.ble RZ f=false:=by kernel_rfl):SummOK P f (shS ts rs (fun x=>(F x).isSome) (fun x=>(F x).getD (dfH rs))) :=
 summ_sh (fun _=>rfl) (fun _=>rfl) (callG hm hl n) hrz hcb h
end Go.Ev
namespace Go.Ev
open Go Go.RowKit
def lmT:List Bool->Ty->Ty
 |true::q,.pair _ b=>lmT q b
 |false::q,.pair a _=>lmT q a
 |[],.pair a _=>lmT [] a
 |_,.slice u=>u
 |_,t=>t
def lmV:(p:List Bool)->(t:Ty)->t.den->List (lmT p t).den
 |true::q,.pair _ b,x=>lmV q b x.2
 |false::q,.pair a _,x=>lmV q a x.1
 |[],.pair a _,x=>lmV [] a x.1
 |[],.slice _,x=>x|true::_,.slice _,x=>x|false::_,.slice _,x=>x
 |[],.int _,_=>[]|[],.bool,_=>[]|[],.str,_=>[]|[],.unit,_=>[]|[],.arr _ _,_=>[]
 |true::_,.int _,_=>[]|true::_,.bool,_=>[]|true::_,.str,_=>[]|true::_,.unit,_=>[]|true::_,.arr _ _,_=>[]
 |false::_,.int _,_=>[]|false::_,.bool,_=>[]|false::_,.str,_=>[]|false::_,.unit,_=>[]|false::_,.arr _ _,_=>[]
def hasB(o:Option Nat)(l:List Nat):Bool:=match o with|some n=>l.contains n|none=>false
def ownL(look:Look)(te:Nat)(u:Ty):CV->Option (Option Nat×List u.den)
 | .nil _ _=>some (none,([]:List u.den))
 | .whole b=>match look b with
   | .vec te' u' xs=>if h:te'=te/\u'=u then some (some b,(h.2▸xs:List u.den))else none
   |_=>none
 |_=>none
def ownV(look:Look)(te:Nat):List Bool->(t:Ty)->CV->Option (Option Nat×t.den)
 |_,.slice u,c=>ownL look te u c
 |true::q,.pair a b,.pair c d=>match toPH look a c with
  |some x=>match ownV look te q b d with
   |some r=>if hasB r.1 c.refs then none else some (r.1,(x,r.2))
   |none=>none
  |none=>none
 |false::q,.pair a b,.pair c d=>match ownV look te q a c with
  |some r=>match toPH look b d with
   |some y=>if hasB r.1 d.refs then none else some (r.1,(r.2,y))
   |none=>none
  |none=>none
 |[],.pair a b,.pair c d=>match ownV look te [] a c with
  |some r=>match toPH look b d with
   |some y=>if hasB r.1 d.refs then none else some (r.1,(r.2,y))
   |none=>none
  |none=>none
 |_,_,_=>none
def ownC(nid:Nat):List Bool->(t:Ty)->t.den->CV
 |_,.slice _,_=> .whole nid
 |true::q,.pair a b,x=> .pair (ofP a x.1) (ownC nid q b x.2)
 |false::q,.pair a b,x=> .pair (ownC nid q a x.1) (ofP b x.2)
 |[],.pair a b,x=> .pair (ownC nid [] a x.1) (ofP b x.2)
 |_,.int k,x=> .int k x|_,.bool,x=> .bool x|_,.str,x=> .pure .str x|_,.unit,x=> .pure .unit x|_,.arr n e,x=> .pure (.arr n e) x
def restR:List Bool->Ty->CV->List Nat
 |true::q,.pair _ b,.pair c d=>c.refs++restR q b d
 |false::q,.pair a _,.pair c d=>restR q a c++d.refs
 |[],.pair a _,.pair c d=>restR [] a c++d.refs
 |_,_,_=>[]
theorem ownV_sl(look:Look)(te:Nat)(p:List Bool)(u:Ty)(c:CV):ownV look te p (.slice u) c=ownL look te u c:=by
 cases p with
 |nil=>rw[ownV]
 |cons b q=>cases b<;>rw[ownV]
theorem restR_sl(p:List Bool)(u:Ty)(c:CV):restR p (.slice u) c=[]:=by
 cases p with
 |nil=>rfl
 |cons b q=>cases b<;>rfl
theorem own_rest{look:Look}{te n:Nat}:∀ {t:Ty}{p:List Bool}{c:CV}{x:t.den},ownV look te p t c=some (some n,x)->n∉restR p t c:=by
 intro t
 induction t with
 |slice u=>intro p c x _;rw[restR_sl];simp
 |pair a b iha ihb=>
  intro p c x h
  have left:∀q,(∀ {c:CV}{x:a.den},ownV look te q a c=some (some n,x)->n∉restR q a c)->∀c d,(match ownV look te q a c with|some r=>(match toPH look b d with|some y=>if hasB r.1 d.refs then none else some (r.1,(r.2,y))|none=>none)|none=>none)=some (some n,x)->n∉restR q a c++d.refs:=by
   intro q ih c d h
   split at h
   ·rename_i r hr
    split at h
    ·split at h
     ·cases h
     ·rename_i hb
      obtain⟨r1,r2⟩:=r
      simp at h
      obtain⟨rfl,_⟩:=h
      have:=ih hr
      simp only[hasB]at hb
      simp only[List.mem_append,not_or]
      exact⟨this,by simpa using hb⟩
    ·cases h
   ·cases h
  cases p with
  |nil=>
   cases c<;>simp only[ownV]at h<;>try (cases h;done)
   exact left [] iha _ _ h
  |cons f q=>
   cases f with
   |false=>
    cases c<;>simp only[ownV]at h<;>try (cases h;done)
    exact left q iha _ _ h
   |true=>
    cases c<;>simp only[ownV]at h<;>try (cases h;done)
    split at h
    ·split at h
     ·rename_i r hr
      split at h
      ·cases h
      ·rename_i hb
       obtain⟨r1,r2⟩:=r
       simp at h
       obtain⟨rfl,_⟩:=h
       have:=ihb hr
       simp only[hasB]at hb
       simp only[restR,List.mem_append,not_or]
       exact⟨by simpa using hb,this⟩
     ·cases h
    ·cases h
 |_=>intros p c x h;cases p with
     |nil=>cases c<;>simp[ownV]at h
     |cons f q=>cases f<;>cases c<;>simp[ownV]at h
theorem own_agg{look:Look}{te:Nat}{p:List Bool}:∀ {t:Ty}{c:CV}{r:Option Nat×t.den},ownV look te p t c=some r->c.isAgg=t.agg/\(∀d,c≠ .tup d)/\∀nid,(ownC nid p t r.2).isAgg=t.agg/\∀d,ownC nid p t r.2≠ .tup d:=by
 intro t
 cases t with
 |pair a b=>
  intro c r h
  cases p with
  |nil=>cases c<;>simp only[ownV]at h<;>try (cases h;done)
        exact⟨rfl,by simp,fun nid=>⟨rfl,by simp[ownC]⟩⟩
  |cons f q=>cases f<;>cases c<;>simp only[ownV]at h<;>try (cases h;done)
             all_goals exact⟨rfl,by simp,fun nid=>⟨rfl,by simp[ownC]⟩⟩
 |slice u=>
  intro c r h
  rw[ownV_sl]at h
  have e:∀nid,ownC nid p (.slice u) r.2= .whole nid:=fun nid=>by
   cases p with
   |nil=>rfl
   |cons f q=>cases f<;>rfl
  cases c<;>simp only[ownL]at h<;>try (cases h;done)
  all_goals exact⟨rfl,by simp,fun nid=>⟨by rw[e];rfl,by rw[e];simp⟩⟩
 |_=>intros c r h;cases p with
     |nil=>cases c<;>simp[ownV]at h
     |cons f q=>cases f<;>cases c<;>simp[ownV]at h
theorem own_rep{E:Env}{base:Nat}{look:Look}(L:LRep E base look){te:Nat}{I2:Nat->Prop}(hI:∀g,E.R g->I2 g):∀ {t:Ty}{p:List Bool}{c:CV}{o:Option Nat}{x:t.den}{cells:List Value},ownV look te p t c=some (o,x)->c.subOK look=true->CRep E c cells->(∀b∈restR p t c,∀g,holdsB E b (look b) g->I2 g) ->
 ∃v rows,E.w.ownsRow base te (lmT p t).size v (lmV p t x).length rows/\Rows (RepD E.w E.R (lmT p t)) (lmV p t x) rows/\(∀g,v.ownBlock=some g->∃b,o=some b/\holdsB E b (look b) g)/\(∃a n k,v= .slice a n k) /\
  ∀(E':Env)(nid:Nat),E'.w=E.w->(∀g,I2 g->E'.R g)->E'.live nid->E'.σ nid=v->CRep E' (ownC nid p t x) cells:=by
 intro t
 induction t with
 |slice u=>
  intro p c o x cells h hs hc hr
  rw[ownV_sl]at h
  have e1:lmT p (.slice u)=u:=by
   cases p with
   |nil=>rfl
   |cons f q=>cases f<;>rfl
  have key:∃v rows,E.w.ownsRow base te u.size v (List.length x) rows/\Rows (RepD E.w E.R u) x rows/\(∀g,v.ownBlock=some g->∃b,o=some b/\holdsB E b (look b) g)/\(∃a n k,v= .slice a n k) /\
   ∀(E':Env)(nid:Nat),E'.live nid->E'.σ nid=v->CRep E' (.whole nid) cells:=by
   cases c<;>simp only[ownL]at h<;>try (cases h;done)
   ·simp at h
    obtain⟨rfl,rfl⟩:=h
    have hc:cells=[.slice none 0 0]:=hc
    subst hc
    exact⟨.slice none 0 0,[],World.ownsRow_nil _ _ _ _,rfl,(fun g hg=>by cases hg),⟨_,_,_,rfl⟩,(fun E' nid hl hσ=>⟨hl,(by rw[hσ]),_,_,_,hσ⟩)⟩
   ·rename_i b
    split at h
    ·rename_i te' u' xs hlk
     split at h
     ·rename_i he
      obtain⟨rfl,rfl⟩:=he
      simp at h
      obtain⟨rfl,rfl⟩:=h
      obtain⟨hl,rfl,hsl⟩:=hc
      have hb:=L b
      rw[hlk]at hb
      obtain⟨cells,hrw,hown,hpos,hg⟩:=hb
      refine⟨E.σ b,cells,hown,hrw,(fun g hg=>⟨b,rfl,(by rw[hlk];exact hg)⟩),hsl,(fun E' nid hl hσ=>⟨hl,(by rw[hσ]),?_⟩)⟩
      obtain⟨a,n,k,e⟩:=hsl
      exact⟨a,n,k,hσ.trans e⟩
     ·cases h
    ·cases h
  obtain⟨v,rows,k1,k2,k3,k4,k5⟩:=key
  cases p with
  |nil=>exact⟨v,rows,k1,k2,k3,k4,fun E' nid _ _ h1 h2=>k5 E' nid h1 h2⟩
  |cons f q=>cases f<;>exact⟨v,rows,k1,k2,k3,k4,fun E' nid _ _ h1 h2=>k5 E' nid h1 h2⟩
 |pair a b iha ihb=>
  intro p c o x cells h hs hc hr
  have left:∀q c d,(match ownV look te q a c with|some r=>(match toPH look b d with|some y=>if hasB r.1 d.refs then none else some (r.1,(r.2,y))|none=>none)|none=>none)=some (o,x)->(CV.pair c d).subOK look=true->CRep E (.pair c d) cells->(∀b'∈restR q a c++d.refs,∀g,holdsB E b' (look b') g->I2 g) ->
   ∃v rows,E.w.ownsRow base te (lmT q a).size v (lmV q a x.1).length rows/\Rows (RepD E.w E.R (lmT q a)) (lmV q a x.1) rows/\(∀g,v.ownBlock=some g->∃b,o=some b/\holdsB E b (look b) g)/\(∃a n k,v= .slice a n k) /\
    ∀(E':Env)(nid:Nat),E'.w=E.w->(∀g,I2 g->E'.R g)->E'.live nid->E'.σ nid=v->CRep E' (.pair (ownC nid q a x.1) (ofP b x.2)) cells:=by
   intro q c d h hs hc hr
   split at h
   ·rename_i r hra
    split at h
    ·rename_i y hy
     split at h
     ·cases h
     ·obtain⟨r1,r2⟩:=r
      simp at h
      obtain⟨rfl,rfl⟩:=h
      obtain⟨c1,c2,rfl,h1,h2⟩:=hc
      simp only[CV.subOK,Bool.and_eq_true]at hs
      obtain⟨v,rows,g1,g2,g3,g4,g5⟩:=iha hra hs.1 h1 (fun b hb=>hr b (by simp[hb]))
      have hd:=toPH_rep L (I':=I2) hI hy hs.2 h2 (fun g⟨b,hb,hg⟩=>hr b (by simp[hb]) g hg)
      refine⟨v,rows,g1,g2,g3,g4,(fun E' nid hw hI' hl hσ=>⟨c1,c2,rfl,g5 E' nid hw hI' hl hσ,CRep_ofP ?_⟩)⟩
      rw[hw]
      exact RepD.mono (w:=E.w) (w':=E.w) hI' (fun _ _=>rfl) _ _ _ hd
    ·cases h
   ·cases h
  cases p with
  |nil=>
   cases c<;>simp only[ownV]at h<;>try (cases h;done)
   exact left [] _ _ h hs hc hr
  |cons f q=>
   cases f with
   |false=>
    cases c<;>simp only[ownV]at h<;>try (cases h;done)
    exact left q _ _ h hs hc hr
   |true=>
    cases c<;>simp only[ownV]at h<;>try (cases h;done)
    split at h
    ·rename_i y hy
     split at h
     ·rename_i r hrb
      split at h
      ·cases h
      ·obtain⟨r1,r2⟩:=r
       simp at h
       obtain⟨rfl,rfl⟩:=h
       obtain⟨c1,c2,rfl,h1,h2⟩:=hc
       simp only[CV.subOK,Bool.and_eq_true]at hs
       simp only[restR]at hr
       obtain⟨v,rows,g1,g2,g3,g4,g5⟩:=ihb hrb hs.2 h2 (fun b hb=>hr b (by simp[hb]))
       have hd:=toPH_rep L (I':=I2) hI hy hs.1 h1 (fun g⟨b,hb,hg⟩=>hr b (by simp[hb]) g hg)
       refine⟨v,rows,g1,g2,g3,g4,(fun E' nid hw hI' hl hσ=>⟨c1,c2,rfl,CRep_ofP ?_,g5 E' nid hw hI' hl hσ⟩)⟩
       rw[hw]
       exact RepD.mono (w:=E.w) (w':=E.w) hI' (fun _ _=>rfl) _ _ _ hd
     ·cases h
    ·cases h
 |_=>intros p c o x cells h;cases p with
     |nil=>cases c<;>simp[ownV]at h
     |cons f q=>cases f<;>cases c<;>simp[ownV]at h
def ownK(te:Nat)(pt:List Bool)(t:Ty)(ts:List Ty)(v:CV)(hp:List Blk):Option (HDen (t::ts)):=match untup (ts.length+1) v with
 |some (c::l)=>match ownV (lookH hp) te pt t c with
  |some r=>if hasB r.1 (l.flatMap CV.refs)then none else gd (subsOK (lookH hp) (c::l)) (match purify (lookH hp) ts l with
   |some cs=>match toH ts cs with|some y=>some (r.2,y)|none=>none
   |none=>none)
  |none=>none
 |_=>none
theorem ownK_some{te:Nat}{pt:List Bool}{t:Ty}{ts:List Ty}{v:CV}{hp:List Blk}{y:HDen (t::ts)}(h:ownK te pt t ts v hp=some y):∃c l o,v=tupOf (c::l)/\ownV (lookH hp) te pt t c=some (o,y.1)/\hasB o (l.flatMap CV.refs)=false/\subsOK (lookH hp) (c::l)=true/\purify (lookH hp) ts l=some (ofH ts y.2):=by
 unfold ownK at h
 split at h
 ·rename_i c l hl
  split at h
  ·rename_i r hr
   split at h
   ·cases h
   ·rename_i hb
    obtain⟨h1,h2⟩:=gd_some h
    split at h2
    ·rename_i cs hcs
     obtain⟨x,rfl⟩:=purify_ofH hcs
     rw[toH_ofH]at h2
     simp at h2;subst h2
     exact⟨c,l,r.1,(untup_tup hl).symm,hr,by simpa using hb,h1,hcs⟩
    ·cases h2
  ·cases h
 ·cases h
def ownS(ats:List Ty)(te:Nat)(pt:List Bool)(t:Ty)(ts:List Ty)(p:HDen ats->Bool)(v:HDen ats->HDen (t::ts)):Summ:=fun cs look nid=>match purify look ats cs with
 |none=>none
 |some cs'=>match toH ats cs' with
  |none=>none
  |some x=>some ⟨subsOK look cs&&p x,tupOf (ownC nid pt t (v x).1::ofH ts (v x).2),frzs look cs++[(nid,.vec te (lmT pt t) (lmV pt t (v x).1))]⟩
theorem ownS_congr(ats:List Ty)(te:Nat)(pt:List Bool)(t:Ty)(ts:List Ty)(p:HDen ats->Bool)(v:HDen ats->HDen (t::ts)):SummC (ownS ats te pt t ts p v):=by
 intro cs look look' nid h
 unfold ownS
 rw[purify_congr h,subsOK_congr h,frzs_congr h]
theorem summ_own{rk:Nat->Loop->Prop}{P:Program}{f te:Nat}{pt:List Bool}{ats:List Ty}{t:Ty}{ts:List Ty}{F:HDen ats->Option (HDen (t::ts))}{p:HDen ats->Bool}{v:HDen ats->HDen (t::ts)}{summ:Nat->Option Summ}{fns:Nat->Option IFn}{fu n:Nat}
 (hpos:0<(lmT pt t).size) (hp0:∀x,p x=(F x).isSome) (hv0:∀x,v x=(F x).getD (dfH (t::ts))) (hcall:∀base,CallOK P base rk (evFn (R:=CV×List Blk) summ fns fu n)) (hrz:Nat.ble RZ f=false) (hcb:callable P f=true)
 (h:∀x y,F x=some y->evFn summ fns fu n f (ofH ats x) [] (ownK te pt t ts)=some y):SummOK P f (ownS ats te pt t ts p v):=by
 refine⟨hcb,ownS_congr _ _ _ _ _ _ _,?_⟩
 intro base E hp cs vs nid out H hvs hs hok hf hn
 unfold ownS at hs
 split at hs
 ·cases hs
 ·rename_i cs' hcs'
  split at hs
  ·cases hs
  ·rename_i x hx
   simp at hs;subst hs
   simp only[Bool.and_eq_true]at hok
   obtain⟨hsub,hpx⟩:=hok
   obtain⟨x',e'⟩:=purify_ofH hcs'
   subst e'
   rw[toH_ofH]at hx
   simp at hx;subst hx
   rw[hp0]at hpx
   obtain⟨y,hy⟩:=Option.isSome_iff_exists.1 hpx
   have ey:v x'=y:=by rw[hv0,hy];rfl
   obtain⟨c0,hp2,hk1,hk2⟩:=evFn_nat summ fu fns n _ _ _ _ _ _ (h x' y hy)
   obtain⟨c,l,o,rfl,hov,hob,hso,hpl⟩:=ownK_some hk1
   obtain⟨_,ht,_⟩:=purify_tup hcs'
   obtain⟨E',hle,H',hw,_,_,hlive,hI⟩:=HS.frzs (lookH hp) (cs.flatMap CV.refs) H (fun _=> .inl rfl) (Vs_refs hvs ht)
   have hvs0:Vs (E'.clean rk) (ofH ats x') vs:=purify_rep (base:=base) (E':=(E'.clean rk)) H.blk hw hle.R hcs' hsub hvs (fun c hc g⟨b,hb,hg⟩=>hI g (.inr ⟨b,List.mem_flatMap.2 ⟨c,hc,hb⟩,hg⟩))
   have hc:=((hcall _).1 f (ofH ats x') [] _ _ hrz (hk2 _ (fun v h=>some (v,h)) _ rfl) (E'.clean rk) vs rfl H'.empty hvs0).2
   rw[<-hw]
   refine Calls.mono hc ?_
   rintro e w' ⟨v1,c1,hp1,E1,rfl,hk,rfl,hle1,H1,hv1,_⟩
   simp only[Option.some.injEq,Prod.mk.injEq]at hk
   obtain⟨rfl,rfl⟩:=hk
   obtain⟨hll,ht0,htl⟩:=purify_tup hpl
   obtain⟨hag,htc,hag2⟩:=own_agg hov
   have ht1:∀c'∈c::l,∀d,c'≠ .tup d:=fun c' hc'=>by
    rcases List.mem_cons.1 hc' with rfl|hc'
    ·exact htc
    ·exact ht0 c' hc'
   obtain⟨us,hus,hback⟩:=tup_split hv1 ht1
   match us,hus with
   |u0::ur,⟨hu0,hur⟩ =>
   obtain⟨cells,g1,g2⟩:=hu0.one1 htc
   obtain⟨I2,hI2⟩:∃I2:Nat->Prop,I2=fun g=>E1.I g\/∃b,b∈restR pt t c++l.flatMap CV.refs/\holdsB E1 b (lookH hp1 b) g:=⟨_,rfl⟩
   have hI2a:∀g,E1.I g->I2 g:=fun g hg=>by rw[hI2];exact .inl hg
   have hI2b:∀b,b∈restR pt t c++l.flatMap CV.refs->∀g,holdsB E1 b (lookH hp1 b) g->I2 g:=fun b hb g hg=>by rw[hI2];exact .inr ⟨b,hb,hg⟩
   have jE:E1.J=E'.J:=hle1.J
   have hR2a:∀g,E1.R g->({E' with w:=E1.w,I:=I2}:Env).R g:=fun g hg=>⟨hI2a g hg.1,fun hj=>hg.2 (by rw[jE];exact hj)⟩
   have hR2b:∀b,b∈restR pt t c++l.flatMap CV.refs->∀g,holdsB E1 b (lookH hp1 b) g->({E' with w:=E1.w,I:=I2}:Env).R g:=fun b hb g hg=>⟨hI2b b hb g hg,fun hj=>H1.heldJ hg (by rw[jE];exact hj)⟩
   simp only[subsOK,List.all_cons,Bool.and_eq_true]at hso
   obtain⟨v0,rows,r1,r2,r3,r4,r5⟩:=own_rep H1.blk (I2:=({E' with w:=E1.w,I:=I2}:Env).R) hR2a hov hso.1 g1 (fun b hb g hg=>hR2b b (List.mem_append.2 (.inl hb)) g hg)
   obtain⟨hle3,H3⟩:=H'.back H1 hle1 I2 hI2a (fun g hg=>by
    rw[hI2]at hg
    rcases hg with h|⟨b,_,h⟩
    ·exact .inl h
    ·exact .inr ⟨(H1.sep b g h).2,H1.held_lt h,H1.heldThaw h⟩)
   have hnl:¬E'.live nid:=fun hl=>by
    rw[hlive]at hl
    exact(H.live nid).1 hl hf
   have hfr:lookH (wrAll hp (frzs (lookH hp) cs)) nid= .fresh:=by
    rcases Classical.em (lookH (wrAll hp (frzs (lookH hp) cs)) nid= .fresh)with h1|h1
    ·exact h1
    ·exact absurd ((H'.live nid).2 h1) hnl
   have hown:v0.ownBlock=none\/∃g b,v0.ownBlock=some g/\o=some b/\holdsB E1 b (lookH hp1 b) g:=by
    cases hg:v0.ownBlock with
    |none=>exact .inl rfl
    |some g=>obtain⟨b,h1,h2⟩:=r3 g hg;exact .inr ⟨g,b,rfl,h1,h2⟩
   have hE:({E' with w:=E1.w,I:=I2}:Env).w.heap.size=E1.w.heap.size:=rfl
   obtain⟨hle4,H4⟩:=H3.newVec (n:=nid) hfr (Nat.le_trans hn (wrAll_len _ _)) (w':=E1.w) (v:=v0) (te:=te) (e:=lmT pt t) (xs:=lmV pt t y.1) (cells:=rows) (Below.refl _ _) (fun _ _=>rfl) (fun _ _ _=>rfl)
    (Rows.mono (fun x c=>RepD.mono hR2a (fun _ _=>rfl) (lmT pt t) x c) _ _ r2) (own_base H'.base r1) hpos (fun g hg=>by
     obtain⟨b,h1,h2⟩:=r3 g hg
     subst h1
     refine⟨fun hi=> ?_,fun b2 hb2=> ?_⟩
     ·have hi:I2 g:=hi
      rw[hI2]at hi
      rcases hi with hi|⟨b3,hb3,hg3⟩
      ·exact(H1.sep b g h2).1 hi
      ·have:=H1.inj b b3 g h2 hg3
       subst this
       rcases List.mem_append.1 hb3 with hb3|hb3
       ·exact own_rest hov hb3
       ·simp only[hasB]at hob
        have:(l.flatMap CV.refs).contains b=true:=by simpa using hb3
        rw[this]at hob;cases hob
     ·have h3:=H'.held_lt hb2
      have h4:=(H1.sep b g h2).2
      omega)
   refine⟨v1,({E' with w:=E1.w,I:=I2}:Env).newVec nid E1.w v0,rfl,rfl,hle.trans (hle3.trans hle4),?_,hback _ (ownC nid pt t (v x').1::ofH ts (v x').2) ?_ ?_ ?_⟩
   ·rw[wrAll_append,ey];exact H4
   ·rw[ey]
    refine⟨VRep1.up ⟨cells,r5 _ nid rfl (fun g hg=>hg) (.inr rfl) (by simp[Env.newVec,upd_same]),?_⟩ (hag2 nid).2,?_⟩
    ·rw[(hag2 nid).1,<-hag];exact g2
    ·exact purify_rep (base:=E'.w.heap.size) (E:=E1) (E':=({E' with w:=E1.w,I:=I2}:Env).newVec nid E1.w v0) H1.blk rfl hR2a hpl hso.2 hur (fun c' hc' g⟨b,hb,hg⟩=>hR2b b (List.mem_append.2 (.inr (List.mem_flatMap.2 ⟨c',hc',hb⟩))) g hg)
   ·rw[ey];simpa using hll
   ·rw[ey]
    intro c' hc'
    rcases List.mem_cons.1 hc' with rfl|hc'
    ·exact(hag2 nid).2
    ·exact htl c' hc'
end Go.Ev
namespace Go.Ev
open Go Go.RowKit
theorem sokO{P:Program}{sm:Nat->Bool}{w:Nat->Nat}{cf df:Nat->Bool}(hm:P.follows .mixedOrders=true){l:List (Nat×Summ)}{f n te:Nat}{pt:List Bool}{ats:List Ty}{t:Ty}{ts:List Ty}{F:HDen ats->Option (HDen (t::ts))}
 (h:∀x y,F x=some y->evFn (smL l) (fnsP P sm w cf df) FU n f (ofH ats x) [] (ownK te pt t ts)=some y) (hl:SmAll P l) (hpos:0<(lmT pt t).size:=by decide) (hcb:callable P f=true:=by kernel_rfl) (hrz:Nat.ble RZ f=false:=by kernel_rfl):SummOK P f (ownS ats te pt t ts (fun x=>(F x).isSome) (fun x=>(F x).getD (dfH (t::ts)))) :=
 summ_own hpos (fun _=>rfl) (fun _=>rfl) (callG hm hl n) hrz hcb h
end Go.Ev
set_option linter.unusedVariables false
set_option linter.unusedSimpArgs false
namespace Go.Ev
open Go Go.Shelf Go.RowKit Go.Lib Go.Proofs
variable{P:Program}{ρ:Ren}
structure InsL(P:Program)(ρ:Ren)(z:Value)(by_:Nat):Prop where
 mixed:P.follows .mixedOrders=true
 f22:Bears P (ρ.f 22) (Body2.n22 ρ)
 f29:∃fn,P.funcs[ρ.f 29]? =some fn/\(fn.name== "runtime.NumGoroutine")=false/\fn.body.isNone=true/\Extern.findNext fn=none/\Extern.find fn=some (Extern.SlicesOverlaps.overlaps #[(ρ.t 24),(ρ.t 24)] #[(ρ.t 4)])
 t0:P.underlying (ρ.t 0)=some (TypeDesc.tuple #[])
 a0:∀w,(isAgg (ρ.t 0)).run P w= .ok false w
 z0:∀w,(Go.sizeOf (ρ.t 0)).run P w= .ok 1 w
 v0:∀w,(zeroValue (ρ.t 0)).run P w= .ok (Value.tuple #[]) w
 t3:P.underlying (ρ.t 3)=some (TypeDesc.int IntKind.i64)
 a3:∀w,(isAgg (ρ.t 3)).run P w= .ok false w
 z3:∀w,(Go.sizeOf (ρ.t 3)).run P w= .ok 1 w
 v3:∀w,(zeroValue (ρ.t 3)).run P w= .ok (Value.int IntKind.i64 0) w
 t4:P.underlying (ρ.t 4)=some (TypeDesc.bool)
 a4:∀w,(isAgg (ρ.t 4)).run P w= .ok false w
 z4:∀w,(Go.sizeOf (ρ.t 4)).run P w= .ok 1 w
 v4:∀w,(zeroValue (ρ.t 4)).run P w= .ok (Value.bool false) w
 z9:∀w,(Go.sizeOf (ρ.t 9)).run P w= .ok 2 w
 t24:P.underlying (ρ.t 24)=some (TypeDesc.slice (ρ.t 9))
 a24:∀w,(isAgg (ρ.t 24)).run P w= .ok false w
 z24:∀w,(Go.sizeOf (ρ.t 24)).run P w= .ok 1 w
 v24:∀w,(zeroValue (ρ.t 24)).run P w= .ok (Value.slice none 0 0) w
 i9:(P.info? (ρ.t 9)).map (fun i=>(i.zero,i.size,i.bytes))=some (some z,2,by_)
 c9:z.cells.size=2
theorem run_copy_two(w:World)(dT sT ty elem:TypeId)(b o dLen dCap:Nat)(a:Addr)(sLen sCap:Nat)(cs:List Value)
 (hu:P.underlying dT=some (.slice elem)) (hs:(P.info? elem).map (·.size)=some 2) (hn:cs.length=Nat.min sLen dLen*2)
 (hsrc:∀j v,cs[j]? =some v->w.cell? (a.add j)=some v) (hc:∀j,j<cs.length->(w.cell? ⟨b,o+j,none⟩).isSome=true) (hf:∀j,j<cs.length->w.frozen? ⟨b,o+j,none⟩=false) (h1:∀v∈cs,v.oneCell'=true) :
 (Builtin.copy_ #[dT,sT] ty #[.slice (some ⟨b,o,none⟩) dLen dCap,.slice (some a) sLen sCap]).run P w= .ok (goInt (Nat.min sLen dLen)) (w.setCells b o cs):=by
 have hl:=run_loadCells_list (P:=P) w a cs hsrc
 have hst:=run_storeCells_cells (P:=P) b o cs 0 w (by simpa using hc) (by simpa using hf) h1
 cases hq:P.info? elem with
 |none=>simp[hq]at hs
 |some i=>
  have hi:i.size=2:=by simpa[hq]using hs
  simp[Builtin.copy_,run_underlying hu,Builtin.lenOf,Builtin.firstCells,sizeOf,typeInfo,hq,hi,<-hn,hl,hst]
theorem wp_copy_runJ(w:World){o:Oper}{a:Act}{K:Act->World->Prop}{Q:Exit->Act->World->Prop}(d s:Operand)(t t':TypeId)
 (ho:o.op= .call {callee:= .builtin .copy,args:= #[d,s],argTypes:= #[t,t']}) (v u:Value) (hd:a.eval d=v) (hs:a.eval s=u) {v':Value} {w':World}
 (hr:(Builtin.copy_ #[t,t'] o.type #[v,u]).run P w= .ok v' w') (h:K (a.put o.dst v') w'):o.wp P a w K Q:=by
 unfold Oper.wp execOp
 simp only[ho,resolve,invoke,builtin,Sem.run_bind,Sem.run_pure,Result.andThen_ok,List.map_toArray,List.map_cons,List.map_nil,hd,hs,hr]
 exact h
theorem wpList_copy_runJ(w:World){ops:Array Oper}{rest:List Oper}{o:Oper}{a:Act}{Q:Exit->Act->World->Prop}(hgd:o.guard=none)(d s:Operand)(t t':TypeId)
 (ho:o.op= .call {callee:= .builtin .copy,args:= #[d,s],argTypes:= #[t,t']}) (v u:Value) (hd:a.eval d=v) (hs:a.eval s=u) {v':Value} {w':World}
 (hr:(Builtin.copy_ #[t,t'] o.type #[v,u]).run P w= .ok v' w') (h:wpList P ops Q rest (a.put o.dst v') w'):wpList P ops Q (o::rest) a w:=
 wpList_plain hgd fun _ hK=>wp_copy_runJ w d s t t' ho v u hd hs hr (hK _ _ h)
theorem step_copy_runJ{ops:Array Oper}{o:Oper}{a:Act}{w:World}{K:Act->World->Prop}{Q:Exit->Act->World->Prop}{E:Prop}
 (hg:o.guard=none) (d x:Operand) (dT sT:TypeId) (hop:o.op=Op.call {callee:=Callee.builtin Builtin.copy,args:= #[d,x],argTypes:= #[dT,sT]})
 (v u:Value) (hd:a.eval d=v) (hx:a.eval x=u) {v':Value} {w':World} (hr:(Builtin.copy_ #[dT,sT] o.type #[v,u]).run P w= .ok v' w') (hK:K (a.put o.dst v') w') :
 if Region.wanted o (yielded ops a.tmps)=true then Oper.wp P o a w K Q else E:=by
 have hw:Region.wanted o (yielded ops a.tmps)=true:=by simp[Region.wanted,hg]
 rw[if_pos hw]
 unfold Oper.wp
 simp[execOp,hop,resolve,invoke,builtin,hd,hx,hr,Result.andThen]
 exact hK
theorem isSome_setCellsJ(b:Nat)(vs:List Value)(o:Nat)(w:World)(h:∀j,j<vs.length->(w.cell? ⟨b,o+j,none⟩).isSome=true)(k:Nat)(hk:(w.cell? ⟨b,k,none⟩).isSome=true):((w.setCells b o vs).cell? ⟨b,k,none⟩).isSome=true:=by
 by_cases hin:o<=k/\k<o+vs.length
 ·have:=World.cell?_setCells_in b vs o w h (k-o) (by omega)
  rw[show o+(k-o)=k by omega]at this
  rw[this];rfl
 ·rw[World.cell?_setCells_out b vs o w ⟨b,k,none⟩ (fun _ _=>by show k<o\/o+vs.length<=k;omega)]
  exact hk
set_option maxHeartbeats 4000000 in
set_option maxRecDepth 100000 in
theorem ins_shift{z:Value}{by_:Nat}(L:InsL P ρ z by_)(b off n c i vb voff m vc:Nat)(cs vs:List Value)(w:World)(hi:i<n)(hm:0<m)(hroom:n+m<=c)(hc63:c<=9223372036854775807)(hvb:vb≠b)
 (hcl:cs.length=n*2) (hvl:vs.length=m*2)
 (hcs:∀j v,cs[j]? =some v->w.cell? ⟨b,off+j,none⟩=some v) (hsp:∀j,j<(n+m)*2->(w.cell? ⟨b,off+j,none⟩).isSome=true) (hfz:∀j,j<(n+m)*2->w.frozen? ⟨b,off+j,none⟩=false)
 (hvs:∀j v,vs[j]? =some v->w.cell? ⟨vb,voff+j,none⟩=some v) (h1c:∀v∈cs,v.oneCell'=true) (h1v:∀v∈vs,v.oneCell'=true)
 (tA tB:TypeId) (kA kB:Nat) (hsa:w.shape? vb=some (tA,kA)) (hsb:w.shape? b=some (tB,kB)) (hkB:kB≠0) (hfa:w.frozen? ⟨vb,voff,none⟩=false) (hfe:w.frozen? ⟨vb,kA,none⟩=false) :
 Calls P (ρ.f 22) #[.slice (some ⟨b,off,none⟩) n c,.int .i64 i,.slice (some ⟨vb,voff,none⟩) m vc] w fun e w'=>
  e= .returned (.slice (some ⟨b,off,none⟩) (n+m) c)/\w'=(w.drew.setCells b (off+(i+m)*2) (cs.drop (i*2))).setCells b (off+i*2) vs:=by
 have t0:=L.t0;have a0:=L.a0;have z0:=L.z0;have v0:=L.v0;have t3:=L.t3;have a3:=L.a3;have z3:=L.z3;have v3:=L.v3;have t4:=L.t4;have a4:=L.a4;have z4:=L.z4;have v4:=L.v4;have z9:=L.z9;have t24:=L.t24;have a24:=L.a24;have z24:=L.z24;have v24:=L.v24
 have u0:=run_underlying L.t0;have u3:=run_underlying L.t3;have u4:=run_underlying L.t4;have u24:=run_underlying L.t24
 have hz1:¬((m:Int)=0):=by omega
 have hz2:¬((i:Int)=(n:Int)):=by omega
 have hsz:(P.info? (ρ.t 9)).map (·.size)=some 2:=by
  obtain⟨i0,hi0,h0,h1,h2⟩:=info_parts L.i9
  rw[hi0];simp[h1]
 have hov:∀lb cb,(callFunc (ρ.f 29) #[.slice (some ⟨vb,voff,none⟩) m vc,.slice (some ⟨b,off+(i+m)*2,none⟩) lb cb]).run P w= .ok (.value (.bool false)) w:=fun lb cb=>by
  obtain⟨fn,F29,n1,n2,n3,n4⟩:=L.f29
  rw[run_callFunc_extern F29 n1 n2 n3 n4,
   Lib.run_overlaps_apart w (ρ.t 24) (ρ.t 4) (ρ.t 9) L.t24 2 L.z9 ⟨vb,voff,none⟩ ⟨b,off+(i+m)*2,none⟩ m vc lb cb hvb tA tB kA kB hsa hsb hkB hfa hfe]
  rfl
 have hdl:(cs.drop (i*2)).length=(n-i)*2:=by rw[List.length_drop,hcl];omega
 have mixed:=L.mixed
 have hw1:IntKind.i64.wrap ((i:Int)+(m:Int))=(i:Int)+(m:Int):=by rw[IntKind.wrap_i64];omega
 have hb1:(0:Int)<=(i:Int)+(m:Int):=by omega
 have hin:i<=n:=by omega
 have htn:((i:Int)+(m:Int)).toNat=i+m:=by omega
 have hb2:¬(c=i+m):=by omega
 have hb3:(i:Int)<=(n:Int)+(m:Int):=by omega
 have hb4:¬(c=i):=by omega
 have hcp1:∀ty dc sc,(Builtin.copy_ #[(ρ.t 24),(ρ.t 24)] ty #[.slice (some ⟨b,off+(i+m)*2,none⟩) (n+m-(i+m)) dc,.slice (some ⟨b,off+i*2,none⟩) (n+m-i) sc]).run P w.drew= .ok (goInt (Nat.min (n+m-i) (n+m-(i+m)))) (w.drew.setCells b (off+(i+m)*2) (cs.drop (i*2))):=fun ty dc sc=>
  run_copy_two w.drew _ _ ty (ρ.t 9) b (off+(i+m)*2) (n+m-(i+m)) dc ⟨b,off+i*2,none⟩ (n+m-i) sc (cs.drop (i*2)) L.t24 hsz (by rw[hdl];simp only[Nat.min_def];split<;>omega)
   (fun j v hj=>by rw[Addr.add_lit,Nat.add_assoc];exact hcs (i*2+j) v (by rwa [List.getElem?_drop]at hj))
   (fun j hj=>by rw[Nat.add_assoc];exact hsp _ (by omega)) (fun j hj=>by rw[Nat.add_assoc];exact hfz _ (by omega)) (fun v hv=>h1c v (List.mem_of_mem_drop hv))
 obtain⟨W1,hW1⟩:∃W1,W1=w.drew.setCells b (off+(i+m)*2) (cs.drop (i*2)):=⟨_,rfl⟩
 have hsp1:∀k,k<(n+m)*2->(W1.cell? ⟨b,off+k,none⟩).isSome=true:=fun k hk=>by
  rw[hW1]
  exact isSome_setCellsJ b _ _ _ (fun j hj=>by rw[Nat.add_assoc];exact hsp _ (by omega)) _ (hsp k hk)
 have hcp2:∀(W:World),(∀x,W.cell? x=W1.cell? x)->(∀x,W.frozen? x=W1.frozen? x)->∀ty dc,(Builtin.copy_ #[(ρ.t 24),(ρ.t 24)] ty #[.slice (some ⟨b,off+i*2,none⟩) (n+m-i) dc,.slice (some ⟨vb,voff,none⟩) m vc]).run P W= .ok (goInt (Nat.min m (n+m-i))) (W.setCells b (off+i*2) vs):=fun W hWc hWf ty dc=>
  run_copy_two W _ _ ty (ρ.t 9) b (off+i*2) (n+m-i) dc ⟨vb,voff,none⟩ m vc vs L.t24 hsz (by rw[hvl];simp only[Nat.min_def];split<;>omega)
   (fun j v hj=>by
    rw[Addr.add_lit,hWc,hW1,World.cell?_setCells_out b _ _ _ _ (fun h _=>absurd h hvb)]
    exact hvs j v hj)
   (fun j hj=>by rw[hWc,Nat.add_assoc];exact hsp1 _ (by omega)) (fun j hj=>by rw[hWf,hW1,World.frozen?_setCells,Nat.add_assoc];exact hfz _ (by omega)) h1v
 rw[<-hW1]at hcp1
 obtain⟨_,_,F22⟩:=L.f22
 go_enter F22,Body2.n22_ntmps ρ
 go_wp2_with (simp only[hov])
 go_region_law_o (refine step_copy_runJ rfl _ _ (ρ.t 24) (ρ.t 24) rfl _ _ (by simp[Act.eval,Act.put]) (by simp[Act.eval,Act.put]) (hcp1 _ _ _) ?_)
 go_wp2_with (at_builtin;refine wpList_copy_runJ _ rfl _ _ (ρ.t 24) (ρ.t 24) rfl _ _ rfl rfl (hcp2 _ (fun _=>rfl) (fun _=>rfl) _ _) ?_)
 go_ret
 first|exact⟨rfl,rfl⟩|exact⟨rfl,by rw[hW1]⟩
set_option maxHeartbeats 4000000 in
set_option maxRecDepth 100000 in
theorem ins_end{z:Value}{by_:Nat}(L:InsL P ρ z by_)(base:Option Addr)(n c vb voff m vc:Nat)(w:World)(hm:0<m)(hnc:n<=c)(hc63:c<=9223372036854775807)(hnil:base=none->n=0/\c=0)(hlit:∀a,base=some a->a.spot=none)
 {v':Value} {w':World} (hrun:∀ty,(Builtin.append_ #[(ρ.t 24),(ρ.t 24)] ty #[.slice base n c,.slice (some ⟨vb,voff,none⟩) m vc]).run P w= .ok v' w') :
 Calls P (ρ.f 22) #[.slice base n c,.int .i64 n,.slice (some ⟨vb,voff,none⟩) m vc] w fun e x=>e= .returned v'/\x=w':=by
 have t0:=L.t0;have a0:=L.a0;have z0:=L.z0;have v0:=L.v0;have t3:=L.t3;have a3:=L.a3;have z3:=L.z3;have v3:=L.v3;have t4:=L.t4;have a4:=L.a4;have z4:=L.z4;have v4:=L.v4;have z9:=L.z9;have t24:=L.t24;have a24:=L.a24;have z24:=L.z24;have v24:=L.v24
 have u0:=run_underlying L.t0;have u3:=run_underlying L.t3;have u4:=run_underlying L.t4;have u24:=run_underlying L.t24
 have mixed:=L.mixed
 have hz1:¬((m:Int)=0):=by omega
 obtain⟨_,_,F22⟩:=L.f22
 go_enter F22,Body2.n22_ntmps ρ
 cases base with
 |none=>
  have h0:=(hnil rfl).1
  have h0':=(hnil rfl).2
  subst h0;subst h0'
  go_wp2_with (at_builtin;refine Lib.wpList_append_run _ rfl _ _ _ _ rfl _ _ rfl rfl _ _ (hrun _) ?_)
  go_ret
  exact⟨rfl,rfl⟩
 |some a=>
  obtain⟨ab,ao,asp⟩:=a
  have:=hlit _ rfl
  simp only at this
  subst this
  go_wp2_with (at_builtin;refine Lib.wpList_append_run _ rfl _ _ _ _ rfl _ _ rfl rfl _ _ (hrun _) ?_)
  all_goals (go_ret;exact⟨rfl,rfl⟩)
set_option maxHeartbeats 4000000 in
set_option maxRecDepth 100000 in
theorem ins_grow{z:Value}{by_:Nat}(L:InsL P ρ z by_)(b off n c i vb voff m vc:Nat)(cs vs:List Value)(w:World)(hi:i<n)(hm:0<m)(hnc:n<=c)(hroom:c<n+m)(hbig:(n+m)*by_<=140737488355328)(hbp:0<by_)
 (hcl:cs.length=n*2) (hvl:vs.length=m*2)
 (hcs:∀j v,cs[j]? =some v->w.cell? ⟨b,off+j,none⟩=some v)
 (hvs:∀j v,vs[j]? =some v->w.cell? ⟨vb,voff+j,none⟩=some v) (h1c:∀v∈cs,v.oneCell'=true) (h1v:∀v∈vs,v.oneCell'=true) :
 Calls P (ρ.f 22) #[.slice (some ⟨b,off,none⟩) n c,.int .i64 i,.slice (some ⟨vb,voff,none⟩) m vc] w fun e w'=>
  e= .returned (.slice (some ⟨w.heap.size,0,none⟩) (n+m) (grownCap w (n+m) c (ρ.t 9))) /\
  w'=(((w.alloc (.cells ((cs.take (i*2)).toArray++Builtin.zeroCells z.cells (n+m-i)++Builtin.zeroCells z.cells (grownCap w (n+m) c (ρ.t 9)-(n+m))) (ρ.t 9))).drew.setCells w.heap.size (i*2) vs).drew).setCells w.heap.size ((i+m)*2) (cs.drop (i*2)):=by
 have t0:=L.t0;have a0:=L.a0;have z0:=L.z0;have v0:=L.v0;have t3:=L.t3;have a3:=L.a3;have z3:=L.z3;have v3:=L.v3;have t4:=L.t4;have a4:=L.a4;have z4:=L.z4;have v4:=L.v4;have z9:=L.z9;have t24:=L.t24;have a24:=L.a24;have z24:=L.z24;have v24:=L.v24
 have u0:=run_underlying L.t0;have u3:=run_underlying L.t3;have u4:=run_underlying L.t4;have u24:=run_underlying L.t24
 have mixed:=L.mixed
 obtain⟨i0,hi0,hz0,hzs,hzb⟩:=info_parts L.i9
 have hnm:n+m<=140737488355328:=Nat.le_trans (Nat.le_mul_of_pos_right _ hbp) hbig
 have hz1:¬((m:Int)=0):=by omega
 have hz2:¬((i:Int)=(n:Int)):=by omega
 have hz3:(c:Int)<(n:Int)+(m:Int):=by omega
 have hsz:(P.info? (ρ.t 9)).map (·.size)=some 2:=by rw[hi0];simp[hzs]
 have hbw:b<w.heap.size:=block_lt_of_cell (hcs 0 _ (List.getElem?_eq_getElem (by omega)))
 have hvw:vb<w.heap.size:=block_lt_of_cell (hvs 0 _ (List.getElem?_eq_getElem (by omega)))
 have hkk:(n:Int)+(m:Int)-(i:Int)=((n+m-i:Nat):Int):=by omega
 have hik:i+(n+m-i)=n+m:=by omega
 have htl:(cs.take (i*2)).length=i*2:=by rw[List.length_take,hcl];omega
 have hold:(Builtin.firstCells i0.size i (.slice (some ⟨b,off,none⟩) i c)).run P w.drew= .ok (cs.take (i*2)).toArray w.drew:=by
  rw[hzs]
  exact run_firstCells_some w.drew 2 i ⟨b,off,none⟩ i c (cs.take (i*2)) htl (fun j v hj=>by
   rw[Addr.add_lit]
   rw[List.getElem?_take]at hj
   split at hj
   ·exact hcs j v hj
   ·cases hj)
 have hrz:∀ty,(Builtin.append_ #[(ρ.t 24),(ρ.t 3)] ty #[.slice (some ⟨b,off,none⟩) i c,.int .i64 ((n:Int)+(m:Int)-(i:Int))]).run P w=
  .ok (.slice (some ⟨w.heap.size,0,none⟩) (n+m) (grownCap w (n+m) c (ρ.t 9))) (w.drew.alloc (.cells ((cs.take (i*2)).toArray++Builtin.zeroCells z.cells (n+m-i)++Builtin.zeroCells z.cells (grownCap w (n+m) c (ρ.t 9)-(n+m))) (ρ.t 9))):=fun ty=>by
  have hkb:(n+m-i)*i0.bytes<=281474976710656:=by
   rw[hzb]
   exact Nat.le_trans (Nat.mul_le_mul_right by_ (by omega:n+m-i<=n+m)) (by omega)
  have h:=Lib.run_append_grow_zeros w (ρ.t 24) (ρ.t 3) ty (ρ.t 9) i0 _ .i64 .i64 L.t24 L.t3 hi0 hz0 (some ⟨b,off,none⟩) i c (cs.take (i*2)) hold (n+m-i) (by omega) (by omega) (by omega) (by omega) hkb (by rw[hzb,hik];exact growslice_fits hroom hbig)
  rw[hik]at h
  rw[hkk]
  exact h
 obtain⟨G,hG⟩:∃G,G=grownCap w (n+m) c (ρ.t 9):=⟨_,rfl⟩
 obtain⟨ROW,hROW⟩:∃ROW:Array Value,ROW=(cs.take (i*2)).toArray++Builtin.zeroCells z.cells (n+m-i)++Builtin.zeroCells z.cells (G-(n+m)):=⟨_,rfl⟩
 rw[<-hG]at hrz⊢
 rw[<-hROW]at hrz⊢
 have hzc:∀(k:Nat),(Builtin.zeroCells z.cells k).size=k*2:=fun k=>by simp[Builtin.zeroCells,L.c9]
 have hRl:(n+m)*2<=ROW.size:=by
  rw[hROW]
  simp only[Array.size_append,hzc,List.size_toArray,htl]
  omega
 obtain⟨W1,hW1⟩:∃W1,W1=w.drew.alloc (.cells ROW (ρ.t 9)):=⟨_,rfl⟩
 rw[<-hW1]at hrz
 have hN:∀j,j<(n+m)*2->(W1.cell? ⟨w.heap.size,j,none⟩).isSome=true:=fun j hj=>by
  rw[hW1,World.cell?_alloc_at (w:=w.drew) ROW _ w.heap.size j rfl,Array.getElem?_eq_getElem (by omega)];rfl
 have hNf:∀j,W1.frozen? ⟨w.heap.size,j,none⟩=false:=fun j=>by rw[hW1];exact World.frozen?_alloc_at (w:=w.drew) ROW _ w.heap.size j rfl
 have hOb:∀j v,w.cell? ⟨b,j,none⟩=some v->W1.cell? ⟨b,j,none⟩=some v:=fun j v h=>by rw[hW1,World.cell?_alloc_past (w:=w.drew) _ b j hbw];exact h
 have hOv:∀j v,w.cell? ⟨vb,j,none⟩=some v->W1.cell? ⟨vb,j,none⟩=some v:=fun j v h=>by rw[hW1,World.cell?_alloc_past (w:=w.drew) _ vb j hvw];exact h
 have hcpA:∀(W:World),(∀x,W.cell? x=W1.cell? x)->(∀x,W.frozen? x=W1.frozen? x)->∀ty dc,(Builtin.copy_ #[(ρ.t 24),(ρ.t 24)] ty #[.slice (some ⟨w.heap.size,i*2,none⟩) (n+m-i) dc,.slice (some ⟨vb,voff,none⟩) m vc]).run P W= .ok (goInt (Nat.min m (n+m-i))) (W.setCells w.heap.size (i*2) vs):=fun W hWc hWf ty dc=>
  run_copy_two W _ _ ty (ρ.t 9) w.heap.size (i*2) (n+m-i) dc ⟨vb,voff,none⟩ m vc vs L.t24 hsz (by rw[hvl];simp only[Nat.min_def];split<;>omega)
   (fun j v hj=>by rw[Addr.add_lit,hWc];exact hOv _ v (hvs j v hj))
   (fun j hj=>by rw[hWc];exact hN _ (by omega)) (fun j hj=>by rw[hWf];exact hNf _) h1v
 have hGn:n+m<=G:=by rw[hG];exact grownCap_ge w _ _ _
 have hG63:G<=9223372036854775807:=by
  have:=grownCap_le_maxLen w (n+m) c (ρ.t 9) (by unfold maxLen;omega)
  rw[<-hG]at this
  unfold maxLen at this
  omega
 have hGi:¬(G=i):=by omega
 have hGim:¬(G=i+m):=by omega
 have hci:¬(c=i):=by omega
 have hbN:b≠w.heap.size:=by omega
 have hdl:(cs.drop (i*2)).length=(n-i)*2:=by rw[List.length_drop,hcl];omega
 have hcpB:∀(W:World),(∀x,W.cell? x=(W1.setCells w.heap.size (i*2) vs).cell? x)->(∀x,W.frozen? x=(W1.setCells w.heap.size (i*2) vs).frozen? x)->∀ty dc sc,(Builtin.copy_ #[(ρ.t 24),(ρ.t 24)] ty #[.slice (some ⟨w.heap.size,(i+m)*2,none⟩) (n+m-(i+m)) dc,.slice (some ⟨b,off+i*2,none⟩) (n-i) sc]).run P W= .ok (goInt (Nat.min (n-i) (n+m-(i+m)))) (W.setCells w.heap.size ((i+m)*2) (cs.drop (i*2))):=fun W hWc hWf ty dc sc=>
  run_copy_two W _ _ ty (ρ.t 9) w.heap.size ((i+m)*2) (n+m-(i+m)) dc ⟨b,off+i*2,none⟩ (n-i) sc (cs.drop (i*2)) L.t24 hsz (by rw[hdl];simp only[Nat.min_def];split<;>omega)
   (fun j v hj=>by
    rw[Addr.add_lit,hWc,World.cell?_setCells_out _ _ _ _ _ (fun h _=>absurd h hbN),Nat.add_assoc]
    exact hOb _ v (hcs (i*2+j) v (by rwa [List.getElem?_drop]at hj)))
   (fun j hj=>by rw[hWc];exact isSome_setCellsJ _ _ _ _ (fun t ht=>hN _ (by omega)) _ (hN _ (by omega)))
   (fun j hj=>by rw[hWf,World.frozen?_setCells];exact hNf _) (fun v hv=>h1c v (List.mem_of_mem_drop hv))
 subst hW1
 have hE1:∀x,((w.alloc (.cells ROW (ρ.t 9))).drew).cell? x=(w.drew.alloc (.cells ROW (ρ.t 9))).cell? x:=fun x=>rfl
 have hE2:∀x,((w.alloc (.cells ROW (ρ.t 9))).drew).frozen? x=(w.drew.alloc (.cells ROW (ρ.t 9))).frozen? x:=fun x=>rfl
 have hF1:∀x,(((w.alloc (.cells ROW (ρ.t 9))).drew.setCells w.heap.size (i*2) vs).drew).cell? x=((w.drew.alloc (.cells ROW (ρ.t 9))).setCells w.heap.size (i*2) vs).cell? x:=fun x=>rfl
 have hF2:∀x,(((w.alloc (.cells ROW (ρ.t 9))).drew.setCells w.heap.size (i*2) vs).drew).frozen? x=((w.drew.alloc (.cells ROW (ρ.t 9))).setCells w.heap.size (i*2) vs).frozen? x:=fun x=>rfl
 have hw1:IntKind.i64.wrap ((i:Int)+(m:Int))=(i:Int)+(m:Int):=by rw[IntKind.wrap_i64];omega
 have hb1:(0:Int)<=(i:Int)+(m:Int):=by omega
 have hin:i<=n:=by omega
 have htn:((i:Int)+(m:Int)).toNat=i+m:=by omega
 have hb3:(i:Int)<=(n:Int):=by omega
 clear hkk hik hold hROW hG hRl
 obtain⟨_,_,F22⟩:=L.f22
 go_enter F22,Body2.n22_ntmps ρ
 go_wp2_with (first
  |(at_builtin;refine Lib.wpList_append_run _ rfl _ _ _ _ rfl _ _ rfl rfl _ _ (hrz _) ?_)
  |(at_builtin;refine wpList_copy_runJ _ rfl _ _ (ρ.t 24) (ρ.t 24) rfl _ _ rfl rfl (hcpA _ hE1 hE2 _ _) ?_)
  |(at_builtin;refine wpList_copy_runJ _ rfl _ _ (ρ.t 24) (ρ.t 24) rfl _ _ rfl rfl (hcpB _ (fun _=>rfl) (fun _=>rfl) _ _ _) ?_))
 go_region_law_o (refine step_copy_runJ rfl _ _ (ρ.t 24) (ρ.t 24) rfl (.slice (some ⟨w.heap.size,(i+m)*2,none⟩) (n+m-(i+m)) (G-(i+m))) (.slice (some ⟨b,off+i*2,none⟩) (n-i) (c-i)) (by simp[Act.eval,Act.put]) (by simp[Act.eval,Act.put]) (hcpB _ hF1 hF2 (ρ.t 9) (G-(i+m)) (c-i)) ?_)
 go_wp2
 go_ret
 exact⟨rfl,rfl⟩
end Go.Ev
namespace Go.Ev
open Go Go.RowKit Go.Shelf
variable{P:Program}{ρ:Ren}
def insS(u:Ty)(te bytes:Nat):Summ:=fun cs look nid=>match cs with
 |[s,.int .i64 i,.whole b2]=>match look b2 with
  | .vec _ u2 ys=>if h2:u2=u then match s with
    | .nil _ _=>some ⟨decide (i=0)&&(decide (0<List.length ys)&&room (List.length ys) bytes),.whole nid,[(nid,.vec te u (h2▸ys))]⟩
    | .whole b=>if b=b2 then none else match look b with
      | .vec te' u' xs=>if h:te'=te/\u'=u then some ⟨(decide (0<=i)&&decide (i<=(List.length xs:Int)))&&(decide (0<List.length ys)&&room (List.length xs+List.length ys) bytes),.whole nid,
       [(b,.dead),(nid,.vec te u ((show List u.den from h.2▸xs).take i.toNat++((show List u.den from h2▸ys)++(show List u.den from h.2▸xs).drop i.toNat)))]⟩else none
      |_=>none
    |_=>none else none
  |_=>none
 |_=>none
theorem insS_congr(u:Ty)(te bytes:Nat):SummC (insS u te bytes):=by
 intro cs look look' nid h
 unfold insS
 split
 ·rename_i s i b2
  have h2:look b2=look' b2:=h b2 (by simp[CV.refs])
  rw[<-h2]
  split
  ·split
   ·split
    ·rfl
    ·rename_i b
     have h1:look b=look' b:=h b (by simp[CV.refs])
     rw[<-h1]
    ·rfl
   ·rfl
  ·rfl
 ·rfl
theorem setCells_row{w:World}{g:Nat}{cur:Array Value}{t:TypeId}(hg:w.heap[g]? =some (.cells cur t (0,0))){o:Nat}{vs:List Value}(hl:o+vs.length<=cur.size)(h1:∀v∈vs,v.oneCell'=true) :
 w.setCells g o vs=w.setRow g (cur.toList.take o++vs++cur.toList.drop (o+vs.length)).toArray:=by
 have P0:Program:=default
 have e1:=run_storeCells_at P0 g o t vs 0 cur w hg (by simpa using hl) h1
 have hc:∀j,j<vs.length->(w.cell? ⟨g,o+0+j,none⟩).isSome=true:=fun j hj=>by
  have:o+j<cur.size:=by omega
  simp[World.cell?,hg,this]
 have hf:∀j,j<vs.length->w.frozen? ⟨g,o+0+j,none⟩=false:=fun j hj=>by simp[World.frozen?,hg]
 have e2:=run_storeCells_cells (P:=P0) g o vs 0 w hc hf h1
 rw[e1]at e2
 injection e2 with _ e2
 simpa using e2.symm
theorem take_seg{α:Type}(a b X c:List α)(h:X.take c.length=c):(a++b++X).take (a++(b++c)).length=a++(b++c):=by
 have e:(a++(b++c)).length=(a++b).length+c.length:=by simp only[List.length_append];omega
 rw[e,List.take_append,List.take_of_length_le (Nat.le_add_right _ _),Nat.add_sub_cancel_left,h,List.append_assoc]
set_option maxHeartbeats 2000000 in
theorem ins_sum{f te:Nat}{u:Ty}{bytes:Nat}{z:Value}(L:InsL P ρ z bytes)(hte:ρ.t 9=te)(hf0:ρ.f 22=f)(hcb:callable P f=true)(hu2:u.size=2)(hbp:0<bytes):SummOK P f (insS u te bytes):=by
 subst hte;subst hf0
 refine⟨hcb,insS_congr _ _ _,?_⟩
 intro base E hp cs vs nid out H hvs hs hok hf hn
 obtain⟨i0,hi0,hz0,hzs,hzb⟩:=info_parts L.i9
 have hpos:0<u.size:=by omega
 have hcz:z.cells.size=u.size:=by rw[hu2];exact L.c9
 have his:i0.size=u.size:=by rw[hu2];exact hzs
 have fin:∀(v':Value)(w':World)(hp1:List Blk)(xs:List u.den)(cells:List Value),HS base E hp1->lookH hp1 nid= .fresh->nid<=hp1.length->w'.ownsRow base (ρ.t 9) u.size v' (List.length xs) cells->Rows (RepD E.w E.R u) xs cells->Below base E.w w'->
  (∀g,E.I g->w'.heap[g]? =E.w.heap[g]?)->(∀b g,holdsB E b (lookH hp1 b) g->w'.heap[g]? =E.w.heap[g]?)->(∀g,v'.ownBlock=some g->¬E.I g/\∀b,¬holdsB E b (lookH hp1 b) g) ->
  wrAll hp out.wr=setH hp1 nid (.vec (ρ.t 9) u xs)->out.v= .whole nid->∃v E',Ending.returned v'= .returned v/\E'.w=w'/\E.le base E'/\HS base E' (wrAll hp out.wr)/\VRep E' out.v v:=by
  intro v' w' hp1 xs cells H1 hf1 hn1 hown hr hbel hI hk hv hwr hov
  obtain⟨hle,H2⟩:=H1.newVec hf1 hn1 hbel hI hk (Rows.mono (fun x c=>RepD.mono (fun _ h=>h) (fun g hg=>hI g hg.1) u x c) _ _ hr) hown hpos hv
  refine⟨v',_,rfl,rfl,hle,by rw[hwr];exact H2,?_⟩
  rw[hov]
  refine VRep_whole.2 ⟨.inr rfl,?_,?_⟩
  ·show v'=upd E.σ nid v' nid;rw[upd_same]
  ·show ∃a n c,upd E.σ nid v' nid=_
   rw[upd_same]
   rcases hown.2 with⟨h,_⟩|⟨g,cap,cur,h,_⟩
   ·exact⟨_,_,_,h⟩
   ·exact⟨_,_,_,h⟩
 unfold insS at hs
 split at hs
 ·rename_i s i b2
  split at hs
  ·rename_i te2 u2 ys hlk2
   split at hs
   ·rename_i h2
    subst h2
    match vs,hvs with
    |[v1,v2,v3],⟨r1,r2,r3,_⟩ =>
    have ev2:=(VRep_int.1 r2).1
    subst ev2
    have hsr:SrcRep E u2 ys v3:=src_rep (look:=lookH hp) H.blk (e:=u2) (c:= .whole b2) (x:=ys) (by simp[toPH,hlk2]) rfl r3
    obtain⟨hlb2,hv3,_⟩:=VRep_whole.1 r3
    have hbk2:=H.blk b2
    rw[hlk2]at hbk2
    obtain⟨cells2,hrw2,hown2,_,hgμ2⟩:=hbk2
    have h3:0<List.length ys->∃g2 cap2 cur2,v3= .slice (some ⟨g2,0,none⟩) (List.length ys) cap2/\E.w.heap[g2]? =some (.cells cur2 te2 (0,0))/\cellsAt E.w g2 0 cells2/\cells2.length=List.length ys*2:=by
     intro h0
     rcases hown2.2 with⟨_,h⟩|⟨g2,cap2,cur2,hv2,hbg2,hh2,hnc2,hcm2,hcs2,htk2⟩
     ·omega
     ·rw[hv2]at hown2
      exact⟨g2,cap2,cur2,hv3.trans hv2,hh2,own_cellsAt hown2,by rw[hown2.1,hu2]⟩
    split at hs
    ·
     simp at hs;subst hs
     simp only[Bool.and_eq_true,decide_eq_true_eq]at hok
     obtain⟨rfl,h0,hroom⟩:=hok
     have hroom:=room_spec hroom
     have hv1:=VRep_nil.1 r1
     obtain⟨g2,cap2,cur2,e3,hh2,hc2,hl2⟩:=h3 h0
     obtain⟨v',w',rows,hrun,hown,hg,hr,hnew⟩:=append_own (P:=P) (base:=base) (E:=E) (ρ.t 24) 0 (ρ.t 9) L.t24 hi0 hz0 hcz his hpos (v1:=v1) (n:=0) (xs:=[]) (by rw[hv1];exact World.ownsRow_nil _ _ _ _) hsr (by rw[hzb];simpa using hroom.1) (by simpa using hroom.2) H.base
     have hnone:v1.ownBlock=none:=by rw[hv1];rfl
     rw[hnone]at hg hnew
     have hrun':∀ty,(Builtin.append_ #[(ρ.t 24),(ρ.t 24)] ty #[.slice none 0 0,.slice (some ⟨g2,0,none⟩) (List.length ys) cap2]).run P E.w= .ok v' w':=fun ty=>by
      rw[<-hv1,<-e3];exact hrun
     rw[hv1,e3]
     refine Calls.mono (ins_end L none 0 0 g2 0 (List.length ys) cap2 E.w h0 (Nat.le_refl _) (by omega) (fun _=>⟨rfl,rfl⟩) (fun a h=>by cases h) hrun') ?_
     rintro e w1 ⟨rfl,rfl⟩
     exact fin _ _ hp ys rows H hf hn (by simpa using hown) hr (grownBy_below hg (by simp) H.base) (fun g h=>hg.block g (H.imm g h) (by simp)) (fun b g h=>hg.block g (H.held_lt h) (by simp))
      (fun g h=>by
       rcases hnew g h with rfl|h'
       ·exact⟨fun h=>Nat.lt_irrefl _ (H.imm _ h),fun b hb=>Nat.lt_irrefl _ (H.held_lt hb)⟩
       ·cases h') (by simp[wrAll]) rfl
    ·rename_i b
     split at hs
     ·cases hs
     ·rename_i hbb
      split at hs
      ·rename_i te' u' xs hlk
       split at hs
       ·rename_i hte
        obtain⟨rfl,rfl⟩:=hte
        simp at hs;subst hs
        simp only[Bool.and_eq_true,decide_eq_true_eq]at hok
        obtain⟨⟨hi1,hi2⟩,h0,hroom⟩:=hok
        have hroom:=room_spec hroom
        obtain⟨k,rfl⟩:=Int.eq_ofNat_of_zero_le hi1
        obtain⟨g2,cap2,cur2,e3,hh2,hc2,hl2⟩:=h3 h0
        obtain⟨hlb,hv1,_⟩:=VRep_whole.1 r1
        have hbk:=H.blk b
        rw[hlk]at hbk
        obtain⟨cells,hrw,hown0,_,hgμ⟩:=hbk
        have hlt:=lookH_lt ((H.live b).1 hlb)
        have H1:=H.die hlb
        have hne:nid≠b:=fun e=>(H.live b).1 hlb (e▸hf)
        have hlk1:∀x,lookH (setH hp b .dead) x=if x=b then .dead else lookH hp x:=lookH_set (by omega) .dead
        have hob:∀g,v1.ownBlock=some g->holdsB E b (lookH hp b) g:=fun g h=>by rw[hlk];show(E.σ b).ownBlock=some g;rw[<-hv1];exact h
        have hother:∀x g,holdsB E x (lookH (setH hp b .dead) x) g->some g≠v1.ownBlock:=by
         intro x g hx he
         rw[hlk1]at hx
         split at hx
         ·exact hx.elim
         ·rename_i hxb
          exact hxb (H.inj x b g hx (hob g he.symm))
        have hf1:lookH (setH hp b .dead) nid= .fresh:=by rw[hlk1,if_neg hne];exact hf
        have hn1:nid<=(setH hp b .dead).length:=by unfold setH;rw[if_pos hlt];simpa using hn
        have hkn:k<=List.length xs:=by simpa using hi2
        have hwr:∀zs:List u'.den,wrAll hp [(b,.dead),(nid,.vec (ρ.t 9) u' zs)]=setH (setH hp b .dead) nid (.vec (ρ.t 9) u' zs):=fun zs=>by simp[wrAll]
        have fin2:∀(v':Value)(w':World)(news:List Value),w'.ownsRow base (ρ.t 9) u'.size v' (List.length xs+List.length ys) news->E.w.grownBy w' v1.ownBlock->Rows (RepD E.w E.R u') (xs.take k++(ys++xs.drop k)) news->(∀g,v'.ownBlock=some g->g=E.w.heap.size\/v1.ownBlock=some g) ->
         ∃v E',Ending.returned v'= .returned v/\E'.w=w'/\E.le base E'/\HS base E' (wrAll hp [(b,.dead),(nid,.vec (ρ.t 9) u' (xs.take k++(ys++xs.drop k)))])/\VRep E' (.whole nid) v:=by
         intro v' w' news hown hg hr hnew
         have hlen:List.length (xs.take k++(ys++xs.drop k))=List.length xs+List.length ys:=by
          simp only[List.length_append,List.length_take,List.length_drop];omega
         exact fin v' w' (setH hp b .dead) _ news H1 hf1 hn1 (by rw[hlen];exact hown) hr (grownBy_below hg (fun k hk=>(H.sep b k (hob k hk)).2) H.base)
          (fun g h=>hg.block g (H.imm g h) (fun e=>(H.sep b g (hob g e.symm)).1 h)) (fun x g h=>hg.block g (H1.held_lt h) (hother x g h))
          (fun g h=>by
           rcases hnew g h with rfl|h'
           ·exact⟨fun h=>Nat.lt_irrefl _ (H.imm _ h),fun b hb=>Nat.lt_irrefl _ (H1.held_lt hb)⟩
           ·exact⟨(H.sep b g (hob g h')).1,fun x hx=>hother x g hx h'.symm⟩) (hwr _) rfl
        by_cases hke:k=List.length xs
        ·
         subst hke
         obtain⟨v',w',rows,hrun,hown,hg,hr,hnew⟩:=append_own (P:=P) (base:=base) (E:=E) (ρ.t 24) 0 (ρ.t 9) L.t24 hi0 hz0 hcz his hpos (v1:=v1) (n:=List.length xs) (xs:=cells) (by rw[hv1];exact hown0) hsr (by rw[hzb];exact hroom.1) hroom.2 H.base
         have hrr:Rows (RepD E.w E.R u') (xs.take (List.length xs)++(ys++xs.drop (List.length xs))) (cells++rows):=by
          rw[List.take_length,List.drop_length,List.append_nil]
          exact Rows.app _ _ _ _ hrw hr
         have hcase:∃ad cap,v1= .slice ad (List.length xs) cap/\List.length xs<=cap/\cap<=9223372036854775807/\(ad=none->List.length xs=0/\cap=0)/\(∀a,ad=some a->a.spot=none):=by
          rcases hown0.2 with⟨h,hn0⟩|⟨g,cap,cur,h,hbg,hh,hnc,hcm,hcs,htk⟩
          ·exact⟨none,0,by rw[hv1,h,hn0],(by omega),(by omega),(fun _=>⟨hn0,rfl⟩),(fun a h=>by cases h)⟩
          ·exact⟨some ⟨g,0,none⟩,cap,by rw[hv1,h],hnc,(by simpa[maxLen]using hcm),(fun h=>by cases h),(fun a h=>by cases h;rfl)⟩
         obtain⟨ad,cap,ev1,q1,q2,q3,q4⟩:=hcase
         have hrun':∀ty,(Builtin.append_ #[(ρ.t 24),(ρ.t 24)] ty #[.slice ad (List.length xs) cap,.slice (some ⟨g2,0,none⟩) (List.length ys) cap2]).run P E.w= .ok v' w':=fun ty=>by
          rw[<-ev1,<-e3];exact hrun
         rw[e3,show v1=_ from ev1]
         refine Calls.mono (ins_end L ad (List.length xs) cap g2 0 (List.length ys) cap2 E.w h0 q1 q2 q3 q4 hrun') ?_
         rintro e w1 ⟨rfl,rfl⟩
         exact fin2 _ _ _ hown hg hrr hnew
        ·have hk:k<List.length xs:=by omega
         rcases hown0.2 with⟨h,hn0⟩|⟨g,cap,cur,hσ,hbg,hh,hnc,hcm,hcs,htk⟩
         ·omega
         ·have ev1:v1= .slice (some ⟨g,0,none⟩) (List.length xs) cap:=by rw[hv1,hσ]
          have hgg:g2≠g:=by
           intro e
           subst e
           refine hbb (H.inj b b2 g2 (hob g2 (by rw[ev1];rfl)) ?_)
           rw[hlk2]
           show(E.σ b2).ownBlock=some g2
           rw[<-hv3,e3];rfl
          have hown1:E.w.ownsRow base (ρ.t 9) u'.size (.slice (some ⟨g,0,none⟩) (List.length xs) cap) (List.length xs) cells:=by rw[<-hσ];exact hown0
          have hcl:cells.length=List.length xs*2:=by rw[hown0.1,hu2]
          have h1c:=Rows.one _ _ hrw
          have h1v:=Rows.one _ _ hrw2
          obtain⟨c1,c2,ec,hc1l,hrt,hrd⟩:=Rows.split (fun x c=>RepD.len u' x c) k xs cells hrw (by omega)
          rw[hu2]at hc1l
          have et:cells.take (k*2)=c1:=by rw[ec,<-hc1l];exact List.take_left
          have ed:cells.drop (k*2)=c2:=by rw[ec,<-hc1l];exact List.drop_left
          have hc2l:c2.length=(List.length xs-k)*2:=by rw[<-ed,List.length_drop,hcl];omega
          have hrr:Rows (RepD E.w E.R u') (xs.take k++(ys++xs.drop k)) (c1++(cells2++c2)):=Rows.app _ _ _ _ hrt (Rows.app _ _ _ _ hrw2 hrd)
          have hcur:cur.toList=cells++cur.toList.drop (List.length xs*2):=by
           have:=List.take_append_drop (List.length xs*2) cur.toList
           rw[hu2]at htk
           rw[htk]at this
           exact this.symm
          rw[hu2]at hcs
          have hnl:(c1++(cells2++c2)).length=(List.length xs+List.length ys)*2:=by
           simp only[List.length_append,hc1l,hl2,hc2l];omega
          have h1c1:∀v∈c2,v.oneCell'=true:=fun v hv=>h1c v (by rw[ec];exact List.mem_append.2 (.inr hv))
          rw[e3,show v1=_ from ev1]
          by_cases hro:List.length xs+List.length ys<=cap
          ·
           refine Calls.mono (ins_shift L g 0 (List.length xs) cap k g2 0 (List.length ys) cap2 cells cells2 E.w hk h0 hro (by simpa[maxLen]using hcm) hgg hcl hl2 (own_cellsAt hown1) (fun j hj=>by
            have:j<cur.size:=by omega
            simp[World.cell?,hh,this]) (fun j hj=>by simp[World.frozen?,hh]) hc2 h1c h1v te2 (ρ.t 9) cur2.size cur.size (by simp[World.shape?,hh2]) (by simp[World.shape?,hh]) (by omega) (by simp[World.frozen?,hh2]) (by simp[World.frozen?,hh2])) ?_
           rintro e w1 ⟨rfl,rfl⟩
           have hhd:E.w.drew.heap[g]? =some (.cells cur (ρ.t 9) (0,0)):=hh
           rw[ed,setCells_row hhd (by rw[hc2l];omega) h1c1]
           have hsz1:(cur.toList.take (0+(k+List.length ys)*2)++c2++cur.toList.drop (0+(k+List.length ys)*2+c2.length)).length=cur.size:=by
            simp only[List.length_append,List.length_take,List.length_drop,Array.length_toList,hc2l];omega
           rw[setCells_row (setRow_heap E.w.drew g cur _ (ρ.t 9) _ hhd) (by rw[List.size_toArray,hsz1,hl2];omega) h1v]
           have hG:∀(x:Array Value),(E.w.drew.setRow g x).setRow g=fun y=>(E.w.drew).setRow g y:=fun x=>by funext y;exact setRow_setRow _ _ _ _
           obtain⟨row,hrow⟩:∃row:List Value,row=(cur.toList.take (0+(k+List.length ys)*2)++c2++cur.toList.drop (0+(k+List.length ys)*2+c2.length)):=⟨_,rfl⟩
           rw[<-hrow]at hsz1⊢
           have hrt2:row.take (0+k*2)=c1:=by
            rw[hrow,List.append_assoc,List.take_append_of_le_length (by simp only[List.length_take,Array.length_toList];omega),List.take_take,Nat.min_eq_left (by omega),hcur,List.take_append_of_le_length (by omega),Nat.zero_add,et]
           have hrd2:(row.drop (0+k*2+cells2.length)).take c2.length=c2:=by
            have e0:0+k*2+cells2.length=(cur.toList.take (0+(k+List.length ys)*2)).length:=by
             simp only[List.length_take,Array.length_toList,hl2];omega
            rw[hrow,List.append_assoc,e0,List.drop_left,List.take_left]
           refine fin2 _ _ (c1++(cells2++c2)) ⟨by rw[hnl,hu2],.inr ⟨g,cap,_,rfl,hbg,setRow_heap _ g _ _ (ρ.t 9) _ (setRow_heap E.w.drew g cur _ (ρ.t 9) _ hhd),hro,hcm,?_,?_⟩⟩ ⟨rfl,rfl,rfl,by simp,fun j _ hj=> ?_⟩ hrr (fun g' hg'=> .inr (by rw[ev1];exact hg'))
           ·simp only[List.toList_toArray,List.size_toArray,List.length_append,List.length_take,List.length_drop,hsz1,hl2,hu2]
            omega
           ·rw[hrt2,hu2,<-hnl]
            exact take_seg _ _ _ _ hrd2
           ·have hjg:j≠g:=fun e=>hj (by rw[ev1,e];rfl)
            rw[setRow_other _ _ _ _ hjg,setRow_other _ _ _ _ hjg];rfl
          ·
           refine Calls.mono (ins_grow L g 0 (List.length xs) cap k g2 0 (List.length ys) cap2 cells cells2 E.w hk h0 hnc (by omega) hroom.1 hbp hcl hl2 (own_cellsAt hown1) hc2 h1c h1v) ?_
           rintro e w1 ⟨rfl,rfl⟩
           obtain⟨G,hG⟩:∃G,G=grownCap E.w (List.length xs+List.length ys) cap (ρ.t 9):=⟨_,rfl⟩
           have hGn:List.length xs+List.length ys<=G:=by rw[hG];exact grownCap_ge _ _ _ _
           have hGm:G<=maxLen:=by rw[hG];exact grownCap_le_maxLen _ _ _ _ hroom.2
           rw[<-hG,et,ed]
           have hzc:∀(q:Nat),(Builtin.zeroCells z.cells q).size=q*2:=fun q=>by simp[Builtin.zeroCells,L.c9]
           obtain⟨R0,hR0⟩:∃R0:Array Value,R0=c1.toArray++Builtin.zeroCells z.cells (List.length xs+List.length ys-k)++Builtin.zeroCells z.cells (G-(List.length xs+List.length ys)):=⟨_,rfl⟩
           have hR0s:R0.size=G*2:=by
            rw[hR0];simp only[Array.size_append,hzc,List.size_toArray,hc1l];omega
           have hR0t:R0.toList.take (k*2)=c1:=by
            rw[hR0,<-hc1l]
            simp only[Array.toList_append,List.append_assoc]
            exact List.take_left
           rw[<-hR0]
           have hh0:((E.w.alloc (.cells R0 (ρ.t 9))).drew).heap[E.w.heap.size]? =some (.cells R0 (ρ.t 9) (0,0)):=heap_alloc_new E.w _
           rw[setCells_row hh0 (by omega) h1v]
           obtain⟨r1,hr1⟩:∃r1:List Value,r1=R0.toList.take (k*2)++cells2++R0.toList.drop (k*2+cells2.length):=⟨_,rfl⟩
           have hr1s:r1.length=G*2:=by
            rw[hr1];simp only[List.length_append,List.length_take,List.length_drop,Array.length_toList,hl2,hR0s];omega
           rw[<-hr1]
           have hh1:(((E.w.alloc (.cells R0 (ρ.t 9))).drew.setRow E.w.heap.size r1.toArray).drew).heap[E.w.heap.size]? =some (.cells r1.toArray (ρ.t 9) (0,0)):=setRow_heap _ _ _ _ _ _ hh0
           rw[setCells_row hh1 (by rw[List.size_toArray,hr1s,hc2l];omega) h1c1]
           refine fin2 _ _ (c1++(cells2++c2)) ⟨by rw[hnl,hu2],.inr ⟨E.w.heap.size,G,_,rfl,H.base,setRow_heap _ _ _ _ (ρ.t 9) _ hh1,hGn,hGm,?_,?_⟩⟩ ⟨rfl,rfl,rfl,?_,fun j hj1 hj=> ?_⟩ hrr (fun g' hg'=> .inl (by simpa[Value.ownBlock]using hg'.symm))
           ·simp only[List.size_toArray,List.length_append,List.length_take,List.length_drop,hr1s,hc2l,hu2,List.toList_toArray]
            omega
           ·have et1:r1.take ((k+List.length ys)*2)=c1++cells2:=by
             rw[hr1,hR0t]
             have:(k+List.length ys)*2=(c1++cells2).length:=by rw[List.length_append,hc1l,hl2];omega
             rw[this]
             exact List.take_left
            simp only[List.toList_toArray]
            rw[et1,hu2,<-hnl,List.append_assoc (c1++cells2)]
            exact take_seg _ _ _ _ List.take_left
           ·show E.w.heap.size<=(((E.w.alloc (.cells R0 (ρ.t 9))).drew.setRow E.w.heap.size r1.toArray).drew.setRow E.w.heap.size _).heap.size
            have:∀(W:World)(q:Nat)(c:Array Value),(W.setRow q c).heap.size=W.heap.size:=fun W q c=>by simp[World.setRow]
            rw[this]
            show _<=(World.setRow _ _ _).heap.size
            rw[this]
            show _<=(E.w.heap.push _).size
            simp
           ·rw[setRow_other _ _ _ _ (by omega)]
            show(World.setRow _ _ _).heap[j]? =_
            rw[setRow_other _ _ _ _ (by omega)]
            exact Below.heap_alloc E.w _ j hj1
       ·cases hs
      ·cases hs
    ·cases hs
   ·cases hs
  ·cases hs
 ·cases hs
end Go.Ev
namespace Go.Ev
open Go Go.RowKit
def ooS(te:Nat)(u:Ty)(ats:List Ty)(p:List u.den->HDen ats->Bool)(v:List u.den->HDen ats->List u.den):Summ:=fun cs look nid=>match cs with
 | .whole b::rest=>match purify look ats rest with
   |none=>none
   |some cs'=>match toH ats cs' with
    |none=>none
    |some x=>if(rest.flatMap CV.refs).contains b then none else match look b with
     | .vec te' u' xs=>if h:te'=te/\u'=u then some ⟨subsOK look rest&&p (h.2▸xs) x,.whole nid,frzs look rest++[(b,.dead),(nid,.vec te u (v (h.2▸xs) x))]⟩else none
     |_=>none
 | .nil _ _::rest=>match purify look ats rest with
   |none=>none
   |some cs'=>match toH ats cs' with
    |none=>none
    |some x=>some ⟨subsOK look rest&&p [] x,.whole nid,frzs look rest++[(nid,.vec te u (v [] x))]⟩
 |_=>none
theorem ooS_congr(te:Nat)(u:Ty)(ats:List Ty)(p:List u.den->HDen ats->Bool)(v:List u.den->HDen ats->List u.den):SummC (ooS te u ats p v):=by
 intro cs look look' nid h
 unfold ooS
 split
 ·rename_i b rest
  have hb:look b=look' b:=h b (by simp[CV.refs])
  have hr:∀c∈rest.flatMap CV.refs,look c=look' c:=fun c hc=>h c (by simp[CV.refs];exact .inr (by simpa using hc))
  rw[purify_congr hr,subsOK_congr hr,frzs_congr hr,hb]
 ·rename_i rest
  have hr:∀c∈rest.flatMap CV.refs,look c=look' c:=fun c hc=>h c (by simp[CV.refs];simpa using hc)
  rw[purify_congr hr,subsOK_congr hr,frzs_congr hr]
 ·rfl
def holdN(E:Env)(hp:List Blk)(b g:Nat):Prop:=∃b',b'≠b/\holdsB E b' (lookH hp b') g
def Env.only(E:Env)(hp:List Blk)(b:Nat)(rk:Nat->Loop->Prop):Env:=
 {w:=E.w,I:=fun g=>E.I g\/holdN E hp b g,μ:=fun _=>E.μ b,σ:=fun _=>E.σ b,live:=fun n=>n=0,rok:=rk,J:=fun g=>E.J g\/holdN E hp b g}
theorem Env.only_R{base b:Nat}{E:Env}{hp:List Blk}{rk:Nat->Loop->Prop}(H:HS base E hp)(g:Nat)(h:E.R g):(E.only hp b rk).R g:=
 ⟨.inl h.1,fun hj=>hj.elim h.2 fun⟨b',_,hb'⟩=>(H.sep b' g hb').1 h.1⟩
theorem HS.only{base b te:Nat}{u:Ty}{xs:List u.den}{E:Env}{hp:List Blk}(H:HS base E hp)(hb:lookH hp b= .vec te u xs)(rk:Nat->Loop->Prop):HS base (E.only hp b rk) [.vec te u xs]:=by
 have h0:lookH [Blk.vec te u xs] 0= .vec te u xs:=rfl
 have hn:∀n,n≠0->lookH [Blk.vec te u xs] n= .fresh:=fun n hn=>by
  obtain⟨k,rfl⟩:∃k,n=k+1:=⟨n-1,by omega⟩
  simp[lookH]
 have hB:=H.blk b
 rw[hb]at hB
 obtain⟨cells,r1,r2,r3,r4⟩:=hB
 have hold:∀n g,holdsB (E.only hp b rk) n (lookH [Blk.vec te u xs] n) g->n=0/\holdsB E b (lookH hp b) g:=fun n g hg=>by
  by_cases e:n=0
  ·subst e
   refine⟨rfl,?_⟩
   rw[hb]
   exact hg
  ·rw[hn n e]at hg;exact hg.elim
 refine⟨fun n=> ?_,fun n n' g h1 h2=> ?_,fun n g hg=> ?_,fun g hg=> ?_,fun n=> ?_,H.base,(fun n rec i h=>by cases h),fun g hg=> ?_,fun g hg hb=> ?_⟩
 ·by_cases e:n=0
  ·subst e
   exact⟨cells,Rows.mono (fun x c=>RepD.mono (fun g hg=>Env.only_R H g hg) (fun _ _=>rfl) u x c) _ _ r1,r2,r3,r4⟩
  ·rw[hn n e];trivial
 ·rw[(hold n g h1).1,(hold n' g h2).1]
 ·have hh:=(hold n g hg).2
  refine⟨fun hI=> ?_,(H.sep b g hh).2⟩
  rcases hI with hI|⟨b',hne,hb'⟩
  ·exact(H.sep b g hh).1 hI
  ·exact hne (H.inj b' b g hb' hh)
 ·rcases hg with h|⟨b',_,hb'⟩
  ·exact H.imm g h
  ·exact H.held_lt hb'
 ·show n=0↔_
  by_cases e:n=0
  ·subst e;simp[h0]
  ·rw[hn n e];simp[e]
 ·exact hg.elim (fun h=> .inl (H.jI g h)) .inr
 ·exact hg.elim (fun h=>H.thw g h hb) fun⟨_,_,h⟩=>H.heldThaw h
def holdA(E:Env)(hp:List Blk)(g:Nat):Prop:=∃b',holdsB E b' (lookH hp b') g
def Env.none(E:Env)(hp:List Blk)(rk:Nat->Loop->Prop):Env:=
 {w:=E.w,I:=fun g=>E.I g\/holdA E hp g,μ:=fun _=>0,σ:=fun _=> .slice Option.none 0 0,live:=fun n=>n=0,rok:=rk,J:=fun g=>E.J g\/holdA E hp g}
theorem Env.none_R{base:Nat}{E:Env}{hp:List Blk}{rk:Nat->Loop->Prop}(H:HS base E hp)(g:Nat)(h:E.R g):(E.none hp rk).R g:=
 ⟨.inl h.1,fun hj=>hj.elim h.2 fun⟨b',hb'⟩=>(H.sep b' g hb').1 h.1⟩
theorem HS.none{base:Nat}{u:Ty}{E:Env}{hp:List Blk}(H:HS base E hp)(te:Nat)(hpos:0<u.size)(rk:Nat->Loop->Prop):HS base (E.none hp rk) [.vec te u ([]:List u.den)]:=by
 have hn:∀n,n≠0->lookH [Blk.vec te u ([]:List u.den)] n= .fresh:=fun n hn=>by
  obtain⟨k,rfl⟩:∃k,n=k+1:=⟨n-1,by omega⟩
  simp[lookH]
 have hold:∀n g,¬holdsB (E.none hp rk) n (lookH [Blk.vec te u ([]:List u.den)] n) g:=fun n g hg=>by
  by_cases e:n=0
  ·subst e
   have hg:(Value.slice Option.none 0 0).ownBlock=some g:=hg
   cases hg
  ·rw[hn n e]at hg;exact hg.elim
 refine⟨fun n=> ?_,fun n n' g h1 h2=>(hold n g h1).elim,fun n g hg=>(hold n g hg).elim,fun g hg=> ?_,fun n=> ?_,H.base,(fun n rec i h=>by cases h),fun g hg=> ?_,fun g hg hb=> ?_⟩
 ·by_cases e:n=0
  ·subst e
   exact⟨[],rfl,World.ownsRow_nil _ _ _ _,hpos,fun g hg=>by cases hg⟩
  ·rw[hn n e];trivial
 ·rcases hg with h|⟨b',hb'⟩
  ·exact H.imm g h
  ·exact H.held_lt hb'
 ·show n=0↔_
  by_cases e:n=0
  ·subst e;simp[lookH]
  ·rw[hn n e];simp[e]
 ·exact hg.elim (fun h=> .inl (H.jI g h)) .inr
 ·exact hg.elim (fun h=>H.thw g h hb) fun⟨_,h⟩=>H.heldThaw h
theorem summ_oo{rk:Nat->Loop->Prop}{P:Program}{f te:Nat}{u:Ty}{ats:List Ty}{F:List u.den->HDen ats->Option (HDen [.slice u])}{p:List u.den->HDen ats->Bool}{v:List u.den->HDen ats->List u.den}{summ:Nat->Option Summ}{fns:Nat->Option IFn}{fu n:Nat}
 (hpos:0<u.size) (hp0:∀xs x,p xs x=(F xs x).isSome) (hv0:∀xs x,v xs x=((F xs x).getD (dfH [.slice u])).1) (hcall:∀base,CallOK P base rk (evFn (R:=CV×List Blk) summ fns fu n)) (hrz:Nat.ble RZ f=false) (hcb:callable P f=true)
 (h:∀xs x y,F xs x=some y->evFn summ fns fu n f (.whole 0::ofH ats x) [.vec te u xs] (ownK te [] (.slice u) [])=some y):SummOK P f (ooS te u ats p v):=by
 refine⟨hcb,ooS_congr _ _ _ _ _,?_⟩
 intro base E hp cs vs nid out H hvs hs hok hf hn
 unfold ooS at hs
 split at hs
 rotate_left
 ·rename_i z1 z2 rest
  split at hs
  ·cases hs
  rename_i cs' hcs'
  split at hs
  ·cases hs
  rename_i x hx
  simp at hs;subst hs
  simp only[Bool.and_eq_true]at hok
  obtain⟨hsub,hpx⟩:=hok
  obtain⟨x',e'⟩:=purify_ofH hcs'
  subst e'
  rw[toH_ofH]at hx
  simp at hx;subst hx
  rw[hp0]at hpx
  obtain⟨y,hy⟩:=Option.isSome_iff_exists.1 hpx
  have ey:v [] x'=y.1:=by rw[hv0,hy];rfl
  obtain⟨c0,hp2,hk1,hk2⟩:=evFn_nat summ fu fns n _ _ _ _ _ _ (h [] x' y hy)
  obtain⟨c,l,o,rfl,hov,hob,hso,hpl⟩:=ownK_some hk1
  match vs,hvs with
  |v0::vr,⟨hv0',hvr⟩ =>
  obtain⟨_,ht,_⟩:=purify_tup hcs'
  obtain⟨E',hle,H',hw,hμ,hσ,hlive,hI⟩:=HS.frzs (lookH hp) (rest.flatMap CV.refs) H (fun _=> .inl rfl) (Vs_refs hvr ht)
  have H0:=H'.none (u:=u) te hpos rk
  obtain⟨hp',ehp⟩:∃hp',hp'=wrAll hp ((rest.flatMap CV.refs).map fun b=>(b,(lookH hp b).frz)):=⟨_,rfl⟩
  rw[<-ehp]at H' H0
  have hvs0:Vs (E'.none hp' rk) (.whole 0::ofH ats x') (v0::vr):=by
   refine⟨?_,purify_rep (base:=base) (E':=E'.none hp' rk) H.blk hw (fun g hg=>Env.none_R H' g (hle.R g hg)) hcs' hsub hvr (fun c hc g⟨q,hq,hg⟩=>Env.none_R H' g (hI g (.inr ⟨q,List.mem_flatMap.2 ⟨c,hc,hq⟩,hg⟩)))⟩
   exact VRep_whole.2 ⟨rfl,VRep_nil.1 hv0',_,_,_,rfl⟩
  have hc:=((hcall base).1 f (.whole 0::ofH ats x') [.vec te u ([]:List u.den)] _ _ hrz (hk2 _ (fun v h=>some (v,h)) _ rfl) (E'.none hp' rk) (v0::vr) rfl H0 hvs0).2
  rw[<-hw]
  refine Calls.mono hc ?_
  rintro e w' ⟨v1,c1,hp1,E1,rfl,hk,rfl,hle1,H1,hv1,_⟩
  simp only[Option.some.injEq,Prod.mk.injEq]at hk
  obtain⟨rfl,rfl⟩:=hk
  obtain⟨hll,ht0,htl⟩:=purify_tup hpl
  obtain⟨hag,htc,hag2⟩:=own_agg hov
  have ht1:∀c'∈c::l,∀d,c'≠ .tup d:=fun c' hc'=>by
   rcases List.mem_cons.1 hc' with rfl|hc'
   ·exact htc
   ·exact ht0 c' hc'
  obtain⟨us,hus,hback⟩:=tup_split hv1 ht1
  match us,hus with
  |u0::ur,⟨hu0,hur⟩ =>
  obtain⟨cells,g1,g2⟩:=hu0.one1 htc
  obtain⟨E2,hE2⟩:∃E2:Env,E2= {E' with w:=E1.w,I:=fun g=>E1.I g/\¬holdA E' hp' g}:=⟨_,rfl⟩
  have hR2:∀g,E1.R g->E2.R g:=fun g hg=>by
   rw[hE2]
   exact⟨⟨hg.1,fun hh=>hg.2 (by rw[hle1.J];exact .inr hh)⟩,fun hj=>hg.2 (by rw[hle1.J];exact .inl hj)⟩
  have hkeep:∀b' g,holdsB E' b' (lookH hp' b') g->E1.w.heap[g]? =E'.w.heap[g]? :=fun b' g hg=>hle1.heap g (.inr ⟨b',hg⟩)
  have hno:∀g,E'.I g->¬holdA E' hp' g:=fun g hg⟨b',hb'⟩=>(H'.sep b' g hb').1 hg
  have hle2:E'.le base E2:=by
   rw[hE2]
   refine⟨fun g hg=>⟨hle1.I g (.inl hg),hno g hg⟩,fun g hg=>hle1.heap g (.inl hg),fun _ h=>h,fun _ _=>rfl,fun _ _=>rfl,hle1.bel,fun g hg=> ?_,fun _ _=>rfl,rfl,rfl⟩
   rcases hle1.new g hg.1 with h|h
   ·exact h.elim .inl (fun h=>absurd h hg.2)
   ·exact .inr h
  have H2:HS base E2 hp':=by
   refine⟨fun q=> ?_,fun q q' g h1 h2=> ?_,fun q g hg=> ?_,fun g hg=> ?_,fun q=> ?_,?_,?_,hle2.jI H'.jI,fun g hg hb=>by rw[hE2]at hg⊢;exact H1.thw g hg.1 hb⟩
   ·by_cases hl:E'.live q
    ·exact(H'.blk q).mono hle2 hl _ (fun g hg=>by rw[hE2];exact hkeep q g hg)
    ·have:lookH hp' q= .fresh:=by
      rcases Classical.em (lookH hp' q= .fresh)with h1|h1
      ·exact h1
      ·exact absurd ((H'.live q).2 h1) hl
     rw[this];trivial
   ·rw[hE2]at h1 h2;exact H'.inj q q' g h1 h2
   ·rw[hE2]at hg
    exact⟨fun hI=>by rw[hE2]at hI;exact hI.2 ⟨q,hg⟩,(H'.sep q g hg).2⟩
   ·rw[hE2]at hg⊢;exact H1.imm g hg.1
   ·rw[hE2];exact H'.live q
   ·rw[hE2];exact Nat.le_trans H'.base hle1.bel.size
   ·rw[hE2];exact H'.eok
  simp only[subsOK,List.all_cons,Bool.and_eq_true]at hso
  obtain⟨v0',rows,r1,r2,r3,r4,r5⟩:=own_rep H1.blk (I2:=E2.R) hR2 hov hso.1 g1 (fun b hb=>by rw[restR_sl]at hb;cases hb)
  have hnl:¬E'.live nid:=fun hl=>by
   rw[hlive]at hl
   exact(H.live nid).1 hl hf
  have hfr:lookH hp' nid= .fresh:=by
   rcases Classical.em (lookH hp' nid= .fresh)with h1|h1
   ·exact h1
   ·exact absurd ((H'.live nid).2 h1) hnl
  have hw2:E2.w=E1.w:=by rw[hE2]
  have hnn:nid<=hp'.length:=by
   rw[ehp]
   exact Nat.le_trans hn (wrAll_len _ _)
  obtain⟨hle4,H4⟩:=H2.newVec (n:=nid) hfr hnn (w':=E1.w) (v:=v0') (te:=te) (e:=u) (xs:=y.1) (cells:=rows) (by rw[hw2];exact Below.refl _ _) (fun g _=>by rw[hw2]) (fun _ g _=>by rw[hw2])
   (Rows.mono (fun x c=>RepD.mono hR2 (fun _ _=>rfl) u x c) _ _ r2) r1 hpos (fun g hg=>by
    obtain⟨q,h1,h2⟩:=r3 g hg
    refine⟨fun hi=> ?_,fun b2 hb2=> ?_⟩
    ·rw[hE2]at hi
     exact(H1.sep q g h2).1 hi.1
    ·have hb2:holdsB E' b2 (lookH hp' b2) g:=by rw[hE2]at hb2;exact hb2
     exact(H1.sep q g h2).1 (hle1.I g (.inr ⟨b2,hb2⟩)))
  refine⟨v1,E2.newVec nid E1.w v0',rfl,rfl,hle.trans (hle2.trans hle4),?_,?_⟩
  ·rw[wrAll_append,ey]
   show HS base _ (setH (wrAll hp (frzs (lookH hp) rest)) nid (.vec te u y.1))
   rw[show wrAll hp (frzs (lookH hp) rest)=hp' from ehp.symm]
   exact H4
  ·have hl0:l=[]:=by
    cases l with
    |nil=>rfl
    |cons a l=>simp[purify]at hpl
   subst hl0
   have e1:ur=[]:=by
    cases ur with
    |nil=>rfl
    |cons a r=>exact hur.elim
   subst e1
   refine hback _ [ownC nid [] (.slice u) y.1] ?_ rfl ?_
   ·exact⟨VRep1.up ⟨cells,r5 _ nid rfl (fun g hg=>by rw[hE2]at hg⊢;exact hg) (.inr rfl) (by simp[Env.newVec,upd_same]),by rw[(hag2 nid).1,<-hag];exact g2⟩ (hag2 nid).2,trivial⟩
   ·intro c' hc'
    rw[List.mem_singleton]at hc'
    subst hc'
    exact(hag2 nid).2
 ·cases hs
 rename_i b rest
 split at hs
 ·cases hs
 rename_i cs' hcs'
 split at hs
 ·cases hs
 rename_i x hx
 split at hs
 ·cases hs
 rename_i hbr
 split at hs
 rotate_left
 ·cases hs
 rename_i te' u' xs hlb
 split at hs
 rotate_left
 ·cases hs
 rename_i he
 obtain⟨rfl,rfl⟩:=he
 simp at hs;subst hs
 simp only[Bool.and_eq_true]at hok
 obtain⟨hsub,hpx⟩:=hok
 obtain⟨x',e'⟩:=purify_ofH hcs'
 subst e'
 rw[toH_ofH]at hx
 simp at hx;subst hx
 have hpx:p xs x'=true:=hpx
 rw[hp0]at hpx
 obtain⟨y,hy⟩:=Option.isSome_iff_exists.1 hpx
 have ey:v xs x'=y.1:=by rw[hv0,hy];rfl
 obtain⟨c0,hp2,hk1,hk2⟩:=evFn_nat summ fu fns n _ _ _ _ _ _ (h xs x' y hy)
 obtain⟨c,l,o,rfl,hov,hob,hso,hpl⟩:=ownK_some hk1
 match vs,hvs with
 |v0::vr,⟨hv0',hvr⟩ =>
 obtain⟨_,ht,_⟩:=purify_tup hcs'
 obtain⟨E',hle,H',hw,hμ,hσ,hlive,hI⟩:=HS.frzs (lookH hp) (rest.flatMap CV.refs) H (fun _=> .inl rfl) (Vs_refs hvr ht)
 have hnb:∀q∈rest.flatMap CV.refs,q≠b:=fun q hq e=>hbr (by subst e;simpa using hq)
 have hlb':lookH (wrAll hp ((rest.flatMap CV.refs).map fun b=>(b,(lookH hp b).frz))) b= .vec te' u' xs:=by
  rw[lookH_wrAll (fun b=>(lookH hp b).frz) (rest.flatMap CV.refs) (hp:=hp) (b:=b) (fun q hq=>lookH_lt ((H.live q).1 (Vs_refs hvr ht q hq))) (fun hq=>hnb b hq rfl)]
  exact hlb
 have H0:=H'.only hlb' rk
 obtain⟨hp',ehp⟩:∃hp',hp'=wrAll hp ((rest.flatMap CV.refs).map fun b=>(b,(lookH hp b).frz)):=⟨_,rfl⟩
 rw[<-ehp]at H' H0 hlb'
 have hvs0:Vs (E'.only hp' b rk) (.whole 0::ofH ats x') (v0::vr):=by
  refine⟨?_,purify_rep (base:=base) (E':=E'.only hp' b rk) H.blk hw (fun g hg=>Env.only_R H' g (hle.R g hg)) hcs' hsub hvr (fun c hc g⟨q,hq,hg⟩=>Env.only_R H' g (hI g (.inr ⟨q,List.mem_flatMap.2 ⟨c,hc,hq⟩,hg⟩)))⟩
  obtain⟨_,q2,q3⟩:=VRep_whole.1 hv0'
  refine VRep_whole.2 ⟨rfl,?_,?_⟩
  ·show v0=E'.σ b;rw[hσ];exact q2
  ·show ∃a n k,E'.σ b=_;rw[hσ];exact q3
 have hc:=((hcall base).1 f (.whole 0::ofH ats x') [.vec te' u' xs] _ _ hrz (hk2 _ (fun v h=>some (v,h)) _ rfl) (E'.only hp' b rk) (v0::vr) rfl H0 hvs0).2
 rw[<-hw]
 refine Calls.mono hc ?_
 rintro e w' ⟨v1,c1,hp1,E1,rfl,hk,rfl,hle1,H1,hv1,_⟩
 simp only[Option.some.injEq,Prod.mk.injEq]at hk
 obtain⟨rfl,rfl⟩:=hk
 obtain⟨hll,ht0,htl⟩:=purify_tup hpl
 obtain⟨hag,htc,hag2⟩:=own_agg hov
 have ht1:∀c'∈c::l,∀d,c'≠ .tup d:=fun c' hc'=>by
  rcases List.mem_cons.1 hc' with rfl|hc'
  ·exact htc
  ·exact ht0 c' hc'
 obtain⟨us,hus,hback⟩:=tup_split hv1 ht1
 match us,hus with
 |u0::ur,⟨hu0,hur⟩ =>
 obtain⟨cells,g1,g2⟩:=hu0.one1 htc
 obtain⟨E2,hE2⟩:∃E2:Env,E2= {E' with w:=E1.w,I:=fun g=>E1.I g/\¬holdN E' hp' b g}:=⟨_,rfl⟩
 have hR2:∀g,E1.R g->E2.R g:=fun g hg=>by
  rw[hE2]
  exact⟨⟨hg.1,fun hh=>hg.2 (by rw[hle1.J];exact .inr hh)⟩,fun hj=>hg.2 (by rw[hle1.J];exact .inl hj)⟩
 have hkeep:∀b' g,b'≠b->holdsB E' b' (lookH hp' b') g->E1.w.heap[g]? =E'.w.heap[g]? :=fun b' g hne hg=>hle1.heap g (.inr ⟨b',hne,hg⟩)
 have hno:∀g,E'.I g->¬holdN E' hp' b g:=fun g hg⟨b',_,hb'⟩=>(H'.sep b' g hb').1 hg
 have hle2:E'.le base E2:=by
  rw[hE2]
  refine⟨fun g hg=>⟨hle1.I g (.inl hg),hno g hg⟩,fun g hg=>hle1.heap g (.inl hg),fun _ h=>h,fun _ _=>rfl,fun _ _=>rfl,hle1.bel,fun g hg=> ?_,fun _ _=>rfl,rfl,rfl⟩
  rcases hle1.new g hg.1 with h|h
  ·exact h.elim .inl (fun h=>absurd h hg.2)
  ·exact .inr h
 have hlvb:E'.live b:=by
  rw[hlive]
  exact(VRep_whole.1 hv0').1
 have hlen:b<=hp'.length:=Nat.le_of_lt (lookH_lt ((H'.live b).1 hlvb))
 have H2:HS base E2 (setH hp' b .dead):=by
  refine H'.set hle2 hlen (by simp) (fun q=> ?_) (fun g hg=> ?_) (fun b' g hne hg hI=> ?_) (fun b' g hne hg=> ?_) (k:= .dead) trivial (fun _ h=>h.elim) ?_ (fun g hg hb=>by rw[hE2]at hg⊢;exact H1.thw g hg.1 hb)
  ·rw[hE2]
   exact⟨.inl,fun h=>h.elim id (fun e=>e▸hlvb)⟩
  ·rw[hE2]at hg⊢
   exact H1.imm g hg.1
  ·rw[hE2]at hI
   exact hI.2 ⟨b',hne,hg⟩
  ·rw[hE2]
   exact hkeep b' g hne hg
  ·rw[hE2]
   exact H'.eok
 simp only[subsOK,List.all_cons,Bool.and_eq_true]at hso
 obtain⟨v0',rows,r1,r2,r3,r4,r5⟩:=own_rep H1.blk (I2:=E2.R) hR2 hov hso.1 g1 (fun b hb=>by rw[restR_sl]at hb;cases hb)
 have hnl:¬E'.live nid:=fun hl=>by
  rw[hlive]at hl
  exact(H.live nid).1 hl hf
 have hnb2:nid≠b:=fun e=>hnl (e▸hlvb)
 have hfr:lookH (setH hp' b .dead) nid= .fresh:=by
  rw[lookH_set hlen,if_neg hnb2]
  rcases Classical.em (lookH hp' nid= .fresh)with h1|h1
  ·exact h1
  ·exact absurd ((H'.live nid).2 h1) hnl
 have hw2:E2.w=E1.w:=by rw[hE2]
 have hnn:nid<=(setH hp' b .dead).length:=by
  refine Nat.le_trans ?_ (setH_len _ _ _)
  rw[ehp]
  exact Nat.le_trans hn (wrAll_len _ _)
 obtain⟨hle4,H4⟩:=H2.newVec (n:=nid) hfr hnn (w':=E1.w) (v:=v0') (te:=te') (e:=u') (xs:=y.1) (cells:=rows) (by rw[hw2];exact Below.refl _ _) (fun g _=>by rw[hw2]) (fun _ g _=>by rw[hw2])
  (Rows.mono (fun x c=>RepD.mono hR2 (fun _ _=>rfl) u' x c) _ _ r2) r1 hpos (fun g hg=>by
   obtain⟨q,h1,h2⟩:=r3 g hg
   refine⟨fun hi=> ?_,fun b2 hb2=> ?_⟩
   ·rw[hE2]at hi
    exact(H1.sep q g h2).1 hi.1
   ·rw[lookH_set hlen]at hb2
    by_cases e:b2=b
    ·rw[if_pos e]at hb2;exact hb2.elim
    ·rw[if_neg e]at hb2
     have hb2:holdsB E' b2 (lookH hp' b2) g:=by rw[hE2]at hb2;exact hb2
     exact(H1.sep q g h2).1 (hle1.I g (.inr ⟨b2,e,hb2⟩)))
 refine⟨v1,E2.newVec nid E1.w v0',rfl,rfl,hle.trans (hle2.trans hle4),?_,?_⟩
 ·rw[wrAll_append,ey]
  show HS base _ (setH (setH (wrAll hp (frzs (lookH hp) rest)) b .dead) nid (.vec te' u' y.1))
  rw[show wrAll hp (frzs (lookH hp) rest)=hp' from ehp.symm]
  exact H4
 ·have hl0:l=[]:=by
   cases l with
   |nil=>rfl
   |cons a l=>simp[purify]at hpl
  subst hl0
  have e1:ur=[]:=by
   cases ur with
   |nil=>rfl
   |cons a r=>exact hur.elim
  subst e1
  refine hback _ [ownC nid [] (.slice u') y.1] ?_ rfl ?_
  ·exact⟨VRep1.up ⟨cells,r5 _ nid rfl (fun g hg=>by rw[hE2]at hg⊢;exact hg) (.inr rfl) (by simp[Env.newVec,upd_same]),by rw[(hag2 nid).1,<-hag];exact g2⟩ (hag2 nid).2,trivial⟩
  ·intro c' hc'
   rw[List.mem_singleton]at hc'
   subst hc'
   exact(hag2 nid).2
end Go.Ev
namespace Go.Ev
open Go Go.RowKit
theorem sokOO{P:Program}{sm:Nat->Bool}{w:Nat->Nat}{cf df:Nat->Bool}(hm:P.follows .mixedOrders=true){l:List (Nat×Summ)}{f n te:Nat}{u:Ty}{ats:List Ty}{F:List u.den->HDen ats->Option (HDen [.slice u])}
 (h:∀xs x y,F xs x=some y->evFn (smL l) (fnsP P sm w cf df) FU n f (.whole 0::ofH ats x) [.vec te u xs] (ownK te [] (.slice u) [])=some y) (hl:SmAll P l) (hpos:0<u.size:=by decide) (hcb:callable P f=true:=by kernel_rfl) (hrz:Nat.ble RZ f=false:=by kernel_rfl):SummOK P f (ooS te u ats (fun xs x=>(F xs x).isSome) (fun xs x=>((F xs x).getD (dfH [.slice u])).1)) :=
 summ_oo hpos (fun _ _=>rfl) (fun _ _=>rfl) (callG hm hl n) hrz hcb h
end Go.Ev
namespace Go.Ev
open Go Go.RowKit
namespace Sp
def dst:List Int->Bool
 |[]=>true
 |x::l=> !l.contains x&&dst l
end Sp
abbrev CfgTy:Ty:= .pair (.int .i64) (.pair (.int .i64) (.pair (.int .i64) (.pair (.int .i64) (.pair (.int .i64) (.pair (.int .i64) (.pair .bool (.pair (.int .i64) .unit)))))))
def codesS:Summ:=shN [.slice CfgTy] [.bool] (fun _=>true) (fun x=>(Sp.dst ((show List CfgTy.den from x.1).map fun c=>c.1),()))
variable{P:Program}
namespace Sp
end Sp
end Go.Ev
namespace Go.Ev
open Go Go.RowKit
variable{P:Program}
theorem subOK_ofP(look:Look)(t:Ty)(x:t.den):(ofP t x).subOK look=true:=by
 cases t<;>rfl
theorem purify_self(look:Look):∀(ts:List Ty)(x:HDen ts),purify look ts (ofH ts x)=some (ofH ts x)
 |[],_=>rfl
 |t::ts,(a,x)=>by simp[ofH,purify,toPH_ofP,purify_self look ts x]
theorem subsOK_self(look:Look):∀(ts:List Ty)(x:HDen ts),subsOK look (ofH ts x)=true
 |[],_=>rfl
 |t::ts,(a,x)=>by
  have:=subsOK_self look ts x
  simp only[subsOK]at this⊢
  simp[ofH,subOK_ofP,this]
end Go.Ev
