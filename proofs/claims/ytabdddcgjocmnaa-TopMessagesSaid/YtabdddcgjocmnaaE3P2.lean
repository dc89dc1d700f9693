/- Part of a typed evaluator of the program's functions, proved sound. No condition. -/
import Derived.Test.YtabdddcgjocmnaaE3P1
import Derived.IntWalk
import Derived.Shelf.SlicesE.Clone
set_option maxRecDepth 10000
set_option linter.unusedVariables false
set_option linter.unusedSimpArgs false
namespace Go.Ev
open Go Go.RowKit
abbrev IO2:=Nat×IOper
section
variable(summ:Nat->Option Summ)(bs:Nat)
def goD(x:IO2)(S:St):Option (List LogE×St) :=
 match act summ x.2.op (x.2.args.map S.eval) S.look (bs+x.2.rank)with
 |none=>none
 |some out=>if drawChk S x.2.op (bs+x.2.rank) out=true/\out.ok=true then some ([logOf x.1 x.2 x.2.op (x.2.args.map S.eval) (bs+x.2.rank) out],S.apply x.2.dst out)else none
def stepD(x:IO2)(S:St):Option (List LogE×St) :=
 match x.2.guard with
 |none=>goD summ bs x S
 |some g=>match S.sl.getD g.1 .junk with
  | .bool b=>if b=g.2 then goD summ bs x S else some ([],S.put x.2.dst .undef)
  | .undef=>some ([],S.put x.2.dst .undef)
  |_=>none
def execD:List IO2->St->Option (List LogE×St)
 |[],S=>some ([],S)
 |x::r,S=>match stepD summ bs x S with
  |none=>none
  |some (l,S')=>match execD r S' with
   |none=>none
   |some (L,S'')=>some (l++L,S'')
end
def enum:Nat->List IOper->List IO2
 |_,[]=>[]
 |i,o::os=>(i,o)::enum (i+1) os
section
variable{R:Type}{summ:Nat->Option Summ}{bs:Nat}{call:Nat->List CV->List Blk->(CV->List Blk->Option R)->Option R}
theorem put_id{S:St}{d:Nat}{c:CV}(h:S.sl.getD d .junk=c)(hc:c≠ .junk):S.put (some d) c=S:=by
 obtain⟨sl,hp,fb⟩:=S
 simp only[St.put,St.mk.injEq,and_true]
 apply List.ext_getElem?
 intro j
 rw[List.getElem?_set]
 split
 ·rename_i hj
  subst hj
  simp only[List.getD_eq_getElem?_getD]at h
  cases hx:sl[d]? with
  |none=>rw[hx]at h;exact absurd h.symm hc
  |some v=>
   rw[hx]at h
   have hlt:d<sl.length:=by
    rcases Nat.lt_or_ge d sl.length with h1|h1
    ·exact h1
    ·rw[List.getElem?_eq_none h1]at hx;cases hx
   simp at h
   rw[if_pos hlt,h]
 ·rfl
theorem body1_goD{i:Nat}{o:IOper}{log:List LogE}{S:St}{k:List LogE->St->Option R}{r:R}(h:body1 summ call true bs i o log S k=some r) :
 ∃l S',goD summ bs (i,o) S=some (l,S')/\k (log++l) S'=some r:=by
 have h':(match act summ o.op (o.args.map S.eval) S.look (bs+o.rank)with
  |none=>none
  |some out=>gd (drawChk S o.op (bs+o.rank) out) (gd out.ok (k (log++[logOf i o o.op (o.args.map S.eval) (bs+o.rank) out]) (S.apply o.dst out))))=some r:=by
  exact h
 split at h'
 ·cases h'
 ·rename_i out hact
  cases h1:drawChk S o.op (bs+o.rank) out
  ·rw[h1]at h';cases h'
  ·cases h2:out.ok
   ·rw[h1,h2]at h';cases h'
   ·rw[h1,h2]at h'
    refine⟨_,_,?_,h'⟩
    unfold goD
    simp only[hact,h1,h2,and_self,if_true]
theorem evOps_execD{k:St->Option R}{r:R}:∀(os:List IOper)(i:Nat)(log:List LogE)(S:St),evOps summ call true bs i os log S k=some r->
 ∃L S',execD summ bs (enum i os) S=some (L,S')/\logOK (log++L)=true/\k S'=some r
 |[],i,log,S,h=>by
  simp only[evOps,if_true]at h
  cases hl:logOK log
  ·rw[hl]at h;cases h
  ·rw[hl]at h
   exact⟨[],S,rfl,by simpa using hl,h⟩
 |o::os,i,log,S,h=>by
  rw[evOps_cons]at h
  have run:∀S:St,(body1 summ call true bs i o log S fun log S=>evOps summ call true bs (i+1) os log S k)=some r->∃l S1,goD summ bs (i,o) S=some (l,S1)/\∃L S',execD summ bs (enum (i+1) os) S1=some (L,S')/\logOK (log++(l++L))=true/\k S'=some r:=by
   intro S h
   obtain⟨l,S1,h1,h2⟩:=body1_goD h
   obtain⟨L,S',h3,h4,h5⟩:=evOps_execD os (i+1) (log++l) S1 h2
   exact⟨l,S1,h1,L,S',h3,by simpa using h4,h5⟩
  split at h
  ·rename_i hg
   obtain⟨l,S1,h1,L,S',h3,h4,h5⟩:=run S h
   refine⟨l++L,S',?_,h4,h5⟩
   simp only[enum,execD,stepD,hg,h1,h3]
  ·rename_i d want hg
   split at h
   ·rename_i b hb
    have hput:S.put (some d) (.bool b)=S:=put_id hb (by simp)
    have skip:evOps summ call true bs (i+1) os log (S.put o.dst .undef) k=some r->b≠want->∃L S',execD summ bs (enum i (o::os)) S=some (L,S')/\logOK (log++L)=true/\k S'=some r:=by
     intro h hne
     obtain⟨L,S',h3,h4,h5⟩:=evOps_execD os (i+1) log _ h
     refine⟨L,S',?_,h4,h5⟩
     simp only[enum,execD,stepD,hg,hb,if_neg hne,h3,List.nil_append]
    have go:(body1 summ call true bs i o log S fun log S=>evOps summ call true bs (i+1) os log S k)=some r->b=want->∃L S',execD summ bs (enum i (o::os)) S=some (L,S')/\logOK (log++L)=true/\k S'=some r:=by
     intro h he
     obtain⟨l,S1,h1,L,S',h3,h4,h5⟩:=run S h
     refine⟨l++L,S',?_,h4,h5⟩
     simp only[enum,execD,stepD,hg,hb,if_pos he,h1,h3]
    cases b
    ·simp only[cond_false]at h
     rw[hput]at h
     cases want
     ·simp only[Bool.false_eq_true,if_false]at h;exact go h rfl
     ·simp only[if_true]at h;exact skip h (by simp)
    ·simp only[cond_true]at h
     rw[hput]at h
     cases want
     ·simp only[Bool.false_eq_true,if_false]at h;exact skip h (by simp)
     ·simp only[if_true]at h;exact go h rfl
   ·rename_i hu
    obtain⟨L,S',h3,h4,h5⟩:=evOps_execD os (i+1) log _ h
    refine⟨L,S',?_,h4,h5⟩
    simp only[enum,execD,stepD,hg,hu,h3,List.nil_append]
   ·cases h
def setO(sl:List CV)(d:Option Nat)(v:CV):List CV:=match d with|some d=>sl.set d v|none=>sl
theorem put_eq(S:St)(d:Option Nat)(v:CV):S.put d v= {S with sl:=setO S.sl d v}:=by cases d<;>rfl
theorem setH_in{hp:List Blk}{b:Nat}(h:b<hp.length)(k:Blk):setH hp b k=hp.set b k:=by unfold setH;rw[if_pos h]
theorem wrAll_length:∀(wr:List (Nat×Blk))(hp:List Blk),(wr.all fun p=>decide (p.1<hp.length))=true->(wrAll hp wr).length=hp.length
 |[],_,_=>rfl
 |p::wr,hp,h=>by
  simp only[List.all_cons,Bool.and_eq_true,decide_eq_true_eq]at h
  have e:(setH hp p.1 p.2).length=hp.length:=by rw[setH_in h.1];simp
  show(wrAll (setH hp p.1 p.2) wr).length=_
  rw[wrAll_length wr _ (by rw[e];exact h.2),e]
theorem wrAll_look:∀(wr:List (Nat×Blk))(hp:List Blk)(b:Nat),(wr.all fun p=>decide (p.1<hp.length))=true->b∉wr.map (·.1)->lookH (wrAll hp wr) b=lookH hp b
 |[],_,_,_,_=>rfl
 |p::wr,hp,b,h,hb=>by
  simp only[List.all_cons,Bool.and_eq_true,decide_eq_true_eq]at h
  have e:(setH hp p.1 p.2).length=hp.length:=by rw[setH_in h.1];simp
  show lookH (wrAll (setH hp p.1 p.2) wr) b=_
  rw[wrAll_look wr _ b (by rw[e];exact h.2) (fun hm=>hb (by simp only[List.map_cons];exact List.mem_cons_of_mem _ hm)),lookH_set (by omega),if_neg (fun e=>hb (by simp[e]))]
theorem wrAll_set:∀(wr:List (Nat×Blk))(hp:List Blk)(b:Nat)(k:Blk),(wr.all fun p=>decide (p.1<hp.length))=true->b<hp.length->b∉wr.map (·.1)->wrAll (setH hp b k) wr=setH (wrAll hp wr) b k
 |[],_,_,_,_,_,_=>rfl
 |p::wr,hp,b,k,h,hb,hn=>by
  simp only[List.all_cons,Bool.and_eq_true,decide_eq_true_eq]at h
  have e:(setH hp p.1 p.2).length=hp.length:=by rw[setH_in h.1];simp
  have hne:b≠p.1:=fun e=>hn (by simp[e])
  show wrAll (setH (setH hp b k) p.1 p.2) wr=setH (wrAll (setH hp p.1 p.2) wr) b k
  rw[<-wrAll_set wr _ b k (by rw[e];exact h.2) (by omega) (fun hm=>hn (by simp only[List.map_cons];exact List.mem_cons_of_mem _ hm))]
  congr 1
  rw[setH_in hb,setH_in h.1,setH_in (by simpa using h.1),setH_in (by simpa using hb),List.set_comm _ _ hne]
theorem wrAll_comm:∀(w1 w2:List (Nat×Blk))(hp:List Blk),(w1.all fun p=>decide (p.1<hp.length))=true->(w2.all fun p=>decide (p.1<hp.length))=true->(∀b∈w1.map (·.1),b∉w2.map (·.1))->wrAll (wrAll hp w1) w2=wrAll (wrAll hp w2) w1
 |[],_,_,_,_,_=>rfl
 |p::w1,w2,hp,h1,h2,hd=>by
  simp only[List.all_cons,Bool.and_eq_true,decide_eq_true_eq]at h1
  have e:(setH hp p.1 p.2).length=hp.length:=by rw[setH_in h1.1];simp
  show wrAll (wrAll (setH hp p.1 p.2) w1) w2=wrAll (setH (wrAll hp w2) p.1 p.2) w1
  rw[wrAll_comm w1 w2 _ (by rw[e];exact h1.2) (by rw[e];exact h2) (fun b hb=>hd b (by simp only[List.map_cons];exact List.mem_cons_of_mem _ hb)),wrAll_set w2 hp p.1 p.2 h2 h1.1 (hd p.1 (by simp))]
structure Eff(summ:Nat->Option Summ)(bs:Nat)(x:IO2)(S:St)(l:List LogE)(S':St)(v:CV)(wr:List (Nat×Blk)):Prop where
 out:S'= {S with sl:=setO S.sl x.2.dst v,hp:=wrAll S.hp wr}
 inr:(wr.all fun p=>decide (p.1<S.hp.length))=true
 log:∀b∈wr.map (·.1),∃e∈l,b∈e.wr
 tag:∀e∈l,e.i=x.1/\e.preds=x.2.preds
 len:l.length<=1
 loc:∀T:St,T.fb=S.fb->(∀s∈x.2.rds,T.sl.getD s .junk=S.sl.getD s .junk)->(∀e∈l,∀b∈e.rd,lookH T.hp b=lookH S.hp b)->T.hp.length=S.hp.length->stepD summ bs x T=some (l,{T with sl:=setO T.sl x.2.dst v,hp:=wrAll T.hp wr})
theorem stepD_eff(hsum:∀f s,summ f=some s->SummC s){x:IO2}{S S':St}{l:List LogE}(h:stepD summ bs x S=some (l,S')):∃v wr,Eff summ bs x S l S' v wr:=by
 have hgo:(∀T:St,(∀s∈x.2.rds,T.sl.getD s .junk=S.sl.getD s .junk)->goD summ bs x T=stepD summ bs x T\/True):=fun _ _=> .inr trivial
 clear hgo
 have evalT:∀T:St,(∀s∈x.2.rds,T.sl.getD s .junk=S.sl.getD s .junk)->x.2.args.map T.eval=x.2.args.map S.eval:=by
  intro T hT
  apply List.map_congr_left
  intro o ho
  cases o with
  |cst c=>rfl
  |tmp t=>exact hT t (by simp only[IOper.rds,List.mem_append,List.mem_flatMap];exact .inl ⟨_,ho,by simp⟩)
 have goE:∀ {l:List LogE}{S':St},goD summ bs x S=some (l,S')->∃v wr,S'= {S with sl:=setO S.sl x.2.dst v,hp:=wrAll S.hp wr}/\(wr.all fun p=>decide (p.1<S.hp.length))=true/\(∀b∈wr.map (·.1),∃e∈l,b∈e.wr)/\(∀e∈l,e.i=x.1/\e.preds=x.2.preds)/\l.length<=1/\
  ∀T:St,(∀s∈x.2.rds,T.sl.getD s .junk=S.sl.getD s .junk)->(∀e∈l,∀b∈e.rd,lookH T.hp b=lookH S.hp b)->T.hp.length=S.hp.length->goD summ bs x T=some (l,{T with sl:=setO T.sl x.2.dst v,hp:=wrAll T.hp wr}):=by
  intro l S' h
  unfold goD at h
  split at h
  ·cases h
  ·rename_i out hact
   split at h
   ·rename_i hk
    simp at h
    obtain⟨rfl,rfl⟩:=h
    have hchk:=hk.1
    simp only[drawChk,Bool.and_eq_true]at hchk
    refine⟨out.v,out.wr,by rw[St.apply,put_eq],hchk.1,fun b hb=>⟨_,List.mem_singleton.2 rfl,hb⟩,fun e he=>by simp at he;subst he;exact⟨rfl,rfl⟩,by simp,fun T hT hb hlen=> ?_⟩
    have hb':=hb _ (List.mem_singleton.2 rfl)
    have hva:=evalT T hT
    have hact':act summ x.2.op (x.2.args.map T.eval) T.look (bs+x.2.rank)=some out:=by
     rw[hva,<-hact]
     exact act_congr hsum _ _ (fun b hb=>hb' b (by simp only[logOf];exact List.mem_append_right _ hb))
    have hchk':drawChk T x.2.op (bs+x.2.rank) out=true:=by
     simp only[drawChk,hlen,Bool.and_eq_true]
     refine⟨hchk.1,?_⟩
     cases hn:isNew x.2.op
     ·rfl
     ·have:=hchk.2
      rw[hn]at this
      have e:T.look (bs+x.2.rank)=S.look (bs+x.2.rank):=hb' _ (by simp[logOf,hn])
      rw[e];exact this
    unfold goD
    rw[hact']
    simp only[hchk',hk.2,and_self,if_true]
    rw[hva,St.apply,put_eq]
   ·cases h
 unfold stepD at h
 split at h
 ·rename_i hg
  obtain⟨v,wr,h1,h2,h3,h4,h5,h6⟩:=goE h
  exact⟨v,wr,h1,h2,h3,h4,h5,fun T _ a b c=>by unfold stepD;rw[hg];exact h6 T a b c⟩
 ·rename_i g hg
  have hgr:g.1∈x.2.rds:=by simp[IOper.rds,hg]
  split at h
  ·rename_i b hb
   split at h
   ·rename_i he
    obtain⟨v,wr,h1,h2,h3,h4,h5,h6⟩:=goE h
    exact⟨v,wr,h1,h2,h3,h4,h5,fun T _ a' b' c'=>by unfold stepD;rw[hg];simp only[a' _ hgr,hb,if_pos he];exact h6 T a' b' c'⟩
   ·rename_i he
    simp at h
    obtain⟨rfl,rfl⟩:=h
    refine⟨.undef,[],by rw[put_eq];rfl,rfl,by simp,by simp,by simp,fun T _ a' b' c'=> ?_⟩
    unfold stepD;rw[hg];simp only[a' _ hgr,hb,if_neg he]
    rw[put_eq];rfl
  ·rename_i hu
   simp at h
   obtain⟨rfl,rfl⟩:=h
   refine⟨.undef,[],by rw[put_eq];rfl,rfl,by simp,by simp,by simp,fun T _ a' b' c'=> ?_⟩
   unfold stepD;rw[hg];simp only[a' _ hgr,hu]
   rw[put_eq];rfl
  ·cases h
theorem setO_getD{sl:List CV}{d:Option Nat}{v:CV}{s:Nat}(h:d≠some s):(setO sl d v).getD s .junk=sl.getD s .junk:=by
 cases d with
 |none=>rfl
 |some d=>
  have hne:d≠s:=fun e=>h (by rw[e])
  simp[setO,List.getElem?_set,hne]
theorem setO_comm{sl:List CV}{d e:Option Nat}{v u:CV}(h:∀x,d=some x->e≠some x):setO (setO sl d v) e u=setO (setO sl e u) d v:=by
 cases d with
 |none=>rfl
 |some d=>
  cases e with
  |none=>rfl
  |some e=>
   have hne:d≠e:=fun he=>h d rfl (by rw[he])
   exact List.set_comm _ _ hne
theorem slotApart_spec{a b:IOper}(h:slotApart a b=true):(∀d,a.dst=some d->d∉b.rds/\b.dst≠some d)/\∀d,b.dst=some d->d∉a.rds:=by
 simp only[slotApart,Bool.and_eq_true]at h
 refine⟨fun d hd=> ?_,fun d hd=> ?_⟩
 ·have:=h.1
  rw[hd]at this
  simpa using this
 ·have:=h.2
  rw[hd]at this
  simpa using this
theorem apart_spec{a b:LogE}(h:apart a b=true):∀x∈a.wr,x∉b.rd/\x∉b.wr:=by
 intro x hx
 simp only[apart,List.all_eq_true,Bool.and_eq_true,Bool.not_eq_true']at h
 have:=h x hx
 exact⟨fun hm=>by rw[List.contains_iff_mem.2 hm]at this;simp at this,fun hm=>by rw[List.contains_iff_mem.2 hm]at this;simp at this⟩
theorem swap(hsum:∀f s,summ f=some s->SummC s){x y:IO2}{S S1 S2:St}{lx ly:List LogE}(h1:stepD summ bs x S=some (lx,S1))(h2:stepD summ bs y S1=some (ly,S2))(hs:slotApart x.2 y.2=true)
 (hl:∀a∈lx,∀b∈ly,apart a b=true/\apart b a=true):∃T,stepD summ bs y S=some (ly,T)/\stepD summ bs x T=some (lx,S2):=by
 obtain⟨v,wx,ex⟩:=stepD_eff hsum h1
 obtain⟨u,wy,ey⟩:=stepD_eff hsum h2
 obtain⟨s1,s2⟩:=slotApart_spec hs
 have hS1:=ex.out
 subst hS1
 have hlen1:(wrAll S.hp wx).length=S.hp.length:=wrAll_length wx S.hp ex.inr
 have iny:(wy.all fun p=>decide (p.1<S.hp.length))=true:=by have:=ey.inr;simpa[hlen1]using this
 have hwx:∀e∈ly,∀b∈e.rd,b∉wx.map (·.1):=by
  intro e he b hb hm
  obtain⟨a,ha,hba⟩:=ex.log b hm
  exact(apart_spec (hl a ha e he).1 b hba).1 hb
 have hwy:∀e∈lx,∀b∈e.rd,b∉wy.map (·.1):=by
  intro e he b hb hm
  obtain⟨a,ha,hba⟩:=ey.log b hm
  exact(apart_spec (hl e he a ha).2 b hba).1 hb
 have hdis:∀b∈wx.map (·.1),b∉wy.map (·.1):=by
  intro b hb hm
  obtain⟨a,ha,hba⟩:=ex.log b hb
  obtain⟨c,hc,hbc⟩:=ey.log b hm
  exact(apart_spec (hl a ha c hc).1 b hba).2 hbc
 have hy:=ey.loc S rfl (fun s hs'=>(setO_getD (fun e=>(s1 s e).1 hs')).symm) (fun e he b hb=>(wrAll_look wx S.hp b ex.inr (hwx e he b hb)).symm) hlen1.symm
 refine⟨_,hy,?_⟩
 have hlen2:(wrAll S.hp wy).length=S.hp.length:=wrAll_length wy S.hp iny
 have hx:=ex.loc {S with sl:=setO S.sl y.2.dst u,hp:=wrAll S.hp wy} rfl (fun s hs'=>setO_getD (fun e=>s2 s e hs')) (fun e he b hb=>wrAll_look wy S.hp b iny (hwy e he b hb)) hlen2
 rw[hx,ey.out]
 simp only[Option.some.injEq,Prod.mk.injEq,true_and,St.mk.injEq,and_true]
 exact⟨(setO_comm (fun d hd=>(s1 d hd).2)).symm,(wrAll_comm wx wy S.hp ex.inr iny hdis).symm⟩
theorem logOK_cons{a:LogE}{l:List LogE}:logOK (a::l)=true↔(∀b∈l,b.preds.contains a.i=true\/(apart a b=true/\apart b a=true))/\logOK l=true:=by
 simp[logOK,List.all_eq_true]
theorem logOK_app:∀ {l m:List LogE},logOK (l++m)=true->logOK m=true
 |[],_,h=>h
 |a::l,m,h=>logOK_app (logOK_cons.1 h).2
theorem take_first(hsum:∀f s,summ f=some s->SummC s){y:IO2}{post:List IO2}{Sf:St}:∀(pre:List IO2)(S:St)(L:List LogE),execD summ bs (pre++y::post) S=some (L,Sf)->logOK L=true->
 (∀x∈pre,slotApart x.2 y.2=true/\y.2.preds.contains x.1=false) ->
 ∃ly S' L',stepD summ bs y S=some (ly,S')/\execD summ bs (pre++post) S'=some (L',Sf)/\logOK L'=true/\(∀b∈L',b∈L)/\(∀b∈ly,b∈L)
 |[],S,L,h,hl,_=>by
  simp only[List.nil_append,execD]at h
  split at h
  ·cases h
  ·rename_i ly S' hy
   split at h
   ·cases h
   ·rename_i L' S'' hp
    simp at h
    obtain⟨rfl,rfl⟩:=h
    exact⟨ly,S',L',hy,hp,logOK_app hl,fun b hb=>List.mem_append_right _ hb,fun b hb=>List.mem_append_left _ hb⟩
 |x::pre,S,L,h,hl,hpre=>by
  simp only[List.cons_append,execD]at h
  split at h
  ·cases h
  ·rename_i lx S1 hx
   split at h
   ·cases h
   ·rename_i L1 S'' hp
    simp at h
    obtain⟨rfl,rfl⟩:=h
    have hl1:=logOK_app hl
    obtain⟨ly,S1',L1',h1,h2,h3,h4,h5⟩:=take_first hsum pre S1 L1 hp hl1 (fun z hz=>hpre z (by simp[hz]))
    obtain⟨_,_,ex⟩:=stepD_eff hsum hx
    obtain⟨_,_,ey⟩:=stepD_eff hsum h1
    have hxy:=hpre x (by simp)
    have hap:∀a∈lx,∀b∈L1,b.preds.contains a.i=true\/(apart a b=true/\apart b a=true):=by
     intro a ha b hb
     match lx,ex.len,ha,hl with
     |[a'],_,ha,hl=>
      simp at ha;subst ha
      exact(logOK_cons.1 hl).1 b hb
    obtain⟨T,t1,t2⟩:=swap hsum hx h1 hxy.1 (fun a ha b hb=>by
     rcases hap a ha b (h5 b hb)with h|h
     ·rw[(ey.tag b hb).2,(ex.tag a ha).1,hxy.2]at h;cases h
     ·exact h)
    refine⟨ly,T,lx++L1',t1,?_,?_,?_,fun b hb=>List.mem_append_right _ (h5 b hb)⟩
    ·simp only[List.cons_append,execD,t2,h2]
    ·match lx,ex.len,hap with
     |[],_,_=>exact h3
     |[a],_,hap=>
      refine logOK_cons.2 ⟨fun b hb=>hap a (by simp) b (h4 b hb),h3⟩
    ·intro b hb
     rcases List.mem_append.1 hb with h|h
     ·exact List.mem_append_left _ h
     ·exact List.mem_append_right _ (h4 b h)
end
end Go.Ev
namespace Go.Ev
open Go Go.RowKit
theorem predsGo_acc:∀(os:List Oper)(acc:List (List Nat))(i:Nat),i<acc.length->(predsGo os acc).getD i []=acc.getD i []
 |[],_,_,_=>rfl
 |o::os,acc,i,h=>by
  rw[predsGo,predsGo_acc os _ i (by simp;omega)]
  simp[List.getElem?_append_left h]
theorem predsGo_spec:∀(os:List Oper)(acc:List (List Nat))(j:Nat)(o:Oper),os[j]? =some o->∀p∈(predsGo os acc).getD (acc.length+j) [],
 ∃e∈o.after.toList,Region.binds .any e=true/\(p=e.on\/p∈(predsGo os acc).getD e.on [])
 |[],_,_,_,h,_,_=>by simp at h
 |o::os,acc,0,o',h,p,hp=>by
  simp at h;subst h
  rw[predsGo]at hp⊢
  rw[predsGo_acc os _ _ (by simp)]at hp
  have e1:(acc++[predOf acc o]).getD (acc.length+0) []=predOf acc o:=by simp
  rw[e1]at hp
  unfold predOf at hp
  rw[List.mem_eraseDups,List.mem_flatMap]at hp
  obtain⟨e,he,hm⟩:=hp
  split at hm
  ·rename_i hb
   refine⟨e,he,hb,?_⟩
   rcases List.mem_cons.1 hm with h|h
   ·exact .inl h
   ·right
    by_cases hlt:e.on<acc.length
    ·rw[predsGo_acc os _ _ (by simp;omega)]
     simpa[List.getElem?_append_left hlt]using h
    ·simp[List.getElem?_eq_none (show acc.length<=e.on by omega)]at h
  ·cases hm
 |o::os,acc,j+1,o',h,p,hp=>by
  rw[predsGo]at hp⊢
  have:=predsGo_spec os (acc++[predOf acc o]) j o' (by simpa using h) p (by simpa[Nat.add_assoc,Nat.add_comm 1 j]using hp)
  exact this
theorem slots_pair:∀(l:List IOper)(i:Nat),slotsOK i l=true->(enum i l).Pairwise fun x y=>y.2.preds.contains x.1=true\/slotApart x.2 y.2=true
 |[],_,_=> .nil
 |a::l,i,h=>by
  simp only[slotsOK,Bool.and_eq_true,List.all_eq_true,Bool.or_eq_true]at h
  refine .cons (fun y hy=> ?_) (slots_pair l (i+1) h.2)
  have:∀(l:List IOper)(i:Nat),∀y∈enum i l,y.2∈l:=by
   intro l
   induction l with
   |nil=>intro i y hy;simp[enum]at hy
   |cons b l ih=>
    intro i y hy
    simp only[enum,List.mem_cons]at hy
    rcases hy with rfl|hy
    ·simp
    ·exact List.mem_cons_of_mem _ (ih _ y hy)
  exact h.1 y.2 (this l (i+1) y hy)
theorem enum_asc:∀(l:List IOper)(i:Nat),(enum i l).Pairwise (fun x y=>x.1<y.1)/\∀x∈enum i l,i<=x.1
 |[],_=>⟨.nil,by simp[enum]⟩
 |a::l,i=>by
  obtain⟨h1,h2⟩:=enum_asc l (i+1)
  refine⟨.cons (fun y hy=>by have:=h2 y hy;show i<y.1;omega) h1,fun x hx=> ?_⟩
  simp only[enum,List.mem_cons]at hx
  rcases hx with rfl|hx
  ·exact Nat.le_refl _
  ·have:=h2 x hx;omega
theorem enum_mem:∀(l:List IOper)(i:Nat)(x:IO2),x∈enum i l↔∃j,l[j]? =some x.2/\x.1=i+j
 |[],_,x=>by simp[enum]
 |a::l,i,x=>by
  simp only[enum,List.mem_cons,enum_mem l (i+1) x]
  constructor
  ·rintro(rfl|⟨j,h1,h2⟩)
   ·exact⟨0,rfl,rfl⟩
   ·exact⟨j+1,by simpa using h1,by omega⟩
  ·rintro⟨j,h1,h2⟩
   cases j with
   |zero=>
    simp at h1 h2
    left
    obtain⟨x1,x2⟩:=x
    simp at h1 h2
    rw[h1,h2]
   |succ j=>exact .inr ⟨j,by simpa using h1,by omega⟩
section
variable{R:Type}{P:Program}{sm:Nat->Bool}{summ:Nat->Option Summ}{base bs:Nat}{E0:Env}{ops:Array Oper}
theorem snd_callV(hsum:∀f s,summ f=some s->SummOK P f s){E:Env}{S:St}{a:Act}(H:HS base E S.hp)(hs:SlotsRep E S a){o:Oper}{cl:Call}{y:Operand}(ho:o.op= .call cl)(hcl:cl.callee= .value y){q:Opd}{l:List Opd}(hq:opd P none y=some q)(h1:opds P (cl.argTypes.toList.map some) cl.args.toList=some l){nid:Nat}{out:Out}
 (hact:act summ .callv ((q::l).map S.eval) S.look nid=some out) (hok:out.ok=true) (hf:lookH S.hp nid= .fresh) (hn:nid<=S.hp.length):OpWp P base E S a o out:=by
 simp only[act,aCallV,List.map_cons]at hact
 split at hact
 ·rename_i f cc vs he
  simp only[List.cons.injEq]at he
  split at hact
  ·rename_i hcap
   split at hact
   ·rename_i s hsf
    obtain⟨hcb,_,hcalls⟩:=hsum f s hsf
    have hv:=opd_rep hs hq
    rw[he.1]at hv
    obtain⟨caps,hfv,hcr⟩:=VRep_clo.1 hv
    have hvs:Vs E (vs++unchain cc) (cl.args.toList.map a.eval++caps):=by
     rw[<-he.2];exact(opds_rep hs h1).append (caps_rep hcr hcap)
    intro ro next Q hnx
    have hcall:=hcalls base E S.hp _ _ nid out H hvs hact hok hf hn
    have e:(cl.args.toList.map a.eval++caps).toArray= #[]++cl.args.map a.eval++caps.toArray:=by
     apply Array.ext';simp
    have hrun:(execOp a.eval o).run P E.w= .ok (.enter f (cl.args.toList.map a.eval++caps).toArray) E.w:=by
     unfold execOp
     simp only[ho,resolve,hcl,hfv,Deferred.ofValue,invoke,Sem.run_bind,Sem.run_pure,Result.andThen_ok]
     have:=run_callFunc hcb (#[]++cl.args.map a.eval++caps.toArray) E.w
     rw[e]
     simpa using this
    exact wp_ent hrun hcall fun e w'⟨v,E',he,hw,hle,H',hv⟩=>⟨v,he,by subst hw;exact hnx v E' hle H' hv⟩
   ·cases hact
  ·cases hact
 ·cases hact
theorem step_wp{ro:Option Nat}(hsum:∀f s,summ f=some s->SummOK P f s){S S':St}{a:Act}{w:World}(hS:Sim base E0 S a w){x:IO2}{l:List LogE}(h:stepD summ bs x S=some (l,S')){o:Oper}(hrel:x.2=compOne P sm ops.toList o x.2.rank x.2.preds)
 {next:Act->World->Prop} {Q:Exit->Act->World->Prop} (hn:∀a' w',Sim base E0 S' a' w'->next a' w') :
 if Region.wanted o (yielded ops a.tmps)=true then o.wpIn (FR ro) 0 P a w next Q else next (a.put o.dst undef) w:=by
 have goW:∀ {c:IOp×List Opd},compAny P sm o=some c->x.2.op=c.1->x.2.args=c.2->x.2.dst=o.dst->goD summ bs x S=some (l,S')->o.wpIn (FR ro) 0 P a w next Q:=by
  intro c hc hop hargs hdst hg
  obtain⟨E,h0,hw,H,hs,hd,hl,hfb⟩:=hS
  subst hw
  unfold goD at hg
  rw[hop,hargs]at hg
  split at hg
  ·cases hg
  ·rename_i out hact
   split at hg
   ·rename_i hk
    simp at hg
    obtain⟨_,rfl⟩:=hg
    have hnx0:∀v E',E.le base E'->HS base E' (wrAll S.hp out.wr)->VRep E' out.v v->next (a.put o.dst v) E'.w:=fun v E' hle H' hv=>by
     rw[hdst]at hn
     exact hn _ _ (Sim.step h0 hs hd hl hfb (wrAll_len _ _) hle H' rfl hv o.dst)
    by_cases hcv:compOp P sm o=some (c.1,c.2)
    rotate_left
    ·have hfresh:isNew c.1=true->lookH S.hp (bs+x.2.rank)= .fresh/\bs+x.2.rank<=S.hp.length:=by
      intro hnew
      have hchk:=hk.1
      simp only[drawChk,hnew,Bool.not_true,Bool.false_or,Bool.and_eq_true,decide_eq_true_eq]at hchk
      refine⟨?_,hchk.2.2⟩
      have:=hchk.2.1
      have e:S.look (bs+x.2.rank)=lookH S.hp (bs+x.2.rank):=rfl
      rw[e]at this
      cases hb:lookH S.hp (bs+x.2.rank)<;>rw[hb]at this<;>simp[Blk.isFresh]at this
     rcases comp_cases hc with h|⟨h,_⟩
     rotate_left
     ·exact absurd h hcv
     unfold compCall at h
     split at h
     ·rename_i cl ho
      split at h
      ·split at h
       ·cases h
       ·obtain⟨_,_,h2⟩:=map_some h
        subst h2
        simp[act]at hact
      ·rename_i y hy hcl
       split at h
       ·rename_i q l hq h1
        simp at h;subst h
        obtain⟨hf1,hf2⟩:=hfresh rfl
        exact snd_callV hsum H hs ho hcl hq h1 hact hk.2 hf1 hf2 ro next Q hnx0
       ·cases h
      ·cases h
     ·cases h
    have hc':compOp P sm o=some (c.1,c.2):=hcv
    have hnx:∀v E',E.le base E'->HS base E' (wrAll S.hp out.wr)->VRep E' out.v v->next (a.put o.dst v) E'.w:=fun v E' hle H' hv=>by
     rw[hdst]at hn
     exact hn _ _ (Sim.step h0 hs hd hl hfb (wrAll_len _ _) hle H' rfl hv o.dst)
    cases hnew:isNew c.1
    ·rw[act_nid (nid':=S.hp.length) _ _ hnew]at hact
     exact op_sound hsum H hs hc' hact hk.2 (fresh_len S.hp) (Nat.le_refl _) ro next Q hnx
    ·have hchk:=hk.1
     simp only[drawChk,hnew,Bool.not_true,Bool.false_or,Bool.and_eq_true,decide_eq_true_eq]at hchk
     have hfr:lookH S.hp (bs+x.2.rank)= .fresh:=by
      have:=hchk.2.1
      have e:S.look (bs+x.2.rank)=lookH S.hp (bs+x.2.rank):=rfl
      rw[e]at this
      cases hb:lookH S.hp (bs+x.2.rank)<;>rw[hb]at this<;>simp[Blk.isFresh]at this
     exact op_sound hsum H hs hc' hact hk.2 hfr hchk.2.2 ro next Q hnx
   ·cases hg
 rcases compOne_rel hrel with⟨c,g,hc,hg,hop,hargs,hdst,hgd⟩|⟨hop,hgd⟩
 ·unfold stepD at h
  rw[hgd]at h
  unfold guardOf at hg
  split at hg
  ·rename_i hgo
   simp at hg;subst hg
   have hw:Region.wanted o (yielded ops a.tmps)=true:=by simp[Region.wanted,hgo]
   rw[if_pos hw]
   exact goW hc hop hargs hdst h
  ·rename_i g' hgo
   split at hg
   ·rename_i d hd
    simp at hg;subst hg
    simp only at h
    split at h
    ·rename_i b hb
     have hB:=hS.bool hb
     have hy:yielded ops a.tmps g'.1=some b:=by
      unfold yielded
      have:(ops[g'.1]?).bind (·.dst)=some d:=by simpa using hd
      rw[this]
      simp[hB.2]
     have hwant:Region.wanted o (yielded ops a.tmps)=(b==g'.2):=by
      simp only[Region.wanted,hgo,hy]
      cases b<;>cases g'.2<;>rfl
     rw[hwant]
     split at h
     ·rename_i he
      rw[if_pos (by simpa using he)]
      exact goW hc hop hargs hdst h
     ·rename_i he
      rw[if_neg (by simpa using he)]
      simp at h
      obtain⟨_,rfl⟩:=h
      rw[<-hdst]
      exact hn _ _ (hS.skipU x.2.dst)
    ·rename_i hu
     have hU:=hS.isUndef hu
     have hy:yielded ops a.tmps g'.1=none:=by
      unfold yielded
      have:(ops[g'.1]?).bind (·.dst)=some d:=by simpa using hd
      rw[this]
      cases ht:a.tmps[d]? with
      |none=>simp[ht]
      |some v=>
       have:v=undef:=by simpa[ht]using hU
       subst this
       simp[ht,undef]
     have hwant:Region.wanted o (yielded ops a.tmps)=false:=by
      simp only[Region.wanted,hgo,hy]
      rfl
     rw[hwant,if_neg (by decide),<-hdst]
     simp at h
     obtain⟨_,rfl⟩:=h
     exact hn _ _ (hS.skipU x.2.dst)
    ·cases h
   ·cases hg
 ·unfold stepD at h
  rw[hgd]at h
  unfold goD at h
  rw[hop]at h
  simp[act]at h
theorem ready_preds{listed:Array Bool}{i:Nat}(h5:∀i,listed.getD i false=true->∀p∈(predsOf ops.toList).getD i [],listed.getD p false=true)(hi:i∈Region.ready .any ops listed):∀p∈(predsOf ops.toList).getD i [],listed.getD p false=true:=by
 unfold Region.ready at hi
 rw[List.mem_filter]at hi
 obtain⟨hir,hic⟩:=hi
 have hilt:i<ops.size:=by simpa using hir
 simp only[Bool.and_eq_true,Bool.not_eq_true']at hic
 obtain⟨hil,hia⟩:=hic
 intro p hp
 obtain⟨o,ho⟩:∃o,ops[i]? =some o:=⟨ops[i],by simp[hilt]⟩
 rw[ho]at hia
 simp only[Option.map_some,Option.getD_some]at hia
 rw[Array.all_eq_true_iff_forall_mem]at hia
 obtain⟨e',he',hb,hpe⟩:=predsGo_spec ops.toList [] i o (by simpa using ho) p (by simpa[predsOf]using hp)
 have hle:=hia e' (by simpa using he')
 rw[hb]at hle
 simp only[Bool.not_true,Bool.false_or]at hle
 rcases hpe with rfl|hpe
 ·exact hle
 ·exact h5 e'.on hle p hpe
theorem edge_lt(hed:edgesOK ops.toList=true)(i:Nat)(o:Oper)(ho:ops[i]? =some o):∀e∈o.after.toList,Region.binds .any e=true->e.on<i:=by
 intro e he hb
 unfold edgesOK at hed
 rw[List.all_eq_true]at hed
 have hm:(o,i)∈ops.toList.zipIdx:=by
  rw[List.mem_zipIdx_iff_getElem?]
  simpa using ho
 have:=hed _ hm
 rw[List.all_eq_true]at this
 have:=this e he
 simp only[hb,Bool.not_true,Bool.false_or,decide_eq_true_eq]at this
 exact this
theorem ready_mem(hed:edgesOK ops.toList=true){listed:Array Bool}(hsz:listed.size=ops.size){i:Nat}(hi:i<ops.size)(hl:listed.getD i true=false)(hj:∀j,j<i->listed.getD j true=true):i∈Region.ready .any ops listed:=by
 obtain⟨o,ho⟩:∃o,ops[i]? =some o:=⟨ops[i],by simp[hi]⟩
 unfold Region.ready
 rw[List.mem_filter]
 refine⟨by simpa using hi,?_⟩
 rw[hl]
 simp only[Bool.not_false,Bool.true_and,ho,Option.map_some,Option.getD_some]
 rw[Array.all_eq_true_iff_forall_mem]
 intro e' he'
 cases hb:Region.binds .any e'
 ·rfl
 ·simp only[Bool.not_true,Bool.false_or]
  have hlt:=edge_lt hed i o ho e' (by simpa using he') hb
  have:=hj _ hlt
  simpa[Array.getD,hsz,show e'.on<ops.size by omega]using this
theorem anyW{ro:Option Nat}(hsum:∀f s,summ f=some s->SummOK P f s)(hsc:∀f s,summ f=some s->SummC s)(hed:edgesOK ops.toList=true){Q:Exit->Act->World->Prop}{Sf:St}{off n0:Nat}{later:Nat->Prop}
 (hfin:∀listed a' w',listed.size=ops.size->(∀i,i<ops.size->listed.getD i true=false->later i)->(∀i,i<ops.size->later i->listed.getD i true=false)->(∀i,listed.getD i false=true->∀p∈(predsOf ops.toList).getD i [],listed.getD p false=true)->Sim base E0 Sf a' w'->wpAnyIn (FR ro) 0 P .any ops Q n0 listed a' w') :
 ∀(n:Nat)(rem:List IO2)(listed:Array Bool)(S:St)(a:Act)(w:World)(L:List LogE),rem.length=n->listed.size=ops.size->
  (∀x∈rem,listed.getD (x.1+off) true=false/\∃o,ops[x.1+off]? =some o/\x.2=compOne P sm ops.toList o x.2.rank x.2.preds/\∀p∈x.2.preds,p+off∈(predsOf ops.toList).getD (x.1+off) []) ->
  (∀i,i<ops.size->later i->listed.getD i true=false/\∀x∈rem,x.1+off<i/\x.1+off∈(predsOf ops.toList).getD i []) ->
  (∀i,i<ops.size->listed.getD i true=false->later i\/∃x∈rem,x.1+off=i) ->
  rem.Pairwise (fun x y=>x.1<y.1)->(∀i,listed.getD i false=true->∀p∈(predsOf ops.toList).getD i [],listed.getD p false=true) ->
  rem.Pairwise (fun x y=>y.2.preds.contains x.1=true\/slotApart x.2 y.2=true) ->
  execD summ bs rem S=some (L,Sf)->logOK L=true->Sim base E0 S a w->wpAnyIn (FR ro) 0 P .any ops Q (n+n0) listed a w:=by
 intro n
 induction n with
 |zero=>
  intro rem listed S a w L hn hsz h2 hla h3 h4 h5 h6 hex hlog hS
  have:rem=[]:=List.eq_nil_of_length_eq_zero hn
  subst this
  simp only[execD,Option.some.injEq,Prod.mk.injEq]at hex
  obtain⟨rfl,rfl⟩:=hex
  rw[Nat.zero_add]
  exact hfin listed a w hsz (fun i hi hl=>by
   rcases h3 i hi hl with h|⟨x,hx,_⟩
   ·exact h
   ·simp at hx) (fun i hi h=>(hla i hi h).1) h5 hS
 |succ n ih=>
  intro rem listed S a w L hn hsz h2 hla h3 h4 h5 h6 hex hlog hS
  rw[show n+1+n0=(n+n0)+1 by omega]
  have gl:∀i,i<ops.size->listed.getD i true=listed.getD i false:=by
   intro i hi
   simp[Array.getD,hsz,hi]
  refine⟨fun hnil=> ?_,fun i hi=> ?_⟩
  ·exfalso
   match rem,hn with
   |z::rest,_=>
    obtain⟨hz1,o,ho,_,_⟩:=h2 z (by simp)
    have hzlt:z.1+off<ops.size:=by
     rcases Nat.lt_or_ge (z.1+off) ops.size with h|h
     ·exact h
     ·rw[Array.getElem?_eq_none h]at ho;cases ho
    have:z.1+off∈Region.ready .any ops listed:=by
     refine ready_mem hed hsz hzlt hz1 (fun j hj=> ?_)
     cases hle:listed.getD j true
     ·rcases h3 j (by omega) hle with hxe|⟨x,hx,hxe⟩
      ·have:=((hla j (by omega) hxe).2 z (by simp)).1
       omega
      rcases List.mem_cons.1 hx with rfl|hx
      ·omega
      ·have:=List.rel_of_pairwise_cons h4 hx
       omega
     ·rfl
    rw[hnil]at this
    cases this
  ·have hpred:=ready_preds h5 hi
   unfold Region.ready at hi
   rw[List.mem_filter]at hi
   obtain⟨hir,hic⟩:=hi
   have hilt:i<ops.size:=by simpa using hir
   simp only[Bool.and_eq_true,Bool.not_eq_true']at hic
   obtain⟨hil,hia⟩:=hic
   rcases h3 i hilt hil with hie|⟨y,hy,rfl⟩
   ·exfalso
    match rem,hn with
    |z::rest,_=>
     obtain⟨hz1,o,ho,_,_⟩:=h2 z (by simp)
     have hz:=(hla i hilt hie).2 z (by simp)
     have:=hpred (z.1+off) hz.2
     rw[<-gl _ (by omega),hz1]at this
     cases this
   obtain⟨_,o,ho,hrel,hpr⟩:=h2 y hy
   obtain⟨pre,post,rfl⟩:=List.append_of_mem hy
   have hpre:∀x∈pre,slotApart x.2 y.2=true/\y.2.preds.contains x.1=false:=by
    intro x hx
    have hx1:=(h2 x (by simp[hx])).1
    have hxlt:x.1+off<ops.size:=by
     obtain⟨_,o',ho',_⟩:=h2 x (by simp[hx])
     rcases Nat.lt_or_ge (x.1+off) ops.size with h|h
     ·exact h
     ·rw[Array.getElem?_eq_none h]at ho';cases ho'
    have hnc:y.2.preds.contains x.1=false:=by
     cases hcn:y.2.preds.contains x.1
     ·rfl
     ·have:=hpred _ (hpr x.1 (List.contains_iff_mem.1 hcn))
      rw[<-gl _ hxlt,hx1]at this
      cases this
    refine⟨?_,hnc⟩
    have:=(List.pairwise_append.1 h6).2.2 x hx y (by simp)
    rcases this with h|h
    ·rw[h]at hnc;cases hnc
    ·exact h
   obtain⟨ly,S',L',t1,t2,t3,_,_⟩:=take_first hsc pre S L hex hlog hpre
   have hsub:(pre++post).Sublist (pre++y::post):=List.Sublist.append_left (List.sublist_cons_self y post) pre
   have hstep:=step_wp (ro:=ro) (ops:=ops) (sm:=sm) (Q:=Q) hsum hS t1 hrel (next:=wpAnyIn (FR ro) 0 P .any ops Q (n+n0) (listed.setIfInBounds (y.1+off) true)) (fun a' w' hS'=>by
    have hne:∀x∈pre++post,x.1≠y.1:=by
     intro x hx
     rcases List.mem_append.1 hx with hx|hx
     ·have:=(List.pairwise_append.1 h4).2.2 x hx y (by simp);omega
     ·have:=List.rel_of_pairwise_cons (List.pairwise_append.1 h4).2.1 hx;omega
    have gs:∀(j:Nat)(d:Bool),j≠y.1+off->(listed.setIfInBounds (y.1+off) true).getD j d=listed.getD j d:=by
     intro j d hj
     simp[Array.getD_eq_getD_getElem?,Array.getElem?_setIfInBounds_ne (Ne.symm hj)]
    have gy:(listed.setIfInBounds (y.1+off) true).getD (y.1+off) false=true:=by
     simp[Array.getD_eq_getD_getElem?,Array.getElem?_setIfInBounds,hsz,hilt]
    refine ih (pre++post) (listed.setIfInBounds (y.1+off) true) S' a' w' L' (by simp at hn⊢;omega) (by simpa using hsz) ?_ ?_ ?_ (h4.sublist hsub) ?_ (h6.sublist hsub) t2 t3 hS'
    ·intro x hx
     have:=h2 x (hsub.subset hx)
     have hn:=hne x hx
     exact⟨by rw[gs _ _ (by omega)];exact this.1,this.2⟩
    ·intro i hi hl
     have h:=hla i hi hl
     have hy':=(h.2 y (by simp)).1
     exact⟨by rw[gs _ _ (by omega)];exact h.1,fun x hx=>h.2 x (hsub.subset hx)⟩
    ·intro j hj hjl
     have hjy:j≠y.1+off:=by
      intro e;subst e
      have:(listed.setIfInBounds (y.1+off) true).getD (y.1+off) true=true:=by simp[Array.getD_eq_getD_getElem?,Array.getElem?_setIfInBounds,hsz,hilt]
      rw[this]at hjl;cases hjl
     rw[gs _ _ hjy]at hjl
     rcases h3 j hj hjl with hje|⟨x,hx,hxj⟩
     ·exact .inl hje
     refine .inr ⟨x,?_,hxj⟩
     rcases List.mem_append.1 hx with h|h
     ·exact List.mem_append_left _ h
     ·rcases List.mem_cons.1 h with rfl|h
      ·exact absurd hxj.symm hjy
      ·exact List.mem_append_right _ h
    ·intro j hj p hp
     have hlp:listed.getD p false=true:=by
      by_cases hjy:j=y.1+off
      ·subst hjy;exact hpred p hp
      ·rw[gs _ _ hjy]at hj
       exact h5 j hj p hp
     by_cases hpy:p=y.1+off
     ·rw[hpy];exact gy
     ·rw[gs _ _ hpy];exact hlp)
   unfold wpOpIn
   rw[ho]
   simp only
   split
   ·rename_i hw
    rw[if_pos hw]at hstep
    exact hstep
   ·rename_i hw
    rw[if_neg hw]at hstep
    exact⟨fun _ _=>trivial,hstep⟩
end
end Go.Ev
namespace Go.Ev
open Go Go.RowKit
section
variable{R:Type}{P:Program}{sm:Nat->Bool}{summ:Nat->Option Summ}
theorem compOne_ro{ops:List Oper}(o:Oper)(r:Nat)(p:List Nat):(compOne P sm ops o r p).rank=r/\(compOne P sm ops o r p).preds=p:=by
 unfold compOne
 split<;>exact⟨rfl,rfl⟩
theorem compOps_get{ops:List Oper}{j:Nat}{io:IOper}(h:(compOps P sm ops true)[j]? =some io) :
 ∃o,ops[j]? =some o/\io=compOne P sm ops o io.rank io.preds/\io.preds=(predsOf ops).getD j []:=by
 unfold compOps at h
 simp only[List.getElem?_map,List.getElem?_zipIdx]at h
 cases ho:ops[j]? with
 |none=>rw[ho]at h;simp at h
 |some o=>
  rw[ho]at h
  simp at h
  subst h
  refine⟨o,rfl,?_,?_⟩
  ·rw[(compOne_ro _ _ _).1,(compOne_ro _ _ _).2]
  ·rw[(compOne_ro _ _ _).2,List.getD_eq_getElem?_getD]
theorem enum_len:∀(l:List IOper)(i:Nat),(enum i l).length=l.length
 |[],_=>rfl
 |_::l,i=>by simp[enum,enum_len l]
theorem lookH_fresh(hp:List Blk)(n b:Nat):lookH (hp++List.replicate n .fresh) b=lookH hp b:=by
 unfold lookH
 rw[List.getD_eq_getElem?_getD,List.getD_eq_getElem?_getD]
 by_cases h:b<hp.length
 ·rw[List.getElem?_append_left h]
 ·rw[List.getElem?_append_right (by omega),List.getElem?_eq_none (show hp.length<=b by omega),List.getElem?_replicate]
  split<;>rfl
theorem HS.lookEq{base:Nat}{E:Env}{hp hp':List Blk}(H:HS base E hp)(h:∀b,lookH hp' b=lookH hp b):HS base E hp':=
 ⟨fun b=>by rw[h b];exact H.blk b,fun b b' g=>by rw[h b,h b'];exact H.inj b b' g,fun b g=>by rw[h b];exact H.sep b g,H.imm,fun b=>by rw[h b];exact H.live b,H.base,H.eok,H.jI⟩
theorem ready_nil{ops:Array Oper}{listed:Array Bool}(h:∀i,i<ops.size->listed.getD i true=true):Region.ready .any ops listed=[]:=by
 unfold Region.ready
 rw[List.filter_eq_nil_iff]
 intro i hi
 have hlt:i<ops.size:=by simpa using hi
 rw[h i hlt];simp
theorem draw_ok(hm:P.follows .mixedOrders=true)(hsum:∀f s,summ f=some s->SummOK P f s)(hsc:∀f s,summ f=some s->SummC s):DrawOK P sm R summ:=by
 intro ro base E0 call Q id nnew ops k r S a w hed hsl hev hS hk
 refine wpIn_region_any hm ?_
 obtain⟨E,h0,hw,H,hs,hd,hl,hfb⟩:=hS
 subst hw
 obtain⟨hle,H1⟩:=HS.world (w':= {E.w with drawn:=E.w.drawn+1}) H ⟨rfl,rfl,rfl,Nat.le_refl _,fun _ _=>rfl⟩ (fun _ _=>rfl)
 have hS1:Sim base E0 {S with hp:=S.hp++List.replicate nnew .fresh} a {E.w with drawn:=E.w.drawn+1} :=
  ⟨_,h0.trans hle,rfl,H1.lookEq (lookH_fresh _ _),hs.mono hle,hd,hl,⟨hfb.1,by simp;omega,hfb.2.2⟩⟩
 obtain⟨L,Sf,h1,h2,h3⟩:=evOps_execD _ _ _ _ hev
 refine anyW (ro:=ro) (sm:=sm) (off:=0) (later:=fun _=>False) (n0:=0) hsum hsc hed (fun listed a' w' hsz hl _ _ h=>⟨ready_nil (fun i hi=>by
  cases hb:listed.getD i true
  ·exact(hl i hi hb).elim
  ·rfl),hk Sf a' w' h3 h⟩) ops.size (enum 0 (compOps P sm ops.toList true)) _ _ _ _ L ?_ ?_ ?_ (fun _ _ h=>h.elim) ?_ ?_ ?_ ?_ h1 ?_ hS1
 ·rw[enum_len,compOps_len]
 ·simp
 ·intro x hx
  obtain⟨j,hj,hxj⟩:=(enum_mem _ _ _).1 hx
  obtain⟨o,ho,hrel,hpr⟩:=compOps_get hj
  have:x.1=j:=by omega
  have hlt:j<ops.size:=by
   rcases Nat.lt_or_ge j ops.size with h|h
   ·exact h
   ·rw[List.getElem?_eq_none (by simpa using h)]at ho;cases ho
  simp only[Nat.add_zero]
  refine⟨by rw[this];simp[Array.getD,hlt],o,by rw[this];simpa using ho,hrel,by rw[this,hpr];exact fun p hp=>hp⟩
 ·intro i hi _
  right
  have hlt:i<(compOps P sm ops.toList true).length:=by rw[compOps_len];simpa using hi
  exact⟨(i,(compOps P sm ops.toList true)[i]),(enum_mem _ _ _).2 ⟨i,by simp,by simp⟩,rfl⟩
 ·exact(enum_asc _ _).1
 ·intro i hi
  exfalso
  by_cases hlt:i<ops.size
  ·simp[Array.getD,hlt]at hi
  ·simp[Array.getD,hlt]at hi
 ·exact slots_pair _ _ hsl
 ·simpa using h2
theorem shiftPost_rel{ops:List Oper}(o:Oper)(e:Nat){io:IOper}(h:io=compOne P sm ops o io.rank io.preds):shiftPost e io=compOne P sm ops o (shiftPost e io).rank (shiftPost e io).preds:=by
 have:∀(r:Nat)(p q:List Nat),{compOne P sm ops o r p with preds:=q}=compOne P sm ops o r q:=by
  intro r p q
  unfold compOne
  split<;>rfl
 show({io with preds:=_}:IOper)=compOne P sm ops o io.rank _
 rw[<-this io.rank io.preds,<-h]
 rfl
theorem drawC_ok(hm:P.follows .mixedOrders=true)(hsum:∀f s,summ f=some s->SummOK P f s)(hsc:∀f s,summ f=some s->SummC s):DrawOKC P sm R summ:=by
 intro ro base E0 call Q id nnew ops e k r S a w hed hlc hsl hev hS hk
 refine wpIn_region_any hm ?_
 obtain⟨E,h0,hw,H,hs,hd,hl,hfb⟩:=hS
 subst hw
 obtain⟨hle,H1⟩:=HS.world (w':= {E.w with drawn:=E.w.drawn+1}) H ⟨rfl,rfl,rfl,Nat.le_refl _,fun _ _=>rfl⟩ (fun _ _=>rfl)
 have hS1:Sim base E0 {S with hp:=S.hp++List.replicate nnew .fresh} a {E.w with drawn:=E.w.drawn+1} :=
  ⟨_,h0.trans hle,rfl,H1.lookEq (lookH_fresh _ _),hs.mono hle,hd,hl,⟨hfb.1,by simp;omega,hfb.2.2⟩⟩
 obtain⟨L,Sf,h1,h2,h3⟩:=evOps_execD _ _ _ _ hev
 have hlen:(compOps P sm ops.toList true).length=ops.size:=compOps_len
 have hmid:midOK P sm ops.toList e=true/\e<ops.size:=by
  unfold midCall at hlc
  split at hlc
  ·rename_i e' he'
   split at hlc
   ·rename_i hok
    cases hlc
    refine⟨hok,?_⟩
    rw[List.findIdx?_eq_some_iff_getElem]at he'
    obtain⟨hlt,_⟩:=he'
    rw[hlen]at hlt
    exact hlt
   ·cases hlc
  ·cases hlc
 obtain⟨hmid,helt⟩:=hmid
 unfold midOK at hmid
 rw[List.all_eq_true]at hmid
 have hmid':∀i,i<ops.size->(e<=i->∀j,j<e->j∈(predsOf ops.toList).getD i [])/\(e<i->e∈(predsOf ops.toList).getD i []):=by
  intro i hi
  have hg:(compOps P sm ops.toList true)[i]? =some (compOps P sm ops.toList true)[i]:=List.getElem?_eq_getElem (by omega)
  obtain⟨o,ho,_,hpr⟩:=compOps_get hg
  have:=hmid ((compOps P sm ops.toList true)[i],i) (by rw[List.mem_zipIdx_iff_getElem?];simp)
  simp only[Bool.and_eq_true,Bool.or_eq_true,decide_eq_true_eq,List.all_eq_true,List.mem_range]at this
  rw[<-hpr]
  refine⟨fun hei j hj=> ?_,fun hei=> ?_⟩
  ·rcases this.1 with h|h
   ·omega
   ·exact List.contains_iff_mem.1 (h j hj)
  ·rcases this.2 with h|h
   ·omega
   ·exact List.contains_iff_mem.1 h.1
 have hdl:∀j x,((compOps P sm ops.toList true).take e)[j]? =some x->j<e/\(compOps P sm ops.toList true)[j]? =some x:=by
  intro j x hx
  have hlt:j<((compOps P sm ops.toList true).take e).length:=(List.getElem?_eq_some_iff.1 hx).1
  rw[List.length_take,hlen]at hlt
  refine⟨by omega,?_⟩
  rw[List.getElem?_take,if_pos (by omega)]at hx
  exact hx
 have hdll:((compOps P sm ops.toList true).take e).length=e:=by rw[List.length_take,hlen];omega
 have hoe:∃oe,ops[e]? =some oe:=⟨ops[e],by simp[helt]⟩
 obtain⟨oe,hoe⟩:=hoe
 have key:=anyW (ro:=ro) (P:=P) (base:=base) (E0:=E0) (ops:=ops) (Q:=Q) (Sf:=Sf) (sm:=sm) (off:=0) (later:=fun i=>e<=i) (n0:=(ops.size-(e+1))+1) hsum hsc hed (fun listed a' w' hsz hl hla h5 h=>by
  have gl:∀i,i<ops.size->listed.getD i true=listed.getD i false:=by
   intro i hi
   simp[Array.getD,hsz,hi]
  have hbe:∀i,i<e->listed.getD i true=true:=fun i hi=>by
   cases hb:listed.getD i true
   ·exact absurd (hl i (by omega) hb) (by omega)
   ·rfl
  refine⟨fun hnil=> ?_,fun i hi=> ?_⟩
  ·exfalso
   have:=ready_mem hed hsz helt (hla e helt (Nat.le_refl _)) hbe
   rw[hnil]at this
   cases this
  ·have hpred:=ready_preds h5 hi
   unfold Region.ready at hi
   rw[List.mem_filter]at hi
   obtain⟨hir,hic⟩:=hi
   have hilt:i<ops.size:=by simpa using hir
   simp only[Bool.and_eq_true,Bool.not_eq_true']at hic
   have hie:i=e:=by
    have h1:=hl i hilt hic.1
    rcases Nat.lt_or_ge e i with h2|h2
    ·exfalso
     have:=hpred e ((hmid' i hilt).2 h2)
     rw[<-gl e helt,hla e helt (Nat.le_refl _)]at this
     cases this
    ·omega
   subst hie
   unfold wpOpIn
   rw[hoe]
   simp only
   have hnext:∀S2 a2 w2(k2:St->Option R),slotsOK 0 (postOps P sm ops.toList i)=true->evOps summ call true S2.hp.length 0 (postOps P sm ops.toList i) [] S2 k2=some r->Sim base E0 S2 a2 w2->(∀S3 a3 w3,k2 S3=some r->Sim base E0 S3 a3 w3->Q .normal a3 w3)->wpAnyIn (FR ro) 0 P .any ops Q (ops.size-(i+1)) (listed.setIfInBounds i true) a2 w2:=by
    intro S2 a2 w2 k2 hsl2 hev2 hS2 hk2
    obtain⟨L2,Sf2,g1,g2,g3⟩:=evOps_execD _ _ _ _ hev2
    have gs:∀(j:Nat)(d:Bool),j≠i->(listed.setIfInBounds i true).getD j d=listed.getD j d:=by
     intro j d hj
     simp[Array.getD_eq_getD_getElem?,Array.getElem?_setIfInBounds_ne (Ne.symm hj)]
    have gy:∀d,(listed.setIfInBounds i true).getD i d=true:=by
     intro d
     simp[Array.getD_eq_getD_getElem?,Array.getElem?_setIfInBounds,hsz,hilt]
    have hpl:(postOps P sm ops.toList i).length=ops.size-(i+1):=by
     unfold postOps
     rw[List.length_map,List.length_drop,hlen]
    have hpo:∀j x,(postOps P sm ops.toList i)[j]? =some x->j+(i+1)<ops.size/\∃io,(compOps P sm ops.toList true)[j+(i+1)]? =some io/\x=shiftPost i io:=by
     intro j x hx
     have hlt:j<(postOps P sm ops.toList i).length:=(List.getElem?_eq_some_iff.1 hx).1
     rw[hpl]at hlt
     unfold postOps at hx
     rw[List.getElem?_map,List.getElem?_drop,Option.map_eq_some_iff]at hx
     obtain⟨io,hio,rfl⟩:=hx
     exact⟨by omega,io,by rw[<-hio];congr 1;omega,rfl⟩
    have:=anyW (ro:=ro) (P:=P) (base:=base) (E0:=E0) (ops:=ops) (Q:=Q) (Sf:=Sf2) (sm:=sm) (off:=i+1) (later:=fun _=>False) (n0:=0) hsum hsc hed (fun listed a' w' hsz hl _ _ h=>⟨ready_nil (fun i hi=>by
     cases hb:listed.getD i true
     ·exact(hl i hi hb).elim
     ·rfl),hk2 Sf2 a' w' g3 h⟩) (ops.size-(i+1)) (enum 0 (postOps P sm ops.toList i)) (listed.setIfInBounds i true) S2 a2 w2 L2 (by rw[enum_len,hpl]) (by simpa using hsz) ?_ (fun _ _ h=>h.elim) ?_ (enum_asc _ _).1 ?_ (slots_pair _ _ hsl2) g1 (by simpa using g2) hS2
    ·exact this
    ·intro x hx
     obtain⟨j,hj,hxj⟩:=(enum_mem _ _ _).1 hx
     obtain⟨hlt,io,hio,hxe⟩:=hpo j _ hj
     obtain⟨o,ho,hrel,hpr⟩:=compOps_get hio
     have hxj':x.1=j:=by omega
     rw[hxj']
     refine⟨?_,o,by simpa using ho,by rw[hxe];exact shiftPost_rel o i hrel,fun p hp=> ?_⟩
     ·rw[gs _ _ (by omega)]
      exact hla _ hlt (by omega)
     ·rw[hxe]at hp
      unfold shiftPost at hp
      simp only[List.mem_map,List.mem_filter,decide_eq_true_eq]at hp
      obtain⟨q,⟨hq,hqi⟩,rfl⟩:=hp
      rw[hpr]at hq
      rw[show q-(i+1)+(i+1)=q by omega]
      exact hq
    ·intro j hj hjl
     right
     have hji:i<j:=by
      rcases Nat.lt_trichotomy j i with h|h|h
      ·rw[gs _ _ (by omega),hbe j h]at hjl;cases hjl
      ·rw[h,gy]at hjl;cases hjl
      ·exact h
     have hlt:j-(i+1)<(postOps P sm ops.toList i).length:=by rw[hpl];omega
     exact⟨(j-(i+1),(postOps P sm ops.toList i)[j-(i+1)]),(enum_mem _ _ _).2 ⟨j-(i+1),List.getElem?_eq_getElem hlt,by simp⟩,by simp;omega⟩
    ·intro j hj p hp
     by_cases hji:j=i
     ·subst hji
      have:=hpred p hp
      by_cases hpj:p=j
      ·rw[hpj];exact gy _
      ·rw[gs _ _ hpj];exact this
     ·rw[gs _ _ hji]at hj
      have:=h5 j hj p hp
      by_cases hpj:p=i
      ·rw[hpj];exact gy _
      ·rw[gs _ _ hpj];exact this
   have:=hk _ oe Sf a' w' h3 h (by simpa using hoe) hnext
   split
   ·rename_i hw
    rw[if_pos hw]at this
    exact this
   ·rename_i hw
    rw[if_neg hw]at this
    exact⟨fun _ _=>trivial,this⟩) e (enum 0 ((compOps P sm ops.toList true).take e)) (Array.replicate ops.size false) _ a _ L ?_ ?_ ?_ ?_ ?_ ?_ ?_ ?_ h1 ?_ hS1
 ·rw[show e+(ops.size-(e+1)+1)=ops.size by omega]at key
  exact key
 ·rw[enum_len,hdll]
 ·simp
 ·intro x hx
  obtain⟨j,hj,hxj⟩:=(enum_mem _ _ _).1 hx
  obtain⟨hjl,hj'⟩:=hdl j _ hj
  obtain⟨o,ho,hrel,hpr⟩:=compOps_get hj'
  have:x.1=j:=by omega
  simp only[Nat.add_zero]
  refine⟨by rw[this];simp[Array.getD];omega,o,by rw[this];simpa using ho,hrel,by rw[this,hpr];exact fun p hp=>hp⟩
 ·intro i hi hei
  refine⟨by simp[Array.getD,hi],fun x hx=> ?_⟩
  obtain⟨j,hj,hxj⟩:=(enum_mem _ _ _).1 hx
  have:=(hdl j _ hj).1
  have hxj':x.1=j:=by omega
  rw[hxj']
  exact⟨by omega,(hmid' i hi).1 hei j this⟩
 ·intro i hi _
  rcases Nat.lt_or_ge i e with hie|hie
  ·right
   have hlt:i<((compOps P sm ops.toList true).take e).length:=by rw[hdll];omega
   exact⟨(i,((compOps P sm ops.toList true).take e)[i]),(enum_mem _ _ _).2 ⟨i,List.getElem?_eq_getElem hlt,by simp⟩,rfl⟩
  ·exact .inl hie
 ·exact(enum_asc _ _).1
 ·intro i hi
  exfalso
  by_cases hlt:i<ops.size
  ·simp[Array.getD,hlt]at hi
  ·simp[Array.getD,hlt]at hi
 ·exact slots_pair _ _ hsl
 ·simpa using h2
end
end Go.Ev
namespace Go.Ev
open Go Go.RowKit
theorem ev_sound{P:Program}{base:Nat}{R:Type}{sm:Nat->Bool}{summ:Nat->Option Summ}{fns:Nat->Option IFn}{fu:Nat}(hm:P.follows .mixedOrders=true)(hsum:∀f s,summ f=some s->SummOK P f s)(hsc:∀f s,summ f=some s->SummC s)(hfns:FnsOK P sm fns)(n:Nat):CallOK P base (rokOf P sm fns) (evFn (R:=R) summ fns fu n) :=
 evFn_sound hsum hfns (draw_ok hm hsum hsc) (drawC_ok hm hsum hsc) n
end Go.Ev
namespace Go.Ev
open Go Go.RowKit
def purify(look:Look):List Ty->List CV->Option (List CV)
 |[],[]=>some []
 |t::ts,c::cs=>match toPH look t c,purify look ts cs with|some x,some l=>some (ofP t x::l)|_,_=>none
 |_,_=>none
theorem toPH_agg{look:Look}:∀ {t:Ty}{c:CV}{x:t.den},toPH look t c=some x->c.isAgg=t.agg/\∀d,c≠ .tup d:=by
 intro t c x h
 cases t<;>cases c<;>simp only[toPH]at h<;>first
  |(cases h;done)
  |exact⟨rfl,fun d=>by simp⟩
  |(split at h
    ·rename_i ht;subst ht;exact⟨rfl,fun d=>by simp⟩
    ·cases h)
theorem VRep.one1{E:Env}{c:CV}{v:Value}(h:VRep E c v)(ht:∀d,c≠ .tup d):VRep1 E c v:=by
 cases c with
 |tup d=>exact absurd rfl (ht d)
 |_=>exact h
theorem VRep1.up{E:Env}{c:CV}{v:Value}(h:VRep1 E c v)(ht:∀d,c≠ .tup d):VRep E c v:=by
 cases c with
 |tup d=>exact absurd rfl (ht d)
 |_=>exact h
theorem purify_rep{E E':Env}{base:Nat}{look:Look}(L:LRep E base look)(hw:E'.w=E.w)(hI:∀g,E.R g->E'.R g):∀ {ts:List Ty}{cs cs':List CV}{vs:List Value},purify look ts cs=some cs'->subsOK look cs=true->Vs E cs vs->(∀c∈cs,∀g,refH E look c g->E'.R g)->Vs E' cs' vs
 |[],[],_,vs,h,_,hv,_=>by
  simp[purify]at h;subst h
  cases vs<;>exact hv
 |[],_::_,_,_,h,_,_,_=>by simp[purify]at h
 |_::_,[],_,_,h,_,_,_=>by simp[purify]at h
 |t::ts,c::cs,cs',[],_,_,hv,_=>hv.elim
 |t::ts,c::cs,cs',v::vs,h,hs,hv,hr=>by
  simp only[purify]at h
  split at h
  ·rename_i x l hx hl
   simp at h;subst h
   simp only[subsOK,List.all_cons,Bool.and_eq_true]at hs
   refine⟨?_,purify_rep L hw hI hl hs.2 hv.2 (fun c' hc'=>hr c' (by simp[hc']))⟩
   obtain⟨ha,ht⟩:=toPH_agg hx
   obtain⟨cells,h1,h2⟩:=hv.1.one1 ht
   have hd:=toPH_rep L (I':=E'.R) hI hx hs.1 h1 (hr c (by simp))
   rw[<-hw]at hd
   refine VRep1.up ⟨cells,CRep_ofP hd,?_⟩ (isVal_tup (isVal_ofP t x))
   rw[isAgg_ofP,<-ha]
   exact h2
  ·cases h
section
variable{P:Program}{base:Nat}{E:Env}{hp:List Blk}
def Env.clean(E:Env)(rk:Nat->Loop->Prop):Env:= {E with live:=fun _=>False,lr:=fun _=>none,rok:=rk}
theorem HS.empty{rk:Nat->Loop->Prop}(H:HS base E hp):HS E.w.heap.size (E.clean rk) []:=by
 have hf:∀b,lookH [] b= .fresh:=fun b=>by simp[lookH]
 refine⟨fun b=>by rw[hf];trivial,fun b b' g h=>by rw[hf]at h;exact h.elim,fun b g h=>by rw[hf]at h;exact h.elim,H.imm,fun b=> ?_,Nat.le_refl _,(fun b rec i h=>by cases h),H.jI⟩
 show False↔_
 simp[hf]
theorem HS.back{rk:Nat->Loop->Prop}(H:HS base E hp){E1:Env}{hp1:List Blk}(H1:HS E.w.heap.size E1 hp1)(hle:Env.le E.w.heap.size (E.clean rk) E1)(I2:Nat->Prop)
 (hI1:∀g,E1.I g->I2 g) (hI2:∀g,I2 g->E1.I g\/(E.w.heap.size<=g/\g<E1.w.heap.size)):E.le base {E with w:=E1.w,I:=I2}/\HS base {E with w:=E1.w,I:=I2} hp:=by
 have hheap:∀g,g<E.w.heap.size->E1.w.heap[g]? =E.w.heap[g]? :=fun g hg=>hle.bel.block g hg
 have hnew:∀g,I2 g->E.I g\/E.w.heap.size<=g:=fun g hg=>by
  rcases hI2 g hg with h|h
  ·exact hle.new g h
  ·exact .inr h.1
 have hle':E.le base {E with w:=E1.w,I:=I2} :=
  ⟨fun g hg=>hI1 g (hle.I g hg),fun g hg=>hheap g (H.imm g hg),fun _ h=>h,fun _ _=>rfl,fun _ _=>rfl,
   ⟨hle.bel.os,hle.bel.tape,hle.bel.output,hle.bel.size,fun k hk=>hheap k (Nat.lt_of_lt_of_le hk H.base)⟩,fun g hg=>(hnew g hg).elim .inl fun h=> .inr (Nat.le_trans H.base h),fun _ _=>rfl,rfl,rfl⟩
 refine⟨hle',⟨fun b=> ?_,H.inj,fun b g hg=>⟨fun hI=> ?_,(H.sep b g hg).2⟩,fun g hg=> ?_,H.live,Nat.le_trans H.base hle.bel.size,H.eok,hle'.jI H.jI⟩⟩
 ·by_cases hl:E.live b
  ·exact(H.blk b).mono hle' hl _ (fun g hg=>hheap g (H.held_lt hg))
  ·have:lookH hp b= .fresh:=by
    rcases Classical.em (lookH hp b= .fresh)with h1|h1
    ·exact h1
    ·exact absurd ((H.live b).2 h1) hl
   rw[this];trivial
 ·rcases hnew g hI with h|h
  ·exact(H.sep b g hg).1 h
  ·exact absurd (H.held_lt hg) (by omega)
 ·rcases hI2 g hg with h|h
  ·exact H1.imm g h
  ·exact h.2
end
end Go.Ev
namespace Go.Ev
open Go Go.RowKit
def pureS(ts:List Ty)(F:List CV->Option (Bool×List CV)):Summ:=fun cs look _=>match purify look ts cs with
 |none=>none
 |some cs'=>match F cs' with
  |none=>none
  |some r=>some ⟨subsOK look cs&&r.1,tupOf r.2,frzs look cs⟩
theorem purify_congr{look look':Look}:∀ {ts:List Ty}{cs:List CV},(∀b∈cs.flatMap CV.refs,look b=look' b)->purify look ts cs=purify look' ts cs
 |[],[],_=>rfl
 |[],_::_,_=>rfl
 |_::_,[],_=>rfl
 |t::ts,c::cs,h=>by
  simp only[purify]
  rw[toPH_congr (fun b hb=>h b (by simp[hb])),purify_congr (fun b hb=>h b (by rw[List.flatMap_cons];exact List.mem_append_right _ hb))]
theorem pureS_congr(ts:List Ty)(F:List CV->Option (Bool×List CV)):SummC (pureS ts F):=by
 intro cs look look' nid h
 unfold pureS
 rw[purify_congr h,subsOK_congr h,frzs_congr h]
theorem purify_tup{look:Look}:∀ {ts:List Ty}{cs cs':List CV},purify look ts cs=some cs'->cs'.length=cs.length/\(∀c∈cs,∀d,c≠ .tup d)/\∀c∈cs',∀d,c≠ .tup d
 |[],[],_,h=>by simp[purify]at h;subst h;simp
 |[],_::_,_,h=>by simp[purify]at h
 |_::_,[],_,h=>by simp[purify]at h
 |t::ts,c::cs,cs',h=>by
  simp only[purify]at h
  split at h
  ·rename_i x l hx hl
   simp at h;subst h
   obtain⟨h1,h2,h3⟩:=purify_tup hl
   exact⟨by simp[h1],by intro c' hc';rcases List.mem_cons.1 hc' with rfl|hc';exact(toPH_agg hx).2;exact h2 c' hc',by intro c' hc';rcases List.mem_cons.1 hc' with rfl|hc';exact isVal_tup (isVal_ofP _ _);exact h3 c' hc'⟩
  ·cases h
theorem TRep_vs{E:Env}:∀ {l:List CV}{vs:List Value},TRep E (chain l) vs->(∀c∈l,∀d,c≠ .tup d)->Vs E l vs
 |[],vs,h,_=>by
  have:vs=[]:=h
  subst this;trivial
 |c::l,vs,⟨v,r,e,h1,h2⟩,ht=>by
  subst e
  exact⟨h1.up (ht c (by simp)),TRep_vs h2 (fun c' hc'=>ht c' (by simp[hc']))⟩
theorem Vs_TRep{E:Env}:∀ {l:List CV}{vs:List Value},Vs E l vs->(∀c∈l,∀d,c≠ .tup d)->TRep E (chain l) vs
 |[],[],_,_=>rfl
 |[],_::_,h,_=>h.elim
 |_::_,[],h,_=>h.elim
 |c::l,v::vs,⟨h1,h2⟩,ht=>⟨v,vs,rfl,h1.one1 (ht c (by simp)),Vs_TRep h2 (fun c' hc'=>ht c' (by simp[hc']))⟩
theorem tup_split{E:Env}{l:List CV}{v:Value}(h:VRep E (tupOf l) v)(ht:∀c∈l,∀d,c≠ .tup d) :
 ∃vs,Vs E l vs/\∀(E':Env)(l':List CV),Vs E' l' vs->l'.length=l.length->(∀c∈l',∀d,c≠ .tup d)->VRep E' (tupOf l') v:=by
 match l with
 |[c] =>
  refine⟨[v],⟨h,trivial⟩,fun E' l' h' hl _=> ?_⟩
  match l',hl with
  |[c'],_=>exact h'.1
 |[] =>
  obtain⟨vs,rfl,h2⟩:=h
  refine⟨vs,TRep_vs h2 ht,fun E' l' h' hl ht'=> ?_⟩
  match l',hl with
  |[],_=>exact⟨vs,rfl,Vs_TRep h' ht'⟩
 |c::d::r=>
  obtain⟨vs,rfl,h2⟩:=h
  refine⟨vs,TRep_vs (l:=c::d::r) h2 ht,fun E' l' h' hl ht'=> ?_⟩
  match l',hl with
  |_::_::_,_=>exact⟨vs,rfl,Vs_TRep h' ht'⟩
theorem Vs_refs{E:Env}:∀ {cs:List CV}{vs:List Value},Vs E cs vs->(∀c∈cs,∀d,c≠ .tup d)->∀b∈cs.flatMap CV.refs,E.live b
 |[],_,_,_,b,hb=>by simp at hb
 |c::cs,[],h,_,_,_=>h.elim
 |c::cs,v::vs,⟨h1,h2⟩,ht,b,hb=>by
  rw[List.flatMap_cons,List.mem_append]at hb
  rcases hb with hb|hb
  ·obtain⟨cells,h3,_⟩:=h1.one1 (ht c (by simp))
   exact CRep.refs c cells h3 b hb
  ·exact Vs_refs h2 (fun c' hc'=>ht c' (by simp[hc'])) b hb
end Go.Ev
namespace Go.Ev
open Go Go.RowKit
variable{P:Program}
theorem summ_of_ev{rk:Nat->Loop->Prop}{f:Nat}{ts rs:List Ty}{F:List CV->Option (Bool×List CV)}{call:Nat->List CV->List Blk->(CV->List Blk->Option (CV×List Blk))->Option (CV×List Blk)}(hcall:∀base,CallOK P base rk call)(hrz:Nat.ble RZ f=false)(hcb:callable P f=true)
 (hF:∀look cs cs' l,purify look ts cs=some cs'->F cs'=some (true,l)->∃l0 hp2,call f cs' [] (fun v h=>some (v,h))=some (tupOf l0,hp2)/\purify (lookH hp2) rs l0=some l/\subsOK (lookH hp2) l0=true):SummOK P f (pureS ts F):=by
 refine⟨hcb,pureS_congr ts F,?_⟩
 intro base E hp cs vs nid out H hvs hs hok _ _
 unfold pureS at hs
 split at hs
 ·cases hs
 ·rename_i cs' hcs'
  split at hs
  ·cases hs
  ·rename_i r hr
   simp at hs;subst hs
   obtain⟨ok,l⟩:=r
   simp only[Bool.and_eq_true]at hok
   obtain⟨hsub,rfl⟩:=hok
   obtain⟨_,ht,_⟩:=purify_tup hcs'
   obtain⟨E',hle,H',hw,_,_,_,hI⟩:=HS.frzs (lookH hp) (cs.flatMap CV.refs) H (fun _=> .inl rfl) (Vs_refs hvs ht)
   obtain⟨l0,hp2,hev,hpl,hsl⟩:=hF _ _ _ _ hcs' hr
   have hvs0:Vs (E'.clean rk) cs' vs:=purify_rep (base:=base) (E':=(E'.clean rk)) H.blk hw hle.R hcs' hsub hvs (fun c hc g⟨b,hb,hg⟩=>hI g (.inr ⟨b,List.mem_flatMap.2 ⟨c,hc,hb⟩,hg⟩))
   have hc:=((hcall _).1 f cs' [] _ _ hrz hev (E'.clean rk) vs rfl H'.empty hvs0).2
   rw[<-hw]
   refine Calls.mono hc ?_
   rintro e w' ⟨v,c,hp1,E1,rfl,hk,rfl,hle1,H1,hv,_⟩
   simp only[Option.some.injEq,Prod.mk.injEq]at hk
   obtain⟨rfl,rfl⟩:=hk
   obtain⟨hll,ht0,htl⟩:=purify_tup hpl
   obtain⟨us,hus,hback⟩:=tup_split hv ht0
   obtain⟨hle3,H3⟩:=H'.back H1 hle1 (fun g=>E1.I g\/∃c∈l0,refH E1 (lookH hp1) c g) (fun _ h=> .inl h) (fun g hg=>by
    rcases hg with h|⟨c,_,b,_,h⟩
    ·exact .inl h
    ·exact .inr ⟨(H1.sep b g h).2,H1.held_lt h⟩)
   refine⟨v,{E' with w:=E1.w,I:=fun g=>E1.I g\/∃c∈l0,refH E1 (lookH hp1) c g},rfl,rfl,hle.trans hle3,H3,hback _ _ ?_ hll htl⟩
   exact purify_rep (base:=E'.w.heap.size) (E:=E1) (E':= {E' with w:=E1.w,I:=fun g=>E1.I g\/∃c∈l0,refH E1 (lookH hp1) c g}) H1.blk rfl (fun g(h:E1.R g)=>⟨Or.inl h.1,fun hj=>h.2 (by rw[hle1.J];exact hj)⟩) hpl hsl hus (fun c hc g hg=>⟨Or.inr ⟨c,hc,hg⟩,fun hj=>by
    obtain⟨b,_,hb⟩:=hg
    exact H1.heldJ hb (by rw[hle1.J];exact hj)⟩)
section
variable{R:Type}
def evLoopN(body:St->(Ex->St->Option R)->Option R)(nrm:St->St):Nat->St->(Ex->St->Option R)->Option R
 |0,_,_=>none
 |m+1,T,k=>body T fun ex S'=>match ex with
  | .normal=>evLoopN body nrm m (nrm S') k
  |e=>k e S'
theorem evLoop_eq(body:St->(Ex->St->Option R)->Option R)(nrm:St->St):∀m S k,evLoop body nrm m S k=evLoopN body nrm m (nrm S) k
 |0,_,_=>rfl
 |m+1,S,k=>by
  simp only[evLoop,evLoopN]
  congr 1
  funext ex S'
  cases ex with
  |normal=>exact evLoop_eq body nrm m S' k
  |_=>rfl
inductive LT(R:Type)where
 |nil
 |node (a b:LT R)
 |orc (o:St->(Ex->St->Option R)->Option R)
variable(summ:Nat->Option Summ)(fu:Nat)(call:Nat->List CV->List Blk->(CV->List Blk->Option R)->Option R)
def evCodeL:LT R->IC->St->(Ex->St->Option R)->Option R
 | .nil,c,S,k=>evCode summ fu call c S k
 | .node x y,.seq a b,S,k=>evCodeL x a S fun ex S'=>match ex with| .normal=>evCodeL y b S' k|e=>k e S'
 | .node x y,.cond c a b,S,k=>match c with
   | .tmp t=>match S.sl.getD t .junk with
     | .bool v=>bif v then evCodeL x a (S.put (some t) (.bool true)) k else evCodeL y b (S.put (some t) (.bool false)) k
     |_=>none
   | .cst (.bool v)=>bif v then evCodeL x a S k else evCodeL y b S k
   |_=>none
 | .node x _,.block id b,S,k=>evCodeL x b S fun ex S'=>match ex with
   | .exit j=>if j=id then k .normal S' else k (.exit j) S'
   |e=>k e S'
 | .orc o,.loop live _,S,k=>o (St.norm live S) k
 | .orc o,.cut live _,S,k=>o (St.norm live S) k
 | .node x _,.cut live b,S,k=>evCodeL x b (St.norm live S) k
 |_,_,_,_=>none
def LTok:LT R->IC->Prop
 | .nil,_=>True
 | .node x y,.seq a b=>LTok x a/\LTok y b
 | .node x y,.cond _ a b=>LTok x a/\LTok y b
 | .node x _,.block _ b=>LTok x b
 | .orc o,.loop live b=>∀T k r,o T k=some r->evLoopN (evCode summ fu call b) (St.norm live) fu T k=some r
 | .orc o,.cut _ b=>∀T k r,o T k=some r->evCode summ fu call b T k=some r
 | .node x _,.cut _ b=>LTok x b
 |_,_=>True
def Kle(k k':Ex->St->Option R):Prop:=∀e S r,k e S=some r->k' e S=some r
def CallLe(call call2:Nat->List CV->List Blk->(CV->List Blk->Option R)->Option R):Prop:=∀f cs hp(k k':CV->List Blk->Option R)r,(∀v h r,k v h=some r->k' v h=some r)->call f cs hp k=some r->call2 f cs hp k'=some r
theorem gd_mono{c:Bool}{x y:Option R}{r:R}(h:x=some r->y=some r)(hx:gd c x=some r):gd c y=some r:=by
 cases c
 ·cases hx
 ·exact h hx
variable{summ fu call}{call2:Nat->List CV->List Blk->(CV->List Blk->Option R)->Option R}
theorem evOps_monoF(hc:CallLe call call2)(base:Nat):∀(os:List IOper)(i:Nat)(log:List LogE)(S:St)(k k':St->Option R)(r:R),(∀S r,k S=some r->k' S=some r)->evOps summ call false base i os log S k=some r->evOps summ call2 false base i os log S k'=some r:=by
 intro os
 induction os with
 |nil=>
  intro i log S k k' r hk h
  unfold evOps at h⊢
  exact hk _ _ h
 |cons o os ih=>
  intro i log S k k' r hk h
  have hrun:∀S:St,(match o.op with
   | .call f=>call f (o.args.map S.eval) S.hp fun v hp=>evOps summ call false base (i+1) os log ({S with hp:=hp}.put o.dst v) k
   | .callv=>match o.args.map S.eval with
     | .clo f c::vs=>if capsF f c=true then call f (vs++unchain c) S.hp fun v hp=>evOps summ call false base (i+1) os log ({S with hp:=hp}.put o.dst v) k else none
     | .yld b i' c::vs=>call (RZ+i') (.yld b i' c::vs) S.hp fun v hp=>evOps summ call false base (i+1) os log ({S with hp:=hp}.put o.dst v) k
     |_=>none
   |op=>match o.args.map S.eval with
    |vals=>match S.hp.length with
     |nid=>match act summ op vals S.look nid with
      |none=>none
      |some out=>gd out.ok (evOps summ call false base (i+1) os log (S.apply o.dst out) k))=some r->
   (match o.op with
   | .call f=>call2 f (o.args.map S.eval) S.hp fun v hp=>evOps summ call2 false base (i+1) os log ({S with hp:=hp}.put o.dst v) k'
   | .callv=>match o.args.map S.eval with
     | .clo f c::vs=>if capsF f c=true then call2 f (vs++unchain c) S.hp fun v hp=>evOps summ call2 false base (i+1) os log ({S with hp:=hp}.put o.dst v) k' else none
     | .yld b i' c::vs=>call2 (RZ+i') (.yld b i' c::vs) S.hp fun v hp=>evOps summ call2 false base (i+1) os log ({S with hp:=hp}.put o.dst v) k'
     |_=>none
   |op=>match o.args.map S.eval with
    |vals=>match S.hp.length with
     |nid=>match act summ op vals S.look nid with
      |none=>none
      |some out=>gd out.ok (evOps summ call2 false base (i+1) os log (S.apply o.dst out) k'))=some r:=by
   intro S h
   split at h
   ·exact hc _ _ _ _ _ _ (fun v hp r=>ih _ _ _ _ _ _ hk) h
   ·split at h
    ·rename_i hv
     split at h
     ·rename_i hcap;simp only[hcap,if_true];exact hc _ _ _ _ _ _ (fun v hp r=>ih _ _ _ _ _ _ hk) h
     ·cases h
    ·exact hc _ _ _ _ _ _ (fun v hp r=>ih _ _ _ _ _ _ hk) h
    ·cases h
   ·dsimp only at h⊢
    split at h
    ·cases h
    ·rename_i out hout
     exact gd_mono (ih _ _ _ _ _ _ hk) h
  unfold evOps at h⊢
  cases hg:o.guard with
  |none=>rw[hg]at h;exact hrun _ h
  |some g=>
   obtain⟨d,want⟩:=g
   rw[hg]at h
   simp only[]at h⊢
   split at h
   ·rename_i b hb
    cases b<;>cases want
    ·exact hrun _ h
    ·exact ih _ _ _ _ _ _ hk h
    ·exact ih _ _ _ _ _ _ hk h
    ·exact hrun _ h
   ·exact ih _ _ _ _ _ _ hk h
   ·cases h
theorem evOps_monoT(hc:CallLe call call2)(base:Nat):∀(os:List IOper)(i:Nat)(log:List LogE)(S:St)(k k':St->Option R)(r:R),(∀S r,k S=some r->k' S=some r)->evOps summ call true base i os log S k=some r->evOps summ call2 true base i os log S k'=some r:=by
 intro os
 induction os with
 |nil=>
  intro i log S k k' r hk h
  unfold evOps at h⊢
  exact gd_mono (hk _ _) h
 |cons o os ih=>
  intro i log S k k' r hk h
  have hrun:∀S:St,(match o.args.map S.eval with
   |vals=>match base+o.rank with
    |nid=>match act summ o.op vals S.look nid with
     |none=>none
     |some out=>gd (drawChk S o.op nid out) (gd out.ok (evOps summ call true base (i+1) os (log++[logOf i o o.op vals nid out]) (S.apply o.dst out) k)))=some r->
   (match o.args.map S.eval with
    |vals=>match base+o.rank with
     |nid=>match act summ o.op vals S.look nid with
      |none=>none
      |some out=>gd (drawChk S o.op nid out) (gd out.ok (evOps summ call2 true base (i+1) os (log++[logOf i o o.op vals nid out]) (S.apply o.dst out) k')))=some r:=by
   intro S h
   dsimp only at h⊢
   split at h
   ·cases h
   ·rename_i out hout
    exact gd_mono (gd_mono (ih _ _ _ _ _ _ hk)) h
  unfold evOps at h⊢
  cases hg:o.guard with
  |none=>rw[hg]at h;exact hrun _ h
  |some g=>
   obtain⟨d,want⟩:=g
   rw[hg]at h
   simp only[]at h⊢
   split at h
   ·rename_i b hb
    cases b<;>cases want
    ·exact hrun _ h
    ·exact ih _ _ _ _ _ _ hk h
    ·exact ih _ _ _ _ _ _ hk h
    ·exact hrun _ h
   ·exact ih _ _ _ _ _ _ hk h
   ·cases h
theorem evLoop_mono{body body2:St->(Ex->St->Option R)->Option R}{nrm:St->St}(hb:∀S k k' r,Kle k k'->body S k=some r->body2 S k'=some r):∀m S k k' r,Kle k k'->evLoop body nrm m S k=some r->evLoop body2 nrm m S k'=some r
 |0,_,_,_,_,_,h=>by cases h
 |m+1,S,k,k',r,hk,h=>by
  refine hb _ _ _ _ (fun e S' r' h'=> ?_) h
  cases e with
  |normal=>exact evLoop_mono hb m _ _ _ _ hk h'
  |_=>exact hk _ _ _ h'
theorem rngK_mono{k k':Ex->St->Option R}(hk:Kle k k'){S:St}{r:R}:∀x:Blk,(match x with| .ghost 1=>none| .ghost n=>k (exOf n) S|_=>none)=some r->(match x with| .ghost 1=>none| .ghost n=>k' (exOf n) S|_=>none)=some r
 | .ghost 0,h=>hk _ _ _ h
 | .ghost 1,h=>by cases h
 | .ghost (n+2),h=>hk _ _ _ h
 | .fresh,h=>by cases h
 | .dead,h=>by cases h
 | .mem _,h=>by cases h
 | .vec _ _ _,h=>by cases h
 | .fvec _ _ _,h=>by cases h
theorem evCode_mono(hc:CallLe call call2):∀(c:IC)(S:St)(k k':Ex->St->Option R)(r:R),Kle k k'->evCode summ fu call c S k=some r->evCode summ fu call2 c S k'=some r
 | .skip,_,_,_,_,hk,h=>hk _ _ _ h
 | .region draw _ ops,S,_,_,_,hk,h=>by
   unfold evCode at h⊢
   cases draw
   ·exact evOps_monoF hc _ _ _ _ _ _ _ _ (fun S r=>hk .normal S r) h
   ·exact gd_mono (evOps_monoT hc _ _ _ _ _ _ _ _ (fun S r=>hk .normal S r)) h
 | .seq a b,S,_,_,_,hk,h=>by
   unfold evCode at h⊢
   refine evCode_mono hc a _ _ _ _ (fun e S' r' h'=> ?_) h
   cases e with
   |normal=>exact evCode_mono hc b _ _ _ _ hk h'
   |_=>exact hk _ _ _ h'
 | .cond c a b,S,_,_,_,hk,h=>by
   unfold evCode at h⊢
   split at h
   ·split at h
    ·rename_i x hx
     cases x
     ·exact evCode_mono hc b _ _ _ _ hk h
     ·exact evCode_mono hc a _ _ _ _ hk h
    ·cases h
   ·rename_i x
    cases x
    ·exact evCode_mono hc b _ _ _ _ hk h
    ·exact evCode_mono hc a _ _ _ _ hk h
   ·cases h
 | .block id b,S,_,_,_,hk,h=>by
   unfold evCode at h⊢
   refine evCode_mono hc b _ _ _ _ (fun e S' r' h'=> ?_) h
   cases e with
   |exit j=>
    simp only[]at h'⊢
    split at h'
    ·rename_i hj;simp only[hj,if_true];exact hk _ _ _ h'
    ·rename_i hj;simp only[hj,if_false];exact hk _ _ _ h'
   |_=>exact hk _ _ _ h'
 | .loop live b,S,_,_,_,hk,h=>by
   unfold evCode at h⊢
   exact evLoop_mono (fun S k k' r=>evCode_mono hc b S k k' r) _ _ _ _ _ hk h
 | .cut live b,S,_,_,_,hk,h=>by
   unfold evCode at h⊢
   exact evCode_mono hc b _ _ _ _ hk h
 | .exit _,_,_,_,_,hk,h=>hk _ _ _ h
 | .ret,_,_,_,_,hk,h=>hk _ _ _ h
 | .rangef id g lv ps a b,S,k,k',r,hk,h=>by
   unfold evCode at h⊢
   split at h
   ·rename_i f c hclo
    split at h
    ·rename_i hcap
     simp only[hclo,hcap,if_true]
     exact hc _ _ _ _ _ _ (fun v hp r h'=>rngK_mono hk _ h') h
    ·cases h
   ·cases h
theorem evRnd_mono(hc:CallLe call call2){ps:List Nat}{asg body:IC}:∀(cs:List CV)(hp:List Blk)(k k':CV->List Blk->Option R)(r:R),(∀v h r,k v h=some r->k' v h=some r)->evRnd summ fu call ps asg body cs hp k=some r->evRnd summ fu call2 ps asg body cs hp k'=some r:=by
 intro cs hp k k' r hk h
 unfold evRnd at h⊢
 split at h
 ·split at h
  ·rename_i hg
   split at h
   ·rename_i hl
    simp only[hg,hl,if_true]
    refine evCode_mono hc asg _ _ _ _ (fun e S r' h'=> ?_) h
    cases e with
    |normal=>
     try simp only at h'⊢
     split at h'
     ·rename_i hg1
      try simp only[hg1]
      refine evCode_mono hc body _ _ _ _ (fun e S r' h'=> ?_) h'
      split at h'
      ·rename_i hg2
       try simp only[hg2]
       exact hk _ _ _ h'
      ·cases h'
     ·cases h'
    |_=>cases h'
   ·cases h
  ·cases h
 ·cases h
theorem evCodeL_sound(hc:CallLe call call2)(hc2:CallLe call2 call2):∀(t:LT R)(c:IC)(S:St)(k k':Ex->St->Option R)(r:R),LTok summ fu call2 t c->Kle k k'->evCodeL summ fu call t c S k=some r->evCode summ fu call2 c S k'=some r
 | .nil,c,S,k,k',r,_,hk,h=>evCode_mono hc c S k k' r hk (by unfold evCodeL at h;exact h)
 | .node x y,.seq a b,S,k,k',r,ht,hk,h=>by
   unfold evCodeL at h;unfold evCode
   refine evCodeL_sound hc hc2 x a _ _ _ _ ht.1 (fun e S' r' h'=> ?_) h
   cases e with
   |normal=>exact evCodeL_sound hc hc2 y b _ _ _ _ ht.2 hk h'
   |_=>exact hk _ _ _ h'
 | .node x y,.cond c a b,S,k,k',r,ht,hk,h=>by
   unfold evCodeL at h;unfold evCode
   split at h
   ·split at h
    ·rename_i v hx
     simp only[hx]
     cases v
     ·exact evCodeL_sound hc hc2 y b _ _ _ _ ht.2 hk h
     ·exact evCodeL_sound hc hc2 x a _ _ _ _ ht.1 hk h
    ·cases h
   ·rename_i v
    cases v
    ·exact evCodeL_sound hc hc2 y b _ _ _ _ ht.2 hk h
    ·exact evCodeL_sound hc hc2 x a _ _ _ _ ht.1 hk h
   ·cases h
 | .node x _,.block id b,S,k,k',r,ht,hk,h=>by
   unfold evCodeL at h;unfold evCode
   refine evCodeL_sound hc hc2 x b _ _ _ _ ht (fun e S' r' h'=> ?_) h
   cases e with
   |exit j=>
    simp only[]at h'⊢
    split at h'
    ·rename_i hj;simp only[hj,if_true];exact hk _ _ _ h'
    ·rename_i hj;simp only[hj,if_false];exact hk _ _ _ h'
   |_=>exact hk _ _ _ h'
 | .orc o,.loop live b,S,k,k',r,ht,hk,h=>by
   unfold evCodeL at h;unfold evCode
   have:=ht _ _ _ h
   rw[<-evLoop_eq]at this
   exact evLoop_mono (fun S k k' r=>evCode_mono hc2 b S k k' r) _ _ _ _ _ hk this
 | .orc o,.cut live b,S,k,k',r,ht,hk,h=>by
   unfold evCodeL at h;unfold evCode
   exact evCode_mono hc2 b _ _ _ _ hk (ht _ _ _ h)
 | .node x _,.cut live b,S,k,k',r,ht,hk,h=>by
   unfold evCodeL at h;unfold evCode
   exact evCodeL_sound hc hc2 x b _ _ _ _ ht hk h
 | .node _ _,.skip,_,_,_,_,_,_,h=>by unfold evCodeL at h;cases h
 | .node _ _,.region _ _ _,_,_,_,_,_,_,h=>by unfold evCodeL at h;cases h
 | .node _ _,.loop _ _,_,_,_,_,_,_,h=>by unfold evCodeL at h;cases h
 | .node _ _,.exit _,_,_,_,_,_,_,h=>by unfold evCodeL at h;cases h
 | .node _ _,.ret,_,_,_,_,_,_,h=>by unfold evCodeL at h;cases h
 | .orc _,.skip,_,_,_,_,_,_,h=>by unfold evCodeL at h;cases h
 | .orc _,.region _ _ _,_,_,_,_,_,_,h=>by unfold evCodeL at h;cases h
 | .orc _,.seq _ _,_,_,_,_,_,_,h=>by unfold evCodeL at h;cases h
 | .orc _,.cond _ _ _,_,_,_,_,_,_,h=>by unfold evCodeL at h;cases h
 | .orc _,.block _ _,_,_,_,_,_,_,h=>by unfold evCodeL at h;cases h
 | .orc _,.exit _,_,_,_,_,_,_,h=>by unfold evCodeL at h;cases h
 | .orc _,.ret,_,_,_,_,_,_,h=>by unfold evCodeL at h;cases h
 | .node _ _,.rangef _ _ _ _ _ _,_,_,_,_,_,_,h=>by unfold evCodeL at h;cases h
 | .orc _,.rangef _ _ _ _ _ _,_,_,_,_,_,_,h=>by unfold evCodeL at h;cases h
variable(summ fu)in
theorem evFn_mono(fns:Nat->Option IFn):∀n,CallLe (evFn (R:=R) summ fns fu n) (evFn (R:=R) summ fns fu n)
 |0,_,_,_,_,_,_,_,h=>by cases h
 |n+1,f,cs,hp,k,k',r,hk,h=>by
  unfold evFn at h⊢
  split at h
  ·rename_i hz
   try simp only[hz]
   split at h
   ·rename_i fn hfn
    try simp only[hfn]
    split at h
    ·rename_i x hx
     try simp only[hx]
     exact evRnd_mono (evFn_mono fns n) _ _ _ _ _ hk h
    ·cases h
   ·cases h
  ·rename_i hz
   try simp only[hz]
   split at h
   ·cases h
   ·rename_i fn hfn
    try simp only[hfn]
    refine evCode_mono (evFn_mono fns n) _ _ _ _ _ (fun e S r' h'=> ?_) h
    split at h'
    ·cases h'
    ·rename_i hne
     split at h'
     ·cases h'
     ·rename_i l hl
      cases e with
      |exit j=>exact absurd rfl (hne j)
      |_=>exact hk _ _ _ h'
def evFnL(summ:Nat->Option Summ)(fu:Nat)(call:Nat->List CV->List Blk->(CV->List Blk->Option R)->Option R)(t:LT R)(fn:IFn)(args:List CV)(hp:List Blk)(k:CV->List Blk->Option R):Option R:=
 evCodeL summ fu call t fn.body {sl:=args++List.replicate (fn.ntmps-args.length) .junk,hp:=hp,fb:=hp.length} fun ex S=>
  match ex with
  | .exit _=>none
  |_=>match resOf S fn.results with
   |none=>none
   |some l=>match compact S.fb (l.flatMap CV.refs) S.hp with
    |keep=>k ((tupOf l).ren S.fb keep) (compHp S.fb keep S.hp)
def ovr(o:Nat->Option (List CV->List Blk->(CV->List Blk->Option R)->Option R))(call:Nat->List CV->List Blk->(CV->List Blk->Option R)->Option R):Nat->List CV->List Blk->(CV->List Blk->Option R)->Option R:=fun f args hp k=>match o f with
 |some g=>g args hp k
 |none=>call f args hp k
def OvrOK(o:Nat->Option (List CV->List Blk->(CV->List Blk->Option R)->Option R))(call:Nat->List CV->List Blk->(CV->List Blk->Option R)->Option R):Prop:=∀f g,o f=some g->∀args hp k r,g args hp k=some r->call f args hp k=some r
theorem ovr_le{o:Nat->Option (List CV->List Blk->(CV->List Blk->Option R)->Option R)}(hm:CallLe call call)(ho:OvrOK o call):CallLe (ovr o call) call:=by
 intro f cs hp k k' r hk h
 unfold ovr at h
 split at h
 ·rename_i g hg
  exact hm f cs hp k k' r hk (ho f g hg _ _ _ _ h)
 ·exact hm f cs hp k k' r hk h
def noO:Nat->Option (List CV->List Blk->(CV->List Blk->Option R)->Option R):=fun _=>none
theorem noO_ok:OvrOK noO call:=by intro f g h;cases h
theorem evFnL_sound{fns:Nat->Option IFn}{n f:Nat}{fn:IFn}(hrz:Nat.ble RZ f=false)(hf:fns f=some fn){t:LT R}{o:Nat->Option (List CV->List Blk->(CV->List Blk->Option R)->Option R)}(ho:OvrOK o (evFn summ fns fu n))(ht:LTok summ fu (evFn summ fns fu n) t fn.body){args:List CV}{hp:List Blk}{k:CV->List Blk->Option R}{r:R}
 (h:evFnL summ fu (ovr o (evFn summ fns fu n)) t fn args hp k=some r):evFn summ fns fu (n+1) f args hp k=some r:=by
 unfold evFn
 simp only[hrz,hf]
 exact evCodeL_sound (ovr_le (evFn_mono summ fu fns n) ho) (evFn_mono summ fu fns n) t _ _ _ _ _ ht (fun _ _ _ h=>h) h
def evRndL(summ:Nat->Option Summ)(fu:Nat)(call:Nat->List CV->List Blk->(CV->List Blk->Option R)->Option R)(t:LT R)(ps:List Nat)(asg body:IC):List CV->List Blk->(CV->List Blk->Option R)->Option R
 | .yld b _ c::vs,hp,k=>match hp.getD b .fresh with
   | .ghost 0=>if vs.length=ps.length then evCode summ fu call asg {sl:=putAll ps vs (unchain c),hp:=hp,fb:=hp.length} fun ex S=>match ex with
    | .normal=>match S.hp.getD b .fresh with
      | .ghost 0=>evCodeL summ fu call t body {S with hp:=setH S.hp b (.ghost 1)} fun ex S=>match S.hp.getD b .fresh with
        | .ghost 1=>match setH S.hp b (.ghost (exN ex))with
          |hp'=>match compact S.fb [] hp' with
           |keep=>k (.bool (exN ex==0)) (compHp S.fb keep hp')
        |_=>none
      |_=>none
    |_=>none else none
   |_=>none
 |_,_,_=>none
def rndO(fn:IFn):List Nat×IC×IC:=match findR fn.body with|some x=>x|none=>([],.skip,.skip)
theorem bodyL_sound{fns:Nat->Option IFn}{n:Nat}{b:IC}{t:LT R}{o:Nat->Option (List CV->List Blk->(CV->List Blk->Option R)->Option R)}(ho:OvrOK o (evFn summ fns fu n))(ht:LTok summ fu (evFn summ fns fu n) t b){T:St}{k:Ex->St->Option R}{r:R}
 (h:evCodeL summ fu (ovr o (evFn summ fns fu n)) t b T k=some r):evCode summ fu (evFn summ fns fu n) b T k=some r:=
 evCodeL_sound (ovr_le (evFn_mono summ fu fns n) ho) (evFn_mono summ fu fns n) t _ _ _ _ _ ht (fun _ _ _ h=>h) h
end
end Go.Ev
namespace Go.Ev
open Go Go.RowKit
theorem ev_law{P:Program}{rk:Nat->Loop->Prop}{f:Nat}{call:Nat->List CV->List Blk->(CV->List Blk->Option Bool)->Option Bool}(hcall:∀base,CallOK P base rk call)(hrz:Nat.ble RZ f=false){cs:List CV}{b:Bool}(hev:call f cs [] (fun v _=>match v with| .bool b=>some b|_=>none)=some b)
 {w:World} {I:Nat->Prop} (himm:∀g,I g->g<w.heap.size) {vs:List Value} (hvs:Vs {w:=w,I:=I,μ:=fun _=>0,σ:=fun _=>undef,live:=fun _=>False,rok:=rk} cs vs) :
 Calls P f vs.toArray w fun e w'=>e= .returned (.bool b)/\Below w.heap.size w w':=by
 have hf:∀b,lookH [] b= .fresh:=fun b=>by simp[lookH]
 have H:HS w.heap.size {w:=w,I:=I,μ:=fun _=>0,σ:=fun _=>undef,live:=fun _=>False,rok:=rk} []:=by
  refine⟨fun b=>by rw[hf];trivial,fun b b' g h=>by rw[hf]at h;exact h.elim,fun b g h=>by rw[hf]at h;exact h.elim,himm,fun b=> ?_,Nat.le_refl _,(fun b rec i h=>by cases h),fun _ h=>h.elim⟩
  show False↔_
  simp[hf]
 refine Calls.mono (((hcall _).1 f cs [] _ _ hrz hev _ vs rfl H hvs).2) ?_
 rintro e w' ⟨v,c,hp1,E1,rfl,hk,rfl,hle1,_,hv,_⟩
 dsimp only at hk
 split at hk
 ·simp at hk;subst hk
  exact⟨by rw[VRep_bool.1 hv],hle1.bel⟩
 ·cases hk
@[reducible] def HDen:List Ty->Type
 |[]=>Unit
 |t::ts=>t.den×HDen ts
def ofH:(ts:List Ty)->HDen ts->List CV
 |[],_=>[]
 |t::ts,x=>ofP t x.1::ofH ts x.2
def toH:(ts:List Ty)->List CV->Option (HDen ts)
 |[],[]=>some ()
 |t::ts,c::cs=>match toPH noLook t c,toH ts cs with|some x,some l=>some (x,l)|_,_=>none
 |_,_=>none
theorem toPH_ofP(look:Look):∀(t:Ty)(x:t.den),toPH look t (ofP t x)=some x:=by
 intro t x
 cases t<;>simp[toPH,ofP]
theorem toH_ofH:∀(ts:List Ty)(x:HDen ts),toH ts (ofH ts x)=some x
 |[],_=>rfl
 |t::ts,x=>by simp[toH,ofH,toPH_ofP,toH_ofH ts x.2]
theorem purify_ofH{look:Look}:∀ {ts:List Ty}{cs cs':List CV},purify look ts cs=some cs'->∃x,cs'=ofH ts x
 |[],[],_,h=>⟨(),by simp[purify]at h;simp[ofH,h]⟩
 |[],_::_,_,h=>by simp[purify]at h
 |_::_,[],_,h=>by simp[purify]at h
 |t::ts,c::cs,cs',h=>by
  simp only[purify]at h
  split at h
  ·rename_i x l hx hl
   simp at h;subst h
   obtain⟨y,rfl⟩:=purify_ofH hl
   exact⟨(x,y),rfl⟩
  ·cases h
def fS(ts rs:List Ty)(pre:HDen ts->Bool)(fn:HDen ts->HDen rs):Summ:=pureS ts fun cs=>match toH ts cs with
 |some x=>some (pre x,ofH rs (fn x))
 |none=>none
def Rets(rs:List Ty)(r:Option (CV×List Blk))(y:HDen rs):Prop:=∃l0 hp2,r=some (tupOf l0,hp2)/\purify (lookH hp2) rs l0=some (ofH rs y)/\subsOK (lookH hp2) l0=true
theorem summ_fn{rk:Nat->Loop->Prop}{P:Program}{f:Nat}{ts rs:List Ty}{pre:HDen ts->Bool}{fn:HDen ts->HDen rs}{call:Nat->List CV->List Blk->(CV->List Blk->Option (CV×List Blk))->Option (CV×List Blk)}(hcall:∀base,CallOK P base rk call)(hrz:Nat.ble RZ f=false)(hcb:callable P f=true)
 (h:∀x,pre x=true->Rets rs (call f (ofH ts x) [] fun v h=>some (v,h)) (fn x)):SummOK P f (fS ts rs pre fn):=by
 refine summ_of_ev (rs:=rs) hcall hrz hcb ?_
 intro look cs cs' l hcs hF
 obtain⟨x,rfl⟩:=purify_ofH hcs
 rw[toH_ofH]at hF
 simp only[Option.some.injEq,Prod.mk.injEq]at hF
 obtain⟨hp,rfl⟩:=hF
 exact h x hp
theorem Rets.of{rs:List Ty}{r:Option (CV×List Blk)}{y:HDen rs}{l0:List CV}{hp2:List Blk}(h:r=some (tupOf l0,hp2))(h1:purify (lookH hp2) rs l0=some (ofH rs y))(h2:subsOK (lookH hp2) l0=true):Rets rs r y:=⟨l0,hp2,h,h1,h2⟩
def evLB{R:Type}(body:St->(Ex->St->Option R)->Option R)(nrm:St->St)(T:St)(K0:St->Option R)(K1:Ex->St->Option R):Option R:=body T fun ex S=>match ex with| .normal=>K0 (nrm S)|e=>K1 e S
theorem evLoopN_succ{R:Type}(body:St->(Ex->St->Option R)->Option R)(nrm:St->St)(m:Nat)(T:St)(k:Ex->St->Option R):evLoopN body nrm (m+1) T k=evLB body nrm T (fun S=>evLoopN body nrm m S k) k:=by
 rw[evLoopN,evLB]
 all_goals congr 1
theorem gd_some{R:Type}{c:Bool}{x:Option R}{r:R}(h:gd c x=some r):c=true/\x=some r:=by
 cases c
 ·cases h
 ·exact⟨rfl,h⟩
def fndB(p:Nat->Bool):Nat->Nat->Bool
 |_,0=>false
 |j,d+1=>p j||fndB p (j+1) d
def fstB(p:Nat->Bool):Nat->Nat->Nat
 |j,0=>j
 |j,d+1=>bif p j then j else fstB p (j+1) d
section
variable{R:Type}{body:St->(Ex->St->Option R)->Option R}{nrm:St->St}
def foldB{α:Type}(step:Nat->α->α):Nat->Nat->α->α
 |_,0,a=>a
 |j,d+1,a=>foldB step (j+1) d (step j a)
end
def only{R:Type}(f:Nat)(g:List CV->List Blk->(CV->List Blk->Option R)->Option R):Nat->Option (List CV->List Blk->(CV->List Blk->Option R)->Option R):=fun f'=>bif f'==f then some g else none
theorem room_ok{n b:Nat}(h:n*b<=140737488355328)(h2:n<=140737488355328):room n b=true:=by simp[room,h,h2]
theorem evLoopN_L{R:Type}{summ:Nat->Option Summ}{fu:Nat}{fns:Nat->Option IFn}{n:Nat}{b:IC}{t:LT R}{o:Nat->Option (List CV->List Blk->(CV->List Blk->Option R)->Option R)}(ho:OvrOK o (evFn summ fns fu n))(ht:LTok summ fu (evFn summ fns fu n) t b){nrm:St->St} :
 ∀m T k r,evLoopN (evCodeL summ fu (ovr o (evFn summ fns fu n)) t b) nrm m T k=some r->evLoopN (evCode summ fu (evFn summ fns fu n) b) nrm m T k=some r
 |0,_,_,_,h=>by cases h
 |m+1,T,k,r,h=>by
  rw[evLoopN]at h⊢
  refine evCodeL_sound (ovr_le (evFn_mono summ fu fns n) ho) (evFn_mono summ fu fns n) t b T _ _ r ht (fun e S r' h'=> ?_) h
  cases e with
  |normal=>exact evLoopN_L ho ht m _ k r' h'
  |_=>exact h'
def CV.isJunk:CV->Bool| .junk=>true|_=>false
def fill(n:Nat)(asg:List (Nat×CV)):List CV:=(List.range n).map fun i=>(asg.lookup i).getD .junk
def shapeOK(T:St)(n:Nat)(live:List Nat)(fb:Nat):Bool:=T.sl.length==n&&(T.fb==fb&&(List.range n).all fun i=>live.contains i||(T.sl.getD i .junk).isJunk)
def allAt(sl:List CV):List (Nat×CV)->Prop
 |[]=>True
 |p::r=>sl.getD p.1 .junk=p.2/\allAt sl r
theorem allAt_mem{sl:List CV}:∀ {asg:List (Nat×CV)}{i:Nat}{c:CV},allAt sl asg->asg.lookup i=some c->sl.getD i .junk=c
 |[],_,_,_,h=>by simp at h
 |p::r,i,c,⟨h1,h2⟩,h=>by
  rw[List.lookup_cons]at h
  split at h
  ·rename_i he
   simp at h;subst h
   rw[beq_iff_eq.1 he];exact h1
  ·exact allAt_mem h2 h
theorem lookup_none{asg:List (Nat×CV)}{i:Nat}(h:asg.lookup i=none):(asg.map (·.1)).contains i=false:=by
 induction asg with
 |nil=>rfl
 |cons p r ih=>
  rw[List.lookup_cons]at h
  split at h
  ·cases h
  ·rename_i he
   rw[List.map_cons,List.contains_cons,ih h,he];rfl
theorem st_of{T:St}{n fb:Nat}{asg:List (Nat×CV)}{hp:List Blk}(hs:shapeOK T n (asg.map (·.1)) fb=true)(ha:allAt T.sl asg)(hh:T.hp=hp):T=⟨fill n asg,hp,fb⟩:=by
 unfold shapeOK at hs
 simp only[Bool.and_eq_true,beq_iff_eq]at hs
 obtain⟨h1,h2,h3⟩:=hs
 obtain⟨sl,hp',fb'⟩:=T
 simp only at h1 h2 h3 ha hh
 subst h2 hh
 congr 1
 refine List.ext_getElem (by simp[fill,h1]) fun i hi hi2=> ?_
 have hin:i<n:=by omega
 have hg:sl.getD i .junk=sl[i]:=by simp[List.getD,hi]
 simp only[fill,List.getElem_map,List.getElem_range]
 cases hl:asg.lookup i with
 |some c=>rw[<-hg,allAt_mem ha hl];rfl
 |none=>
  have:=List.all_eq_true.1 h3 i (by simpa using hin)
  rw[lookup_none hl,Bool.false_or,hg]at this
  cases hc:sl[i]<;>rw[hc]at this<;>first|rfl|cases this
end Go.Ev
namespace Go.Ev
open Go Go.RowKit
def FU:Nat:=4611686018427387904
abbrev CallT(R:Type):=Nat->List CV->List Blk->(CV->List Blk->Option R)->Option R
section
variable(summ:Nat->Option Summ)(fu:Nat)
def NatC(c:∀R,CallT R):Prop:=∀R f cs hp(k:CV->List Blk->Option R)r,c R f cs hp k=some r->∃v h,k v h=some r/\∀R'(k':CV->List Blk->Option R')r',k' v h=some r'->c R' f cs hp k'=some r'
def NatS(α:Type)(c:∀R,(α->Option R)->Option R):Prop:=∀R(k:α->Option R)r,c R k=some r->∃x,k x=some r/\∀R'(k':α->Option R')r',k' x=some r'->c R' k'=some r'
def NatE(c:∀R,(Ex->St->Option R)->Option R):Prop:=∀R(k:Ex->St->Option R)r,c R k=some r->∃e S,k e S=some r/\∀R'(k':Ex->St->Option R')r',k' e S=some r'->c R' k'=some r'
variable{summ fu}{c:∀R,CallT R}
theorem evOps_natF(hc:NatC c)(base:Nat):∀(os:List IOper)(i:Nat)(log:List LogE)(S:St),NatS St fun R k=>evOps summ (c R) false base i os log S k:=by
 intro os
 induction os with
 |nil=>
  intro i log S R k r h
  unfold evOps at h
  exact⟨S,h,fun R' k' r' h'=>by unfold evOps;exact h'⟩
 |cons o os ih=>
  intro i log S R k r h
  have hrun:∀S:St,NatS St fun R k=>(match o.op with
   | .call f=>c R f (o.args.map S.eval) S.hp fun v hp=>evOps summ (c R) false base (i+1) os log ({S with hp:=hp}.put o.dst v) k
   | .callv=>match o.args.map S.eval with
     | .clo f cc::vs=>if capsF f cc=true then c R f (vs++unchain cc) S.hp fun v hp=>evOps summ (c R) false base (i+1) os log ({S with hp:=hp}.put o.dst v) k else none
     | .yld b i' cc::vs=>c R (RZ+i') (.yld b i' cc::vs) S.hp fun v hp=>evOps summ (c R) false base (i+1) os log ({S with hp:=hp}.put o.dst v) k
     |_=>none
   |op=>match o.args.map S.eval with
    |vals=>match S.hp.length with
     |nid=>match act summ op vals S.look nid with
      |none=>none
      |some out=>gd out.ok (evOps summ (c R) false base (i+1) os log (S.apply o.dst out) k)):=by
   intro S R k r h
   split at h
   ·obtain⟨v,hp,h1,h2⟩:=hc _ _ _ _ _ _ h
    obtain⟨x,h3,h4⟩:=ih _ _ _ _ _ _ h1
    exact⟨x,h3,fun R' k' r' h'=>h2 _ _ _ (h4 _ _ _ h')⟩
   ·split at h
    ·split at h
     ·obtain⟨v,hp,h1,h2⟩:=hc _ _ _ _ _ _ h
      obtain⟨x,h3,h4⟩:=ih _ _ _ _ _ _ h1
      rename_i hcap
      exact⟨x,h3,fun R' k' r' h'=>by simp only[hcap,if_true];exact h2 _ _ _ (h4 _ _ _ h')⟩
     ·cases h
    ·obtain⟨v,hp,h1,h2⟩:=hc _ _ _ _ _ _ h
     obtain⟨x,h3,h4⟩:=ih _ _ _ _ _ _ h1
     exact⟨x,h3,fun R' k' r' h'=>h2 _ _ _ (h4 _ _ _ h')⟩
    ·cases h
   ·dsimp only at h
    split at h
    ·cases h
    ·rename_i out hout
     obtain⟨h1,h2⟩:=gd_some h
     obtain⟨x,h3,h4⟩:=ih _ _ _ _ _ _ h2
     exact⟨x,h3,fun R' k' r' h'=>by
      have:=h4 _ _ _ h'
      dsimp only at this⊢
      simp only[hout,h1,this];rfl⟩
  unfold evOps at h
  cases hg:o.guard with
  |none=>
   rw[hg]at h
   obtain⟨x,h1,h2⟩:=hrun _ _ _ _ h
   exact⟨x,h1,fun R' k' r' h'=>by unfold evOps;rw[hg];exact h2 _ _ _ h'⟩
  |some g=>
   obtain⟨d,want⟩:=g
   rw[hg]at h
   simp only[]at h
   split at h
   ·rename_i b hb
    cases b<;>cases want
    ·obtain⟨x,h1,h2⟩:=hrun _ _ _ _ h
     exact⟨x,h1,fun R' k' r' h'=>by unfold evOps;simp only[hg,hb];exact h2 _ _ _ h'⟩
    ·obtain⟨x,h1,h2⟩:=ih _ _ _ _ _ _ h
     exact⟨x,h1,fun R' k' r' h'=>by unfold evOps;simp only[hg,hb];exact h2 _ _ _ h'⟩
    ·obtain⟨x,h1,h2⟩:=ih _ _ _ _ _ _ h
     exact⟨x,h1,fun R' k' r' h'=>by unfold evOps;simp only[hg,hb];exact h2 _ _ _ h'⟩
    ·obtain⟨x,h1,h2⟩:=hrun _ _ _ _ h
     exact⟨x,h1,fun R' k' r' h'=>by unfold evOps;simp only[hg,hb];exact h2 _ _ _ h'⟩
   ·rename_i hb
    obtain⟨x,h1,h2⟩:=ih _ _ _ _ _ _ h
    exact⟨x,h1,fun R' k' r' h'=>by unfold evOps;simp only[hg,hb];exact h2 _ _ _ h'⟩
   ·cases h
theorem evOps_natT(base:Nat):∀(os:List IOper)(i:Nat)(log:List LogE)(S:St),NatS St fun R k=>evOps summ (c R) true base i os log S k:=by
 intro os
 induction os with
 |nil=>
  intro i log S R k r h
  unfold evOps at h
  obtain⟨h1,h2⟩:=gd_some h
  exact⟨S,h2,fun R' k' r' h'=>by unfold evOps;rw[h1];exact h'⟩
 |cons o os ih=>
  intro i log S R k r h
  have hrun:∀S:St,NatS St fun R k=>(match o.args.map S.eval with
   |vals=>match base+o.rank with
    |nid=>match act summ o.op vals S.look nid with
     |none=>none
     |some out=>gd (drawChk S o.op nid out) (gd out.ok (evOps summ (c R) true base (i+1) os (log++[logOf i o o.op vals nid out]) (S.apply o.dst out) k))):=by
   intro S R k r h
   dsimp only at h
   split at h
   ·cases h
   ·rename_i out hout
    obtain⟨h0,h⟩:=gd_some h
    obtain⟨h1,h2⟩:=gd_some h
    obtain⟨x,h3,h4⟩:=ih _ _ _ _ _ _ h2
    exact⟨x,h3,fun R' k' r' h'=>by
     have:=h4 _ _ _ h'
     dsimp only at this⊢
     simp only[hout,h0,h1,this];rfl⟩
  unfold evOps at h
  cases hg:o.guard with
  |none=>
   rw[hg]at h
   obtain⟨x,h1,h2⟩:=hrun _ _ _ _ h
   exact⟨x,h1,fun R' k' r' h'=>by unfold evOps;rw[hg];exact h2 _ _ _ h'⟩
  |some g=>
   obtain⟨d,want⟩:=g
   rw[hg]at h
   simp only[]at h
   split at h
   ·rename_i b hb
    cases b<;>cases want
    ·obtain⟨x,h1,h2⟩:=hrun _ _ _ _ h
     exact⟨x,h1,fun R' k' r' h'=>by unfold evOps;simp only[hg,hb];exact h2 _ _ _ h'⟩
    ·obtain⟨x,h1,h2⟩:=ih _ _ _ _ _ _ h
     exact⟨x,h1,fun R' k' r' h'=>by unfold evOps;simp only[hg,hb];exact h2 _ _ _ h'⟩
    ·obtain⟨x,h1,h2⟩:=ih _ _ _ _ _ _ h
     exact⟨x,h1,fun R' k' r' h'=>by unfold evOps;simp only[hg,hb];exact h2 _ _ _ h'⟩
    ·obtain⟨x,h1,h2⟩:=hrun _ _ _ _ h
     exact⟨x,h1,fun R' k' r' h'=>by unfold evOps;simp only[hg,hb];exact h2 _ _ _ h'⟩
   ·rename_i hb
    obtain⟨x,h1,h2⟩:=ih _ _ _ _ _ _ h
    exact⟨x,h1,fun R' k' r' h'=>by unfold evOps;simp only[hg,hb];exact h2 _ _ _ h'⟩
   ·cases h
theorem evLoop_nat{body:∀R,St->(Ex->St->Option R)->Option R}{nrm:St->St}(hb:∀S,NatE fun R k=>body R S k):∀m S,NatE fun R k=>evLoop (body R) nrm m S k
 |0,_,_,_,_,h=>by cases h
 |m+1,S,R,k,r,h=>by
  obtain⟨e,S',h1,h2⟩:=hb _ _ _ _ h
  cases e with
  |normal=>
   obtain⟨e,S',h3,h4⟩:=evLoop_nat hb m _ _ _ _ h1
   exact⟨e,S',h3,fun R' k' r' h'=>h2 _ _ _ (h4 _ _ _ h')⟩
  |_=>exact⟨_,S',h1,fun R' k' r' h'=>h2 _ _ _ h'⟩
theorem rngK_nat{R:Type}{k:Ex->St->Option R}{S:St}{r:R}:∀x:Blk,(match x with| .ghost 1=>none| .ghost n=>k (exOf n) S|_=>none)=some r->∃e,k e S=some r/\∀R'(k':Ex->St->Option R')r',k' e S=some r'->(match x with| .ghost 1=>none| .ghost n=>k' (exOf n) S|_=>none)=some r'
 | .ghost 0,h=>⟨_,h,fun _ _ _ h'=>h'⟩
 | .ghost 1,h=>by cases h
 | .ghost (n+2),h=>⟨_,h,fun _ _ _ h'=>h'⟩
 | .fresh,h=>by cases h
 | .dead,h=>by cases h
 | .mem _,h=>by cases h
 | .vec _ _ _,h=>by cases h
 | .fvec _ _ _,h=>by cases h
theorem evCode_nat(hc:NatC c):∀(cd:IC)(S:St),NatE fun R k=>evCode summ fu (c R) cd S k
 | .skip,S,R,k,r,h=>⟨_,_,h,fun _ _ _ h'=>h'⟩
 | .region draw nn ops,S,R,k,r,h=>by
   unfold evCode at h
   cases draw
   ·obtain⟨x,h1,h2⟩:=evOps_natF hc _ _ _ _ _ _ _ _ h
    exact⟨_,x,h1,fun R' k' r' h'=>by unfold evCode;exact h2 _ _ _ h'⟩
   ·dsimp only at h
    obtain⟨h0,h⟩:=gd_some h
    obtain⟨x,h1,h2⟩:=evOps_natT _ _ _ _ _ _ _ _ h
    exact⟨_,x,h1,fun R' k' r' h'=>by unfold evCode;dsimp only;rw[h0];exact h2 _ _ _ h'⟩
 | .seq a b,S,R,k,r,h=>by
   unfold evCode at h
   obtain⟨e,S',h1,h2⟩:=evCode_nat hc a _ _ _ _ h
   cases e with
   |normal=>
    obtain⟨e,S',h3,h4⟩:=evCode_nat hc b _ _ _ _ h1
    exact⟨e,S',h3,fun R' k' r' h'=>by unfold evCode;exact h2 _ _ _ (h4 _ _ _ h')⟩
   |_=>exact⟨_,S',h1,fun R' k' r' h'=>by unfold evCode;exact h2 _ _ _ h'⟩
 | .cond cc a b,S,R,k,r,h=>by
   unfold evCode at h
   split at h
   ·split at h
    ·rename_i x hx
     cases x
     ·obtain⟨e,S',h3,h4⟩:=evCode_nat hc b _ _ _ _ h
      exact⟨e,S',h3,fun R' k' r' h'=>by unfold evCode;simp only[hx];exact h4 _ _ _ h'⟩
     ·obtain⟨e,S',h3,h4⟩:=evCode_nat hc a _ _ _ _ h
      exact⟨e,S',h3,fun R' k' r' h'=>by unfold evCode;simp only[hx];exact h4 _ _ _ h'⟩
    ·cases h
   ·rename_i x
    cases x
    ·obtain⟨e,S',h3,h4⟩:=evCode_nat hc b _ _ _ _ h
     exact⟨e,S',h3,fun R' k' r' h'=>by unfold evCode;exact h4 _ _ _ h'⟩
    ·obtain⟨e,S',h3,h4⟩:=evCode_nat hc a _ _ _ _ h
     exact⟨e,S',h3,fun R' k' r' h'=>by unfold evCode;exact h4 _ _ _ h'⟩
   ·cases h
 | .block id b,S,R,k,r,h=>by
   unfold evCode at h
   obtain⟨e,S',h1,h2⟩:=evCode_nat hc b _ _ _ _ h
   cases e with
   |exit j=>
    simp only[]at h1
    by_cases hj:j=id
    ·rw[if_pos hj]at h1
     exact⟨_,S',h1,fun R' k' r' h'=>by unfold evCode;exact h2 _ _ _ (by simp only[hj,if_true];exact h')⟩
    ·rw[if_neg hj]at h1
     exact⟨_,S',h1,fun R' k' r' h'=>by unfold evCode;exact h2 _ _ _ (by simp only[hj,if_false];exact h')⟩
   |_=>exact⟨_,S',h1,fun R' k' r' h'=>by unfold evCode;exact h2 _ _ _ h'⟩
 | .loop live b,S,R,k,r,h=>by
   unfold evCode at h
   obtain⟨e,S',h1,h2⟩:=evLoop_nat (fun S=>evCode_nat hc b S) _ _ _ _ _ h
   exact⟨e,S',h1,fun R' k' r' h'=>by unfold evCode;exact h2 _ _ _ h'⟩
 | .cut live b,S,R,k,r,h=>by
   unfold evCode at h
   obtain⟨e,S',h1,h2⟩:=evCode_nat hc b _ _ _ _ h
   exact⟨e,S',h1,fun R' k' r' h'=>by unfold evCode;exact h2 _ _ _ h'⟩
 | .exit _,S,R,k,r,h=>⟨_,_,h,fun _ _ _ h'=>h'⟩
 | .ret,S,R,k,r,h=>⟨_,_,h,fun _ _ _ h'=>h'⟩
 | .rangef id g lv ps a b,S,R,k,r,h=>by
   unfold evCode at h
   split at h
   ·rename_i f cc hclo
    split at h
    ·rename_i hcap
     obtain⟨v,hp,h1,h2⟩:=hc _ _ _ _ _ _ h
     obtain⟨e,h3,h4⟩:=rngK_nat _ h1
     exact⟨e,_,h3,fun R' k' r' h'=>by unfold evCode;simp only[hclo,hcap,if_true];exact h2 _ _ _ (h4 _ _ _ h')⟩
    ·cases h
   ·cases h
theorem evRnd_nat(hc:NatC c){ps:List Nat}{asg body:IC}(cs:List CV)(hp:List Blk):∀(R:Type)(k:CV->List Blk->Option R)r,evRnd summ fu (c R) ps asg body cs hp k=some r->∃v h,k v h=some r/\∀R'(k':CV->List Blk->Option R')r',k' v h=some r'->evRnd summ fu (c R') ps asg body cs hp k'=some r':=by
 intro R k r h
 unfold evRnd at h
 split at h
 ·split at h
  ·rename_i hg
   split at h
   ·rename_i hl
    obtain⟨e,S1,h1,h2⟩:=evCode_nat hc asg _ _ _ _ h
    cases e with
    |normal=>
     simp only at h1
     split at h1
     ·rename_i hg1
      obtain⟨e2,S2,h3,h4⟩:=evCode_nat hc body _ _ _ _ h1
      split at h3
      ·rename_i hg2
       refine⟨_,_,h3,fun R' k' r' h'=> ?_⟩
       unfold evRnd
       simp only[hg,hl,if_true]
       apply h2
       simp only[hg1]
       apply h4
       simp only[hg2]
       exact h'
      ·cases h3
     ·cases h1
    |exit j=>cases h1
    |ret=>cases h1
   ·cases h
  ·cases h
 ·cases h
variable(summ fu)in
theorem evFn_nat(fns:Nat->Option IFn):∀n,NatC fun R=>evFn (R:=R) summ fns fu n
 |0,_,_,_,_,_,_,h=>by cases h
 |n+1,R,f,cs,hp,k,r,h=>by
  dsimp only at h
  unfold evFn at h
  split at h
  ·rename_i hz
   split at h
   ·rename_i fn hfn
    split at h
    ·rename_i x hx
     obtain⟨v,hh,h1,h2⟩:=evRnd_nat (summ:=summ) (fu:=fu) (evFn_nat fns n) _ _ _ _ _ h
     exact⟨v,hh,h1,fun R' k' r' h'=>by dsimp only;unfold evFn;simp only[hz,hfn,hx];exact h2 _ _ _ h'⟩
    ·cases h
   ·cases h
  ·rename_i hz
   split at h
   ·cases h
   ·rename_i fn hfn
    obtain⟨e,S,h1,h2⟩:=evCode_nat (summ:=summ) (fu:=fu) (evFn_nat fns n) _ _ _ _ _ h
    have key:∀(hne:∀j,e≠ .exit j),(match resOf S fn.results with
     |none=>none
     |some l=>match compact S.fb (l.flatMap CV.refs) S.hp with
      |keep=>k ((tupOf l).ren S.fb keep) (compHp S.fb keep S.hp))=some r->∃v h,k v h=some r/\∀R'(k':CV->List Blk->Option R')r',k' v h=some r'->evFn summ fns fu (n+1) f cs hp k'=some r':=by
     intro hne h1
     cases hl:resOf S fn.results with
     |none=>rw[hl]at h1;cases h1
     |some l=>
      rw[hl]at h1
      refine⟨_,_,h1,fun R' k' r' h'=> ?_⟩
      unfold evFn
      simp only[hz,hfn]
      apply h2
      cases e with
      |exit j=>exact absurd rfl (hne j)
      |_=>simp only[hl];exact h'
    cases e with
    |exit j=>cases h1
    |normal=>exact key (fun j=>by simp) h1
    |ret=>exact key (fun j=>by simp) h1
end
theorem evFn_dep{R:Type}{summ:Nat->Option Summ}{fns:Nat->Option IFn}{fu:Nat}:∀n,CallLe (evFn (R:=R) summ fns fu n) (evFn (R:=R) summ fns fu (n+1))
 |0,_,_,_,_,_,_,_,h=>by cases h
 |n+1,f,cs,hp,k,k',r,hk,h=>by
  rw[evFn]at h⊢
  split at h
  ·rename_i hz
   split at h
   ·rename_i fn hfn
    split at h
    ·rename_i x hx
     try simp only[hz,hfn,hx]
     exact evRnd_mono (evFn_dep n) _ _ _ _ _ hk h
    ·cases h
   ·cases h
  ·rename_i hz
   split at h
   ·cases h
   ·rename_i fn hfn
    try simp only[hz,hfn]
    refine evCode_mono (evFn_dep n) _ _ _ _ _ (fun e S r' h'=> ?_) h
    split at h'
    ·cases h'
    ·rename_i hne
     split at h'
     ·cases h'
     ·rename_i l hl
      cases e with
      |exit j=>exact absurd rfl (hne j)
      |_=>exact hk _ _ _ h'
theorem evFn_le{R:Type}{summ:Nat->Option Summ}{fns:Nat->Option IFn}{fu:Nat}{f:Nat}{cs:List CV}{hp:List Blk}{k:CV->List Blk->Option R}{r:R}{n:Nat}:∀d,evFn summ fns fu n f cs hp k=some r->evFn summ fns fu (n+d) f cs hp k=some r
 |0,h=>h
 |d+1,h=>evFn_dep _ _ _ _ _ _ _ (fun _ _ _ h=>h) (evFn_le d h)
theorem nbeq_ne{a b:Nat}(h:¬a=b):Nat.beq a b=false:=by
 cases hb:Nat.beq a b
 ·rfl
 ·exact absurd (Nat.eq_of_beq_eq_true hb) h
def evJ{R:Type}(body:St->(Ex->St->Option R)->Option R)(T:St)(k:Ex->St->Option R):Option R:=body T k
def unch:Nat->CV->Option (List CV)
 |0,.pure .unit _=>some []
 |n+1,.pair a b=>match unch n b with|some l=>some (a::l)|none=>none
 |_,_=>none
def untup(n:Nat)(v:CV):Option (List CV):=if n=1 then some [v]else match v with| .tup c=>unch n c|_=>none
theorem unch_chain:∀ {n:Nat}{c:CV}{l:List CV},unch n c=some l->chain l=c/\l.length=n
 |0,c,l,h=>by
  unfold unch at h
  split at h
  ·simp at h;subst h;exact⟨rfl,rfl⟩
  ·rename_i he;cases he
  ·cases h
 |n+1,c,l,h=>by
  cases c with
  |pair a b=>
   simp only[unch]at h
   split at h
   ·rename_i l' hl
    simp at h;subst h
    obtain⟨h1,h2⟩:=unch_chain hl
    exact⟨by simp[chain,h1],by simp[h2]⟩
   ·cases h
  |_=>simp[unch]at h
theorem untup_tup{n:Nat}{v:CV}{l:List CV}(h:untup n v=some l):tupOf l=v:=by
 unfold untup at h
 split at h
 ·simp at h;subst h;rfl
 ·rename_i hn
  split at h
  ·obtain⟨h1,h2⟩:=unch_chain h
   match l,h2 with
   |[],_=>simp[tupOf,h1]
   |[_],h2=>simp at h2;exact absurd h2.symm hn
   |_::_::_,_=>simp[tupOf,h1]
  ·cases h
def pureK(rs:List Ty)(v:CV)(hp:List Blk):Option (HDen rs):=match untup rs.length v with
 |none=>none
 |some l=>gd (subsOK (lookH hp) l) (match purify (lookH hp) rs l with|some cs=>toH rs cs|none=>none)
theorem pureK_some{rs:List Ty}{v:CV}{hp:List Blk}{y:HDen rs}(h:pureK rs v hp=some y):∃l,v=tupOf l/\purify (lookH hp) rs l=some (ofH rs y)/\subsOK (lookH hp) l=true:=by
 unfold pureK at h
 split at h
 ·cases h
 ·rename_i l hl
  obtain⟨h1,h2⟩:=gd_some h
  split at h2
  ·rename_i cs hcs
   obtain⟨x,rfl⟩:=purify_ofH hcs
   rw[toH_ofH]at h2
   simp at h2;subst h2
   exact⟨l,(untup_tup hl).symm,hcs,h1⟩
  ·cases h2
def dfH:(rs:List Ty)->HDen rs
 |[]=>()
 |t::rs=>(t.dflt,dfH rs)
def shS(ts rs:List Ty)(p:HDen ts->Bool)(v:HDen ts->HDen rs):Summ:=fS ts rs p v
def pureN(ts:List Ty)(F:List CV->Option (Bool×List CV)):Summ:=fun cs look _=>match purify look ts cs with
 |none=>none
 |some cs'=>match F cs' with
  |none=>none
  |some r=>some ⟨subsOK look cs&&r.1,tupOf r.2,[]⟩
theorem pureN_congr(ts:List Ty)(F:List CV->Option (Bool×List CV)):SummC (pureN ts F):=by
 intro cs look look' nid h
 unfold pureN
 rw[purify_congr h,subsOK_congr h]
theorem toPH_norefs{look:Look}:∀ {t:Ty}{c:CV}{x:t.den},t.slices=false->toPH look t c=some x->c.refs=[]:=by
 intro t
 induction t with
 |pair a b iha ihb=>
  intro c x ht h
  simp only[Ty.slices,Bool.or_eq_false_iff]at ht
  cases c<;>simp only[toPH]at h<;>try (first|rfl|(cases h;done))
  split at h
  ·rename_i hy hz
   simp[CV.refs,iha ht.1 hy,ihb ht.2 hz]
  ·cases h
 |slice e ih=>intro c x ht h;simp[Ty.slices]at ht
 |_=>
  intros c x ht h
  cases c<;>simp only[toPH]at h<;>try (first|rfl|(cases h;done))
theorem purify_norefs{look:Look}:∀ {ts:List Ty}{cs cs':List CV},(ts.all fun t=> !t.slices)=true->purify look ts cs=some cs'->∀c∈cs,c.refs=[]
 |[],[],_,_,h=>by simp
 |[],_::_,_,_,h=>by simp[purify]at h
 |_::_,[],_,_,h=>by simp[purify]at h
 |t::ts,c::cs,cs',ht,h=>by
  simp only[List.all_cons,Bool.and_eq_true,Bool.not_eq_true']at ht
  simp only[purify]at h
  split at h
  ·rename_i x l hx hl
   intro c' hc'
   rcases List.mem_cons.1 hc' with rfl|hc'
   ·exact toPH_norefs ht.1 hx
   ·exact purify_norefs ht.2 hl c' hc'
  ·cases h
theorem RepD_any{w w':World}{I I':Nat->Prop}:∀(t:Ty)(x:t.den)(cs:List Value),t.slices=false->RepD w I t x cs->RepD w' I' t x cs
 | .int _,_,_,_,h=>h
 | .bool,_,_,_,h=>h
 | .str,_,_,_,h=>h
 | .unit,_,_,_,h=>h
 | .pair a b,x,_,ht,⟨c1,c2,e,h1,h2⟩=>by
   simp only[Ty.slices,Bool.or_eq_false_iff]at ht
   exact⟨c1,c2,e,RepD_any a x.1 c1 ht.1 h1,RepD_any b x.2 c2 ht.2 h2⟩
 | .arr n e,x,cs,ht,h=>⟨h.1,Rows.mono (fun x c=>RepD_any e x c ht) x cs h.2⟩
 | .slice e,_,_,ht,_=>by simp[Ty.slices]at ht
theorem refH_none{E:Env}{look:Look}{c:CV}(h:c.refs=[])(g:Nat):¬refH E look c g:=by
 rintro⟨b,hb,_⟩
 rw[h]at hb;cases hb
theorem subOK_norefs{look:Look}:∀ {c:CV},c.refs=[]->c.subOK look=true:=by
 intro c
 induction c with
 |pair a b iha ihb=>intro h;simp[CV.refs]at h;simp[CV.subOK,iha h.1,ihb h.2]
 |sub b p sz off len cap=>intro h;simp[CV.refs]at h
 |_=>intro h;rfl
theorem purify_any{base:Nat}{E E':Env}{look:Look}:∀ {ts:List Ty}{cs cs':List CV}{vs:List Value},(ts.all fun t=> !t.slices)=true->LRep E base look->purify look ts cs=some cs'->Vs E cs vs->Vs E' cs' vs
 |[],[],_,vs,_,_,h,hv=>by
  simp[purify]at h;subst h
  cases vs<;>exact hv
 |[],_::_,_,_,_,_,h,_=>by simp[purify]at h
 |_::_,[],_,_,_,_,h,_=>by simp[purify]at h
 |t::ts,c::cs,cs',[],_,_,_,hv=>hv.elim
 |t::ts,c::cs,cs',v::vs,ht,L,h,hv=>by
  simp only[List.all_cons,Bool.and_eq_true,Bool.not_eq_true']at ht
  simp only[purify]at h
  split at h
  ·rename_i x l hx hl
   simp at h;subst h
   refine⟨?_,purify_any ht.2 L hl hv.2⟩
   obtain⟨ha,htp⟩:=toPH_agg hx
   obtain⟨cells,h1,h2⟩:=hv.1.one1 htp
   have hn:=toPH_norefs ht.1 hx
   have hd:=toPH_rep L (I':=E.R) (fun _ h=>h) hx (subOK_norefs hn) h1 (fun g hg=>absurd hg (refH_none hn g))
   refine VRep1.up ⟨cells,CRep_ofP (E:=E') (RepD_any t x cells ht.1 hd),?_⟩ (isVal_tup (isVal_ofP t x))
   rw[isAgg_ofP,<-ha]
   exact h2
  ·cases h
theorem summ_of_evN{rk:Nat->Loop->Prop}{P:Program}{f:Nat}{ts rs:List Ty}{F:List CV->Option (Bool×List CV)}{call:Nat->List CV->List Blk->(CV->List Blk->Option (CV×List Blk))->Option (CV×List Blk)}(hrs:(rs.all fun t=> !t.slices)=true)(hcall:∀base,CallOK P base rk call)(hrz:Nat.ble RZ f=false)(hcb:callable P f=true)
 (hF:∀look cs cs' l,purify look ts cs=some cs'->F cs'=some (true,l)->∃l0 hp2,call f cs' [] (fun v h=>some (v,h))=some (tupOf l0,hp2)/\purify (lookH hp2) rs l0=some l/\subsOK (lookH hp2) l0=true):SummOK P f (pureN ts F):=by
 refine⟨hcb,pureN_congr ts F,?_⟩
 intro base E hp cs vs nid out H hvs hs hok _ _
 unfold pureN at hs
 split at hs
 ·cases hs
 ·rename_i cs' hcs'
  split at hs
  ·cases hs
  ·rename_i r hr
   simp at hs;subst hs
   obtain⟨ok,l⟩:=r
   simp only[Bool.and_eq_true]at hok
   obtain⟨hsub,rfl⟩:=hok
   obtain⟨_,ht,_⟩:=purify_tup hcs'
   obtain⟨E',hle,H',hw,_,_,_,hI⟩:=HS.frzs (lookH hp) (cs.flatMap CV.refs) H (fun _=> .inl rfl) (Vs_refs hvs ht)
   obtain⟨l0,hp2,hev,hpl,hsl⟩:=hF _ _ _ _ hcs' hr
   have hvs0:Vs (E'.clean rk) cs' vs:=purify_rep (base:=base) (E':=(E'.clean rk)) H.blk hw hle.R hcs' hsub hvs (fun c hc g⟨b,hb,hg⟩=>hI g (.inr ⟨b,List.mem_flatMap.2 ⟨c,hc,hb⟩,hg⟩))
   have hc:=((hcall _).1 f cs' [] _ _ hrz hev (E'.clean rk) vs rfl H'.empty hvs0).2
   rw[<-hw]
   refine Calls.mono hc ?_
   rintro e w' ⟨v,c,hp1,E1,rfl,hk,rfl,hle1,H1,hv,_⟩
   simp only[Option.some.injEq,Prod.mk.injEq]at hk
   obtain⟨rfl,rfl⟩:=hk
   obtain⟨hll,ht0,htl⟩:=purify_tup hpl
   obtain⟨us,hus,hback⟩:=tup_split hv ht0
   have hheap:∀g,g<E.w.heap.size->E1.w.heap[g]? =E.w.heap[g]? :=fun g hg=>by
    have:=hle1.bel.block g (by rw[hw];exact hg)
    rw[this];show E'.w.heap[g]? =_;rw[hw]
   have hbel:Below base E.w E1.w:=by
    have hb:=hle1.bel
    have e0:((E'.clean rk):Env).w=E.w:=hw
    rw[e0]at hb
    exact⟨hb.os,hb.tape,hb.output,hb.size,fun k hk=>hheap k (Nat.lt_of_lt_of_le hk H.base)⟩
   obtain⟨hle3,H3⟩:=H.world (w':=E1.w) hbel hheap
   refine⟨v,{E with w:=E1.w},rfl,rfl,hle3,H3,hback _ _ ?_ hll htl⟩
   have hnr:=purify_norefs hrs hpl
   exact purify_any hrs H1.blk hpl hus
def fN(ts rs:List Ty)(pre:HDen ts->Bool)(fn:HDen ts->HDen rs):Summ:=pureN ts fun cs=>match toH ts cs with
 |some x=>some (pre x,ofH rs (fn x))
 |none=>none
def shN(ts rs:List Ty)(p:HDen ts->Bool)(v:HDen ts->HDen rs):Summ:=fN ts rs p v
theorem summ_fnN{rk:Nat->Loop->Prop}{P:Program}{f:Nat}{ts rs:List Ty}{pre:HDen ts->Bool}{fn:HDen ts->HDen rs}{call:Nat->List CV->List Blk->(CV->List Blk->Option (CV×List Blk))->Option (CV×List Blk)}(hrs:(rs.all fun t=> !t.slices)=true)(hcall:∀base,CallOK P base rk call)(hrz:Nat.ble RZ f=false)(hcb:callable P f=true)
 (h:∀x,pre x=true->Rets rs (call f (ofH ts x) [] fun v h=>some (v,h)) (fn x)):SummOK P f (fN ts rs pre fn):=by
 refine summ_of_evN (rs:=rs) hrs hcall hrz hcb ?_
 intro look cs cs' l hcs hF
 obtain⟨x,rfl⟩:=purify_ofH hcs
 rw[toH_ofH]at hF
 simp only[Option.some.injEq,Prod.mk.injEq]at hF
 obtain⟨hp,rfl⟩:=hF
 exact h x hp
theorem summ_shN{rk:Nat->Loop->Prop}{P:Program}{f:Nat}{ts rs:List Ty}{F:HDen ts->Option (HDen rs)}{p:HDen ts->Bool}{v:HDen ts->HDen rs}{summ:Nat->Option Summ}{fns:Nat->Option IFn}{fu n:Nat}(hrs:(rs.all fun t=> !t.slices)=true)
 (hp:∀x,p x=(F x).isSome) (hv:∀x,v x=(F x).getD (dfH rs)) (hcall:∀base,CallOK P base rk (evFn (R:=CV×List Blk) summ fns fu n)) (hrz:Nat.ble RZ f=false) (hcb:callable P f=true)
 (h:∀x y,F x=some y->evFn summ fns fu n f (ofH ts x) [] (pureK rs)=some y):SummOK P f (shN ts rs p v):=by
 refine summ_fnN hrs hcall hrz hcb fun x hx=> ?_
 rw[hp]at hx
 obtain⟨y,hy⟩:=Option.isSome_iff_exists.1 hx
 obtain⟨c,hp2,h1,h2⟩:=evFn_nat summ fu fns n _ _ _ _ _ _ (h x y hy)
 obtain⟨l,rfl,h3,h4⟩:=pureK_some h1
 refine⟨l,hp2,h2 _ _ _ rfl,?_,h4⟩
 rw[h3,hv,hy];rfl
theorem summ_sh{rk:Nat->Loop->Prop}{P:Program}{f:Nat}{ts rs:List Ty}{F:HDen ts->Option (HDen rs)}{p:HDen ts->Bool}{v:HDen ts->HDen rs}{summ:Nat->Option Summ}{fns:Nat->Option IFn}{fu n:Nat}
 (hp:∀x,p x=(F x).isSome) (hv:∀x,v x=(F x).getD (dfH rs)) (hcall:∀base,CallOK P base rk (evFn (R:=CV×List Blk) summ fns fu n)) (hrz:Nat.ble RZ f=false) (hcb:callable P f=true)
 (h:∀x y,F x=some y->evFn summ fns fu n f (ofH ts x) [] (pureK rs)=some y):SummOK P f (shS ts rs p v):=by
 refine summ_fn hcall hrz hcb fun x hx=> ?_
 rw[hp]at hx
 obtain⟨y,hy⟩:=Option.isSome_iff_exists.1 hx
 obtain⟨c,hp2,h1,h2⟩:=evFn_nat summ fu fns n _ _ _ _ _ _ (h x y hy)
 obtain⟨l,rfl,h3,h4⟩:=pureK_some h1
 refine⟨l,hp2,h2 _ _ _ rfl,?_,h4⟩
 rw[h3,hv,hy];rfl
namespace Sp
def andI(k:IntKind)(x y:Int):Int:=k.wrap (BitVec.ofInt k.bits x&&&BitVec.ofInt k.bits y).toNat
def orI(k:IntKind)(x y:Int):Int:=k.wrap (BitVec.ofInt k.bits x|||BitVec.ofInt k.bits y).toNat
def xorI(k:IntKind)(x y:Int):Int:=k.wrap (BitVec.ofInt k.bits x ^^^ BitVec.ofInt k.bits y).toNat
def andnI(k:IntKind)(x y:Int):Int:=k.wrap (BitVec.ofInt k.bits x&&& ~~~ BitVec.ofInt k.bits y).toNat
end Sp
def jk:CV:= .junk
def bk(v:CV)(_:List Blk):Option Bool:=match v with| .bool b=>some b|_=>none
end Go.Ev
namespace Go.Ev
open Go Go.RowKit Go.Shelf Go.Lib Go.Proofs
variable{P:Program}{ρ:Ren}
end Go.Ev
namespace Go.Ev
open Go Go.RowKit
variable{P:Program}
def pureE(w:World)(I:Nat->Prop):Env:= {w:=w,I:=I,μ:=fun _=>0,σ:=fun _=>undef,live:=fun _=>False}
theorem HS.pureE{w:World}{I:Nat->Prop}(himm:∀g,I g->g<w.heap.size):HS w.heap.size (pureE w I) []:=by
 have hf:∀b,lookH [] b= .fresh:=fun b=>by simp[lookH]
 refine⟨fun b=>by rw[hf];trivial,fun b b' g h=>by rw[hf]at h;exact h.elim,fun b g h=>by rw[hf]at h;exact h.elim,himm,fun b=> ?_,Nat.le_refl _,(fun b rec i h=>by cases h),fun _ h=>h.elim⟩
 show False↔_
 simp[hf]
end Go.Ev
namespace Go.Ev
open Go Go.RowKit
variable{P:Program}
def cloneF(u:Ty)(bytes:Nat):List CV->Option (Bool×List CV)
 |[.pure (.slice u') xs]=>if u'=u then some (room (List.length xs) bytes,[.pure (.slice u') xs])else none
 |_=>none
end Go.Ev
namespace Go.Ev
open Go Go.RowKit
variable{P:Program}
def vecS(u:Ty)(te bytes:Nat):Summ:=fun cs look nid=>match cs with
 |[c]=>match toPH look (.slice u) c with
  |some xs=>some ⟨c.subOK look&&room (List.length xs) bytes,.whole nid,[(nid,.vec te u xs)]⟩
  |none=>none
 |_=>none
theorem vecS_congr(u:Ty)(te bytes:Nat):SummC (vecS u te bytes):=by
 intro cs look look' nid h
 unfold vecS
 match cs with
 |[]=>rfl
 |[c] =>
  have h':∀b∈c.refs,look b=look' b:=fun b hb=>h b (by simpa using hb)
  simp only[toPH_congr h',subOK_congr h']
 |_::_::_=>rfl
theorem own_base{w:World}{b b' te size n:Nat}{v:Value}{xs:List Value}(h:b<=b')(ho:w.ownsRow b' te size v n xs):w.ownsRow b te size v n xs:=by
 refine⟨ho.1,?_⟩
 rcases ho.2 with h1|⟨g,cap,cur,h1,h2,h3⟩
 ·exact .inl h1
 ·exact .inr ⟨g,cap,cur,h1,by omega,h3⟩
end Go.Ev
namespace Go.Ev
open Go Go.RowKit
namespace Sp
def dst:List Int->Bool
 |[]=>true
 |x::l=> !l.contains x&&dst l
end Sp
abbrev CfgTy:Ty:= .pair (.int .i64) (.pair (.int .i64) (.pair (.int .i64) (.pair (.int .i64) (.pair (.int .i64) (.pair (.int .i64) (.pair .bool (.pair (.int .i64) .unit)))))))
def codesS:Summ:=shN [.slice CfgTy] [.bool] (fun _=>true) (fun x=>(Sp.dst ((show List CfgTy.den from x.1).map fun c=>c.1),()))
variable{P:Program}
theorem summ_of_callsN{f:Nat}{ts rs:List Ty}{F:List CV->Option (Bool×List CV)}(hns:(rs.all fun t=> !t.slices)=true)(hcb:callable P f=true)
 (hrs:∀cs' r,F cs'=some r->purify noLook rs r.2=some r.2)
 (hF:∀(w:World)(I:Nat->Prop)(look:Look)(cs cs':List CV)(l:List CV)(vs:List Value),(∀g,I g->g<w.heap.size)->purify look ts cs=some cs'->F cs'=some (true,l)->Vs (pureE w I) cs' vs->
  Calls P f vs.toArray w fun e w'=>∃v,e= .returned v/\Below w.heap.size w w'/\VRep (pureE w' I) (tupOf l) v):SummOK P f (pureN ts F):=by
 refine⟨hcb,pureN_congr ts F,?_⟩
 intro base E hp cs vs nid out H hvs hs hok _ _
 unfold pureN at hs
 split at hs
 ·cases hs
 ·rename_i cs' hcs'
  split at hs
  ·cases hs
  ·rename_i r hr
   simp at hs;subst hs
   have hp1:=hrs _ _ hr
   obtain⟨ok,l⟩:=r
   simp only[Bool.and_eq_true]at hok
   obtain⟨hsub,rfl⟩:=hok
   obtain⟨_,ht,_⟩:=purify_tup hcs'
   obtain⟨E',hle,H',hw,_,_,_,hI⟩:=HS.frzs (lookH hp) (cs.flatMap CV.refs) H (fun _=> .inl rfl) (Vs_refs hvs ht)
   have hvs0:Vs (pureE E'.w E'.R) cs' vs:=purify_rep (base:=base) (E':=pureE E'.w E'.R) H.blk hw (fun g h=>⟨hle.R g h,fun h=>h.elim⟩) hcs' hsub hvs (fun c hc g⟨b,hb,hg⟩=>⟨hI g (.inr ⟨b,List.mem_flatMap.2 ⟨c,hc,hb⟩,hg⟩),fun h=>h.elim⟩)
   have hc:=hF E'.w E'.R _ _ _ _ _ (fun g h=>H'.imm g h.1) hcs' hr hvs0
   rw[<-hw]
   refine Calls.mono hc ?_
   rintro e w' ⟨v,rfl,hbel0,hv⟩
   have hheap:∀g,g<E.w.heap.size->w'.heap[g]? =E.w.heap[g]? :=fun g hg=>by
    have:=hbel0.block g (by rw[hw];exact hg)
    rw[this,hw]
   have hbel:Below base E.w w':=by
    have hb:=hbel0
    rw[hw]at hb
    exact⟨hb.os,hb.tape,hb.output,hb.size,fun k hk=>hheap k (Nat.lt_of_lt_of_le hk H.base)⟩
   obtain⟨hle3,H3⟩:=H.world (w':=w') hbel hheap
   obtain⟨hll,ht0,htl⟩:=purify_tup hp1
   obtain⟨us,hus,hback⟩:=tup_split hv ht0
   refine⟨v,{E with w:=w'},rfl,rfl,hle3,H3,hback _ _ ?_ rfl htl⟩
   exact purify_any (base:=0) hns (LRep_no _ _) hp1 hus
namespace Sp
theorem dst_nodup:∀l:List Int,dst l=true↔l.Nodup
 |[]=>by simp[dst]
 |x::l=>by simp[dst,dst_nodup l]
theorem dst_false{l:List Int}(h:¬l.Nodup):dst l=false:=by
 cases hd:dst l
 ·rfl
 ·exact absurd ((dst_nodup l).1 hd) h
theorem nodup_take{l:List Int}{k:Nat}(hk:k<l.length)(h:(l.take k).Nodup)(hn:(l.take k).contains (l.getD k 0)=false):(l.take (k+1)).Nodup:=by
 have e:l.getD k 0=l[k]:=by simp[List.getD_eq_getElem?_getD,hk]
 rw[List.take_succ_eq_append_getElem hk,List.nodup_append]
 rw[e]at hn
 refine⟨h,by simp,fun a ha b hb hab=> ?_⟩
 simp only[List.mem_singleton]at hb
 subst hb
 rw[<-hab]at hn
 have:(l.take k).contains a=true:=by simpa using ha
 rw[this]at hn;cases hn
theorem not_nodup{l:List Int}{k:Nat}(hk:k<l.length)(hn:(l.take k).contains (l.getD k 0)=true):¬l.Nodup:=by
 have e:l.getD k 0=l[k]:=by simp[List.getD_eq_getElem?_getD,hk]
 intro h
 rw[e]at hn
 have hs:List.Sublist (l.take (k+1)) l:=List.take_sublist _ _
 have h2:=hs.nodup h
 rw[List.take_succ_eq_append_getElem hk,List.nodup_append]at h2
 exact h2.2.2 l[k] (by simpa using hn) l[k] (by simp) rfl
end Sp
theorem wf_wrap{x:Int}(h:IntKind.wrap .i64 x=x):(Lit.int .i64 x).wf=true:=by
 simp[Lit.wf,IntKind.wrap,IntKind.min,IntKind.max,IntKind.signed,IntKind.bits]at h⊢
 omega
end Go.Ev
