/- Part of a typed evaluator of the program's functions, proved sound. No condition. -/
import Derived.Test.YtabdddcgjocmnaaGreatE3P1
import Derived.IntWalk
import Derived.Shelf.SlicesE.Clone
set_option maxRecDepth 10000
set_option linter.unusedVariables false
set_option linter.unusedSimpArgs false
namespace Go.Ev
open Go Go.RowKit
abbrev IO2:=Nat×IOper
section
variable(summ:Nat->Option Summ)(bs:Nat)
def goD(x:IO2)(S:St):Option (List LogE×St) :=
 match act summ x.2.op (x.2.args.map S.eval) S.look (bs+x.2.rank)with
 |none=>none
 |some out=>if Eg0 S x.2.op (bs+x.2.rank) out=true/\out.ok=true then some ([Tg0 x.1 x.2 x.2.op (x.2.args.map S.eval) (bs+x.2.rank) out],S.apply x.2.dst out)else none
def Ft0(x:IO2)(S:St):Option (List LogE×St) :=
 match x.2.guard with
 |none=>goD summ bs x S
 |some g=>match S.sl.getD g.1 .junk with
  | .bool b=>if b=g.2 then goD summ bs x S else some ([],S.put x.2.dst .undef)
  | .undef=>some ([],S.put x.2.dst .undef)
  |_=>none
def Ie0:List IO2->St->Option (List LogE×St)
 |[],S=>some ([],S)
 |x::r,S=>match Ft0 summ bs x S with
  |none=>none
  |some (l,S')=>match Ie0 r S' with
   |none=>none
   |some (L,S'')=>some (l++L,S'')
end
def enum:Nat->List IOper->List IO2
 |_,[]=>[]
 |i,o::os=>(i,o)::enum (i+1) os
section
variable{R:Type}{summ:Nat->Option Summ}{bs:Nat}{call:Nat->List CV->List Blk->(CV->List Blk->Option R)->Option R}
theorem En2{S:St}{d:Nat}{c:CV}(h:S.sl.getD d .junk=c)(hc:c≠ .junk):S.put (some d) c=S:=by
 obtain⟨sl,hp,fb⟩:=S
 simp only[St.put,St.mk.injEq,and_true]
 apply List.ext_getElem?
 intro j
 rw[List.getElem?_set]
 split
 ·rename_i hj
  subst hj
  simp only[List.getD_eq_getElem?_getD]at h
  cases hx:sl[d]? with
  |none=>rw[hx]at h;exact absurd h.symm hc
  |some v=>
   rw[hx]at h
   have hlt:d<sl.length:=by
    rcases Nat.lt_or_ge d sl.length with h1|h1
    ·exact h1
    ·rw[List.getElem?_eq_none h1]at hx;cases hx
   simp at h
   rw[if_pos hlt,h]
 ·rfl
theorem Ka1{i:Nat}{o:IOper}{log:List LogE}{S:St}{k:List LogE->St->Option R}{r:R}(h:Ml0 summ call true bs i o log S k=some r) :
 ∃l S',goD summ bs (i,o) S=some (l,S')/\k (log++l) S'=some r:=by
 have h':(match act summ o.op (o.args.map S.eval) S.look (bs+o.rank)with
  |none=>none
  |some out=>gd (Eg0 S o.op (bs+o.rank) out) (gd out.ok (k (log++[Tg0 i o o.op (o.args.map S.eval) (bs+o.rank) out]) (S.apply o.dst out))))=some r:=by
  exact h
 split at h'
 ·cases h'
 ·rename_i out hact
  cases h1:Eg0 S o.op (bs+o.rank) out
  ·rw[h1]at h';cases h'
  ·cases h2:out.ok
   ·rw[h1,h2]at h';cases h'
   ·rw[h1,h2]at h'
    refine⟨_,_,?_,h'⟩
    unfold goD
    simp only[hact,h1,h2,and_self,if_true]
theorem Ed0{k:St->Option R}{r:R}:∀(os:List IOper)(i:Nat)(log:List LogE)(S:St),Av0 summ call true bs i os log S k=some r->
 ∃L S',Ie0 summ bs (enum i os) S=some (L,S')/\Id0 (log++L)=true/\k S'=some r
 |[],i,log,S,h=>by
  simp only[Av0,if_true]at h
  cases hl:Id0 log
  ·rw[hl]at h;cases h
  ·rw[hl]at h
   exact⟨[],S,rfl,by simpa using hl,h⟩
 |o::os,i,log,S,h=>by
  rw[Rl0]at h
  have run:∀S:St,(Ml0 summ call true bs i o log S fun log S=>Av0 summ call true bs (i+1) os log S k)=some r->∃l S1,goD summ bs (i,o) S=some (l,S1)/\∃L S',Ie0 summ bs (enum (i+1) os) S1=some (L,S')/\Id0 (log++(l++L))=true/\k S'=some r:=by
   intro S h
   obtain⟨l,S1,h1,h2⟩:=Ka1 h
   obtain⟨L,S',h3,h4,h5⟩:=Ed0 os (i+1) (log++l) S1 h2
   exact⟨l,S1,h1,L,S',h3,by simpa using h4,h5⟩
  split at h
  ·rename_i hg
   obtain⟨l,S1,h1,L,S',h3,h4,h5⟩:=run S h
   refine⟨l++L,S',?_,h4,h5⟩
   simp only[enum,Ie0,Ft0,hg,h1,h3]
  ·rename_i d want hg
   split at h
   ·rename_i b hb
    have hput:S.put (some d) (.bool b)=S:=En2 hb (by simp)
    have skip:Av0 summ call true bs (i+1) os log (S.put o.dst .undef) k=some r->b≠want->∃L S',Ie0 summ bs (enum i (o::os)) S=some (L,S')/\Id0 (log++L)=true/\k S'=some r:=by
     intro h hne
     obtain⟨L,S',h3,h4,h5⟩:=Ed0 os (i+1) log _ h
     refine⟨L,S',?_,h4,h5⟩
     simp only[enum,Ie0,Ft0,hg,hb,if_neg hne,h3,List.nil_append]
    have go:(Ml0 summ call true bs i o log S fun log S=>Av0 summ call true bs (i+1) os log S k)=some r->b=want->∃L S',Ie0 summ bs (enum i (o::os)) S=some (L,S')/\Id0 (log++L)=true/\k S'=some r:=by
     intro h he
     obtain⟨l,S1,h1,L,S',h3,h4,h5⟩:=run S h
     refine⟨l++L,S',?_,h4,h5⟩
     simp only[enum,Ie0,Ft0,hg,hb,if_pos he,h1,h3]
    cases b
    ·simp only[cond_false]at h
     rw[hput]at h
     cases want
     ·simp only[Bool.false_eq_true,if_false]at h;exact go h rfl
     ·simp only[if_true]at h;exact skip h (by simp)
    ·simp only[cond_true]at h
     rw[hput]at h
     cases want
     ·simp only[Bool.false_eq_true,if_false]at h;exact skip h (by simp)
     ·simp only[if_true]at h;exact go h rfl
   ·rename_i hu
    obtain⟨L,S',h3,h4,h5⟩:=Ed0 os (i+1) log _ h
    refine⟨L,S',?_,h4,h5⟩
    simp only[enum,Ie0,Ft0,hg,hu,h3,List.nil_append]
   ·cases h
def setO(sl:List CV)(d:Option Nat)(v:CV):List CV:=match d with|some d=>sl.set d v|none=>sl
theorem put_eq(S:St)(d:Option Nat)(v:CV):S.put d v= {S with sl:=setO S.sl d v}:=by cases d<;>rfl
theorem Hg0{hp:List Blk}{b:Nat}(h:b<hp.length)(k:Blk):setH hp b k=hp.set b k:=by unfold setH;rw[if_pos h]
theorem He0:∀(wr:List (Nat×Blk))(hp:List Blk),(wr.all fun p=>decide (p.1<hp.length))=true->(Bg0 hp wr).length=hp.length
 |[],_,_=>rfl
 |p::wr,hp,h=>by
  simp only[List.all_cons,Bool.and_eq_true,decide_eq_true_eq]at h
  have e:(setH hp p.1 p.2).length=hp.length:=by rw[Hg0 h.1];simp
  show(Bg0 (setH hp p.1 p.2) wr).length=_
  rw[He0 wr _ (by rw[e];exact h.2),e]
theorem Ke0:∀(wr:List (Nat×Blk))(hp:List Blk)(b:Nat),(wr.all fun p=>decide (p.1<hp.length))=true->b∉wr.map (·.1)->Ae0 (Bg0 hp wr) b=Ae0 hp b
 |[],_,_,_,_=>rfl
 |p::wr,hp,b,h,hb=>by
  simp only[List.all_cons,Bool.and_eq_true,decide_eq_true_eq]at h
  have e:(setH hp p.1 p.2).length=hp.length:=by rw[Hg0 h.1];simp
  show Ae0 (Bg0 (setH hp p.1 p.2) wr) b=_
  rw[Ke0 wr _ b (by rw[e];exact h.2) (fun hm=>hb (by simp only[List.map_cons];exact List.mem_cons_of_mem _ hm)),Dv0 (by omega),if_neg (fun e=>hb (by simp[e]))]
theorem Up0:∀(wr:List (Nat×Blk))(hp:List Blk)(b:Nat)(k:Blk),(wr.all fun p=>decide (p.1<hp.length))=true->b<hp.length->b∉wr.map (·.1)->Bg0 (setH hp b k) wr=setH (Bg0 hp wr) b k
 |[],_,_,_,_,_,_=>rfl
 |p::wr,hp,b,k,h,hb,hn=>by
  simp only[List.all_cons,Bool.and_eq_true,decide_eq_true_eq]at h
  have e:(setH hp p.1 p.2).length=hp.length:=by rw[Hg0 h.1];simp
  have hne:b≠p.1:=fun e=>hn (by simp[e])
  show Bg0 (setH (setH hp b k) p.1 p.2) wr=setH (Bg0 (setH hp p.1 p.2) wr) b k
  rw[<-Up0 wr _ b k (by rw[e];exact h.2) (by omega) (fun hm=>hn (by simp only[List.map_cons];exact List.mem_cons_of_mem _ hm))]
  congr 1
  rw[Hg0 hb,Hg0 h.1,Hg0 (by simpa using h.1),Hg0 (by simpa using hb),List.set_comm _ _ hne]
theorem Qq0:∀(w1 w2:List (Nat×Blk))(hp:List Blk),(w1.all fun p=>decide (p.1<hp.length))=true->(w2.all fun p=>decide (p.1<hp.length))=true->(∀b∈w1.map (·.1),b∉w2.map (·.1))->Bg0 (Bg0 hp w1) w2=Bg0 (Bg0 hp w2) w1
 |[],_,_,_,_,_=>rfl
 |p::w1,w2,hp,h1,h2,hd=>by
  simp only[List.all_cons,Bool.and_eq_true,decide_eq_true_eq]at h1
  have e:(setH hp p.1 p.2).length=hp.length:=by rw[Hg0 h1.1];simp
  show Bg0 (Bg0 (setH hp p.1 p.2) w1) w2=Bg0 (setH (Bg0 hp w2) p.1 p.2) w1
  rw[Qq0 w1 w2 _ (by rw[e];exact h1.2) (by rw[e];exact h2) (fun b hb=>hd b (by simp only[List.map_cons];exact List.mem_cons_of_mem _ hb)),Up0 w2 hp p.1 p.2 h2 h1.1 (hd p.1 (by simp))]
structure Eff(summ:Nat->Option Summ)(bs:Nat)(x:IO2)(S:St)(l:List LogE)(S':St)(v:CV)(wr:List (Nat×Blk)):Prop where
 out:S'= {S with sl:=setO S.sl x.2.dst v,hp:=Bg0 S.hp wr}
 inr:(wr.all fun p=>decide (p.1<S.hp.length))=true
 log:∀b∈wr.map (·.1),∃e∈l,b∈e.wr
 tag:∀e∈l,e.i=x.1/\e.preds=x.2.preds
 len:l.length<=1
 loc:∀T:St,T.fb=S.fb->(∀s∈x.2.rds,T.sl.getD s .junk=S.sl.getD s .junk)->(∀e∈l,∀b∈e.rd,Ae0 T.hp b=Ae0 S.hp b)->T.hp.length=S.hp.length->Ft0 summ bs x T=some (l,{T with sl:=setO T.sl x.2.dst v,hp:=Bg0 T.hp wr})
theorem Jl0(hsum:∀f s,summ f=some s->Ka0 s){x:IO2}{S S':St}{l:List LogE}(h:Ft0 summ bs x S=some (l,S')):∃v wr,Eff summ bs x S l S' v wr:=by
 have hgo:(∀T:St,(∀s∈x.2.rds,T.sl.getD s .junk=S.sl.getD s .junk)->goD summ bs x T=Ft0 summ bs x T\/True):=fun _ _=> .inr trivial
 clear hgo
 have evalT:∀T:St,(∀s∈x.2.rds,T.sl.getD s .junk=S.sl.getD s .junk)->x.2.args.map T.eval=x.2.args.map S.eval:=by
  intro T hT
  apply List.map_congr_left
  intro o ho
  cases o with
  |cst c=>rfl
  |tmp t=>exact hT t (by simp only[IOper.rds,List.mem_append,List.mem_flatMap];exact .inl ⟨_,ho,by simp⟩)
 have goE:∀ {l:List LogE}{S':St},goD summ bs x S=some (l,S')->∃v wr,S'= {S with sl:=setO S.sl x.2.dst v,hp:=Bg0 S.hp wr}/\(wr.all fun p=>decide (p.1<S.hp.length))=true/\(∀b∈wr.map (·.1),∃e∈l,b∈e.wr)/\(∀e∈l,e.i=x.1/\e.preds=x.2.preds)/\l.length<=1/\
  ∀T:St,(∀s∈x.2.rds,T.sl.getD s .junk=S.sl.getD s .junk)->(∀e∈l,∀b∈e.rd,Ae0 T.hp b=Ae0 S.hp b)->T.hp.length=S.hp.length->goD summ bs x T=some (l,{T with sl:=setO T.sl x.2.dst v,hp:=Bg0 T.hp wr}):=by
  intro l S' h
  unfold goD at h
  split at h
  ·cases h
  ·rename_i out hact
   split at h
   ·rename_i hk
    simp at h
    obtain⟨rfl,rfl⟩:=h
    have hchk:=hk.1
    simp only[Eg0,Bool.and_eq_true]at hchk
    refine⟨out.v,out.wr,by rw[St.apply,put_eq],hchk.1,fun b hb=>⟨_,List.mem_singleton.2 rfl,hb⟩,fun e he=>by simp at he;subst he;exact⟨rfl,rfl⟩,by simp,fun T hT hb hlen=> ?_⟩
    have hb':=hb _ (List.mem_singleton.2 rfl)
    have hva:=evalT T hT
    have hact':act summ x.2.op (x.2.args.map T.eval) T.look (bs+x.2.rank)=some out:=by
     rw[hva,<-hact]
     exact Kg1 hsum _ _ (fun b hb=>hb' b (by simp only[Tg0];exact List.mem_append_right _ hb))
    have hchk':Eg0 T x.2.op (bs+x.2.rank) out=true:=by
     simp only[Eg0,hlen,Bool.and_eq_true]
     refine⟨hchk.1,?_⟩
     cases hn:Oj0 x.2.op
     ·rfl
     ·have:=hchk.2
      rw[hn]at this
      have e:T.look (bs+x.2.rank)=S.look (bs+x.2.rank):=hb' _ (by simp[Tg0,hn])
      rw[e];exact this
    unfold goD
    rw[hact']
    simp only[hchk',hk.2,and_self,if_true]
    rw[hva,St.apply,put_eq]
   ·cases h
 unfold Ft0 at h
 split at h
 ·rename_i hg
  obtain⟨v,wr,h1,h2,h3,h4,h5,h6⟩:=goE h
  exact⟨v,wr,h1,h2,h3,h4,h5,fun T _ a b c=>by unfold Ft0;rw[hg];exact h6 T a b c⟩
 ·rename_i g hg
  have hgr:g.1∈x.2.rds:=by simp[IOper.rds,hg]
  split at h
  ·rename_i b hb
   split at h
   ·rename_i he
    obtain⟨v,wr,h1,h2,h3,h4,h5,h6⟩:=goE h
    exact⟨v,wr,h1,h2,h3,h4,h5,fun T _ a' b' c'=>by unfold Ft0;rw[hg];simp only[a' _ hgr,hb,if_pos he];exact h6 T a' b' c'⟩
   ·rename_i he
    simp at h
    obtain⟨rfl,rfl⟩:=h
    refine⟨.undef,[],by rw[put_eq];rfl,rfl,by simp,by simp,by simp,fun T _ a' b' c'=> ?_⟩
    unfold Ft0;rw[hg];simp only[a' _ hgr,hb,if_neg he]
    rw[put_eq];rfl
  ·rename_i hu
   simp at h
   obtain⟨rfl,rfl⟩:=h
   refine⟨.undef,[],by rw[put_eq];rfl,rfl,by simp,by simp,by simp,fun T _ a' b' c'=> ?_⟩
   unfold Ft0;rw[hg];simp only[a' _ hgr,hu]
   rw[put_eq];rfl
  ·cases h
theorem Ve0{sl:List CV}{d:Option Nat}{v:CV}{s:Nat}(h:d≠some s):(setO sl d v).getD s .junk=sl.getD s .junk:=by
 cases d with
 |none=>rfl
 |some d=>
  have hne:d≠s:=fun e=>h (by rw[e])
  simp[setO,List.getElem?_set,hne]
theorem Gj1{sl:List CV}{d e:Option Nat}{v u:CV}(h:∀x,d=some x->e≠some x):setO (setO sl d v) e u=setO (setO sl e u) d v:=by
 cases d with
 |none=>rfl
 |some d=>
  cases e with
  |none=>rfl
  |some e=>
   have hne:d≠e:=fun he=>h d rfl (by rw[he])
   exact List.set_comm _ _ hne
theorem Qm0{a b:IOper}(h:El0 a b=true):(∀d,a.dst=some d->d∉b.rds/\b.dst≠some d)/\∀d,b.dst=some d->d∉a.rds:=by
 simp only[El0,Bool.and_eq_true]at h
 refine⟨fun d hd=> ?_,fun d hd=> ?_⟩
 ·have:=h.1
  rw[hd]at this
  simpa using this
 ·have:=h.2
  rw[hd]at this
  simpa using this
theorem apart_spec{a b:LogE}(h:apart a b=true):∀x∈a.wr,x∉b.rd/\x∉b.wr:=by
 intro x hx
 simp only[apart,List.all_eq_true,Bool.and_eq_true,Bool.not_eq_true']at h
 have:=h x hx
 exact⟨fun hm=>by rw[List.contains_iff_mem.2 hm]at this;simp at this,fun hm=>by rw[List.contains_iff_mem.2 hm]at this;simp at this⟩
theorem swap(hsum:∀f s,summ f=some s->Ka0 s){x y:IO2}{S S1 S2:St}{lx ly:List LogE}(h1:Ft0 summ bs x S=some (lx,S1))(h2:Ft0 summ bs y S1=some (ly,S2))(hs:El0 x.2 y.2=true)
 (hl:∀a∈lx,∀b∈ly,apart a b=true/\apart b a=true):∃T,Ft0 summ bs y S=some (ly,T)/\Ft0 summ bs x T=some (lx,S2):=by
 obtain⟨v,wx,ex⟩:=Jl0 hsum h1
 obtain⟨u,wy,ey⟩:=Jl0 hsum h2
 obtain⟨s1,s2⟩:=Qm0 hs
 have hS1:=ex.out
 subst hS1
 have hlen1:(Bg0 S.hp wx).length=S.hp.length:=He0 wx S.hp ex.inr
 have iny:(wy.all fun p=>decide (p.1<S.hp.length))=true:=by have:=ey.inr;simpa[hlen1]using this
 have hwx:∀e∈ly,∀b∈e.rd,b∉wx.map (·.1):=by
  intro e he b hb hm
  obtain⟨a,ha,hba⟩:=ex.log b hm
  exact(apart_spec (hl a ha e he).1 b hba).1 hb
 have hwy:∀e∈lx,∀b∈e.rd,b∉wy.map (·.1):=by
  intro e he b hb hm
  obtain⟨a,ha,hba⟩:=ey.log b hm
  exact(apart_spec (hl e he a ha).2 b hba).1 hb
 have hdis:∀b∈wx.map (·.1),b∉wy.map (·.1):=by
  intro b hb hm
  obtain⟨a,ha,hba⟩:=ex.log b hb
  obtain⟨c,hc,hbc⟩:=ey.log b hm
  exact(apart_spec (hl a ha c hc).1 b hba).2 hbc
 have hy:=ey.loc S rfl (fun s hs'=>(Ve0 (fun e=>(s1 s e).1 hs')).symm) (fun e he b hb=>(Ke0 wx S.hp b ex.inr (hwx e he b hb)).symm) hlen1.symm
 refine⟨_,hy,?_⟩
 have hlen2:(Bg0 S.hp wy).length=S.hp.length:=He0 wy S.hp iny
 have hx:=ex.loc {S with sl:=setO S.sl y.2.dst u,hp:=Bg0 S.hp wy} rfl (fun s hs'=>Ve0 (fun e=>s2 s e hs')) (fun e he b hb=>Ke0 wy S.hp b iny (hwy e he b hb)) hlen2
 rw[hx,ey.out]
 simp only[Option.some.injEq,Prod.mk.injEq,true_and,St.mk.injEq,and_true]
 exact⟨(Gj1 (fun d hd=>(s1 d hd).2)).symm,(Qq0 wx wy S.hp ex.inr iny hdis).symm⟩
theorem Kn0{a:LogE}{l:List LogE}:Id0 (a::l)=true↔(∀b∈l,b.preds.contains a.i=true\/(apart a b=true/\apart b a=true))/\Id0 l=true:=by
 simp[Id0,List.all_eq_true]
theorem Nv0:∀ {l m:List LogE},Id0 (l++m)=true->Id0 m=true
 |[],_,h=>h
 |a::l,m,h=>Nv0 (Kn0.1 h).2
theorem Qx0(hsum:∀f s,summ f=some s->Ka0 s){y:IO2}{post:List IO2}{Sf:St}:∀(pre:List IO2)(S:St)(L:List LogE),Ie0 summ bs (pre++y::post) S=some (L,Sf)->Id0 L=true->
 (∀x∈pre,El0 x.2 y.2=true/\y.2.preds.contains x.1=false) ->
 ∃ly S' L',Ft0 summ bs y S=some (ly,S')/\Ie0 summ bs (pre++post) S'=some (L',Sf)/\Id0 L'=true/\(∀b∈L',b∈L)/\(∀b∈ly,b∈L)
 |[],S,L,h,hl,_=>by
  simp only[List.nil_append,Ie0]at h
  split at h
  ·cases h
  ·rename_i ly S' hy
   split at h
   ·cases h
   ·rename_i L' S'' hp
    simp at h
    obtain⟨rfl,rfl⟩:=h
    exact⟨ly,S',L',hy,hp,Nv0 hl,fun b hb=>List.mem_append_right _ hb,fun b hb=>List.mem_append_left _ hb⟩
 |x::pre,S,L,h,hl,hpre=>by
  simp only[List.cons_append,Ie0]at h
  split at h
  ·cases h
  ·rename_i lx S1 hx
   split at h
   ·cases h
   ·rename_i L1 S'' hp
    simp at h
    obtain⟨rfl,rfl⟩:=h
    have hl1:=Nv0 hl
    obtain⟨ly,S1',L1',h1,h2,h3,h4,h5⟩:=Qx0 hsum pre S1 L1 hp hl1 (fun z hz=>hpre z (by simp[hz]))
    obtain⟨_,_,ex⟩:=Jl0 hsum hx
    obtain⟨_,_,ey⟩:=Jl0 hsum h1
    have hxy:=hpre x (by simp)
    have hap:∀a∈lx,∀b∈L1,b.preds.contains a.i=true\/(apart a b=true/\apart b a=true):=by
     intro a ha b hb
     match lx,ex.len,ha,hl with
     |[a'],_,ha,hl=>
      simp at ha;subst ha
      exact(Kn0.1 hl).1 b hb
    obtain⟨T,t1,t2⟩:=swap hsum hx h1 hxy.1 (fun a ha b hb=>by
     rcases hap a ha b (h5 b hb)with h|h
     ·rw[(ey.tag b hb).2,(ex.tag a ha).1,hxy.2]at h;cases h
     ·exact h)
    refine⟨ly,T,lx++L1',t1,?_,?_,?_,fun b hb=>List.mem_append_right _ (h5 b hb)⟩
    ·simp only[List.cons_append,Ie0,t2,h2]
    ·match lx,ex.len,hap with
     |[],_,_=>exact h3
     |[a],_,hap=>
      refine Kn0.2 ⟨fun b hb=>hap a (by simp) b (h4 b hb),h3⟩
    ·intro b hb
     rcases List.mem_append.1 hb with h|h
     ·exact List.mem_append_left _ h
     ·exact List.mem_append_right _ (h4 b h)
end
end Go.Ev
namespace Go.Ev
open Go Go.RowKit
theorem Io0:∀(os:List Oper)(acc:List (List Nat))(i:Nat),i<acc.length->(Hi0 os acc).getD i []=acc.getD i []
 |[],_,_,_=>rfl
 |o::os,acc,i,h=>by
  rw[Hi0,Io0 os _ i (by simp;omega)]
  simp[List.getElem?_append_left h]
theorem La0:∀(os:List Oper)(acc:List (List Nat))(j:Nat)(o:Oper),os[j]? =some o->∀p∈(Hi0 os acc).getD (acc.length+j) [],
 ∃e∈o.after.toList,Region.binds .any e=true/\(p=e.on\/p∈(Hi0 os acc).getD e.on [])
 |[],_,_,_,h,_,_=>by simp at h
 |o::os,acc,0,o',h,p,hp=>by
  simp at h;subst h
  rw[Hi0]at hp⊢
  rw[Io0 os _ _ (by simp)]at hp
  have e1:(acc++[Vk0 acc o]).getD (acc.length+0) []=Vk0 acc o:=by simp
  rw[e1]at hp
  unfold Vk0 at hp
  rw[List.mem_eraseDups,List.mem_flatMap]at hp
  obtain⟨e,he,hm⟩:=hp
  split at hm
  ·rename_i hb
   refine⟨e,he,hb,?_⟩
   rcases List.mem_cons.1 hm with h|h
   ·exact .inl h
   ·right
    by_cases hlt:e.on<acc.length
    ·rw[Io0 os _ _ (by simp;omega)]
     simpa[List.getElem?_append_left hlt]using h
    ·simp[List.getElem?_eq_none (show acc.length<=e.on by omega)]at h
  ·cases hm
 |o::os,acc,j+1,o',h,p,hp=>by
  rw[Hi0]at hp⊢
  have:=La0 os (acc++[Vk0 acc o]) j o' (by simpa using h) p (by simpa[Nat.add_assoc,Nat.add_comm 1 j]using hp)
  exact this
theorem Hs0:∀(l:List IOper)(i:Nat),Da0 i l=true->(enum i l).Pairwise fun x y=>y.2.preds.contains x.1=true\/El0 x.2 y.2=true
 |[],_,_=> .nil
 |a::l,i,h=>by
  simp only[Da0,Bool.and_eq_true,List.all_eq_true,Bool.or_eq_true]at h
  refine .cons (fun y hy=> ?_) (Hs0 l (i+1) h.2)
  have:∀(l:List IOper)(i:Nat),∀y∈enum i l,y.2∈l:=by
   intro l
   induction l with
   |nil=>intro i y hy;simp[enum]at hy
   |cons b l ih=>
    intro i y hy
    simp only[enum,List.mem_cons]at hy
    rcases hy with rfl|hy
    ·simp
    ·exact List.mem_cons_of_mem _ (ih _ y hy)
  exact h.1 y.2 (this l (i+1) y hy)
theorem Mr0:∀(l:List IOper)(i:Nat),(enum i l).Pairwise (fun x y=>x.1<y.1)/\∀x∈enum i l,i<=x.1
 |[],_=>⟨.nil,by simp[enum]⟩
 |a::l,i=>by
  obtain⟨h1,h2⟩:=Mr0 l (i+1)
  refine⟨.cons (fun y hy=>by have:=h2 y hy;show i<y.1;omega) h1,fun x hx=> ?_⟩
  simp only[enum,List.mem_cons]at hx
  rcases hx with rfl|hx
  ·exact Nat.le_refl _
  ·have:=h2 x hx;omega
theorem Fo0:∀(l:List IOper)(i:Nat)(x:IO2),x∈enum i l↔∃j,l[j]? =some x.2/\x.1=i+j
 |[],_,x=>by simp[enum]
 |a::l,i,x=>by
  simp only[enum,List.mem_cons,Fo0 l (i+1) x]
  constructor
  ·rintro(rfl|⟨j,h1,h2⟩)
   ·exact⟨0,rfl,rfl⟩
   ·exact⟨j+1,by simpa using h1,by omega⟩
  ·rintro⟨j,h1,h2⟩
   cases j with
   |zero=>
    simp at h1 h2
    left
    obtain⟨x1,x2⟩:=x
    simp at h1 h2
    rw[h1,h2]
   |succ j=>exact .inr ⟨j,by simpa using h1,by omega⟩
section
variable{R:Type}{P:Program}{sm:Nat->Bool}{summ:Nat->Option Summ}{base bs:Nat}{E0:Env}{ops:Array Oper}
theorem Gc1(hsum:∀f s,summ f=some s->Ag0 P f s){E:Env}{S:St}{a:Act}(H:HS base E S.hp)(hs:SlotsRep E S a){o:Oper}{cl:Call}{y:Operand}(ho:o.op= .call cl)(hcl:cl.callee= .value y){q:Opd}{l:List Opd}(hq:opd P none y=some q)(h1:opds P (cl.argTypes.toList.map some) cl.args.toList=some l){nid:Nat}{out:Out}
 (hact:act summ .callv ((q::l).map S.eval) S.look nid=some out) (hok:out.ok=true) (hf:Ae0 S.hp nid= .fresh) (hn:nid<=S.hp.length):OpWp P base E S a o out:=by
 simp only[act,Kp1,List.map_cons]at hact
 split at hact
 ·rename_i f cc vs he
  simp only[List.cons.injEq]at he
  split at hact
  ·rename_i hcap
   split at hact
   ·rename_i s hsf
    obtain⟨hcb,_,hcalls⟩:=hsum f s hsf
    have hv:=Cj0 hs hq
    rw[he.1]at hv
    obtain⟨caps,hfv,hcr⟩:=Gw0.1 hv
    have hvs:Vs E (vs++unchain cc) (cl.args.toList.map a.eval++caps):=by
     rw[<-he.2];exact(Bc0 hs h1).append (Tt0 hcr hcap)
    intro ro next Q hnx
    have hcall:=hcalls base E S.hp _ _ nid out H hvs hact hok hf hn
    have e:(cl.args.toList.map a.eval++caps).toArray= #[]++cl.args.map a.eval++caps.toArray:=by
     apply Array.ext';simp
    have hrun:(execOp a.eval o).run P E.w= .ok (.enter f (cl.args.toList.map a.eval++caps).toArray) E.w:=by
     unfold execOp
     simp only[ho,resolve,hcl,hfv,Deferred.ofValue,invoke,Sem.run_bind,Sem.run_pure,Result.andThen_ok]
     have:=En0 hcb (#[]++cl.args.map a.eval++caps.toArray) E.w
     rw[e]
     simpa using this
    exact Fi1 hrun hcall fun e w'⟨v,E',he,hw,hle,H',hv⟩=>⟨v,he,by subst hw;exact hnx v E' hle H' hv⟩
   ·cases hact
  ·cases hact
 ·cases hact
theorem Ux1{ro:Option Nat}(hsum:∀f s,summ f=some s->Ag0 P f s){S S':St}{a:Act}{w:World}(hS:Sim base E0 S a w){x:IO2}{l:List LogE}(h:Ft0 summ bs x S=some (l,S')){o:Oper}(hrel:x.2=Bw0 P sm ops.toList o x.2.rank x.2.preds)
 {next:Act->World->Prop} {Q:Exit->Act->World->Prop} (hn:∀a' w',Sim base E0 S' a' w'->next a' w') :
 if Region.wanted o (yielded ops a.tmps)=true then o.wpIn (FR ro) 0 P a w next Q else next (a.put o.dst undef) w:=by
 have goW:∀ {c:IOp×List Opd},Ix0 P sm o=some c->x.2.op=c.1->x.2.args=c.2->x.2.dst=o.dst->goD summ bs x S=some (l,S')->o.wpIn (FR ro) 0 P a w next Q:=by
  intro c hc hop hargs hdst hg
  obtain⟨E,h0,hw,H,hs,hd,hl,hfb⟩:=hS
  subst hw
  unfold goD at hg
  rw[hop,hargs]at hg
  split at hg
  ·cases hg
  ·rename_i out hact
   split at hg
   ·rename_i hk
    simp at hg
    obtain⟨_,rfl⟩:=hg
    have hnx0:∀v E',E.le base E'->HS base E' (Bg0 S.hp out.wr)->VRep E' out.v v->next (a.put o.dst v) E'.w:=fun v E' hle H' hv=>by
     rw[hdst]at hn
     exact hn _ _ (Sim.step h0 hs hd hl hfb (Fa0 _ _) hle H' rfl hv o.dst)
    by_cases hcv:Aj0 P sm o=some (c.1,c.2)
    rotate_left
    ·have hfresh:Oj0 c.1=true->Ae0 S.hp (bs+x.2.rank)= .fresh/\bs+x.2.rank<=S.hp.length:=by
      intro hnew
      have hchk:=hk.1
      simp only[Eg0,hnew,Bool.not_true,Bool.false_or,Bool.and_eq_true,decide_eq_true_eq]at hchk
      refine⟨?_,hchk.2.2⟩
      have:=hchk.2.1
      have e:S.look (bs+x.2.rank)=Ae0 S.hp (bs+x.2.rank):=rfl
      rw[e]at this
      cases hb:Ae0 S.hp (bs+x.2.rank)<;>rw[hb]at this<;>simp[Blk.isFresh]at this
     rcases Rp0 hc with h|⟨h,_⟩
     rotate_left
     ·exact absurd h hcv
     unfold Mt0 at h
     split at h
     ·rename_i cl ho
      split at h
      ·split at h
       ·cases h
       ·obtain⟨_,_,h2⟩:=map_some h
        subst h2
        simp[act]at hact
      ·rename_i y hy hcl
       split at h
       ·rename_i q l hq h1
        simp at h;subst h
        obtain⟨hf1,hf2⟩:=hfresh rfl
        exact Gc1 hsum H hs ho hcl hq h1 hact hk.2 hf1 hf2 ro next Q hnx0
       ·cases h
      ·cases h
     ·cases h
    have hc':Aj0 P sm o=some (c.1,c.2):=hcv
    have hnx:∀v E',E.le base E'->HS base E' (Bg0 S.hp out.wr)->VRep E' out.v v->next (a.put o.dst v) E'.w:=fun v E' hle H' hv=>by
     rw[hdst]at hn
     exact hn _ _ (Sim.step h0 hs hd hl hfb (Fa0 _ _) hle H' rfl hv o.dst)
    cases hnew:Oj0 c.1
    ·rw[Xj1 (nid':=S.hp.length) _ _ hnew]at hact
     exact Td0 hsum H hs hc' hact hk.2 (Jw0 S.hp) (Nat.le_refl _) ro next Q hnx
    ·have hchk:=hk.1
     simp only[Eg0,hnew,Bool.not_true,Bool.false_or,Bool.and_eq_true,decide_eq_true_eq]at hchk
     have hfr:Ae0 S.hp (bs+x.2.rank)= .fresh:=by
      have:=hchk.2.1
      have e:S.look (bs+x.2.rank)=Ae0 S.hp (bs+x.2.rank):=rfl
      rw[e]at this
      cases hb:Ae0 S.hp (bs+x.2.rank)<;>rw[hb]at this<;>simp[Blk.isFresh]at this
     exact Td0 hsum H hs hc' hact hk.2 hfr hchk.2.2 ro next Q hnx
   ·cases hg
 rcases Ou0 hrel with⟨c,g,hc,hg,hop,hargs,hdst,hgd⟩|⟨hop,hgd⟩
 ·unfold Ft0 at h
  rw[hgd]at h
  unfold guardOf at hg
  split at hg
  ·rename_i hgo
   simp at hg;subst hg
   have hw:Region.wanted o (yielded ops a.tmps)=true:=by simp[Region.wanted,hgo]
   rw[if_pos hw]
   exact goW hc hop hargs hdst h
  ·rename_i g' hgo
   split at hg
   ·rename_i d hd
    simp at hg;subst hg
    simp only at h
    split at h
    ·rename_i b hb
     have hB:=hS.bool hb
     have hy:yielded ops a.tmps g'.1=some b:=by
      unfold yielded
      have:(ops[g'.1]?).bind (·.dst)=some d:=by simpa using hd
      rw[this]
      simp[hB.2]
     have hwant:Region.wanted o (yielded ops a.tmps)=(b==g'.2):=by
      simp only[Region.wanted,hgo,hy]
      cases b<;>cases g'.2<;>rfl
     rw[hwant]
     split at h
     ·rename_i he
      rw[if_pos (by simpa using he)]
      exact goW hc hop hargs hdst h
     ·rename_i he
      rw[if_neg (by simpa using he)]
      simp at h
      obtain⟨_,rfl⟩:=h
      rw[<-hdst]
      exact hn _ _ (hS.skipU x.2.dst)
    ·rename_i hu
     have hU:=hS.isUndef hu
     have hy:yielded ops a.tmps g'.1=none:=by
      unfold yielded
      have:(ops[g'.1]?).bind (·.dst)=some d:=by simpa using hd
      rw[this]
      cases ht:a.tmps[d]? with
      |none=>simp[ht]
      |some v=>
       have:v=undef:=by simpa[ht]using hU
       subst this
       simp[ht,undef]
     have hwant:Region.wanted o (yielded ops a.tmps)=false:=by
      simp only[Region.wanted,hgo,hy]
      rfl
     rw[hwant,if_neg (by decide),<-hdst]
     simp at h
     obtain⟨_,rfl⟩:=h
     exact hn _ _ (hS.skipU x.2.dst)
    ·cases h
   ·cases hg
 ·unfold Ft0 at h
  rw[hgd]at h
  unfold goD at h
  rw[hop]at h
  simp[act]at h
theorem Ni0{listed:Array Bool}{i:Nat}(h5:∀i,listed.getD i false=true->∀p∈(Fc0 ops.toList).getD i [],listed.getD p false=true)(hi:i∈Region.ready .any ops listed):∀p∈(Fc0 ops.toList).getD i [],listed.getD p false=true:=by
 unfold Region.ready at hi
 rw[List.mem_filter]at hi
 obtain⟨hir,hic⟩:=hi
 have hilt:i<ops.size:=by simpa using hir
 simp only[Bool.and_eq_true,Bool.not_eq_true']at hic
 obtain⟨hil,hia⟩:=hic
 intro p hp
 obtain⟨o,ho⟩:∃o,ops[i]? =some o:=⟨ops[i],by simp[hilt]⟩
 rw[ho]at hia
 simp only[Option.map_some,Option.getD_some]at hia
 rw[Array.all_eq_true_iff_forall_mem]at hia
 obtain⟨e',he',hb,hpe⟩:=La0 ops.toList [] i o (by simpa using ho) p (by simpa[Fc0]using hp)
 have hle:=hia e' (by simpa using he')
 rw[hb]at hle
 simp only[Bool.not_true,Bool.false_or]at hle
 rcases hpe with rfl|hpe
 ·exact hle
 ·exact h5 e'.on hle p hpe
theorem Xa1(hed:Gp0 ops.toList=true)(i:Nat)(o:Oper)(ho:ops[i]? =some o):∀e∈o.after.toList,Region.binds .any e=true->e.on<i:=by
 intro e he hb
 unfold Gp0 at hed
 rw[List.all_eq_true]at hed
 have hm:(o,i)∈ops.toList.zipIdx:=by
  rw[List.mem_zipIdx_iff_getElem?]
  simpa using ho
 have:=hed _ hm
 rw[List.all_eq_true]at this
 have:=this e he
 simp only[hb,Bool.not_true,Bool.false_or,decide_eq_true_eq]at this
 exact this
theorem Vh0(hed:Gp0 ops.toList=true){listed:Array Bool}(hsz:listed.size=ops.size){i:Nat}(hi:i<ops.size)(hl:listed.getD i true=false)(hj:∀j,j<i->listed.getD j true=true):i∈Region.ready .any ops listed:=by
 obtain⟨o,ho⟩:∃o,ops[i]? =some o:=⟨ops[i],by simp[hi]⟩
 unfold Region.ready
 rw[List.mem_filter]
 refine⟨by simpa using hi,?_⟩
 rw[hl]
 simp only[Bool.not_false,Bool.true_and,ho,Option.map_some,Option.getD_some]
 rw[Array.all_eq_true_iff_forall_mem]
 intro e' he'
 cases hb:Region.binds .any e'
 ·rfl
 ·simp only[Bool.not_true,Bool.false_or]
  have hlt:=Xa1 hed i o ho e' (by simpa using he') hb
  have:=hj _ hlt
  simpa[Array.getD,hsz,show e'.on<ops.size by omega]using this
theorem anyW{ro:Option Nat}(hsum:∀f s,summ f=some s->Ag0 P f s)(hsc:∀f s,summ f=some s->Ka0 s)(hed:Gp0 ops.toList=true){Q:Exit->Act->World->Prop}{Sf:St}{off n0:Nat}{later:Nat->Prop}
 (hfin:∀listed a' w',listed.size=ops.size->(∀i,i<ops.size->listed.getD i true=false->later i)->(∀i,i<ops.size->later i->listed.getD i true=false)->(∀i,listed.getD i false=true->∀p∈(Fc0 ops.toList).getD i [],listed.getD p false=true)->Sim base E0 Sf a' w'->wpAnyIn (FR ro) 0 P .any ops Q n0 listed a' w') :
 ∀(n:Nat)(rem:List IO2)(listed:Array Bool)(S:St)(a:Act)(w:World)(L:List LogE),rem.length=n->listed.size=ops.size->
  (∀x∈rem,listed.getD (x.1+off) true=false/\∃o,ops[x.1+off]? =some o/\x.2=Bw0 P sm ops.toList o x.2.rank x.2.preds/\∀p∈x.2.preds,p+off∈(Fc0 ops.toList).getD (x.1+off) []) ->
  (∀i,i<ops.size->later i->listed.getD i true=false/\∀x∈rem,x.1+off<i/\x.1+off∈(Fc0 ops.toList).getD i []) ->
  (∀i,i<ops.size->listed.getD i true=false->later i\/∃x∈rem,x.1+off=i) ->
  rem.Pairwise (fun x y=>x.1<y.1)->(∀i,listed.getD i false=true->∀p∈(Fc0 ops.toList).getD i [],listed.getD p false=true) ->
  rem.Pairwise (fun x y=>y.2.preds.contains x.1=true\/El0 x.2 y.2=true) ->
  Ie0 summ bs rem S=some (L,Sf)->Id0 L=true->Sim base E0 S a w->wpAnyIn (FR ro) 0 P .any ops Q (n+n0) listed a w:=by
 intro n
 induction n with
 |zero=>
  intro rem listed S a w L hn hsz h2 hla h3 h4 h5 h6 hex hlog hS
  have:rem=[]:=List.eq_nil_of_length_eq_zero hn
  subst this
  simp only[Ie0,Option.some.injEq,Prod.mk.injEq]at hex
  obtain⟨rfl,rfl⟩:=hex
  rw[Nat.zero_add]
  exact hfin listed a w hsz (fun i hi hl=>by
   rcases h3 i hi hl with h|⟨x,hx,_⟩
   ·exact h
   ·simp at hx) (fun i hi h=>(hla i hi h).1) h5 hS
 |succ n ih=>
  intro rem listed S a w L hn hsz h2 hla h3 h4 h5 h6 hex hlog hS
  rw[show n+1+n0=(n+n0)+1 by omega]
  have gl:∀i,i<ops.size->listed.getD i true=listed.getD i false:=by
   intro i hi
   simp[Array.getD,hsz,hi]
  refine⟨fun hnil=> ?_,fun i hi=> ?_⟩
  ·exfalso
   match rem,hn with
   |z::rest,_=>
    obtain⟨hz1,o,ho,_,_⟩:=h2 z (by simp)
    have hzlt:z.1+off<ops.size:=by
     rcases Nat.lt_or_ge (z.1+off) ops.size with h|h
     ·exact h
     ·rw[Array.getElem?_eq_none h]at ho;cases ho
    have:z.1+off∈Region.ready .any ops listed:=by
     refine Vh0 hed hsz hzlt hz1 (fun j hj=> ?_)
     cases hle:listed.getD j true
     ·rcases h3 j (by omega) hle with hxe|⟨x,hx,hxe⟩
      ·have:=((hla j (by omega) hxe).2 z (by simp)).1
       omega
      rcases List.mem_cons.1 hx with rfl|hx
      ·omega
      ·have:=List.rel_of_pairwise_cons h4 hx
       omega
     ·rfl
    rw[hnil]at this
    cases this
  ·have hpred:=Ni0 h5 hi
   unfold Region.ready at hi
   rw[List.mem_filter]at hi
   obtain⟨hir,hic⟩:=hi
   have hilt:i<ops.size:=by simpa using hir
   simp only[Bool.and_eq_true,Bool.not_eq_true']at hic
   obtain⟨hil,hia⟩:=hic
   rcases h3 i hilt hil with hie|⟨y,hy,rfl⟩
   ·exfalso
    match rem,hn with
    |z::rest,_=>
     obtain⟨hz1,o,ho,_,_⟩:=h2 z (by simp)
     have hz:=(hla i hilt hie).2 z (by simp)
     have:=hpred (z.1+off) hz.2
     rw[<-gl _ (by omega),hz1]at this
     cases this
   obtain⟨_,o,ho,hrel,hpr⟩:=h2 y hy
   obtain⟨pre,post,rfl⟩:=List.append_of_mem hy
   have hpre:∀x∈pre,El0 x.2 y.2=true/\y.2.preds.contains x.1=false:=by
    intro x hx
    have hx1:=(h2 x (by simp[hx])).1
    have hxlt:x.1+off<ops.size:=by
     obtain⟨_,o',ho',_⟩:=h2 x (by simp[hx])
     rcases Nat.lt_or_ge (x.1+off) ops.size with h|h
     ·exact h
     ·rw[Array.getElem?_eq_none h]at ho';cases ho'
    have hnc:y.2.preds.contains x.1=false:=by
     cases hcn:y.2.preds.contains x.1
     ·rfl
     ·have:=hpred _ (hpr x.1 (List.contains_iff_mem.1 hcn))
      rw[<-gl _ hxlt,hx1]at this
      cases this
    refine⟨?_,hnc⟩
    have:=(List.pairwise_append.1 h6).2.2 x hx y (by simp)
    rcases this with h|h
    ·rw[h]at hnc;cases hnc
    ·exact h
   obtain⟨ly,S',L',t1,t2,t3,_,_⟩:=Qx0 hsc pre S L hex hlog hpre
   have hsub:(pre++post).Sublist (pre++y::post):=List.Sublist.append_left (List.sublist_cons_self y post) pre
   have hstep:=Ux1 (ro:=ro) (ops:=ops) (sm:=sm) (Q:=Q) hsum hS t1 hrel (next:=wpAnyIn (FR ro) 0 P .any ops Q (n+n0) (listed.setIfInBounds (y.1+off) true)) (fun a' w' hS'=>by
    have hne:∀x∈pre++post,x.1≠y.1:=by
     intro x hx
     rcases List.mem_append.1 hx with hx|hx
     ·have:=(List.pairwise_append.1 h4).2.2 x hx y (by simp);omega
     ·have:=List.rel_of_pairwise_cons (List.pairwise_append.1 h4).2.1 hx;omega
    have gs:∀(j:Nat)(d:Bool),j≠y.1+off->(listed.setIfInBounds (y.1+off) true).getD j d=listed.getD j d:=by
     intro j d hj
     simp[Array.getD_eq_getD_getElem?,Array.getElem?_setIfInBounds_ne (Ne.symm hj)]
    have gy:(listed.setIfInBounds (y.1+off) true).getD (y.1+off) false=true:=by
     simp[Array.getD_eq_getD_getElem?,Array.getElem?_setIfInBounds,hsz,hilt]
    refine ih (pre++post) (listed.setIfInBounds (y.1+off) true) S' a' w' L' (by simp at hn⊢;omega) (by simpa using hsz) ?_ ?_ ?_ (h4.sublist hsub) ?_ (h6.sublist hsub) t2 t3 hS'
    ·intro x hx
     have:=h2 x (hsub.subset hx)
     have hn:=hne x hx
     exact⟨by rw[gs _ _ (by omega)];exact this.1,this.2⟩
    ·intro i hi hl
     have h:=hla i hi hl
     have hy':=(h.2 y (by simp)).1
     exact⟨by rw[gs _ _ (by omega)];exact h.1,fun x hx=>h.2 x (hsub.subset hx)⟩
    ·intro j hj hjl
     have hjy:j≠y.1+off:=by
      intro e;subst e
      have:(listed.setIfInBounds (y.1+off) true).getD (y.1+off) true=true:=by simp[Array.getD_eq_getD_getElem?,Array.getElem?_setIfInBounds,hsz,hilt]
      rw[this]at hjl;cases hjl
     rw[gs _ _ hjy]at hjl
     rcases h3 j hj hjl with hje|⟨x,hx,hxj⟩
     ·exact .inl hje
     refine .inr ⟨x,?_,hxj⟩
     rcases List.mem_append.1 hx with h|h
     ·exact List.mem_append_left _ h
     ·rcases List.mem_cons.1 h with rfl|h
      ·exact absurd hxj.symm hjy
      ·exact List.mem_append_right _ h
    ·intro j hj p hp
     have hlp:listed.getD p false=true:=by
      by_cases hjy:j=y.1+off
      ·subst hjy;exact hpred p hp
      ·rw[gs _ _ hjy]at hj
       exact h5 j hj p hp
     by_cases hpy:p=y.1+off
     ·rw[hpy];exact gy
     ·rw[gs _ _ hpy];exact hlp)
   unfold wpOpIn
   rw[ho]
   simp only
   split
   ·rename_i hw
    rw[if_pos hw]at hstep
    exact hstep
   ·rename_i hw
    rw[if_neg hw]at hstep
    exact⟨fun _ _=>trivial,hstep⟩
end
end Go.Ev
namespace Go.Ev
open Go Go.RowKit
section
variable{R:Type}{P:Program}{sm:Nat->Bool}{summ:Nat->Option Summ}
theorem Ks0{ops:List Oper}(o:Oper)(r:Nat)(p:List Nat):(Bw0 P sm ops o r p).rank=r/\(Bw0 P sm ops o r p).preds=p:=by
 unfold Bw0
 split<;>exact⟨rfl,rfl⟩
theorem Gs0{ops:List Oper}{j:Nat}{io:IOper}(h:(Aq0 P sm ops true)[j]? =some io) :
 ∃o,ops[j]? =some o/\io=Bw0 P sm ops o io.rank io.preds/\io.preds=(Fc0 ops).getD j []:=by
 unfold Aq0 at h
 simp only[List.getElem?_map,List.getElem?_zipIdx]at h
 cases ho:ops[j]? with
 |none=>rw[ho]at h;simp at h
 |some o=>
  rw[ho]at h
  simp at h
  subst h
  refine⟨o,rfl,?_,?_⟩
  ·rw[(Ks0 _ _ _).1,(Ks0 _ _ _).2]
  ·rw[(Ks0 _ _ _).2,List.getD_eq_getElem?_getD]
theorem Mq0:∀(l:List IOper)(i:Nat),(enum i l).length=l.length
 |[],_=>rfl
 |_::l,i=>by simp[enum,Mq0 l]
theorem Nu0(hp:List Blk)(n b:Nat):Ae0 (hp++List.replicate n .fresh) b=Ae0 hp b:=by
 unfold Ae0
 rw[List.getD_eq_getElem?_getD,List.getD_eq_getElem?_getD]
 by_cases h:b<hp.length
 ·rw[List.getElem?_append_left h]
 ·rw[List.getElem?_append_right (by omega),List.getElem?_eq_none (show hp.length<=b by omega),List.getElem?_replicate]
  split<;>rfl
theorem HS.lookEq{base:Nat}{E:Env}{hp hp':List Blk}(H:HS base E hp)(h:∀b,Ae0 hp' b=Ae0 hp b):HS base E hp':=
 ⟨fun b=>by rw[h b];exact H.blk b,fun b b' g=>by rw[h b,h b'];exact H.inj b b' g,fun b g=>by rw[h b];exact H.sep b g,H.imm,fun b=>by rw[h b];exact H.live b,H.base,H.eok,H.jI⟩
theorem ready_nil{ops:Array Oper}{listed:Array Bool}(h:∀i,i<ops.size->listed.getD i true=true):Region.ready .any ops listed=[]:=by
 unfold Region.ready
 rw[List.filter_eq_nil_iff]
 intro i hi
 have hlt:i<ops.size:=by simpa using hi
 rw[h i hlt];simp
theorem Xb1(hm:P.follows .mixedOrders=true)(hsum:∀f s,summ f=some s->Ag0 P f s)(hsc:∀f s,summ f=some s->Ka0 s):Um1 P sm R summ:=by
 intro ro base E0 call Q id nnew ops k r S a w hed hsl hev hS hk
 refine wpIn_region_any hm ?_
 obtain⟨E,h0,hw,H,hs,hd,hl,hfb⟩:=hS
 subst hw
 obtain⟨hle,H1⟩:=HS.world (w':= {E.w with drawn:=E.w.drawn+1}) H ⟨rfl,rfl,rfl,Nat.le_refl _,fun _ _=>rfl⟩ (fun _ _=>rfl)
 have hS1:Sim base E0 {S with hp:=S.hp++List.replicate nnew .fresh} a {E.w with drawn:=E.w.drawn+1} :=
  ⟨_,h0.trans hle,rfl,H1.lookEq (Nu0 _ _),hs.mono hle,hd,hl,⟨hfb.1,by simp;omega,hfb.2.2⟩⟩
 obtain⟨L,Sf,h1,h2,h3⟩:=Ed0 _ _ _ _ hev
 refine anyW (ro:=ro) (sm:=sm) (off:=0) (later:=fun _=>False) (n0:=0) hsum hsc hed (fun listed a' w' hsz hl _ _ h=>⟨ready_nil (fun i hi=>by
  cases hb:listed.getD i true
  ·exact(hl i hi hb).elim
  ·rfl),hk Sf a' w' h3 h⟩) ops.size (enum 0 (Aq0 P sm ops.toList true)) _ _ _ _ L ?_ ?_ ?_ (fun _ _ h=>h.elim) ?_ ?_ ?_ ?_ h1 ?_ hS1
 ·rw[Mq0,Gr0]
 ·simp
 ·intro x hx
  obtain⟨j,hj,hxj⟩:=(Fo0 _ _ _).1 hx
  obtain⟨o,ho,hrel,hpr⟩:=Gs0 hj
  have:x.1=j:=by omega
  have hlt:j<ops.size:=by
   rcases Nat.lt_or_ge j ops.size with h|h
   ·exact h
   ·rw[List.getElem?_eq_none (by simpa using h)]at ho;cases ho
  simp only[Nat.add_zero]
  refine⟨by rw[this];simp[Array.getD,hlt],o,by rw[this];simpa using ho,hrel,by rw[this,hpr];exact fun p hp=>hp⟩
 ·intro i hi _
  right
  have hlt:i<(Aq0 P sm ops.toList true).length:=by rw[Gr0];simpa using hi
  exact⟨(i,(Aq0 P sm ops.toList true)[i]),(Fo0 _ _ _).2 ⟨i,by simp,by simp⟩,rfl⟩
 ·exact(Mr0 _ _).1
 ·intro i hi
  exfalso
  by_cases hlt:i<ops.size
  ·simp[Array.getD,hlt]at hi
  ·simp[Array.getD,hlt]at hi
 ·exact Hs0 _ _ hsl
 ·simpa using h2
theorem Sl0{ops:List Oper}(o:Oper)(e:Nat){io:IOper}(h:io=Bw0 P sm ops o io.rank io.preds):Fy0 e io=Bw0 P sm ops o (Fy0 e io).rank (Fy0 e io).preds:=by
 have:∀(r:Nat)(p q:List Nat),{Bw0 P sm ops o r p with preds:=q}=Bw0 P sm ops o r q:=by
  intro r p q
  unfold Bw0
  split<;>rfl
 show({io with preds:=_}:IOper)=Bw0 P sm ops o io.rank _
 rw[<-this io.rank io.preds,<-h]
 rfl
theorem My1(hm:P.follows .mixedOrders=true)(hsum:∀f s,summ f=some s->Ag0 P f s)(hsc:∀f s,summ f=some s->Ka0 s):Ld1 P sm R summ:=by
 intro ro base E0 call Q id nnew ops e k r S a w hed hlc hsl hev hS hk
 refine wpIn_region_any hm ?_
 obtain⟨E,h0,hw,H,hs,hd,hl,hfb⟩:=hS
 subst hw
 obtain⟨hle,H1⟩:=HS.world (w':= {E.w with drawn:=E.w.drawn+1}) H ⟨rfl,rfl,rfl,Nat.le_refl _,fun _ _=>rfl⟩ (fun _ _=>rfl)
 have hS1:Sim base E0 {S with hp:=S.hp++List.replicate nnew .fresh} a {E.w with drawn:=E.w.drawn+1} :=
  ⟨_,h0.trans hle,rfl,H1.lookEq (Nu0 _ _),hs.mono hle,hd,hl,⟨hfb.1,by simp;omega,hfb.2.2⟩⟩
 obtain⟨L,Sf,h1,h2,h3⟩:=Ed0 _ _ _ _ hev
 have hlen:(Aq0 P sm ops.toList true).length=ops.size:=Gr0
 have hmid:Wh1 P sm ops.toList e=true/\e<ops.size:=by
  unfold Te0 at hlc
  split at hlc
  ·rename_i e' he'
   split at hlc
   ·rename_i hok
    cases hlc
    refine⟨hok,?_⟩
    rw[List.findIdx?_eq_some_iff_getElem]at he'
    obtain⟨hlt,_⟩:=he'
    rw[hlen]at hlt
    exact hlt
   ·cases hlc
  ·cases hlc
 obtain⟨hmid,helt⟩:=hmid
 unfold Wh1 at hmid
 rw[List.all_eq_true]at hmid
 have hmid':∀i,i<ops.size->(e<=i->∀j,j<e->j∈(Fc0 ops.toList).getD i [])/\(e<i->e∈(Fc0 ops.toList).getD i []):=by
  intro i hi
  have hg:(Aq0 P sm ops.toList true)[i]? =some (Aq0 P sm ops.toList true)[i]:=List.getElem?_eq_getElem (by omega)
  obtain⟨o,ho,_,hpr⟩:=Gs0 hg
  have:=hmid ((Aq0 P sm ops.toList true)[i],i) (by rw[List.mem_zipIdx_iff_getElem?];simp)
  simp only[Bool.and_eq_true,Bool.or_eq_true,decide_eq_true_eq,List.all_eq_true,List.mem_range]at this
  rw[<-hpr]
  refine⟨fun hei j hj=> ?_,fun hei=> ?_⟩
  ·rcases this.1 with h|h
   ·omega
   ·exact List.contains_iff_mem.1 (h j hj)
  ·rcases this.2 with h|h
   ·omega
   ·exact List.contains_iff_mem.1 h.1
 have hdl:∀j x,((Aq0 P sm ops.toList true).take e)[j]? =some x->j<e/\(Aq0 P sm ops.toList true)[j]? =some x:=by
  intro j x hx
  have hlt:j<((Aq0 P sm ops.toList true).take e).length:=(List.getElem?_eq_some_iff.1 hx).1
  rw[List.length_take,hlen]at hlt
  refine⟨by omega,?_⟩
  rw[List.getElem?_take,if_pos (by omega)]at hx
  exact hx
 have hdll:((Aq0 P sm ops.toList true).take e).length=e:=by rw[List.length_take,hlen];omega
 have hoe:∃oe,ops[e]? =some oe:=⟨ops[e],by simp[helt]⟩
 obtain⟨oe,hoe⟩:=hoe
 have key:=anyW (ro:=ro) (P:=P) (base:=base) (E0:=E0) (ops:=ops) (Q:=Q) (Sf:=Sf) (sm:=sm) (off:=0) (later:=fun i=>e<=i) (n0:=(ops.size-(e+1))+1) hsum hsc hed (fun listed a' w' hsz hl hla h5 h=>by
  have gl:∀i,i<ops.size->listed.getD i true=listed.getD i false:=by
   intro i hi
   simp[Array.getD,hsz,hi]
  have hbe:∀i,i<e->listed.getD i true=true:=fun i hi=>by
   cases hb:listed.getD i true
   ·exact absurd (hl i (by omega) hb) (by omega)
   ·rfl
  refine⟨fun hnil=> ?_,fun i hi=> ?_⟩
  ·exfalso
   have:=Vh0 hed hsz helt (hla e helt (Nat.le_refl _)) hbe
   rw[hnil]at this
   cases this
  ·have hpred:=Ni0 h5 hi
   unfold Region.ready at hi
   rw[List.mem_filter]at hi
   obtain⟨hir,hic⟩:=hi
   have hilt:i<ops.size:=by simpa using hir
   simp only[Bool.and_eq_true,Bool.not_eq_true']at hic
   have hie:i=e:=by
    have h1:=hl i hilt hic.1
    rcases Nat.lt_or_ge e i with h2|h2
    ·exfalso
     have:=hpred e ((hmid' i hilt).2 h2)
     rw[<-gl e helt,hla e helt (Nat.le_refl _)]at this
     cases this
    ·omega
   subst hie
   unfold wpOpIn
   rw[hoe]
   simp only
   have hnext:∀S2 a2 w2(k2:St->Option R),Da0 0 (Ci0 P sm ops.toList i)=true->Av0 summ call true S2.hp.length 0 (Ci0 P sm ops.toList i) [] S2 k2=some r->Sim base E0 S2 a2 w2->(∀S3 a3 w3,k2 S3=some r->Sim base E0 S3 a3 w3->Q .normal a3 w3)->wpAnyIn (FR ro) 0 P .any ops Q (ops.size-(i+1)) (listed.setIfInBounds i true) a2 w2:=by
    intro S2 a2 w2 k2 hsl2 hev2 hS2 hk2
    obtain⟨L2,Sf2,g1,g2,g3⟩:=Ed0 _ _ _ _ hev2
    have gs:∀(j:Nat)(d:Bool),j≠i->(listed.setIfInBounds i true).getD j d=listed.getD j d:=by
     intro j d hj
     simp[Array.getD_eq_getD_getElem?,Array.getElem?_setIfInBounds_ne (Ne.symm hj)]
    have gy:∀d,(listed.setIfInBounds i true).getD i d=true:=by
     intro d
     simp[Array.getD_eq_getD_getElem?,Array.getElem?_setIfInBounds,hsz,hilt]
    have hpl:(Ci0 P sm ops.toList i).length=ops.size-(i+1):=by
     unfold Ci0
     rw[List.length_map,List.length_drop,hlen]
    have hpo:∀j x,(Ci0 P sm ops.toList i)[j]? =some x->j+(i+1)<ops.size/\∃io,(Aq0 P sm ops.toList true)[j+(i+1)]? =some io/\x=Fy0 i io:=by
     intro j x hx
     have hlt:j<(Ci0 P sm ops.toList i).length:=(List.getElem?_eq_some_iff.1 hx).1
     rw[hpl]at hlt
     unfold Ci0 at hx
     rw[List.getElem?_map,List.getElem?_drop,Option.map_eq_some_iff]at hx
     obtain⟨io,hio,rfl⟩:=hx
     exact⟨by omega,io,by rw[<-hio];congr 1;omega,rfl⟩
    have:=anyW (ro:=ro) (P:=P) (base:=base) (E0:=E0) (ops:=ops) (Q:=Q) (Sf:=Sf2) (sm:=sm) (off:=i+1) (later:=fun _=>False) (n0:=0) hsum hsc hed (fun listed a' w' hsz hl _ _ h=>⟨ready_nil (fun i hi=>by
     cases hb:listed.getD i true
     ·exact(hl i hi hb).elim
     ·rfl),hk2 Sf2 a' w' g3 h⟩) (ops.size-(i+1)) (enum 0 (Ci0 P sm ops.toList i)) (listed.setIfInBounds i true) S2 a2 w2 L2 (by rw[Mq0,hpl]) (by simpa using hsz) ?_ (fun _ _ h=>h.elim) ?_ (Mr0 _ _).1 ?_ (Hs0 _ _ hsl2) g1 (by simpa using g2) hS2
    ·exact this
    ·intro x hx
     obtain⟨j,hj,hxj⟩:=(Fo0 _ _ _).1 hx
     obtain⟨hlt,io,hio,hxe⟩:=hpo j _ hj
     obtain⟨o,ho,hrel,hpr⟩:=Gs0 hio
     have hxj':x.1=j:=by omega
     rw[hxj']
     refine⟨?_,o,by simpa using ho,by rw[hxe];exact Sl0 o i hrel,fun p hp=> ?_⟩
     ·rw[gs _ _ (by omega)]
      exact hla _ hlt (by omega)
     ·rw[hxe]at hp
      unfold Fy0 at hp
      simp only[List.mem_map,List.mem_filter,decide_eq_true_eq]at hp
      obtain⟨q,⟨hq,hqi⟩,rfl⟩:=hp
      rw[hpr]at hq
      rw[show q-(i+1)+(i+1)=q by omega]
      exact hq
    ·intro j hj hjl
     right
     have hji:i<j:=by
      rcases Nat.lt_trichotomy j i with h|h|h
      ·rw[gs _ _ (by omega),hbe j h]at hjl;cases hjl
      ·rw[h,gy]at hjl;cases hjl
      ·exact h
     have hlt:j-(i+1)<(Ci0 P sm ops.toList i).length:=by rw[hpl];omega
     exact⟨(j-(i+1),(Ci0 P sm ops.toList i)[j-(i+1)]),(Fo0 _ _ _).2 ⟨j-(i+1),List.getElem?_eq_getElem hlt,by simp⟩,by simp;omega⟩
    ·intro j hj p hp
     by_cases hji:j=i
     ·subst hji
      have:=hpred p hp
      by_cases hpj:p=j
      ·rw[hpj];exact gy _
      ·rw[gs _ _ hpj];exact this
     ·rw[gs _ _ hji]at hj
      have:=h5 j hj p hp
      by_cases hpj:p=i
      ·rw[hpj];exact gy _
      ·rw[gs _ _ hpj];exact this
   have:=hk _ oe Sf a' w' h3 h (by simpa using hoe) hnext
   split
   ·rename_i hw
    rw[if_pos hw]at this
    exact this
   ·rename_i hw
    rw[if_neg hw]at this
    exact⟨fun _ _=>trivial,this⟩) e (enum 0 ((Aq0 P sm ops.toList true).take e)) (Array.replicate ops.size false) _ a _ L ?_ ?_ ?_ ?_ ?_ ?_ ?_ ?_ h1 ?_ hS1
 ·rw[show e+(ops.size-(e+1)+1)=ops.size by omega]at key
  exact key
 ·rw[Mq0,hdll]
 ·simp
 ·intro x hx
  obtain⟨j,hj,hxj⟩:=(Fo0 _ _ _).1 hx
  obtain⟨hjl,hj'⟩:=hdl j _ hj
  obtain⟨o,ho,hrel,hpr⟩:=Gs0 hj'
  have:x.1=j:=by omega
  simp only[Nat.add_zero]
  refine⟨by rw[this];simp[Array.getD];omega,o,by rw[this];simpa using ho,hrel,by rw[this,hpr];exact fun p hp=>hp⟩
 ·intro i hi hei
  refine⟨by simp[Array.getD,hi],fun x hx=> ?_⟩
  obtain⟨j,hj,hxj⟩:=(Fo0 _ _ _).1 hx
  have:=(hdl j _ hj).1
  have hxj':x.1=j:=by omega
  rw[hxj']
  exact⟨by omega,(hmid' i hi).1 hei j this⟩
 ·intro i hi _
  rcases Nat.lt_or_ge i e with hie|hie
  ·right
   have hlt:i<((Aq0 P sm ops.toList true).take e).length:=by rw[hdll];omega
   exact⟨(i,((Aq0 P sm ops.toList true).take e)[i]),(Fo0 _ _ _).2 ⟨i,List.getElem?_eq_getElem hlt,by simp⟩,rfl⟩
  ·exact .inl hie
 ·exact(Mr0 _ _).1
 ·intro i hi
  exfalso
  by_cases hlt:i<ops.size
  ·simp[Array.getD,hlt]at hi
  ·simp[Array.getD,hlt]at hi
 ·exact Hs0 _ _ hsl
 ·simpa using h2
end
end Go.Ev
namespace Go.Ev
open Go Go.RowKit
theorem Ms1{P:Program}{base:Nat}{R:Type}{sm:Nat->Bool}{summ:Nat->Option Summ}{fns:Nat->Option IFn}{fu:Nat}(hm:P.follows .mixedOrders=true)(hsum:∀f s,summ f=some s->Ag0 P f s)(hsc:∀f s,summ f=some s->Ka0 s)(hfns:Yy1 P sm fns)(n:Nat):Dt0 P base (Vf0 P sm fns) (evFn (R:=R) summ fns fu n) :=
 Kr0 hsum hfns (Xb1 hm hsum hsc) (My1 hm hsum hsc) n
end Go.Ev
namespace Go.Ev
open Go Go.RowKit
def Ba0(look:Look):List Ty->List CV->Option (List CV)
 |[],[]=>some []
 |t::ts,c::cs=>match toPH look t c,Ba0 look ts cs with|some x,some l=>some (ofP t x::l)|_,_=>none
 |_,_=>none
theorem Si0{look:Look}:∀ {t:Ty}{c:CV}{x:t.den},toPH look t c=some x->c.isAgg=t.agg/\∀d,c≠ .tup d:=by
 intro t c x h
 cases t<;>cases c<;>simp only[toPH]at h<;>first
  |(cases h;done)
  |exact⟨rfl,fun d=>by simp⟩
  |(split at h
    ·rename_i ht;subst ht;exact⟨rfl,fun d=>by simp⟩
    ·cases h)
theorem VRep.one1{E:Env}{c:CV}{v:Value}(h:VRep E c v)(ht:∀d,c≠ .tup d):VRep1 E c v:=by
 cases c with
 |tup d=>exact absurd rfl (ht d)
 |_=>exact h
theorem VRep1.up{E:Env}{c:CV}{v:Value}(h:VRep1 E c v)(ht:∀d,c≠ .tup d):VRep E c v:=by
 cases c with
 |tup d=>exact absurd rfl (ht d)
 |_=>exact h
theorem Dg0{E E':Env}{base:Nat}{look:Look}(L:LRep E base look)(hw:E'.w=E.w)(hI:∀g,E.R g->E'.R g):∀ {ts:List Ty}{cs cs':List CV}{vs:List Value},Ba0 look ts cs=some cs'->Ch0 look cs=true->Vs E cs vs->(∀c∈cs,∀g,refH E look c g->E'.R g)->Vs E' cs' vs
 |[],[],_,vs,h,_,hv,_=>by
  simp[Ba0]at h;subst h
  cases vs<;>exact hv
 |[],_::_,_,_,h,_,_,_=>by simp[Ba0]at h
 |_::_,[],_,_,h,_,_,_=>by simp[Ba0]at h
 |t::ts,c::cs,cs',[],_,_,hv,_=>hv.elim
 |t::ts,c::cs,cs',v::vs,h,hs,hv,hr=>by
  simp only[Ba0]at h
  split at h
  ·rename_i x l hx hl
   simp at h;subst h
   simp only[Ch0,List.all_cons,Bool.and_eq_true]at hs
   refine⟨?_,Dg0 L hw hI hl hs.2 hv.2 (fun c' hc'=>hr c' (by simp[hc']))⟩
   obtain⟨ha,ht⟩:=Si0 hx
   obtain⟨cells,h1,h2⟩:=hv.1.one1 ht
   have hd:=Gf0 L (I':=E'.R) hI hx hs.1 h1 (hr c (by simp))
   rw[<-hw]at hd
   refine VRep1.up ⟨cells,Cz0 hd,?_⟩ (Ce0 (Fe0 t x))
   rw[Gc0,<-ha]
   exact h2
  ·cases h
section
variable{P:Program}{base:Nat}{E:Env}{hp:List Blk}
def Env.clean(E:Env)(rk:Nat->Loop->Prop):Env:= {E with live:=fun _=>False,lr:=fun _=>none,rok:=rk}
theorem HS.empty{rk:Nat->Loop->Prop}(H:HS base E hp):HS E.w.heap.size (E.clean rk) []:=by
 have hf:∀b,Ae0 [] b= .fresh:=fun b=>by simp[Ae0]
 refine⟨fun b=>by rw[hf];trivial,fun b b' g h=>by rw[hf]at h;exact h.elim,fun b g h=>by rw[hf]at h;exact h.elim,H.imm,fun b=> ?_,Nat.le_refl _,(fun b rec i h=>by cases h),H.jI⟩
 show False↔_
 simp[hf]
theorem HS.back{rk:Nat->Loop->Prop}(H:HS base E hp){E1:Env}{hp1:List Blk}(H1:HS E.w.heap.size E1 hp1)(hle:Env.le E.w.heap.size (E.clean rk) E1)(I2:Nat->Prop)
 (hI1:∀g,E1.I g->I2 g) (hI2:∀g,I2 g->E1.I g\/(E.w.heap.size<=g/\g<E1.w.heap.size)):E.le base {E with w:=E1.w,I:=I2}/\HS base {E with w:=E1.w,I:=I2} hp:=by
 have hheap:∀g,g<E.w.heap.size->E1.w.heap[g]? =E.w.heap[g]? :=fun g hg=>hle.bel.block g hg
 have hnew:∀g,I2 g->E.I g\/E.w.heap.size<=g:=fun g hg=>by
  rcases hI2 g hg with h|h
  ·exact hle.new g h
  ·exact .inr h.1
 have hle':E.le base {E with w:=E1.w,I:=I2} :=
  ⟨fun g hg=>hI1 g (hle.I g hg),fun g hg=>hheap g (H.imm g hg),fun _ h=>h,fun _ _=>rfl,fun _ _=>rfl,
   ⟨hle.bel.os,hle.bel.tape,hle.bel.output,hle.bel.size,fun k hk=>hheap k (Nat.lt_of_lt_of_le hk H.base)⟩,fun g hg=>(hnew g hg).elim .inl fun h=> .inr (Nat.le_trans H.base h),fun _ _=>rfl,rfl,rfl⟩
 refine⟨hle',⟨fun b=> ?_,H.inj,fun b g hg=>⟨fun hI=> ?_,(H.sep b g hg).2⟩,fun g hg=> ?_,H.live,Nat.le_trans H.base hle.bel.size,H.eok,hle'.jI H.jI⟩⟩
 ·by_cases hl:E.live b
  ·exact(H.blk b).mono hle' hl _ (fun g hg=>hheap g (H.held_lt hg))
  ·have:Ae0 hp b= .fresh:=by
    rcases Classical.em (Ae0 hp b= .fresh)with h1|h1
    ·exact h1
    ·exact absurd ((H.live b).2 h1) hl
   rw[this];trivial
 ·rcases hnew g hI with h|h
  ·exact(H.sep b g hg).1 h
  ·exact absurd (H.held_lt hg) (by omega)
 ·rcases hI2 g hg with h|h
  ·exact H1.imm g h
  ·exact h.2
end
end Go.Ev
namespace Go.Ev
open Go Go.RowKit
def Ha1(ts:List Ty)(F:List CV->Option (Bool×List CV)):Summ:=fun cs look _=>match Ba0 look ts cs with
 |none=>none
 |some cs'=>match F cs' with
  |none=>none
  |some r=>some ⟨Ch0 look cs&&r.1,Fi0 r.2,frzs look cs⟩
theorem Dp0{look look':Look}:∀ {ts:List Ty}{cs:List CV},(∀b∈cs.flatMap CV.refs,look b=look' b)->Ba0 look ts cs=Ba0 look' ts cs
 |[],[],_=>rfl
 |[],_::_,_=>rfl
 |_::_,[],_=>rfl
 |t::ts,c::cs,h=>by
  simp only[Ba0]
  rw[Cs0 (fun b hb=>h b (by simp[hb])),Dp0 (fun b hb=>h b (by rw[List.flatMap_cons];exact List.mem_append_right _ hb))]
theorem Yf0(ts:List Ty)(F:List CV->Option (Bool×List CV)):Ka0 (Ha1 ts F):=by
 intro cs look look' nid h
 unfold Ha1
 rw[Dp0 h,Cc0 h,Ds0 h]
theorem Bv0{look:Look}:∀ {ts:List Ty}{cs cs':List CV},Ba0 look ts cs=some cs'->cs'.length=cs.length/\(∀c∈cs,∀d,c≠ .tup d)/\∀c∈cs',∀d,c≠ .tup d
 |[],[],_,h=>by simp[Ba0]at h;subst h;simp
 |[],_::_,_,h=>by simp[Ba0]at h
 |_::_,[],_,h=>by simp[Ba0]at h
 |t::ts,c::cs,cs',h=>by
  simp only[Ba0]at h
  split at h
  ·rename_i x l hx hl
   simp at h;subst h
   obtain⟨h1,h2,h3⟩:=Bv0 hl
   exact⟨by simp[h1],by intro c' hc';rcases List.mem_cons.1 hc' with rfl|hc';exact(Si0 hx).2;exact h2 c' hc',by intro c' hc';rcases List.mem_cons.1 hc' with rfl|hc';exact Ce0 (Fe0 _ _);exact h3 c' hc'⟩
  ·cases h
theorem Zt0{E:Env}:∀ {l:List CV}{vs:List Value},TRep E (chain l) vs->(∀c∈l,∀d,c≠ .tup d)->Vs E l vs
 |[],vs,h,_=>by
  have:vs=[]:=h
  subst this;trivial
 |c::l,vs,⟨v,r,e,h1,h2⟩,ht=>by
  subst e
  exact⟨h1.up (ht c (by simp)),Zt0 h2 (fun c' hc'=>ht c' (by simp[hc']))⟩
theorem Zs0{E:Env}:∀ {l:List CV}{vs:List Value},Vs E l vs->(∀c∈l,∀d,c≠ .tup d)->TRep E (chain l) vs
 |[],[],_,_=>rfl
 |[],_::_,h,_=>h.elim
 |_::_,[],h,_=>h.elim
 |c::l,v::vs,⟨h1,h2⟩,ht=>⟨v,vs,rfl,h1.one1 (ht c (by simp)),Zs0 h2 (fun c' hc'=>ht c' (by simp[hc']))⟩
theorem Fv0{E:Env}{l:List CV}{v:Value}(h:VRep E (Fi0 l) v)(ht:∀c∈l,∀d,c≠ .tup d) :
 ∃vs,Vs E l vs/\∀(E':Env)(l':List CV),Vs E' l' vs->l'.length=l.length->(∀c∈l',∀d,c≠ .tup d)->VRep E' (Fi0 l') v:=by
 match l with
 |[c] =>
  refine⟨[v],⟨h,trivial⟩,fun E' l' h' hl _=> ?_⟩
  match l',hl with
  |[c'],_=>exact h'.1
 |[] =>
  obtain⟨vs,rfl,h2⟩:=h
  refine⟨vs,Zt0 h2 ht,fun E' l' h' hl ht'=> ?_⟩
  match l',hl with
  |[],_=>exact⟨vs,rfl,Zs0 h' ht'⟩
 |c::d::r=>
  obtain⟨vs,rfl,h2⟩:=h
  refine⟨vs,Zt0 (l:=c::d::r) h2 ht,fun E' l' h' hl ht'=> ?_⟩
  match l',hl with
  |_::_::_,_=>exact⟨vs,rfl,Zs0 h' ht'⟩
theorem Hp0{E:Env}:∀ {cs:List CV}{vs:List Value},Vs E cs vs->(∀c∈cs,∀d,c≠ .tup d)->∀b∈cs.flatMap CV.refs,E.live b
 |[],_,_,_,b,hb=>by simp at hb
 |c::cs,[],h,_,_,_=>h.elim
 |c::cs,v::vs,⟨h1,h2⟩,ht,b,hb=>by
  rw[List.flatMap_cons,List.mem_append]at hb
  rcases hb with hb|hb
  ·obtain⟨cells,h3,_⟩:=h1.one1 (ht c (by simp))
   exact CRep.refs c cells h3 b hb
  ·exact Hp0 h2 (fun c' hc'=>ht c' (by simp[hc'])) b hb
end Go.Ev
namespace Go.Ev
open Go Go.RowKit
variable{P:Program}
theorem Dl1{rk:Nat->Loop->Prop}{f:Nat}{ts rs:List Ty}{F:List CV->Option (Bool×List CV)}{call:Nat->List CV->List Blk->(CV->List Blk->Option (CV×List Blk))->Option (CV×List Blk)}(hcall:∀base,Dt0 P base rk call)(hrz:Nat.ble RZ f=false)(hcb:Bq0 P f=true)
 (hF:∀look cs cs' l,Ba0 look ts cs=some cs'->F cs'=some (true,l)->∃l0 hp2,call f cs' [] (fun v h=>some (v,h))=some (Fi0 l0,hp2)/\Ba0 (Ae0 hp2) rs l0=some l/\Ch0 (Ae0 hp2) l0=true):Ag0 P f (Ha1 ts F):=by
 refine⟨hcb,Yf0 ts F,?_⟩
 intro base E hp cs vs nid out H hvs hs hok _ _
 unfold Ha1 at hs
 split at hs
 ·cases hs
 ·rename_i cs' hcs'
  split at hs
  ·cases hs
  ·rename_i r hr
   simp at hs;subst hs
   obtain⟨ok,l⟩:=r
   simp only[Bool.and_eq_true]at hok
   obtain⟨hsub,rfl⟩:=hok
   obtain⟨_,ht,_⟩:=Bv0 hcs'
   obtain⟨E',hle,H',hw,_,_,_,hI⟩:=HS.frzs (Ae0 hp) (cs.flatMap CV.refs) H (fun _=> .inl rfl) (Hp0 hvs ht)
   obtain⟨l0,hp2,hev,hpl,hsl⟩:=hF _ _ _ _ hcs' hr
   have hvs0:Vs (E'.clean rk) cs' vs:=Dg0 (base:=base) (E':=(E'.clean rk)) H.blk hw hle.R hcs' hsub hvs (fun c hc g⟨b,hb,hg⟩=>hI g (.inr ⟨b,List.mem_flatMap.2 ⟨c,hc,hb⟩,hg⟩))
   have hc:=((hcall _).1 f cs' [] _ _ hrz hev (E'.clean rk) vs rfl H'.empty hvs0).2
   rw[<-hw]
   refine Calls.mono hc ?_
   rintro e w' ⟨v,c,hp1,E1,rfl,hk,rfl,hle1,H1,hv,_⟩
   simp only[Option.some.injEq,Prod.mk.injEq]at hk
   obtain⟨rfl,rfl⟩:=hk
   obtain⟨hll,ht0,htl⟩:=Bv0 hpl
   obtain⟨us,hus,hback⟩:=Fv0 hv ht0
   obtain⟨hle3,H3⟩:=H'.back H1 hle1 (fun g=>E1.I g\/∃c∈l0,refH E1 (Ae0 hp1) c g) (fun _ h=> .inl h) (fun g hg=>by
    rcases hg with h|⟨c,_,b,_,h⟩
    ·exact .inl h
    ·exact .inr ⟨(H1.sep b g h).2,H1.held_lt h⟩)
   refine⟨v,{E' with w:=E1.w,I:=fun g=>E1.I g\/∃c∈l0,refH E1 (Ae0 hp1) c g},rfl,rfl,hle.trans hle3,H3,hback _ _ ?_ hll htl⟩
   exact Dg0 (base:=E'.w.heap.size) (E:=E1) (E':= {E' with w:=E1.w,I:=fun g=>E1.I g\/∃c∈l0,refH E1 (Ae0 hp1) c g}) H1.blk rfl (fun g(h:E1.R g)=>⟨Or.inl h.1,fun hj=>h.2 (by rw[hle1.J];exact hj)⟩) hpl hsl hus (fun c hc g hg=>⟨Or.inr ⟨c,hc,hg⟩,fun hj=>by
    obtain⟨b,_,hb⟩:=hg
    exact H1.heldJ hb (by rw[hle1.J];exact hj)⟩)
section
variable{R:Type}
def De0(body:St->(Ex->St->Option R)->Option R)(nrm:St->St):Nat->St->(Ex->St->Option R)->Option R
 |0,_,_=>none
 |m+1,T,k=>body T fun ex S'=>match ex with
  | .normal=>De0 body nrm m (nrm S') k
  |e=>k e S'
theorem Vw0(body:St->(Ex->St->Option R)->Option R)(nrm:St->St):∀m S k,Hn0 body nrm m S k=De0 body nrm m (nrm S) k
 |0,_,_=>rfl
 |m+1,S,k=>by
  simp only[Hn0,De0]
  congr 1
  funext ex S'
  cases ex with
  |normal=>exact Vw0 body nrm m S' k
  |_=>rfl
inductive LT(R:Type)where
 |nil
 |node (a b:LT R)
 |orc (o:St->(Ex->St->Option R)->Option R)
variable(summ:Nat->Option Summ)(fu:Nat)(call:Nat->List CV->List Blk->(CV->List Blk->Option R)->Option R)
def Au0:LT R->IC->St->(Ex->St->Option R)->Option R
 | .nil,c,S,k=>Al0 summ fu call c S k
 | .node x y,.seq a b,S,k=>Au0 x a S fun ex S'=>match ex with| .normal=>Au0 y b S' k|e=>k e S'
 | .node x y,.cond c a b,S,k=>match c with
   | .tmp t=>match S.sl.getD t .junk with
     | .bool v=>bif v then Au0 x a (S.put (some t) (.bool true)) k else Au0 y b (S.put (some t) (.bool false)) k
     |_=>none
   | .cst (.bool v)=>bif v then Au0 x a S k else Au0 y b S k
   |_=>none
 | .node x _,.block id b,S,k=>Au0 x b S fun ex S'=>match ex with
   | .exit j=>if j=id then k .normal S' else k (.exit j) S'
   |e=>k e S'
 | .orc o,.loop live _,S,k=>o (St.norm live S) k
 | .orc o,.cut live _,S,k=>o (St.norm live S) k
 | .node x _,.cut live b,S,k=>Au0 x b (St.norm live S) k
 |_,_,_,_=>none
def LTok:LT R->IC->Prop
 | .nil,_=>True
 | .node x y,.seq a b=>LTok x a/\LTok y b
 | .node x y,.cond _ a b=>LTok x a/\LTok y b
 | .node x _,.block _ b=>LTok x b
 | .orc o,.loop live b=>∀T k r,o T k=some r->De0 (Al0 summ fu call b) (St.norm live) fu T k=some r
 | .orc o,.cut _ b=>∀T k r,o T k=some r->Al0 summ fu call b T k=some r
 | .node x _,.cut _ b=>LTok x b
 |_,_=>True
def Kle(k k':Ex->St->Option R):Prop:=∀e S r,k e S=some r->k' e S=some r
def Ik0(call call2:Nat->List CV->List Blk->(CV->List Blk->Option R)->Option R):Prop:=∀f cs hp(k k':CV->List Blk->Option R)r,(∀v h r,k v h=some r->k' v h=some r)->call f cs hp k=some r->call2 f cs hp k'=some r
theorem Om0{c:Bool}{x y:Option R}{r:R}(h:x=some r->y=some r)(hx:gd c x=some r):gd c y=some r:=by
 cases c
 ·cases hx
 ·exact h hx
variable{summ fu call}{call2:Nat->List CV->List Blk->(CV->List Blk->Option R)->Option R}
theorem Zn0(hc:Ik0 call call2)(base:Nat):∀(os:List IOper)(i:Nat)(log:List LogE)(S:St)(k k':St->Option R)(r:R),(∀S r,k S=some r->k' S=some r)->Av0 summ call false base i os log S k=some r->Av0 summ call2 false base i os log S k'=some r:=by
 intro os
 induction os with
 |nil=>
  intro i log S k k' r hk h
  unfold Av0 at h⊢
  exact hk _ _ h
 |cons o os ih=>
  intro i log S k k' r hk h
  have hrun:∀S:St,(match o.op with
   | .call f=>call f (o.args.map S.eval) S.hp fun v hp=>Av0 summ call false base (i+1) os log ({S with hp:=hp}.put o.dst v) k
   | .callv=>match o.args.map S.eval with
     | .clo f c::vs=>if Vz0 f c=true then call f (vs++unchain c) S.hp fun v hp=>Av0 summ call false base (i+1) os log ({S with hp:=hp}.put o.dst v) k else none
     | .yld b i' c::vs=>call (RZ+i') (.yld b i' c::vs) S.hp fun v hp=>Av0 summ call false base (i+1) os log ({S with hp:=hp}.put o.dst v) k
     |_=>none
   |op=>match o.args.map S.eval with
    |vals=>match S.hp.length with
     |nid=>match act summ op vals S.look nid with
      |none=>none
      |some out=>gd out.ok (Av0 summ call false base (i+1) os log (S.apply o.dst out) k))=some r->
   (match o.op with
   | .call f=>call2 f (o.args.map S.eval) S.hp fun v hp=>Av0 summ call2 false base (i+1) os log ({S with hp:=hp}.put o.dst v) k'
   | .callv=>match o.args.map S.eval with
     | .clo f c::vs=>if Vz0 f c=true then call2 f (vs++unchain c) S.hp fun v hp=>Av0 summ call2 false base (i+1) os log ({S with hp:=hp}.put o.dst v) k' else none
     | .yld b i' c::vs=>call2 (RZ+i') (.yld b i' c::vs) S.hp fun v hp=>Av0 summ call2 false base (i+1) os log ({S with hp:=hp}.put o.dst v) k'
     |_=>none
   |op=>match o.args.map S.eval with
    |vals=>match S.hp.length with
     |nid=>match act summ op vals S.look nid with
      |none=>none
      |some out=>gd out.ok (Av0 summ call2 false base (i+1) os log (S.apply o.dst out) k'))=some r:=by
   intro S h
   split at h
   ·exact hc _ _ _ _ _ _ (fun v hp r=>ih _ _ _ _ _ _ hk) h
   ·split at h
    ·rename_i hv
     split at h
     ·rename_i hcap;simp only[hcap,if_true];exact hc _ _ _ _ _ _ (fun v hp r=>ih _ _ _ _ _ _ hk) h
     ·cases h
    ·exact hc _ _ _ _ _ _ (fun v hp r=>ih _ _ _ _ _ _ hk) h
    ·cases h
   ·dsimp only at h⊢
    split at h
    ·cases h
    ·rename_i out hout
     exact Om0 (ih _ _ _ _ _ _ hk) h
  unfold Av0 at h⊢
  cases hg:o.guard with
  |none=>rw[hg]at h;exact hrun _ h
  |some g=>
   obtain⟨d,want⟩:=g
   rw[hg]at h
   simp only[]at h⊢
   split at h
   ·rename_i b hb
    cases b<;>cases want
    ·exact hrun _ h
    ·exact ih _ _ _ _ _ _ hk h
    ·exact ih _ _ _ _ _ _ hk h
    ·exact hrun _ h
   ·exact ih _ _ _ _ _ _ hk h
   ·cases h
theorem Zm0(hc:Ik0 call call2)(base:Nat):∀(os:List IOper)(i:Nat)(log:List LogE)(S:St)(k k':St->Option R)(r:R),(∀S r,k S=some r->k' S=some r)->Av0 summ call true base i os log S k=some r->Av0 summ call2 true base i os log S k'=some r:=by
 intro os
 induction os with
 |nil=>
  intro i log S k k' r hk h
  unfold Av0 at h⊢
  exact Om0 (hk _ _) h
 |cons o os ih=>
  intro i log S k k' r hk h
  have hrun:∀S:St,(match o.args.map S.eval with
   |vals=>match base+o.rank with
    |nid=>match act summ o.op vals S.look nid with
     |none=>none
     |some out=>gd (Eg0 S o.op nid out) (gd out.ok (Av0 summ call true base (i+1) os (log++[Tg0 i o o.op vals nid out]) (S.apply o.dst out) k)))=some r->
   (match o.args.map S.eval with
    |vals=>match base+o.rank with
     |nid=>match act summ o.op vals S.look nid with
      |none=>none
      |some out=>gd (Eg0 S o.op nid out) (gd out.ok (Av0 summ call2 true base (i+1) os (log++[Tg0 i o o.op vals nid out]) (S.apply o.dst out) k')))=some r:=by
   intro S h
   dsimp only at h⊢
   split at h
   ·cases h
   ·rename_i out hout
    exact Om0 (Om0 (ih _ _ _ _ _ _ hk)) h
  unfold Av0 at h⊢
  cases hg:o.guard with
  |none=>rw[hg]at h;exact hrun _ h
  |some g=>
   obtain⟨d,want⟩:=g
   rw[hg]at h
   simp only[]at h⊢
   split at h
   ·rename_i b hb
    cases b<;>cases want
    ·exact hrun _ h
    ·exact ih _ _ _ _ _ _ hk h
    ·exact ih _ _ _ _ _ _ hk h
    ·exact hrun _ h
   ·exact ih _ _ _ _ _ _ hk h
   ·cases h
theorem Iv0{body body2:St->(Ex->St->Option R)->Option R}{nrm:St->St}(hb:∀S k k' r,Kle k k'->body S k=some r->body2 S k'=some r):∀m S k k' r,Kle k k'->Hn0 body nrm m S k=some r->Hn0 body2 nrm m S k'=some r
 |0,_,_,_,_,_,h=>by cases h
 |m+1,S,k,k',r,hk,h=>by
  refine hb _ _ _ _ (fun e S' r' h'=> ?_) h
  cases e with
  |normal=>exact Iv0 hb m _ _ _ _ hk h'
  |_=>exact hk _ _ _ h'
theorem Gn1{k k':Ex->St->Option R}(hk:Kle k k'){S:St}{r:R}:∀x:Blk,(match x with| .ghost 1=>none| .ghost n=>k (exOf n) S|_=>none)=some r->(match x with| .ghost 1=>none| .ghost n=>k' (exOf n) S|_=>none)=some r
 | .ghost 0,h=>hk _ _ _ h
 | .ghost 1,h=>by cases h
 | .ghost (n+2),h=>hk _ _ _ h
 | .fresh,h=>by cases h
 | .dead,h=>by cases h
 | .mem _,h=>by cases h
 | .vec _ _ _,h=>by cases h
 | .fvec _ _ _,h=>by cases h
theorem Bf0(hc:Ik0 call call2):∀(c:IC)(S:St)(k k':Ex->St->Option R)(r:R),Kle k k'->Al0 summ fu call c S k=some r->Al0 summ fu call2 c S k'=some r
 | .skip,_,_,_,_,hk,h=>hk _ _ _ h
 | .region draw _ ops,S,_,_,_,hk,h=>by
   unfold Al0 at h⊢
   cases draw
   ·exact Zn0 hc _ _ _ _ _ _ _ _ (fun S r=>hk .normal S r) h
   ·exact Om0 (Zm0 hc _ _ _ _ _ _ _ _ (fun S r=>hk .normal S r)) h
 | .seq a b,S,_,_,_,hk,h=>by
   unfold Al0 at h⊢
   refine Bf0 hc a _ _ _ _ (fun e S' r' h'=> ?_) h
   cases e with
   |normal=>exact Bf0 hc b _ _ _ _ hk h'
   |_=>exact hk _ _ _ h'
 | .cond c a b,S,_,_,_,hk,h=>by
   unfold Al0 at h⊢
   split at h
   ·split at h
    ·rename_i x hx
     cases x
     ·exact Bf0 hc b _ _ _ _ hk h
     ·exact Bf0 hc a _ _ _ _ hk h
    ·cases h
   ·rename_i x
    cases x
    ·exact Bf0 hc b _ _ _ _ hk h
    ·exact Bf0 hc a _ _ _ _ hk h
   ·cases h
 | .block id b,S,_,_,_,hk,h=>by
   unfold Al0 at h⊢
   refine Bf0 hc b _ _ _ _ (fun e S' r' h'=> ?_) h
   cases e with
   |exit j=>
    simp only[]at h'⊢
    split at h'
    ·rename_i hj;simp only[hj,if_true];exact hk _ _ _ h'
    ·rename_i hj;simp only[hj,if_false];exact hk _ _ _ h'
   |_=>exact hk _ _ _ h'
 | .loop live b,S,_,_,_,hk,h=>by
   unfold Al0 at h⊢
   exact Iv0 (fun S k k' r=>Bf0 hc b S k k' r) _ _ _ _ _ hk h
 | .cut live b,S,_,_,_,hk,h=>by
   unfold Al0 at h⊢
   exact Bf0 hc b _ _ _ _ hk h
 | .exit _,_,_,_,_,hk,h=>hk _ _ _ h
 | .ret,_,_,_,_,hk,h=>hk _ _ _ h
 | .rangef id g lv ps a b,S,k,k',r,hk,h=>by
   unfold Al0 at h⊢
   split at h
   ·rename_i f c hclo
    split at h
    ·rename_i hcap
     simp only[hclo,hcap,if_true]
     exact hc _ _ _ _ _ _ (fun v hp r h'=>Gn1 hk _ h') h
    ·cases h
   ·cases h
theorem Rk0(hc:Ik0 call call2){ps:List Nat}{asg body:IC}:∀(cs:List CV)(hp:List Blk)(k k':CV->List Blk->Option R)(r:R),(∀v h r,k v h=some r->k' v h=some r)->To0 summ fu call ps asg body cs hp k=some r->To0 summ fu call2 ps asg body cs hp k'=some r:=by
 intro cs hp k k' r hk h
 unfold To0 at h⊢
 split at h
 ·split at h
  ·rename_i hg
   split at h
   ·rename_i hl
    simp only[hg,hl,if_true]
    refine Bf0 hc asg _ _ _ _ (fun e S r' h'=> ?_) h
    cases e with
    |normal=>
     try simp only at h'⊢
     split at h'
     ·rename_i hg1
      try simp only[hg1]
      refine Bf0 hc body _ _ _ _ (fun e S r' h'=> ?_) h'
      split at h'
      ·rename_i hg2
       try simp only[hg2]
       exact hk _ _ _ h'
      ·cases h'
     ·cases h'
    |_=>cases h'
   ·cases h
  ·cases h
 ·cases h
theorem Bl0(hc:Ik0 call call2)(hc2:Ik0 call2 call2):∀(t:LT R)(c:IC)(S:St)(k k':Ex->St->Option R)(r:R),LTok summ fu call2 t c->Kle k k'->Au0 summ fu call t c S k=some r->Al0 summ fu call2 c S k'=some r
 | .nil,c,S,k,k',r,_,hk,h=>Bf0 hc c S k k' r hk (by unfold Au0 at h;exact h)
 | .node x y,.seq a b,S,k,k',r,ht,hk,h=>by
   unfold Au0 at h;unfold Al0
   refine Bl0 hc hc2 x a _ _ _ _ ht.1 (fun e S' r' h'=> ?_) h
   cases e with
   |normal=>exact Bl0 hc hc2 y b _ _ _ _ ht.2 hk h'
   |_=>exact hk _ _ _ h'
 | .node x y,.cond c a b,S,k,k',r,ht,hk,h=>by
   unfold Au0 at h;unfold Al0
   split at h
   ·split at h
    ·rename_i v hx
     simp only[hx]
     cases v
     ·exact Bl0 hc hc2 y b _ _ _ _ ht.2 hk h
     ·exact Bl0 hc hc2 x a _ _ _ _ ht.1 hk h
    ·cases h
   ·rename_i v
    cases v
    ·exact Bl0 hc hc2 y b _ _ _ _ ht.2 hk h
    ·exact Bl0 hc hc2 x a _ _ _ _ ht.1 hk h
   ·cases h
 | .node x _,.block id b,S,k,k',r,ht,hk,h=>by
   unfold Au0 at h;unfold Al0
   refine Bl0 hc hc2 x b _ _ _ _ ht (fun e S' r' h'=> ?_) h
   cases e with
   |exit j=>
    simp only[]at h'⊢
    split at h'
    ·rename_i hj;simp only[hj,if_true];exact hk _ _ _ h'
    ·rename_i hj;simp only[hj,if_false];exact hk _ _ _ h'
   |_=>exact hk _ _ _ h'
 | .orc o,.loop live b,S,k,k',r,ht,hk,h=>by
   unfold Au0 at h;unfold Al0
   have:=ht _ _ _ h
   rw[<-Vw0]at this
   exact Iv0 (fun S k k' r=>Bf0 hc2 b S k k' r) _ _ _ _ _ hk this
 | .orc o,.cut live b,S,k,k',r,ht,hk,h=>by
   unfold Au0 at h;unfold Al0
   exact Bf0 hc2 b _ _ _ _ hk (ht _ _ _ h)
 | .node x _,.cut live b,S,k,k',r,ht,hk,h=>by
   unfold Au0 at h;unfold Al0
   exact Bl0 hc hc2 x b _ _ _ _ ht hk h
 | .node _ _,.skip,_,_,_,_,_,_,h=>by unfold Au0 at h;cases h
 | .node _ _,.region _ _ _,_,_,_,_,_,_,h=>by unfold Au0 at h;cases h
 | .node _ _,.loop _ _,_,_,_,_,_,_,h=>by unfold Au0 at h;cases h
 | .node _ _,.exit _,_,_,_,_,_,_,h=>by unfold Au0 at h;cases h
 | .node _ _,.ret,_,_,_,_,_,_,h=>by unfold Au0 at h;cases h
 | .orc _,.skip,_,_,_,_,_,_,h=>by unfold Au0 at h;cases h
 | .orc _,.region _ _ _,_,_,_,_,_,_,h=>by unfold Au0 at h;cases h
 | .orc _,.seq _ _,_,_,_,_,_,_,h=>by unfold Au0 at h;cases h
 | .orc _,.cond _ _ _,_,_,_,_,_,_,h=>by unfold Au0 at h;cases h
 | .orc _,.block _ _,_,_,_,_,_,_,h=>by unfold Au0 at h;cases h
 | .orc _,.exit _,_,_,_,_,_,_,h=>by unfold Au0 at h;cases h
 | .orc _,.ret,_,_,_,_,_,_,h=>by unfold Au0 at h;cases h
 | .node _ _,.rangef _ _ _ _ _ _,_,_,_,_,_,_,h=>by unfold Au0 at h;cases h
 | .orc _,.rangef _ _ _ _ _ _,_,_,_,_,_,_,h=>by unfold Au0 at h;cases h
variable(summ fu)in
theorem Er0(fns:Nat->Option IFn):∀n,Ik0 (evFn (R:=R) summ fns fu n) (evFn (R:=R) summ fns fu n)
 |0,_,_,_,_,_,_,_,h=>by cases h
 |n+1,f,cs,hp,k,k',r,hk,h=>by
  unfold evFn at h⊢
  split at h
  ·rename_i hz
   try simp only[hz]
   split at h
   ·rename_i fn hfn
    try simp only[hfn]
    split at h
    ·rename_i x hx
     try simp only[hx]
     exact Rk0 (Er0 fns n) _ _ _ _ _ hk h
    ·cases h
   ·cases h
  ·rename_i hz
   try simp only[hz]
   split at h
   ·cases h
   ·rename_i fn hfn
    try simp only[hfn]
    refine Bf0 (Er0 fns n) _ _ _ _ _ (fun e S r' h'=> ?_) h
    split at h'
    ·cases h'
    ·rename_i hne
     split at h'
     ·cases h'
     ·rename_i l hl
      cases e with
      |exit j=>exact absurd rfl (hne j)
      |_=>exact hk _ _ _ h'
def Ee0(summ:Nat->Option Summ)(fu:Nat)(call:Nat->List CV->List Blk->(CV->List Blk->Option R)->Option R)(t:LT R)(fn:IFn)(args:List CV)(hp:List Blk)(k:CV->List Blk->Option R):Option R:=
 Au0 summ fu call t fn.body {sl:=args++List.replicate (fn.ntmps-args.length) .junk,hp:=hp,fb:=hp.length} fun ex S=>
  match ex with
  | .exit _=>none
  |_=>match Jp0 S fn.results with
   |none=>none
   |some l=>match compact S.fb (l.flatMap CV.refs) S.hp with
    |keep=>k ((Fi0 l).ren S.fb keep) (Bz0 S.fb keep S.hp)
def ovr(o:Nat->Option (List CV->List Blk->(CV->List Blk->Option R)->Option R))(call:Nat->List CV->List Blk->(CV->List Blk->Option R)->Option R):Nat->List CV->List Blk->(CV->List Blk->Option R)->Option R:=fun f args hp k=>match o f with
 |some g=>g args hp k
 |none=>call f args hp k
def Dl0(o:Nat->Option (List CV->List Blk->(CV->List Blk->Option R)->Option R))(call:Nat->List CV->List Blk->(CV->List Blk->Option R)->Option R):Prop:=∀f g,o f=some g->∀args hp k r,g args hp k=some r->call f args hp k=some r
theorem Hi1{o:Nat->Option (List CV->List Blk->(CV->List Blk->Option R)->Option R)}(hm:Ik0 call call)(ho:Dl0 o call):Ik0 (ovr o call) call:=by
 intro f cs hp k k' r hk h
 unfold ovr at h
 split at h
 ·rename_i g hg
  exact hm f cs hp k k' r hk (ho f g hg _ _ _ _ h)
 ·exact hm f cs hp k k' r hk h
def noO:Nat->Option (List CV->List Blk->(CV->List Blk->Option R)->Option R):=fun _=>none
theorem Ah0:Dl0 noO call:=by intro f g h;cases h
theorem Zo0{fns:Nat->Option IFn}{n f:Nat}{fn:IFn}(hrz:Nat.ble RZ f=false)(hf:fns f=some fn){t:LT R}{o:Nat->Option (List CV->List Blk->(CV->List Blk->Option R)->Option R)}(ho:Dl0 o (evFn summ fns fu n))(ht:LTok summ fu (evFn summ fns fu n) t fn.body){args:List CV}{hp:List Blk}{k:CV->List Blk->Option R}{r:R}
 (h:Ee0 summ fu (ovr o (evFn summ fns fu n)) t fn args hp k=some r):evFn summ fns fu (n+1) f args hp k=some r:=by
 unfold evFn
 simp only[hrz,hf]
 exact Bl0 (Hi1 (Er0 summ fu fns n) ho) (Er0 summ fu fns n) t _ _ _ _ _ ht (fun _ _ _ h=>h) h
def Mv2(summ:Nat->Option Summ)(fu:Nat)(call:Nat->List CV->List Blk->(CV->List Blk->Option R)->Option R)(t:LT R)(ps:List Nat)(asg body:IC):List CV->List Blk->(CV->List Blk->Option R)->Option R
 | .yld b _ c::vs,hp,k=>match hp.getD b .fresh with
   | .ghost 0=>if vs.length=ps.length then Al0 summ fu call asg {sl:=Ra0 ps vs (unchain c),hp:=hp,fb:=hp.length} fun ex S=>match ex with
    | .normal=>match S.hp.getD b .fresh with
      | .ghost 0=>Au0 summ fu call t body {S with hp:=setH S.hp b (.ghost 1)} fun ex S=>match S.hp.getD b .fresh with
        | .ghost 1=>match setH S.hp b (.ghost (exN ex))with
          |hp'=>match compact S.fb [] hp' with
           |keep=>k (.bool (exN ex==0)) (Bz0 S.fb keep hp')
        |_=>none
      |_=>none
    |_=>none else none
   |_=>none
 |_,_,_=>none
def rndO(fn:IFn):List Nat×IC×IC:=match Eu0 fn.body with|some x=>x|none=>([],.skip,.skip)
theorem Zr0{fns:Nat->Option IFn}{n:Nat}{b:IC}{t:LT R}{o:Nat->Option (List CV->List Blk->(CV->List Blk->Option R)->Option R)}(ho:Dl0 o (evFn summ fns fu n))(ht:LTok summ fu (evFn summ fns fu n) t b){T:St}{k:Ex->St->Option R}{r:R}
 (h:Au0 summ fu (ovr o (evFn summ fns fu n)) t b T k=some r):Al0 summ fu (evFn summ fns fu n) b T k=some r:=
 Bl0 (Hi1 (Er0 summ fu fns n) ho) (Er0 summ fu fns n) t _ _ _ _ _ ht (fun _ _ _ h=>h) h
end
end Go.Ev
namespace Go.Ev
open Go Go.RowKit
theorem Ft2{P:Program}{rk:Nat->Loop->Prop}{f:Nat}{call:Nat->List CV->List Blk->(CV->List Blk->Option Bool)->Option Bool}(hcall:∀base,Dt0 P base rk call)(hrz:Nat.ble RZ f=false){cs:List CV}{b:Bool}(hev:call f cs [] (fun v _=>match v with| .bool b=>some b|_=>none)=some b)
 {w:World} {I:Nat->Prop} (himm:∀g,I g->g<w.heap.size) {vs:List Value} (hvs:Vs {w:=w,I:=I,μ:=fun _=>0,σ:=fun _=>undef,live:=fun _=>False,rok:=rk} cs vs) :
 Calls P f vs.toArray w fun e w'=>e= .returned (.bool b)/\Below w.heap.size w w':=by
 have hf:∀b,Ae0 [] b= .fresh:=fun b=>by simp[Ae0]
 have H:HS w.heap.size {w:=w,I:=I,μ:=fun _=>0,σ:=fun _=>undef,live:=fun _=>False,rok:=rk} []:=by
  refine⟨fun b=>by rw[hf];trivial,fun b b' g h=>by rw[hf]at h;exact h.elim,fun b g h=>by rw[hf]at h;exact h.elim,himm,fun b=> ?_,Nat.le_refl _,(fun b rec i h=>by cases h),fun _ h=>h.elim⟩
  show False↔_
  simp[hf]
 refine Calls.mono (((hcall _).1 f cs [] _ _ hrz hev _ vs rfl H hvs).2) ?_
 rintro e w' ⟨v,c,hp1,E1,rfl,hk,rfl,hle1,_,hv,_⟩
 dsimp only at hk
 split at hk
 ·simp at hk;subst hk
  exact⟨by rw[By0.1 hv],hle1.bel⟩
 ·cases hk
@[reducible] def HDen:List Ty->Type
 |[]=>Unit
 |t::ts=>t.den×HDen ts
def ofH:(ts:List Ty)->HDen ts->List CV
 |[],_=>[]
 |t::ts,x=>ofP t x.1::ofH ts x.2
def toH:(ts:List Ty)->List CV->Option (HDen ts)
 |[],[]=>some ()
 |t::ts,c::cs=>match toPH Lb0 t c,toH ts cs with|some x,some l=>some (x,l)|_,_=>none
 |_,_=>none
theorem Lj1(look:Look):∀(t:Ty)(x:t.den),toPH look t (ofP t x)=some x:=by
 intro t x
 cases t<;>simp[toPH,ofP]
theorem Gg0:∀(ts:List Ty)(x:HDen ts),toH ts (ofH ts x)=some x
 |[],_=>rfl
 |t::ts,x=>by simp[toH,ofH,Lj1,Gg0 ts x.2]
theorem Dh0{look:Look}:∀ {ts:List Ty}{cs cs':List CV},Ba0 look ts cs=some cs'->∃x,cs'=ofH ts x
 |[],[],_,h=>⟨(),by simp[Ba0]at h;simp[ofH,h]⟩
 |[],_::_,_,h=>by simp[Ba0]at h
 |_::_,[],_,h=>by simp[Ba0]at h
 |t::ts,c::cs,cs',h=>by
  simp only[Ba0]at h
  split at h
  ·rename_i x l hx hl
   simp at h;subst h
   obtain⟨y,rfl⟩:=Dh0 hl
   exact⟨(x,y),rfl⟩
  ·cases h
def fS(ts rs:List Ty)(pre:HDen ts->Bool)(fn:HDen ts->HDen rs):Summ:=Ha1 ts fun cs=>match toH ts cs with
 |some x=>some (pre x,ofH rs (fn x))
 |none=>none
def Rets(rs:List Ty)(r:Option (CV×List Blk))(y:HDen rs):Prop:=∃l0 hp2,r=some (Fi0 l0,hp2)/\Ba0 (Ae0 hp2) rs l0=some (ofH rs y)/\Ch0 (Ae0 hp2) l0=true
theorem Uw1{rk:Nat->Loop->Prop}{P:Program}{f:Nat}{ts rs:List Ty}{pre:HDen ts->Bool}{fn:HDen ts->HDen rs}{call:Nat->List CV->List Blk->(CV->List Blk->Option (CV×List Blk))->Option (CV×List Blk)}(hcall:∀base,Dt0 P base rk call)(hrz:Nat.ble RZ f=false)(hcb:Bq0 P f=true)
 (h:∀x,pre x=true->Rets rs (call f (ofH ts x) [] fun v h=>some (v,h)) (fn x)):Ag0 P f (fS ts rs pre fn):=by
 refine Dl1 (rs:=rs) hcall hrz hcb ?_
 intro look cs cs' l hcs hF
 obtain⟨x,rfl⟩:=Dh0 hcs
 rw[Gg0]at hF
 simp only[Option.some.injEq,Prod.mk.injEq]at hF
 obtain⟨hp,rfl⟩:=hF
 exact h x hp
theorem Rets.of{rs:List Ty}{r:Option (CV×List Blk)}{y:HDen rs}{l0:List CV}{hp2:List Blk}(h:r=some (Fi0 l0,hp2))(h1:Ba0 (Ae0 hp2) rs l0=some (ofH rs y))(h2:Ch0 (Ae0 hp2) l0=true):Rets rs r y:=⟨l0,hp2,h,h1,h2⟩
def evLB{R:Type}(body:St->(Ex->St->Option R)->Option R)(nrm:St->St)(T:St)(K0:St->Option R)(K1:Ex->St->Option R):Option R:=body T fun ex S=>match ex with| .normal=>K0 (nrm S)|e=>K1 e S
theorem Lf0{R:Type}(body:St->(Ex->St->Option R)->Option R)(nrm:St->St)(m:Nat)(T:St)(k:Ex->St->Option R):De0 body nrm (m+1) T k=evLB body nrm T (fun S=>De0 body nrm m S k) k:=by
 rw[De0,evLB]
 all_goals congr 1
theorem Iu0{R:Type}{c:Bool}{x:Option R}{r:R}(h:gd c x=some r):c=true/\x=some r:=by
 cases c
 ·cases h
 ·exact⟨rfl,h⟩
def fndB(p:Nat->Bool):Nat->Nat->Bool
 |_,0=>false
 |j,d+1=>p j||fndB p (j+1) d
def fstB(p:Nat->Bool):Nat->Nat->Nat
 |j,0=>j
 |j,d+1=>bif p j then j else fstB p (j+1) d
section
variable{R:Type}{body:St->(Ex->St->Option R)->Option R}{nrm:St->St}
def Ml2{α:Type}(step:Nat->α->α):Nat->Nat->α->α
 |_,0,a=>a
 |j,d+1,a=>Ml2 step (j+1) d (step j a)
end
def only{R:Type}(f:Nat)(g:List CV->List Blk->(CV->List Blk->Option R)->Option R):Nat->Option (List CV->List Blk->(CV->List Blk->Option R)->Option R):=fun f'=>bif f'==f then some g else none
theorem Ya0{n b:Nat}(h:n*b<=140737488355328)(h2:n<=140737488355328):room n b=true:=by simp[room,h,h2]
theorem Or0{R:Type}{summ:Nat->Option Summ}{fu:Nat}{fns:Nat->Option IFn}{n:Nat}{b:IC}{t:LT R}{o:Nat->Option (List CV->List Blk->(CV->List Blk->Option R)->Option R)}(ho:Dl0 o (evFn summ fns fu n))(ht:LTok summ fu (evFn summ fns fu n) t b){nrm:St->St} :
 ∀m T k r,De0 (Au0 summ fu (ovr o (evFn summ fns fu n)) t b) nrm m T k=some r->De0 (Al0 summ fu (evFn summ fns fu n) b) nrm m T k=some r
 |0,_,_,_,h=>by cases h
 |m+1,T,k,r,h=>by
  rw[De0]at h⊢
  refine Bl0 (Hi1 (Er0 summ fu fns n) ho) (Er0 summ fu fns n) t b T _ _ r ht (fun e S r' h'=> ?_) h
  cases e with
  |normal=>exact Or0 ho ht m _ k r' h'
  |_=>exact h'
def CV.isJunk:CV->Bool| .junk=>true|_=>false
def fill(n:Nat)(asg:List (Nat×CV)):List CV:=(List.range n).map fun i=>(asg.lookup i).getD .junk
def Xz0(T:St)(n:Nat)(live:List Nat)(fb:Nat):Bool:=T.sl.length==n&&(T.fb==fb&&(List.range n).all fun i=>live.contains i||(T.sl.getD i .junk).isJunk)
def Ng1(sl:List CV):List (Nat×CV)->Prop
 |[]=>True
 |p::r=>sl.getD p.1 .junk=p.2/\Ng1 sl r
theorem Wb0{sl:List CV}:∀ {asg:List (Nat×CV)}{i:Nat}{c:CV},Ng1 sl asg->asg.lookup i=some c->sl.getD i .junk=c
 |[],_,_,_,h=>by simp at h
 |p::r,i,c,⟨h1,h2⟩,h=>by
  rw[List.lookup_cons]at h
  split at h
  ·rename_i he
   simp at h;subst h
   rw[beq_iff_eq.1 he];exact h1
  ·exact Wb0 h2 h
theorem Zc0{asg:List (Nat×CV)}{i:Nat}(h:asg.lookup i=none):(asg.map (·.1)).contains i=false:=by
 induction asg with
 |nil=>rfl
 |cons p r ih=>
  rw[List.lookup_cons]at h
  split at h
  ·cases h
  ·rename_i he
   rw[List.map_cons,List.contains_cons,ih h,he];rfl
theorem Ie2{T:St}{n fb:Nat}{asg:List (Nat×CV)}{hp:List Blk}(hs:Xz0 T n (asg.map (·.1)) fb=true)(ha:Ng1 T.sl asg)(hh:T.hp=hp):T=⟨fill n asg,hp,fb⟩:=by
 unfold Xz0 at hs
 simp only[Bool.and_eq_true,beq_iff_eq]at hs
 obtain⟨h1,h2,h3⟩:=hs
 obtain⟨sl,hp',fb'⟩:=T
 simp only at h1 h2 h3 ha hh
 subst h2 hh
 congr 1
 refine List.ext_getElem (by simp[fill,h1]) fun i hi hi2=> ?_
 have hin:i<n:=by omega
 have hg:sl.getD i .junk=sl[i]:=by simp[List.getD,hi]
 simp only[fill,List.getElem_map,List.getElem_range]
 cases hl:asg.lookup i with
 |some c=>rw[<-hg,Wb0 ha hl];rfl
 |none=>
  have:=List.all_eq_true.1 h3 i (by simpa using hin)
  rw[Zc0 hl,Bool.false_or,hg]at this
  cases hc:sl[i]<;>rw[hc]at this<;>first|rfl|cases this
end Go.Ev
namespace Go.Ev
open Go Go.RowKit
def FU:Nat:=4611686018427387904
abbrev Zz0(R:Type):=Nat->List CV->List Blk->(CV->List Blk->Option R)->Option R
section
variable(summ:Nat->Option Summ)(fu:Nat)
def NatC(c:∀R,Zz0 R):Prop:=∀R f cs hp(k:CV->List Blk->Option R)r,c R f cs hp k=some r->∃v h,k v h=some r/\∀R'(k':CV->List Blk->Option R')r',k' v h=some r'->c R' f cs hp k'=some r'
def NatS(α:Type)(c:∀R,(α->Option R)->Option R):Prop:=∀R(k:α->Option R)r,c R k=some r->∃x,k x=some r/\∀R'(k':α->Option R')r',k' x=some r'->c R' k'=some r'
def NatE(c:∀R,(Ex->St->Option R)->Option R):Prop:=∀R(k:Ex->St->Option R)r,c R k=some r->∃e S,k e S=some r/\∀R'(k':Ex->St->Option R')r',k' e S=some r'->c R' k'=some r'
variable{summ fu}{c:∀R,Zz0 R}
theorem Ev1(hc:NatC c)(base:Nat):∀(os:List IOper)(i:Nat)(log:List LogE)(S:St),NatS St fun R k=>Av0 summ (c R) false base i os log S k:=by
 intro os
 induction os with
 |nil=>
  intro i log S R k r h
  unfold Av0 at h
  exact⟨S,h,fun R' k' r' h'=>by unfold Av0;exact h'⟩
 |cons o os ih=>
  intro i log S R k r h
  have hrun:∀S:St,NatS St fun R k=>(match o.op with
   | .call f=>c R f (o.args.map S.eval) S.hp fun v hp=>Av0 summ (c R) false base (i+1) os log ({S with hp:=hp}.put o.dst v) k
   | .callv=>match o.args.map S.eval with
     | .clo f cc::vs=>if Vz0 f cc=true then c R f (vs++unchain cc) S.hp fun v hp=>Av0 summ (c R) false base (i+1) os log ({S with hp:=hp}.put o.dst v) k else none
     | .yld b i' cc::vs=>c R (RZ+i') (.yld b i' cc::vs) S.hp fun v hp=>Av0 summ (c R) false base (i+1) os log ({S with hp:=hp}.put o.dst v) k
     |_=>none
   |op=>match o.args.map S.eval with
    |vals=>match S.hp.length with
     |nid=>match act summ op vals S.look nid with
      |none=>none
      |some out=>gd out.ok (Av0 summ (c R) false base (i+1) os log (S.apply o.dst out) k)):=by
   intro S R k r h
   split at h
   ·obtain⟨v,hp,h1,h2⟩:=hc _ _ _ _ _ _ h
    obtain⟨x,h3,h4⟩:=ih _ _ _ _ _ _ h1
    exact⟨x,h3,fun R' k' r' h'=>h2 _ _ _ (h4 _ _ _ h')⟩
   ·split at h
    ·split at h
     ·obtain⟨v,hp,h1,h2⟩:=hc _ _ _ _ _ _ h
      obtain⟨x,h3,h4⟩:=ih _ _ _ _ _ _ h1
      rename_i hcap
      exact⟨x,h3,fun R' k' r' h'=>by simp only[hcap,if_true];exact h2 _ _ _ (h4 _ _ _ h')⟩
     ·cases h
    ·obtain⟨v,hp,h1,h2⟩:=hc _ _ _ _ _ _ h
     obtain⟨x,h3,h4⟩:=ih _ _ _ _ _ _ h1
     exact⟨x,h3,fun R' k' r' h'=>h2 _ _ _ (h4 _ _ _ h')⟩
    ·cases h
   ·dsimp only at h
    split at h
    ·cases h
    ·rename_i out hout
     obtain⟨h1,h2⟩:=Iu0 h
     obtain⟨x,h3,h4⟩:=ih _ _ _ _ _ _ h2
     exact⟨x,h3,fun R' k' r' h'=>by
      have:=h4 _ _ _ h'
      dsimp only at this⊢
      simp only[hout,h1,this];rfl⟩
  unfold Av0 at h
  cases hg:o.guard with
  |none=>
   rw[hg]at h
   obtain⟨x,h1,h2⟩:=hrun _ _ _ _ h
   exact⟨x,h1,fun R' k' r' h'=>by unfold Av0;rw[hg];exact h2 _ _ _ h'⟩
  |some g=>
   obtain⟨d,want⟩:=g
   rw[hg]at h
   simp only[]at h
   split at h
   ·rename_i b hb
    cases b<;>cases want
    ·obtain⟨x,h1,h2⟩:=hrun _ _ _ _ h
     exact⟨x,h1,fun R' k' r' h'=>by unfold Av0;simp only[hg,hb];exact h2 _ _ _ h'⟩
    ·obtain⟨x,h1,h2⟩:=ih _ _ _ _ _ _ h
     exact⟨x,h1,fun R' k' r' h'=>by unfold Av0;simp only[hg,hb];exact h2 _ _ _ h'⟩
    ·obtain⟨x,h1,h2⟩:=ih _ _ _ _ _ _ h
     exact⟨x,h1,fun R' k' r' h'=>by unfold Av0;simp only[hg,hb];exact h2 _ _ _ h'⟩
    ·obtain⟨x,h1,h2⟩:=hrun _ _ _ _ h
     exact⟨x,h1,fun R' k' r' h'=>by unfold Av0;simp only[hg,hb];exact h2 _ _ _ h'⟩
   ·rename_i hb
    obtain⟨x,h1,h2⟩:=ih _ _ _ _ _ _ h
    exact⟨x,h1,fun R' k' r' h'=>by unfold Av0;simp only[hg,hb];exact h2 _ _ _ h'⟩
   ·cases h
theorem Eu1(base:Nat):∀(os:List IOper)(i:Nat)(log:List LogE)(S:St),NatS St fun R k=>Av0 summ (c R) true base i os log S k:=by
 intro os
 induction os with
 |nil=>
  intro i log S R k r h
  unfold Av0 at h
  obtain⟨h1,h2⟩:=Iu0 h
  exact⟨S,h2,fun R' k' r' h'=>by unfold Av0;rw[h1];exact h'⟩
 |cons o os ih=>
  intro i log S R k r h
  have hrun:∀S:St,NatS St fun R k=>(match o.args.map S.eval with
   |vals=>match base+o.rank with
    |nid=>match act summ o.op vals S.look nid with
     |none=>none
     |some out=>gd (Eg0 S o.op nid out) (gd out.ok (Av0 summ (c R) true base (i+1) os (log++[Tg0 i o o.op vals nid out]) (S.apply o.dst out) k))):=by
   intro S R k r h
   dsimp only at h
   split at h
   ·cases h
   ·rename_i out hout
    obtain⟨h0,h⟩:=Iu0 h
    obtain⟨h1,h2⟩:=Iu0 h
    obtain⟨x,h3,h4⟩:=ih _ _ _ _ _ _ h2
    exact⟨x,h3,fun R' k' r' h'=>by
     have:=h4 _ _ _ h'
     dsimp only at this⊢
     simp only[hout,h0,h1,this];rfl⟩
  unfold Av0 at h
  cases hg:o.guard with
  |none=>
   rw[hg]at h
   obtain⟨x,h1,h2⟩:=hrun _ _ _ _ h
   exact⟨x,h1,fun R' k' r' h'=>by unfold Av0;rw[hg];exact h2 _ _ _ h'⟩
  |some g=>
   obtain⟨d,want⟩:=g
   rw[hg]at h
   simp only[]at h
   split at h
   ·rename_i b hb
    cases b<;>cases want
    ·obtain⟨x,h1,h2⟩:=hrun _ _ _ _ h
     exact⟨x,h1,fun R' k' r' h'=>by unfold Av0;simp only[hg,hb];exact h2 _ _ _ h'⟩
    ·obtain⟨x,h1,h2⟩:=ih _ _ _ _ _ _ h
     exact⟨x,h1,fun R' k' r' h'=>by unfold Av0;simp only[hg,hb];exact h2 _ _ _ h'⟩
    ·obtain⟨x,h1,h2⟩:=ih _ _ _ _ _ _ h
     exact⟨x,h1,fun R' k' r' h'=>by unfold Av0;simp only[hg,hb];exact h2 _ _ _ h'⟩
    ·obtain⟨x,h1,h2⟩:=hrun _ _ _ _ h
     exact⟨x,h1,fun R' k' r' h'=>by unfold Av0;simp only[hg,hb];exact h2 _ _ _ h'⟩
   ·rename_i hb
    obtain⟨x,h1,h2⟩:=ih _ _ _ _ _ _ h
    exact⟨x,h1,fun R' k' r' h'=>by unfold Av0;simp only[hg,hb];exact h2 _ _ _ h'⟩
   ·cases h
theorem Rm0{body:∀R,St->(Ex->St->Option R)->Option R}{nrm:St->St}(hb:∀S,NatE fun R k=>body R S k):∀m S,NatE fun R k=>Hn0 (body R) nrm m S k
 |0,_,_,_,_,h=>by cases h
 |m+1,S,R,k,r,h=>by
  obtain⟨e,S',h1,h2⟩:=hb _ _ _ _ h
  cases e with
  |normal=>
   obtain⟨e,S',h3,h4⟩:=Rm0 hb m _ _ _ _ h1
   exact⟨e,S',h3,fun R' k' r' h'=>h2 _ _ _ (h4 _ _ _ h')⟩
  |_=>exact⟨_,S',h1,fun R' k' r' h'=>h2 _ _ _ h'⟩
theorem Ly1{R:Type}{k:Ex->St->Option R}{S:St}{r:R}:∀x:Blk,(match x with| .ghost 1=>none| .ghost n=>k (exOf n) S|_=>none)=some r->∃e,k e S=some r/\∀R'(k':Ex->St->Option R')r',k' e S=some r'->(match x with| .ghost 1=>none| .ghost n=>k' (exOf n) S|_=>none)=some r'
 | .ghost 0,h=>⟨_,h,fun _ _ _ h'=>h'⟩
 | .ghost 1,h=>by cases h
 | .ghost (n+2),h=>⟨_,h,fun _ _ _ h'=>h'⟩
 | .fresh,h=>by cases h
 | .dead,h=>by cases h
 | .mem _,h=>by cases h
 | .vec _ _ _,h=>by cases h
 | .fvec _ _ _,h=>by cases h
theorem Ca0(hc:NatC c):∀(cd:IC)(S:St),NatE fun R k=>Al0 summ fu (c R) cd S k
 | .skip,S,R,k,r,h=>⟨_,_,h,fun _ _ _ h'=>h'⟩
 | .region draw nn ops,S,R,k,r,h=>by
   unfold Al0 at h
   cases draw
   ·obtain⟨x,h1,h2⟩:=Ev1 hc _ _ _ _ _ _ _ _ h
    exact⟨_,x,h1,fun R' k' r' h'=>by unfold Al0;exact h2 _ _ _ h'⟩
   ·dsimp only at h
    obtain⟨h0,h⟩:=Iu0 h
    obtain⟨x,h1,h2⟩:=Eu1 _ _ _ _ _ _ _ _ h
    exact⟨_,x,h1,fun R' k' r' h'=>by unfold Al0;dsimp only;rw[h0];exact h2 _ _ _ h'⟩
 | .seq a b,S,R,k,r,h=>by
   unfold Al0 at h
   obtain⟨e,S',h1,h2⟩:=Ca0 hc a _ _ _ _ h
   cases e with
   |normal=>
    obtain⟨e,S',h3,h4⟩:=Ca0 hc b _ _ _ _ h1
    exact⟨e,S',h3,fun R' k' r' h'=>by unfold Al0;exact h2 _ _ _ (h4 _ _ _ h')⟩
   |_=>exact⟨_,S',h1,fun R' k' r' h'=>by unfold Al0;exact h2 _ _ _ h'⟩
 | .cond cc a b,S,R,k,r,h=>by
   unfold Al0 at h
   split at h
   ·split at h
    ·rename_i x hx
     cases x
     ·obtain⟨e,S',h3,h4⟩:=Ca0 hc b _ _ _ _ h
      exact⟨e,S',h3,fun R' k' r' h'=>by unfold Al0;simp only[hx];exact h4 _ _ _ h'⟩
     ·obtain⟨e,S',h3,h4⟩:=Ca0 hc a _ _ _ _ h
      exact⟨e,S',h3,fun R' k' r' h'=>by unfold Al0;simp only[hx];exact h4 _ _ _ h'⟩
    ·cases h
   ·rename_i x
    cases x
    ·obtain⟨e,S',h3,h4⟩:=Ca0 hc b _ _ _ _ h
     exact⟨e,S',h3,fun R' k' r' h'=>by unfold Al0;exact h4 _ _ _ h'⟩
    ·obtain⟨e,S',h3,h4⟩:=Ca0 hc a _ _ _ _ h
     exact⟨e,S',h3,fun R' k' r' h'=>by unfold Al0;exact h4 _ _ _ h'⟩
   ·cases h
 | .block id b,S,R,k,r,h=>by
   unfold Al0 at h
   obtain⟨e,S',h1,h2⟩:=Ca0 hc b _ _ _ _ h
   cases e with
   |exit j=>
    simp only[]at h1
    by_cases hj:j=id
    ·rw[if_pos hj]at h1
     exact⟨_,S',h1,fun R' k' r' h'=>by unfold Al0;exact h2 _ _ _ (by simp only[hj,if_true];exact h')⟩
    ·rw[if_neg hj]at h1
     exact⟨_,S',h1,fun R' k' r' h'=>by unfold Al0;exact h2 _ _ _ (by simp only[hj,if_false];exact h')⟩
   |_=>exact⟨_,S',h1,fun R' k' r' h'=>by unfold Al0;exact h2 _ _ _ h'⟩
 | .loop live b,S,R,k,r,h=>by
   unfold Al0 at h
   obtain⟨e,S',h1,h2⟩:=Rm0 (fun S=>Ca0 hc b S) _ _ _ _ _ h
   exact⟨e,S',h1,fun R' k' r' h'=>by unfold Al0;exact h2 _ _ _ h'⟩
 | .cut live b,S,R,k,r,h=>by
   unfold Al0 at h
   obtain⟨e,S',h1,h2⟩:=Ca0 hc b _ _ _ _ h
   exact⟨e,S',h1,fun R' k' r' h'=>by unfold Al0;exact h2 _ _ _ h'⟩
 | .exit _,S,R,k,r,h=>⟨_,_,h,fun _ _ _ h'=>h'⟩
 | .ret,S,R,k,r,h=>⟨_,_,h,fun _ _ _ h'=>h'⟩
 | .rangef id g lv ps a b,S,R,k,r,h=>by
   unfold Al0 at h
   split at h
   ·rename_i f cc hclo
    split at h
    ·rename_i hcap
     obtain⟨v,hp,h1,h2⟩:=hc _ _ _ _ _ _ h
     obtain⟨e,h3,h4⟩:=Ly1 _ h1
     exact⟨e,_,h3,fun R' k' r' h'=>by unfold Al0;simp only[hclo,hcap,if_true];exact h2 _ _ _ (h4 _ _ _ h')⟩
    ·cases h
   ·cases h
theorem Jj1(hc:NatC c){ps:List Nat}{asg body:IC}(cs:List CV)(hp:List Blk):∀(R:Type)(k:CV->List Blk->Option R)r,To0 summ fu (c R) ps asg body cs hp k=some r->∃v h,k v h=some r/\∀R'(k':CV->List Blk->Option R')r',k' v h=some r'->To0 summ fu (c R') ps asg body cs hp k'=some r':=by
 intro R k r h
 unfold To0 at h
 split at h
 ·split at h
  ·rename_i hg
   split at h
   ·rename_i hl
    obtain⟨e,S1,h1,h2⟩:=Ca0 hc asg _ _ _ _ h
    cases e with
    |normal=>
     simp only at h1
     split at h1
     ·rename_i hg1
      obtain⟨e2,S2,h3,h4⟩:=Ca0 hc body _ _ _ _ h1
      split at h3
      ·rename_i hg2
       refine⟨_,_,h3,fun R' k' r' h'=> ?_⟩
       unfold To0
       simp only[hg,hl,if_true]
       apply h2
       simp only[hg1]
       apply h4
       simp only[hg2]
       exact h'
      ·cases h3
     ·cases h1
    |exit j=>cases h1
    |ret=>cases h1
   ·cases h
  ·cases h
 ·cases h
variable(summ fu)in
theorem Go0(fns:Nat->Option IFn):∀n,NatC fun R=>evFn (R:=R) summ fns fu n
 |0,_,_,_,_,_,_,h=>by cases h
 |n+1,R,f,cs,hp,k,r,h=>by
  dsimp only at h
  unfold evFn at h
  split at h
  ·rename_i hz
   split at h
   ·rename_i fn hfn
    split at h
    ·rename_i x hx
     obtain⟨v,hh,h1,h2⟩:=Jj1 (summ:=summ) (fu:=fu) (Go0 fns n) _ _ _ _ _ h
     exact⟨v,hh,h1,fun R' k' r' h'=>by dsimp only;unfold evFn;simp only[hz,hfn,hx];exact h2 _ _ _ h'⟩
    ·cases h
   ·cases h
  ·rename_i hz
   split at h
   ·cases h
   ·rename_i fn hfn
    obtain⟨e,S,h1,h2⟩:=Ca0 (summ:=summ) (fu:=fu) (Go0 fns n) _ _ _ _ _ h
    have key:∀(hne:∀j,e≠ .exit j),(match Jp0 S fn.results with
     |none=>none
     |some l=>match compact S.fb (l.flatMap CV.refs) S.hp with
      |keep=>k ((Fi0 l).ren S.fb keep) (Bz0 S.fb keep S.hp))=some r->∃v h,k v h=some r/\∀R'(k':CV->List Blk->Option R')r',k' v h=some r'->evFn summ fns fu (n+1) f cs hp k'=some r':=by
     intro hne h1
     cases hl:Jp0 S fn.results with
     |none=>rw[hl]at h1;cases h1
     |some l=>
      rw[hl]at h1
      refine⟨_,_,h1,fun R' k' r' h'=> ?_⟩
      unfold evFn
      simp only[hz,hfn]
      apply h2
      cases e with
      |exit j=>exact absurd rfl (hne j)
      |_=>simp only[hl];exact h'
    cases e with
    |exit j=>cases h1
    |normal=>exact key (fun j=>by simp) h1
    |ret=>exact key (fun j=>by simp) h1
end
theorem Tp0{R:Type}{summ:Nat->Option Summ}{fns:Nat->Option IFn}{fu:Nat}:∀n,Ik0 (evFn (R:=R) summ fns fu n) (evFn (R:=R) summ fns fu (n+1))
 |0,_,_,_,_,_,_,_,h=>by cases h
 |n+1,f,cs,hp,k,k',r,hk,h=>by
  rw[evFn]at h⊢
  split at h
  ·rename_i hz
   split at h
   ·rename_i fn hfn
    split at h
    ·rename_i x hx
     try simp only[hz,hfn,hx]
     exact Rk0 (Tp0 n) _ _ _ _ _ hk h
    ·cases h
   ·cases h
  ·rename_i hz
   split at h
   ·cases h
   ·rename_i fn hfn
    try simp only[hz,hfn]
    refine Bf0 (Tp0 n) _ _ _ _ _ (fun e S r' h'=> ?_) h
    split at h'
    ·cases h'
    ·rename_i hne
     split at h'
     ·cases h'
     ·rename_i l hl
      cases e with
      |exit j=>exact absurd rfl (hne j)
      |_=>exact hk _ _ _ h'
theorem Bk0{R:Type}{summ:Nat->Option Summ}{fns:Nat->Option IFn}{fu:Nat}{f:Nat}{cs:List CV}{hp:List Blk}{k:CV->List Blk->Option R}{r:R}{n:Nat}:∀d,evFn summ fns fu n f cs hp k=some r->evFn summ fns fu (n+d) f cs hp k=some r
 |0,h=>h
 |d+1,h=>Tp0 _ _ _ _ _ _ _ (fun _ _ _ h=>h) (Bk0 d h)
theorem Bm0{a b:Nat}(h:¬a=b):Nat.beq a b=false:=by
 cases hb:Nat.beq a b
 ·rfl
 ·exact absurd (Nat.eq_of_beq_eq_true hb) h
def evJ{R:Type}(body:St->(Ex->St->Option R)->Option R)(T:St)(k:Ex->St->Option R):Option R:=body T k
def unch:Nat->CV->Option (List CV)
 |0,.pure .unit _=>some []
 |n+1,.pair a b=>match unch n b with|some l=>some (a::l)|none=>none
 |_,_=>none
def Lg1(n:Nat)(v:CV):Option (List CV):=if n=1 then some [v]else match v with| .tup c=>unch n c|_=>none
theorem Qu0:∀ {n:Nat}{c:CV}{l:List CV},unch n c=some l->chain l=c/\l.length=n
 |0,c,l,h=>by
  unfold unch at h
  split at h
  ·simp at h;subst h;exact⟨rfl,rfl⟩
  ·rename_i he;cases he
  ·cases h
 |n+1,c,l,h=>by
  cases c with
  |pair a b=>
   simp only[unch]at h
   split at h
   ·rename_i l' hl
    simp at h;subst h
    obtain⟨h1,h2⟩:=Qu0 hl
    exact⟨by simp[chain,h1],by simp[h2]⟩
   ·cases h
  |_=>simp[unch]at h
theorem Ur0{n:Nat}{v:CV}{l:List CV}(h:Lg1 n v=some l):Fi0 l=v:=by
 unfold Lg1 at h
 split at h
 ·simp at h;subst h;rfl
 ·rename_i hn
  split at h
  ·obtain⟨h1,h2⟩:=Qu0 h
   match l,h2 with
   |[],_=>simp[Fi0,h1]
   |[_],h2=>simp at h2;exact absurd h2.symm hn
   |_::_::_,_=>simp[Fi0,h1]
  ·cases h
def Yh0(rs:List Ty)(v:CV)(hp:List Blk):Option (HDen rs):=match Lg1 rs.length v with
 |none=>none
 |some l=>gd (Ch0 (Ae0 hp) l) (match Ba0 (Ae0 hp) rs l with|some cs=>toH rs cs|none=>none)
theorem Rb0{rs:List Ty}{v:CV}{hp:List Blk}{y:HDen rs}(h:Yh0 rs v hp=some y):∃l,v=Fi0 l/\Ba0 (Ae0 hp) rs l=some (ofH rs y)/\Ch0 (Ae0 hp) l=true:=by
 unfold Yh0 at h
 split at h
 ·cases h
 ·rename_i l hl
  obtain⟨h1,h2⟩:=Iu0 h
  split at h2
  ·rename_i cs hcs
   obtain⟨x,rfl⟩:=Dh0 hcs
   rw[Gg0]at h2
   simp at h2;subst h2
   exact⟨l,(Ur0 hl).symm,hcs,h1⟩
  ·cases h2
def dfH:(rs:List Ty)->HDen rs
 |[]=>()
 |t::rs=>(t.dflt,dfH rs)
def shS(ts rs:List Ty)(p:HDen ts->Bool)(v:HDen ts->HDen rs):Summ:=fS ts rs p v
def Yg0(ts:List Ty)(F:List CV->Option (Bool×List CV)):Summ:=fun cs look _=>match Ba0 look ts cs with
 |none=>none
 |some cs'=>match F cs' with
  |none=>none
  |some r=>some ⟨Ch0 look cs&&r.1,Fi0 r.2,[]⟩
theorem Nk0(ts:List Ty)(F:List CV->Option (Bool×List CV)):Ka0 (Yg0 ts F):=by
 intro cs look look' nid h
 unfold Yg0
 rw[Dp0 h,Cc0 h]
theorem Na0{look:Look}:∀ {t:Ty}{c:CV}{x:t.den},t.slices=false->toPH look t c=some x->c.refs=[]:=by
 intro t
 induction t with
 |pair a b iha ihb=>
  intro c x ht h
  simp only[Ty.slices,Bool.or_eq_false_iff]at ht
  cases c<;>simp only[toPH]at h<;>try (first|rfl|(cases h;done))
  split at h
  ·rename_i hy hz
   simp[CV.refs,iha ht.1 hy,ihb ht.2 hz]
  ·cases h
 |slice e ih=>intro c x ht h;simp[Ty.slices]at ht
 |_=>
  intros c x ht h
  cases c<;>simp only[toPH]at h<;>try (first|rfl|(cases h;done))
theorem Jr0{look:Look}:∀ {ts:List Ty}{cs cs':List CV},(ts.all fun t=> !t.slices)=true->Ba0 look ts cs=some cs'->∀c∈cs,c.refs=[]
 |[],[],_,_,h=>by simp
 |[],_::_,_,_,h=>by simp[Ba0]at h
 |_::_,[],_,_,h=>by simp[Ba0]at h
 |t::ts,c::cs,cs',ht,h=>by
  simp only[List.all_cons,Bool.and_eq_true,Bool.not_eq_true']at ht
  simp only[Ba0]at h
  split at h
  ·rename_i x l hx hl
   intro c' hc'
   rcases List.mem_cons.1 hc' with rfl|hc'
   ·exact Na0 ht.1 hx
   ·exact Jr0 ht.2 hl c' hc'
  ·cases h
theorem Mv0{w w':World}{I I':Nat->Prop}:∀(t:Ty)(x:t.den)(cs:List Value),t.slices=false->RepD w I t x cs->RepD w' I' t x cs
 | .int _,_,_,_,h=>h
 | .bool,_,_,_,h=>h
 | .str,_,_,_,h=>h
 | .unit,_,_,_,h=>h
 | .pair a b,x,_,ht,⟨c1,c2,e,h1,h2⟩=>by
   simp only[Ty.slices,Bool.or_eq_false_iff]at ht
   exact⟨c1,c2,e,Mv0 a x.1 c1 ht.1 h1,Mv0 b x.2 c2 ht.2 h2⟩
 | .arr n e,x,cs,ht,h=>⟨h.1,Rows.mono (fun x c=>Mv0 e x c ht) x cs h.2⟩
 | .slice e,_,_,ht,_=>by simp[Ty.slices]at ht
theorem Gr1{E:Env}{look:Look}{c:CV}(h:c.refs=[])(g:Nat):¬refH E look c g:=by
 rintro⟨b,hb,_⟩
 rw[h]at hb;cases hb
theorem Ut0{look:Look}:∀ {c:CV},c.refs=[]->c.subOK look=true:=by
 intro c
 induction c with
 |pair a b iha ihb=>intro h;simp[CV.refs]at h;simp[CV.subOK,iha h.1,ihb h.2]
 |sub b p sz off len cap=>intro h;simp[CV.refs]at h
 |_=>intro h;rfl
theorem Ki0{base:Nat}{E E':Env}{look:Look}:∀ {ts:List Ty}{cs cs':List CV}{vs:List Value},(ts.all fun t=> !t.slices)=true->LRep E base look->Ba0 look ts cs=some cs'->Vs E cs vs->Vs E' cs' vs
 |[],[],_,vs,_,_,h,hv=>by
  simp[Ba0]at h;subst h
  cases vs<;>exact hv
 |[],_::_,_,_,_,_,h,_=>by simp[Ba0]at h
 |_::_,[],_,_,_,_,h,_=>by simp[Ba0]at h
 |t::ts,c::cs,cs',[],_,_,_,hv=>hv.elim
 |t::ts,c::cs,cs',v::vs,ht,L,h,hv=>by
  simp only[List.all_cons,Bool.and_eq_true,Bool.not_eq_true']at ht
  simp only[Ba0]at h
  split at h
  ·rename_i x l hx hl
   simp at h;subst h
   refine⟨?_,Ki0 ht.2 L hl hv.2⟩
   obtain⟨ha,htp⟩:=Si0 hx
   obtain⟨cells,h1,h2⟩:=hv.1.one1 htp
   have hn:=Na0 ht.1 hx
   have hd:=Gf0 L (I':=E.R) (fun _ h=>h) hx (Ut0 hn) h1 (fun g hg=>absurd hg (Gr1 hn g))
   refine VRep1.up ⟨cells,Cz0 (E:=E') (Mv0 t x cells ht.1 hd),?_⟩ (Ce0 (Fe0 t x))
   rw[Gc0,<-ha]
   exact h2
  ·cases h
theorem Xq0{rk:Nat->Loop->Prop}{P:Program}{f:Nat}{ts rs:List Ty}{F:List CV->Option (Bool×List CV)}{call:Nat->List CV->List Blk->(CV->List Blk->Option (CV×List Blk))->Option (CV×List Blk)}(hrs:(rs.all fun t=> !t.slices)=true)(hcall:∀base,Dt0 P base rk call)(hrz:Nat.ble RZ f=false)(hcb:Bq0 P f=true)
 (hF:∀look cs cs' l,Ba0 look ts cs=some cs'->F cs'=some (true,l)->∃l0 hp2,call f cs' [] (fun v h=>some (v,h))=some (Fi0 l0,hp2)/\Ba0 (Ae0 hp2) rs l0=some l/\Ch0 (Ae0 hp2) l0=true):Ag0 P f (Yg0 ts F):=by
 refine⟨hcb,Nk0 ts F,?_⟩
 intro base E hp cs vs nid out H hvs hs hok _ _
 unfold Yg0 at hs
 split at hs
 ·cases hs
 ·rename_i cs' hcs'
  split at hs
  ·cases hs
  ·rename_i r hr
   simp at hs;subst hs
   obtain⟨ok,l⟩:=r
   simp only[Bool.and_eq_true]at hok
   obtain⟨hsub,rfl⟩:=hok
   obtain⟨_,ht,_⟩:=Bv0 hcs'
   obtain⟨E',hle,H',hw,_,_,_,hI⟩:=HS.frzs (Ae0 hp) (cs.flatMap CV.refs) H (fun _=> .inl rfl) (Hp0 hvs ht)
   obtain⟨l0,hp2,hev,hpl,hsl⟩:=hF _ _ _ _ hcs' hr
   have hvs0:Vs (E'.clean rk) cs' vs:=Dg0 (base:=base) (E':=(E'.clean rk)) H.blk hw hle.R hcs' hsub hvs (fun c hc g⟨b,hb,hg⟩=>hI g (.inr ⟨b,List.mem_flatMap.2 ⟨c,hc,hb⟩,hg⟩))
   have hc:=((hcall _).1 f cs' [] _ _ hrz hev (E'.clean rk) vs rfl H'.empty hvs0).2
   rw[<-hw]
   refine Calls.mono hc ?_
   rintro e w' ⟨v,c,hp1,E1,rfl,hk,rfl,hle1,H1,hv,_⟩
   simp only[Option.some.injEq,Prod.mk.injEq]at hk
   obtain⟨rfl,rfl⟩:=hk
   obtain⟨hll,ht0,htl⟩:=Bv0 hpl
   obtain⟨us,hus,hback⟩:=Fv0 hv ht0
   have hheap:∀g,g<E.w.heap.size->E1.w.heap[g]? =E.w.heap[g]? :=fun g hg=>by
    have:=hle1.bel.block g (by rw[hw];exact hg)
    rw[this];show E'.w.heap[g]? =_;rw[hw]
   have hbel:Below base E.w E1.w:=by
    have hb:=hle1.bel
    have e0:((E'.clean rk):Env).w=E.w:=hw
    rw[e0]at hb
    exact⟨hb.os,hb.tape,hb.output,hb.size,fun k hk=>hheap k (Nat.lt_of_lt_of_le hk H.base)⟩
   obtain⟨hle3,H3⟩:=H.world (w':=E1.w) hbel hheap
   refine⟨v,{E with w:=E1.w},rfl,rfl,hle3,H3,hback _ _ ?_ hll htl⟩
   have hnr:=Jr0 hrs hpl
   exact Ki0 hrs H1.blk hpl hus
def fN(ts rs:List Ty)(pre:HDen ts->Bool)(fn:HDen ts->HDen rs):Summ:=Yg0 ts fun cs=>match toH ts cs with
 |some x=>some (pre x,ofH rs (fn x))
 |none=>none
def shN(ts rs:List Ty)(p:HDen ts->Bool)(v:HDen ts->HDen rs):Summ:=fN ts rs p v
theorem Lo1{rk:Nat->Loop->Prop}{P:Program}{f:Nat}{ts rs:List Ty}{pre:HDen ts->Bool}{fn:HDen ts->HDen rs}{call:Nat->List CV->List Blk->(CV->List Blk->Option (CV×List Blk))->Option (CV×List Blk)}(hrs:(rs.all fun t=> !t.slices)=true)(hcall:∀base,Dt0 P base rk call)(hrz:Nat.ble RZ f=false)(hcb:Bq0 P f=true)
 (h:∀x,pre x=true->Rets rs (call f (ofH ts x) [] fun v h=>some (v,h)) (fn x)):Ag0 P f (fN ts rs pre fn):=by
 refine Xq0 (rs:=rs) hrs hcall hrz hcb ?_
 intro look cs cs' l hcs hF
 obtain⟨x,rfl⟩:=Dh0 hcs
 rw[Gg0]at hF
 simp only[Option.some.injEq,Prod.mk.injEq]at hF
 obtain⟨hp,rfl⟩:=hF
 exact h x hp
theorem Lm1{rk:Nat->Loop->Prop}{P:Program}{f:Nat}{ts rs:List Ty}{F:HDen ts->Option (HDen rs)}{p:HDen ts->Bool}{v:HDen ts->HDen rs}{summ:Nat->Option Summ}{fns:Nat->Option IFn}{fu n:Nat}(hrs:(rs.all fun t=> !t.slices)=true)
 (hp:∀x,p x=(F x).isSome) (hv:∀x,v x=(F x).getD (dfH rs)) (hcall:∀base,Dt0 P base rk (evFn (R:=CV×List Blk) summ fns fu n)) (hrz:Nat.ble RZ f=false) (hcb:Bq0 P f=true)
 (h:∀x y,F x=some y->evFn summ fns fu n f (ofH ts x) [] (Yh0 rs)=some y):Ag0 P f (shN ts rs p v):=by
 refine Lo1 hrs hcall hrz hcb fun x hx=> ?_
 rw[hp]at hx
 obtain⟨y,hy⟩:=Option.isSome_iff_exists.1 hx
 obtain⟨c,hp2,h1,h2⟩:=Go0 summ fu fns n _ _ _ _ _ _ (h x y hy)
 obtain⟨l,rfl,h3,h4⟩:=Rb0 h1
 refine⟨l,hp2,h2 _ _ _ rfl,?_,h4⟩
 rw[h3,hv,hy];rfl
theorem Uu1{rk:Nat->Loop->Prop}{P:Program}{f:Nat}{ts rs:List Ty}{F:HDen ts->Option (HDen rs)}{p:HDen ts->Bool}{v:HDen ts->HDen rs}{summ:Nat->Option Summ}{fns:Nat->Option IFn}{fu n:Nat}
 (hp:∀x,p x=(F x).isSome) (hv:∀x,v x=(F x).getD (dfH rs)) (hcall:∀base,Dt0 P base rk (evFn (R:=CV×List Blk) summ fns fu n)) (hrz:Nat.ble RZ f=false) (hcb:Bq0 P f=true)
 (h:∀x y,F x=some y->evFn summ fns fu n f (ofH ts x) [] (Yh0 rs)=some y):Ag0 P f (shS ts rs p v):=by
 refine Uw1 hcall hrz hcb fun x hx=> ?_
 rw[hp]at hx
 obtain⟨y,hy⟩:=Option.isSome_iff_exists.1 hx
 obtain⟨c,hp2,h1,h2⟩:=Go0 summ fu fns n _ _ _ _ _ _ (h x y hy)
 obtain⟨l,rfl,h3,h4⟩:=Rb0 h1
 refine⟨l,hp2,h2 _ _ _ rfl,?_,h4⟩
 rw[h3,hv,hy];rfl
namespace Sp
def andI(k:IntKind)(x y:Int):Int:=k.wrap (BitVec.ofInt k.bits x&&&BitVec.ofInt k.bits y).toNat
def orI(k:IntKind)(x y:Int):Int:=k.wrap (BitVec.ofInt k.bits x|||BitVec.ofInt k.bits y).toNat
def xorI(k:IntKind)(x y:Int):Int:=k.wrap (BitVec.ofInt k.bits x ^^^ BitVec.ofInt k.bits y).toNat
def andnI(k:IntKind)(x y:Int):Int:=k.wrap (BitVec.ofInt k.bits x&&& ~~~ BitVec.ofInt k.bits y).toNat
end Sp
def jk:CV:= .junk
def bk(v:CV)(_:List Blk):Option Bool:=match v with| .bool b=>some b|_=>none
end Go.Ev
namespace Go.Ev
open Go Go.RowKit Go.Shelf Go.Lib Go.Proofs
variable{P:Program}{ρ:Ren}
set_option maxHeartbeats 2000000 in
set_option maxRecDepth 100000 in
theorem Hx0(L:SlLaysE0.n41 P ρ)(i0:TypeInfo)(z:Value)(size bytes:Nat)(hi:P.info? (ρ.t 23)=some i0)(hz0:i0.zero=some z)(hz1:i0.size=size)(hz2:i0.bytes=bytes)(hzs:z.cells.size=size)(hsz:0<size)
 (z23:∀w,(Go.sizeOf (ρ.t 23)).run P w= .ok size w) (a:Addr) (c:Nat) (w:World) :
 Calls P (ρ.f 41) #[.slice (some a) 0 c] w fun e w'=>∃v',e= .returned v'/\w'.ownsRow w.heap.size (ρ.t 23) size v' 0 []/\v'≠ .slice none 0 0/\Below w.heap.size w w':=by
 have mixed:=L.mixed;have t4:=L.t4;have a4:=L.a4;have z4:=L.z4;have v4:=L.v4;have t22:=L.t22;have a22:=L.a22;have z22:=L.z22;have v22:=L.v22
 have q22:∀(w:World)(a:Option Addr)(n c n' c':Nat),(binOp .eql (ρ.t 22) (.slice a n c) (.slice none n' c')).run P w= .ok (.bool a.isNone) w:=fun w a n c n' c'=>Lib.run_eql_slice_nil w _ _ a n c n' c' L.t22
 have u22:∀w,Sem.run P (underlying (ρ.t 22)) w= .ok (TypeDesc.slice (ρ.t 23)) w:=run_underlying t22
 obtain⟨_,_,FG⟩:=L.f41
 go_enter FG,SlBodyN.n41_ntmps ρ
 go_wp2_with (at_builtin;refine wpList_append_own _ rfl _ _ (ρ.t 22) rfl w.heap.size (ρ.t 23) i0 z size bytes t22 hi hz0 hz1 hz2 hzs hsz _ _ _ rfl (World.ownsRow_made w #[] 0 (Nat.le_refl _) (Nat.zero_le _) (by simp)) a 0 c [] rfl (by simp) (by intro j u hj;simp at hj) (by intro u hu;cases hu) (by unfold maxLen;omega) (by omega) (by simp) ?_)
 intro v' w1 hown hgrow hnil
 go_wp2
 go_ret
 refine⟨v',rfl,by simpa using hown,?_,?_⟩
 ·exact hnil
 ·exact((Below.refl _ w).alloc (Nat.le_refl _) _).grown hgrow (by simp) (by intro k hk;simp[Value.ownBlock]at hk;omega)
end Go.Ev
namespace Go.Ev
open Go Go.RowKit
variable{P:Program}
def pureE(w:World)(I:Nat->Prop):Env:= {w:=w,I:=I,μ:=fun _=>0,σ:=fun _=>undef,live:=fun _=>False}
theorem HS.pureE{w:World}{I:Nat->Prop}(himm:∀g,I g->g<w.heap.size):HS w.heap.size (pureE w I) []:=by
 have hf:∀b,Ae0 [] b= .fresh:=fun b=>by simp[Ae0]
 refine⟨fun b=>by rw[hf];trivial,fun b b' g h=>by rw[hf]at h;exact h.elim,fun b g h=>by rw[hf]at h;exact h.elim,himm,fun b=> ?_,Nat.le_refl _,(fun b rec i h=>by cases h),fun _ h=>h.elim⟩
 show False↔_
 simp[hf]
end Go.Ev
namespace Go.Ev
open Go Go.RowKit
variable{P:Program}
def Mw2(u:Ty)(bytes:Nat):List CV->Option (Bool×List CV)
 |[.pure (.slice u') xs]=>if u'=u then some (room (List.length xs) bytes,[.pure (.slice u') xs])else none
 |_=>none
end Go.Ev
namespace Go.Ev
open Go Go.RowKit
variable{P:Program}
def vecS(u:Ty)(te bytes:Nat):Summ:=fun cs look nid=>match cs with
 |[c]=>match toPH look (.slice u) c with
  |some xs=>some ⟨c.subOK look&&room (List.length xs) bytes,.whole nid,[(nid,.vec te u xs)]⟩
  |none=>none
 |_=>none
theorem Dj1(u:Ty)(te bytes:Nat):Ka0 (vecS u te bytes):=by
 intro cs look look' nid h
 unfold vecS
 match cs with
 |[]=>rfl
 |[c] =>
  have h':∀b∈c.refs,look b=look' b:=fun b hb=>h b (by simpa using hb)
  simp only[Cs0 h',Dn0 h']
 |_::_::_=>rfl
theorem Bd1{w:World}{b b' te size n:Nat}{v:Value}{xs:List Value}(h:b<=b')(ho:w.ownsRow b' te size v n xs):w.ownsRow b te size v n xs:=by
 refine⟨ho.1,?_⟩
 rcases ho.2 with h1|⟨g,cap,cur,h1,h2,h3⟩
 ·exact .inl h1
 ·exact .inr ⟨g,cap,cur,h1,by omega,h3⟩
theorem Jy0{f te:Nat}{u:Ty}{bytes:Nat}(hcb:Bq0 P f=true)(hpos:0<u.size)
 (h1:∀(b off n c:Nat)(news:List Value)(w:World),news.length=n*u.size->n<=maxLen->n*bytes<=140737488355328->(∀(j:Nat)(v:Value),news[j]? =some v->w.cell? ⟨b,off+j,none⟩=some v)->(∀v∈news,v.oneCell'=true) ->
  Calls P f #[.slice (some ⟨b,off,none⟩) n c] w fun e w'=>∃v',e= .returned v'/\w'.ownsRow w.heap.size te u.size v' n news/\v'≠ .slice none 0 0/\Below w.heap.size w w')
 (h2:∀(n c:Nat)(w:World),Calls P f #[.slice none n c] w fun e w'=>e= .returned (.slice none 0 0)/\w'=w)
 (h3:∀(a:Addr)(c:Nat)(w:World),Calls P f #[.slice (some a) 0 c] w fun e w'=>∃v',e= .returned v'/\w'.ownsRow w.heap.size te u.size v' 0 []/\v'≠ .slice none 0 0/\Below w.heap.size w w') :
 Ag0 P f (vecS u te bytes):=by
 refine⟨hcb,Dj1 u te bytes,?_⟩
 intro base E hp cs vs nid out H hvs hs hok hf hn
 unfold vecS at hs
 split at hs
 ·rename_i c
  split at hs
  ·rename_i xs hxs
   simp at hs;subst hs
   simp only[Bool.and_eq_true]at hok
   obtain⟨hsub,hroom⟩:=hok
   have hroom:=Fb0 hroom
   match vs,hvs with
   |[v],⟨hv,_⟩ =>
    obtain⟨ad,cp,rfl,s1,s2,s3⟩:=Gh0 H.blk hxs hsub hv
    have fin:∀(v':Value)(w':World)(news:List Value),w'.ownsRow E.w.heap.size te u.size v' (List.length xs) news->Rows (RepD E.w E.R u) xs news->Below E.w.heap.size E.w w'->
     ∃v E',(Ending.returned v':Ending)= .returned v/\E'.w=w'/\E.le base E'/\HS base E' (Bg0 hp [(nid,.vec te u xs)])/\VRep E' (.whole nid) v:=by
     intro v' w' news hown hrows hbel
     have hrows':Rows (RepD w' E.R u) xs news:=Rows.mono (fun x c=>RepD.mono (fun _ h=>h) (fun g hg=>hbel.block g (H.imm g hg.1)) u x c) _ _ hrows
     obtain⟨hle,H'⟩:=H.newVec hf hn (w':=w') (v:=v') (te:=te) (e:=u) (xs:=xs) (cells:=news) ⟨hbel.os,hbel.tape,hbel.output,hbel.size,fun k hk=>hbel.block k (Nat.lt_of_lt_of_le hk H.base)⟩ (fun g hg=>hbel.block g (H.imm g hg)) (fun b g hg=>hbel.block g (H.held_lt hg)) hrows' (Bd1 H.base hown) hpos (fun g hg=>by
      have:=(hown.lt g hg).1
      exact⟨fun h=>absurd (H.imm g h) (by omega),fun b h=>absurd (H.held_lt h) (by omega)⟩)
     refine⟨v',_,rfl,rfl,hle,H',?_⟩
     refine⟨[v'],⟨.inr rfl,by simp[Env.newVec,upd_same],?_⟩,by simp[CV.isAgg]⟩
     simp only[Env.newVec,upd_same]
     rcases hown.2 with⟨h,hn0⟩|⟨g,cap,cur,h,_⟩
     ·exact⟨none,0,0,h⟩
     ·exact⟨_,_,_,h⟩
    cases ad with
    |none=>
     refine Calls.mono (h2 _ _ E.w) ?_
     rintro e w' ⟨rfl,rfl⟩
     have h0:List.length xs=0:=by
      rcases Nat.eq_zero_or_pos (List.length xs)with h|h
      ·exact h
      ·obtain⟨_,_,_,h4,_⟩:=s3 h;cases h4
     have hx:xs=[]:=List.eq_nil_of_length_eq_zero h0
     subst hx
     exact fin _ _ [] (World.ownsRow_nil _ _ _ _) rfl (Below.refl _ _)
    |some a=>
     by_cases h0:0<List.length xs
     ·obtain⟨b',off',rows,h4,g1,g2⟩:=s3 h0
      cases h4
      have hR:∀(x:u.den)(c:List Value),RepD E.w E.R u x c->c.length=u.size:=fun x c h=>RepD.len u x c h
      refine Calls.mono (h1 b' off' (List.length xs) cp rows E.w (Rows.len hR xs rows g2) (by omega) hroom.1 g1 (fun v hv=>Rows.one _ _ g2 v hv)) ?_
      rintro e w' ⟨v',rfl,hown,_,hbel⟩
      exact fin v' w' rows hown g2 hbel
     ·have h00:List.length xs=0:=by omega
      have hx:xs=[]:=List.eq_nil_of_length_eq_zero h00
      subst hx
      refine Calls.mono (h3 a cp E.w) ?_
      rintro e w' ⟨v',rfl,hown,_,hbel⟩
      exact fin v' w' [] hown rfl hbel
  ·cases hs
 ·cases hs
end Go.Ev
namespace Go.Ev
open Go Go.RowKit
namespace Sp
def dst:List Int->Bool
 |[]=>true
 |x::l=> !l.contains x&&dst l
end Sp
abbrev CfgTy:Ty:= .pair (.int .i64) (.pair (.int .i64) (.pair (.int .i64) (.pair (.int .i64) (.pair (.int .i64) (.pair (.int .i64) (.pair .bool (.pair (.int .i64) .unit)))))))
def Js1:Summ:=shN [.slice CfgTy] [.bool] (fun _=>true) (fun x=>(Sp.dst ((show List CfgTy.den from x.1).map fun c=>c.1),()))
variable{P:Program}
theorem Qi0{f:Nat}{ts rs:List Ty}{F:List CV->Option (Bool×List CV)}(hns:(rs.all fun t=> !t.slices)=true)(hcb:Bq0 P f=true)
 (hrs:∀cs' r,F cs'=some r->Ba0 Lb0 rs r.2=some r.2)
 (hF:∀(w:World)(I:Nat->Prop)(look:Look)(cs cs':List CV)(l:List CV)(vs:List Value),(∀g,I g->g<w.heap.size)->Ba0 look ts cs=some cs'->F cs'=some (true,l)->Vs (pureE w I) cs' vs->
  Calls P f vs.toArray w fun e w'=>∃v,e= .returned v/\Below w.heap.size w w'/\VRep (pureE w' I) (Fi0 l) v):Ag0 P f (Yg0 ts F):=by
 refine⟨hcb,Nk0 ts F,?_⟩
 intro base E hp cs vs nid out H hvs hs hok _ _
 unfold Yg0 at hs
 split at hs
 ·cases hs
 ·rename_i cs' hcs'
  split at hs
  ·cases hs
  ·rename_i r hr
   simp at hs;subst hs
   have hp1:=hrs _ _ hr
   obtain⟨ok,l⟩:=r
   simp only[Bool.and_eq_true]at hok
   obtain⟨hsub,rfl⟩:=hok
   obtain⟨_,ht,_⟩:=Bv0 hcs'
   obtain⟨E',hle,H',hw,_,_,_,hI⟩:=HS.frzs (Ae0 hp) (cs.flatMap CV.refs) H (fun _=> .inl rfl) (Hp0 hvs ht)
   have hvs0:Vs (pureE E'.w E'.R) cs' vs:=Dg0 (base:=base) (E':=pureE E'.w E'.R) H.blk hw (fun g h=>⟨hle.R g h,fun h=>h.elim⟩) hcs' hsub hvs (fun c hc g⟨b,hb,hg⟩=>⟨hI g (.inr ⟨b,List.mem_flatMap.2 ⟨c,hc,hb⟩,hg⟩),fun h=>h.elim⟩)
   have hc:=hF E'.w E'.R _ _ _ _ _ (fun g h=>H'.imm g h.1) hcs' hr hvs0
   rw[<-hw]
   refine Calls.mono hc ?_
   rintro e w' ⟨v,rfl,hbel0,hv⟩
   have hheap:∀g,g<E.w.heap.size->w'.heap[g]? =E.w.heap[g]? :=fun g hg=>by
    have:=hbel0.block g (by rw[hw];exact hg)
    rw[this,hw]
   have hbel:Below base E.w w':=by
    have hb:=hbel0
    rw[hw]at hb
    exact⟨hb.os,hb.tape,hb.output,hb.size,fun k hk=>hheap k (Nat.lt_of_lt_of_le hk H.base)⟩
   obtain⟨hle3,H3⟩:=H.world (w':=w') hbel hheap
   obtain⟨hll,ht0,htl⟩:=Bv0 hp1
   obtain⟨us,hus,hback⟩:=Fv0 hv ht0
   refine⟨v,{E with w:=w'},rfl,rfl,hle3,H3,hback _ _ ?_ rfl htl⟩
   exact Ki0 (base:=0) hns (Lb1 _ _) hp1 hus
namespace Sp
theorem dst_nodup:∀l:List Int,dst l=true↔l.Nodup
 |[]=>by simp[dst]
 |x::l=>by simp[dst,dst_nodup l]
theorem dst_false{l:List Int}(h:¬l.Nodup):dst l=false:=by
 cases hd:dst l
 ·rfl
 ·exact absurd ((dst_nodup l).1 hd) h
theorem nodup_take{l:List Int}{k:Nat}(hk:k<l.length)(h:(l.take k).Nodup)(hn:(l.take k).contains (l.getD k 0)=false):(l.take (k+1)).Nodup:=by
 have e:l.getD k 0=l[k]:=by simp[List.getD_eq_getElem?_getD,hk]
 rw[List.take_succ_eq_append_getElem hk,List.nodup_append]
 rw[e]at hn
 refine⟨h,by simp,fun a ha b hb hab=> ?_⟩
 simp only[List.mem_singleton]at hb
 subst hb
 rw[<-hab]at hn
 have:(l.take k).contains a=true:=by simpa using ha
 rw[this]at hn;cases hn
theorem not_nodup{l:List Int}{k:Nat}(hk:k<l.length)(hn:(l.take k).contains (l.getD k 0)=true):¬l.Nodup:=by
 have e:l.getD k 0=l[k]:=by simp[List.getD_eq_getElem?_getD,hk]
 intro h
 rw[e]at hn
 have hs:List.Sublist (l.take (k+1)) l:=List.take_sublist _ _
 have h2:=hs.nodup h
 rw[List.take_succ_eq_append_getElem hk,List.nodup_append]at h2
 exact h2.2.2 l[k] (by simpa using hn) l[k] (by simp) rfl
end Sp
theorem wf_wrap{x:Int}(h:IntKind.wrap .i64 x=x):(Lit.int .i64 x).wf=true:=by
 simp[Lit.wf,IntKind.wrap,IntKind.min,IntKind.max,IntKind.signed,IntKind.bits]at h⊢
 omega
end Go.Ev
