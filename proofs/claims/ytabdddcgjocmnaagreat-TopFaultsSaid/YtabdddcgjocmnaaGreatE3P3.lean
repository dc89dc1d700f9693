/- Part of a typed evaluator of the program's functions, proved sound. No condition. -/
import Derived.Test.YtabdddcgjocmnaaGreatE3P2
import Derived.Test.YtabdddcgjocmnaaGreatE3P1
import Derived.Shelf.Lays2
import Derived.Shelf.SlGeneric
import Derived.Shelf.RegionOpenPlain
import Derived.WalkKit
import Derived.Lib.Walk
import Derived.Lib.SliceRun
import Derived.Lib.JoinLaws
import Derived.Lib.AppendZeros
import Derived.Lib.AppendZerosOnto
import Derived.Laws.NewBlocks
import Derived.Lib.Overlaps
import Derived.Laws.Externs
import Derived.Laws.IdiomCopy
set_option maxRecDepth 10000
set_option linter.unusedVariables false
set_option linter.unusedSimpArgs false
namespace Go.Ev
open Go Go.RowKit
deriving instance DecidableEq for Step
def beqC:CV->CV->Bool
 | .junk,.junk=>true
 | .undef,.undef=>true
 | .nil a e,.nil b f=>Nat.beq a b&&decide (e=f)
 | .pure .unit _,.pure .unit _=>true
 | .pair a b,.pair c d=>beqC a c&&beqC b d
 | .whole a,.whole b=>Nat.beq a b
 | .ptr a p,.ptr b q=>Nat.beq a b&&decide (p=q)
 | .clo f a,.clo g b=>Nat.beq f g&&beqC a b
 | .tup a,.tup b=>beqC a b
 |_,_=>false
theorem Ox0:∀(a b:CV),beqC a b=true->a=b
 | .junk,b,h=>by cases b<;>first|rfl|cases h
 | .undef,b,h=>by cases b<;>first|rfl|cases h
 | .nil a e,b,h=>by
   cases b<;>first|(cases h;done)|skip
   simp only[beqC,Bool.and_eq_true,decide_eq_true_eq]at h
   rw[Nat.eq_of_beq_eq_true h.1,h.2]
 | .pure t x,b,h=>by
   cases b<;>first|(cases t<;>cases h;done)|skip
   rename_i u y
   cases t<;>cases u<;>first|(cases h;done)|rfl
 | .pair a b,c,h=>by
   cases c<;>first|(cases h;done)|skip
   simp only[beqC,Bool.and_eq_true]at h
   rw[Ox0 _ _ h.1,Ox0 _ _ h.2]
 | .whole a,b,h=>by
   cases b<;>first|(cases h;done)|skip
   rw[Nat.eq_of_beq_eq_true h]
 | .ptr a p,b,h=>by
   cases b<;>first|(cases h;done)|skip
   simp only[beqC,Bool.and_eq_true,decide_eq_true_eq]at h
   rw[Nat.eq_of_beq_eq_true h.1,h.2]
 | .clo f a,b,h=>by
   cases b<;>first|(cases h;done)|skip
   simp only[beqC,Bool.and_eq_true]at h
   rw[Nat.eq_of_beq_eq_true h.1,Ox0 _ _ h.2]
 | .tup a,b,h=>by
   cases b<;>first|(cases h;done)|skip
   rename_i c
   exact congrArg CV.tup (Ox0 a c h)
 | .int _ _,b,h=>by cases b<;>cases h
 | .bool _,b,h=>by cases b<;>cases h
 | .sub _ _ _ _ _ _,b,h=>by cases b<;>cases h
 | .ref _ _,b,h=>by cases b<;>cases h
 | .yld _ _ _,b,h=>by cases b<;>cases h
inductive PV where
 |kc (v:CV)|hv (t:Ty)|rf (t:Ty)|pr (a b:PV)|cl (f:Nat) (a:PV)|yl (b i:Nat) (a:PV)
 |sb (b:Nat) (p:Path) (sz:Nat) (o l:Option Nat) (cap:Option (Option Nat))|px (b sz:Nat)
@[reducible] def nE (o:Option Nat) (r:Type):Type:=match o with|none=>Nat×r|some _=>r
@[reducible] def nE2 (o:Option (Option Nat)) (r:Type):Type:=match o with|none=>r|some o=>nE o r
@[reducible] def PV.E:PV->Type->Type
 | .kc _,r=>r
 | .hv t,r=>t.den×r
 | .rf t,r=>t.den×r
 | .pr a b,r=>a.E (b.E r)
 | .cl _ a,r=>a.E r
 | .yl _ _ a,r=>a.E r
 | .sb _ _ _ o l c,r=>nE o (nE l (nE2 c r))
 | .px _ _,r=>Nat×r
def nI{r:Type}:(o:Option Nat)->nE o r->Nat×r
 |none,e=>(e.1,e.2)
 |some n,e=>(n,e)
def nI2{r:Type}:(o:Option (Option Nat))->nE2 o r->Option Nat×r
 |none,e=>(none,e)
 |some o,e=>(some (nI o e).1,(nI o e).2)
def PV.inst:(p:PV)-> {r:Type}->p.E r->CV×r
 | .kc v,_,e=>(v,e)
 | .hv t,_,e=>(ofP t e.1,e.2)
 | .rf t,_,e=>(.ref t e.1,e.2)
 | .pr a b,_,e=>(.pair (a.inst e).1 (b.inst (a.inst e).2).1,(b.inst (a.inst e).2).2)
 | .cl f a,_,e=>(.clo f (a.inst e).1,(a.inst e).2)
 | .yl b i a,_,e=>(.yld b i (a.inst e).1,(a.inst e).2)
 | .sb b p sz o l c,_,e=>(.sub b p sz (nI o e).1 (nI l (nI o e).2).1 (nI2 c (nI l (nI o e).2).2).1,(nI2 c (nI l (nI o e).2).2).2)
 | .px b sz,_,e=>(.ptr b [.ix e.1 sz],e.2)
def nD{r:Type}:(o:Option Nat)->Nat->r->Option (nE o r)
 |none,n,t=>some (n,t)
 |some m,n,t=>if n=m then some t else none
def nD2{r:Type}:(o:Option (Option Nat))->Option Nat->r->Option (nE2 o r)
 |none,none,t=>some t
 |some o,some n,t=>nD o n t
 |_,_,_=>none
def ext:(t:Ty)->CV->Option t.den
 | .int k,.int k' n=>if k'=k then some n else none
 | .bool,.bool b=>some b
 | .int _,_=>none
 | .bool,_=>none
 |t,.pure t' x=>if h:t'=t then some (h▸x)else none
 |_,_=>none
def PV.dec:(p:PV)-> {r:Type}->CV->r->Option (p.E r)
 | .kc v,_,w,t=>if beqC w v=true then some t else none
 | .hv u,_,w,t=>match ext u w with|some x=>some (x,t)|none=>none
 | .rf u,_,w,t=>match w with| .ref u' x=>if h:u'=u then some (h▸x,t)else none|_=>none
 | .pr a b,_,w,t=>match w with| .pair x y=>(match b.dec y t with|some t'=>a.dec x t'|none=>none)|_=>none
 | .cl f a,_,w,t=>match w with| .clo g x=>if g=f then a.dec x t else none|_=>none
 | .yl b i a,_,w,t=>match w with| .yld b' i' x=>if b'=b/\i'=i then a.dec x t else none|_=>none
 | .sb b p sz o l c,_,w,t=>match w with
   | .sub b' p' sz' o' l' c'=>if b'=b/\p'=p/\sz'=sz then(match nD2 c c' t with|some t1=>(match nD l l' t1 with|some t2=>nD o o' t2|none=>none)|none=>none)else none
   |_=>none
 | .px b sz,_,w,t=>match w with| .ptr b' [.ix n s]=>if b'=b/\s=sz then some (n,t)else none|_=>none
theorem Za0{r:Type}{o:Option Nat}{n:Nat}{t:r}{e:nE o r}(h:nD o n t=some e):nI o e=(n,t):=by
 cases o with
 |none=>simp only[nD,Option.some.injEq]at h;subst h;rfl
 |some m=>
  simp only[nD]at h
  split at h
  ·rename_i hm;injection h with h;subst h;subst hm;rfl
  ·cases h
theorem Ml1{r:Type}{o:Option (Option Nat)}{n:Option Nat}{t:r}{e:nE2 o r}(h:nD2 o n t=some e):nI2 o e=(n,t):=by
 cases o with
 |none=>
  cases n with
  |none=>simp only[nD2,Option.some.injEq]at h;subst h;rfl
  |some n=>cases h
 |some o=>
  cases n with
  |none=>cases h
  |some n=>simp only[nD2]at h;have:=Za0 h;simp only[nI2,this]
theorem ext_eq{t:Ty}{w:CV}{x:t.den}(h:ext t w=some x):ofP t x=w:=by
 cases t<;>cases w<;>simp only[ext]at h<;>first|(cases h;done)|skip
 all_goals first
  |(split at h
    ·rename_i hk;subst hk;injection h with h;subst h;rfl
    ·cases h)
  |(injection h with h;subst h;rfl)
theorem PV.dec_inst:∀(p:PV){r:Type}{w:CV}{t:r}{e:p.E r},p.dec w t=some e->p.inst e=(w,t)
 | .kc v,r,w,t,e,h=>by
   simp only[PV.dec]at h
   split at h
   ·rename_i hb;injection h with h;subst h;rw[Ox0 _ _ hb];rfl
   ·cases h
 | .hv u,r,w,t,e,h=>by
   simp only[PV.dec]at h
   split at h
   ·rename_i x hx;injection h with h;subst h;simp only[PV.inst,ext_eq hx]
   ·cases h
 | .rf u,r,w,t,e,h=>by
   simp only[PV.dec]at h
   split at h
   ·split at h
    ·rename_i hu;subst hu;injection h with h;subst h;rfl
    ·cases h
   ·cases h
 | .pr a b,r,w,t,e,h=>by
   simp only[PV.dec]at h
   split at h
   ·split at h
    ·rename_i x y t' ht
     have h1:=PV.dec_inst b ht
     have h2:=PV.dec_inst a h
     simp only[PV.inst,h2,h1]
    ·cases h
   ·cases h
 | .cl f a,r,w,t,e,h=>by
   simp only[PV.dec]at h
   split at h
   ·split at h
    ·rename_i hg;subst hg
     have h2:=PV.dec_inst a h
     simp only[PV.inst,h2]
    ·cases h
   ·cases h
 | .yl b i a,r,w,t,e,h=>by
   simp only[PV.dec]at h
   split at h
   ·split at h
    ·rename_i hg;obtain⟨rfl,rfl⟩:=hg
     have h2:=PV.dec_inst a h
     simp only[PV.inst,h2]
    ·cases h
   ·cases h
 | .sb b p sz o l c,r,w,t,e,h=>by
   simp only[PV.dec]at h
   split at h
   ·split at h
    ·rename_i hb
     obtain⟨rfl,rfl,rfl⟩:=hb
     split at h
     ·split at h
      ·rename_i h1 _ _ h2
       have h3:=Za0 h
       have h4:=Za0 h2
       have h5:=Ml1 h1
       simp only[PV.inst,h3,h4,h5]
      ·cases h
     ·cases h
    ·cases h
   ·cases h
 | .px b sz,r,w,t,e,h=>by
   simp only[PV.dec]at h
   split at h
   ·split at h
    ·rename_i hb
     obtain⟨rfl,rfl⟩:=hb
     injection h with h;subst h;rfl
    ·cases h
   ·cases h
inductive PB where
 |dead|fresh|gh (n:Nat)|mem (p:PV)|vec (te:Nat) (e:Ty)|fvec (te:Nat) (e:Ty)
@[reducible] def PB.E:PB->Type->Type
 | .mem p,r=>p.E r
 | .vec _ e,r=>List e.den×r
 | .fvec _ e,r=>List e.den×r
 |_,r=>r
def PB.inst:(p:PB)-> {r:Type}->p.E r->Blk×r
 | .dead,_,e=>(.dead,e)
 | .fresh,_,e=>(.fresh,e)
 | .gh n,_,e=>(.ghost n,e)
 | .mem p,_,e=>(.mem (p.inst e).1,(p.inst e).2)
 | .vec te u,_,e=>(.vec te u e.1,e.2)
 | .fvec te u,_,e=>(.fvec te u e.1,e.2)
def PB.dec:(p:PB)-> {r:Type}->Blk->r->Option (p.E r)
 | .dead,_,b,t=>match b with| .dead=>some t|_=>none
 | .fresh,_,b,t=>match b with| .fresh=>some t|_=>none
 | .gh n,_,b,t=>match b with| .ghost m=>if m=n then some t else none|_=>none
 | .mem p,_,b,t=>match b with| .mem c=>p.dec c t|_=>none
 | .vec te u,_,b,t=>match b with| .vec te' u' x=>if h:u'=u then if te'=te then some (h▸x,t)else none else none|_=>none
 | .fvec te u,_,b,t=>match b with| .fvec te' u' x=>if h:u'=u then if te'=te then some (h▸x,t)else none else none|_=>none
theorem PB.dec_inst:∀(p:PB){r:Type}{b:Blk}{t:r}{e:p.E r},p.dec b t=some e->p.inst e=(b,t)
 | .dead,r,b,t,e,h=>by
   simp only[PB.dec]at h
   split at h
   ·injection h with h;subst h;rfl
   ·cases h
 | .fresh,r,b,t,e,h=>by
   simp only[PB.dec]at h
   split at h
   ·injection h with h;subst h;rfl
   ·cases h
 | .gh n,r,b,t,e,h=>by
   simp only[PB.dec]at h
   split at h
   ·split at h
    ·rename_i hm;subst hm;injection h with h;subst h;rfl
    ·cases h
   ·cases h
 | .mem p,r,b,t,e,h=>by
   simp only[PB.dec]at h
   split at h
   ·simp only[PB.inst,p.dec_inst h]
   ·cases h
 | .vec te u,r,b,t,e,h=>by
   simp only[PB.dec]at h
   split at h
   ·split at h
    ·rename_i hu;subst hu
     split at h
     ·rename_i ht;subst ht;injection h with h;subst h;rfl
     ·cases h
    ·cases h
   ·cases h
 | .fvec te u,r,b,t,e,h=>by
   simp only[PB.dec]at h
   split at h
   ·split at h
    ·rename_i hu;subst hu
     split at h
     ·rename_i ht;subst ht;injection h with h;subst h;rfl
     ·cases h
    ·cases h
   ·cases h
@[reducible] def bE:List PB->Type->Type
 |[],r=>r
 |p::ps,r=>p.E (bE ps r)
def bI:(ps:List PB)-> {r:Type}->bE ps r->List Blk×r
 |[],_,e=>([],e)
 |p::ps,_,e=>((p.inst e).1::(bI ps (p.inst e).2).1,(bI ps (p.inst e).2).2)
def bD:(ps:List PB)-> {r:Type}->List Blk->r->Option (bE ps r)
 |[],_,l,t=>match l with|[]=>some t|_=>none
 |p::ps,_,l,t=>match l with|b::l=>(match bD ps l t with|some t'=>p.dec b t'|none=>none)|_=>none
theorem Kd1:∀(ps:List PB){r:Type}{l:List Blk}{t:r}{e:bE ps r},bD ps l t=some e->bI ps e=(l,t)
 |[],r,l,t,e,h=>by
  simp only[bD]at h
  split at h
  ·injection h with h;subst h;rfl
  ·cases h
 |p::ps,r,l,t,e,h=>by
  simp only[bD]at h
  split at h
  ·split at h
   ·rename_i t' ht
    have h1:=Kd1 ps ht
    have h2:=p.dec_inst h
    simp only[bI,h2,h1]
   ·cases h
  ·cases h
@[reducible] def sE:List (Nat×PV)->Type->Type
 |[],r=>r
 |p::ps,r=>p.2.E (sE ps r)
def sI:(ps:List (Nat×PV))-> {r:Type}->sE ps r->List (Nat×CV)×r
 |[],_,e=>([],e)
 |p::ps,_,e=>((p.1,(p.2.inst e).1)::(sI ps (p.2.inst e).2).1,(sI ps (p.2.inst e).2).2)
def sD:(ps:List (Nat×PV))-> {r:Type}->List CV->r->Option (sE ps r)
 |[],_,_,t=>some t
 |p::ps,_,l,t=>match sD ps l t with|some t'=>p.2.dec (l.getD p.1 .junk) t'|none=>none
theorem Gl1:∀(ps:List (Nat×PV)){r:Type}{l:List CV}{t:r}{e:sE ps r},sD ps l t=some e->Ng1 l (sI ps e).1/\(sI ps e).1.map (·.1)=ps.map (·.1)/\(sI ps e).2=t
 |[],r,l,t,e,h=>by
  simp only[sD]at h
  injection h with h;subst h;exact⟨trivial,rfl,rfl⟩
 |p::ps,r,l,t,e,h=>by
  simp only[sD]at h
  split at h
  ·rename_i t' ht
   obtain⟨h1,h2,h3⟩:=Gl1 ps ht
   have h4:=p.2.dec_inst h
   have e1:(p.2.inst e).1=l.getD p.1 .junk:=by rw[h4]
   have e2:(p.2.inst e).2=t':=by rw[h4]
   simp only[sI,e1,e2,List.map_cons,h2]
   exact⟨⟨rfl,h1⟩,trivial,h3⟩
  ·cases h
structure PS where
 n:Nat
 sl:List (Nat×PV)
 hp:List PB
 fb:Nat
@[reducible] def PS.E (T:PS):Type:=sE T.sl (bE T.hp Unit)
def PS.inst(T:PS)(e:T.E):St:=⟨fill T.n (sI T.sl e).1,(bI T.hp (sI T.sl e).2).1,T.fb⟩
def PS.dec(T:PS)(S:St):Option T.E:=if Xz0 S T.n (T.sl.map (·.1)) T.fb=true then match bD T.hp S.hp ()with|some t=>sD T.sl S.sl t|none=>none else none
theorem PS.dec_inst{T:PS}{S:St}{e:T.E}(h:T.dec S=some e):S=T.inst e:=by
 unfold PS.dec at h
 split at h
 ·rename_i hs
  split at h
  ·rename_i t ht
   obtain⟨h1,h2,h3⟩:=Gl1 T.sl h
   have h4:=Kd1 T.hp ht
   unfold PS.inst
   rw[<-h2]at hs
   rw[Ie2 hs h1 rfl,h3,h4]
  ·cases h
 ·cases h
def sx(n:Nat)(l:List (Nat×CV))(hp:List Blk)(fb:Nat:=0):St:=⟨fill n l,hp,fb⟩
abbrev Orc(R:Type):=St->(Ex->St->Option R)->Option R
def orc{R:Type}(T:PS)(G:T.E->(Ex->St->Option R)->Option R)(o:Orc R:=fun _ _=>none):Orc R:=fun S k=>match T.dec S with|some e=>G e k|none=>o S k
def orL{R E:Type}(T:PS)(L:T.E->Option E)(Y:(Ex->St->Option R)->E->Option R)(o:Orc R:=fun _ _=>none):Orc R:=orc T (fun a k=>(L a).bind (Y k)) o
def Ff2:IC->Bool| .ret=>true| .exit _=>true|_=>false
def Kl0:IC->List IC
 | .seq a b=>Kl0 a++Kl0 b
 | .cond _ a b=>Kl0 a++Kl0 b
 | .block _ b=>Kl0 b
 | .loop l b=>[.loop l b]
 | .cut l b=>if Ff2 b=true then []else [.cut l b]
 |_=>[]
def Hd0:IC->IC| .loop _ b=>b| .cut _ b=>b|c=>c
def lv:IC->List Nat| .loop l _=>l| .cut l _=>l|_=>[]
def Ia1:IC->Bool| .loop _ _=>true|_=>false
def Mh2:IC->Bool| .cut _ _=>true|_=>false
def mkT{R:Type}:IC->List (Orc R)->LT R
 | .seq a b,os=> .node (mkT a os) (mkT b (os.drop (Kl0 a).length))
 | .cond _ a b,os=> .node (mkT a os) (mkT b (os.drop (Kl0 a).length))
 | .block _ b,os=> .node (mkT b os) .nil
 | .loop _ _,os=>match os with|o::_=> .orc o|[]=> .nil
 | .cut _ b,os=>if Ff2 b=true then .nil else match os with|o::_=> .orc o|[]=> .nil
 |_,_=> .nil
section
variable{R:Type}(summ:Nat->Option Summ)(fu:Nat)(call:Zz0 R)
def okN(c:IC)(o:Orc R):Prop:=match c with
 | .loop l b=>∀T k r,o T k=some r->De0 (Al0 summ fu call b) (St.norm l) fu T k=some r
 | .cut _ b=>∀T k r,o T k=some r->Al0 summ fu call b T k=some r
 |_=>True
def allN:List IC->List (Orc R)->Prop
 |c::cs,o::os=>okN summ fu call c o/\allN cs os
 |_,_=>True
variable{summ fu call}
theorem Tz0:∀(xs ys:List IC)(os:List (Orc R)),allN summ fu call (xs++ys) os->allN summ fu call xs os/\allN summ fu call ys (os.drop xs.length)
 |[],ys,os,h=>⟨trivial,h⟩
 |x::xs,ys,[],h=>⟨trivial,by cases ys<;>trivial⟩
 |x::xs,ys,o::os,h=>by
  obtain⟨h1,h2⟩:=Tz0 xs ys os h.2
  exact⟨⟨h.1,h1⟩,h2⟩
theorem Rd0:∀(c:IC)(os:List (Orc R)),allN summ fu call (Kl0 c) os->LTok summ fu call (mkT c os) c
 | .seq a b,os,h=>by
   obtain⟨h1,h2⟩:=Tz0 _ _ _ h
   exact⟨Rd0 a _ h1,Rd0 b _ h2⟩
 | .cond _ a b,os,h=>by
   obtain⟨h1,h2⟩:=Tz0 _ _ _ h
   exact⟨Rd0 a _ h1,Rd0 b _ h2⟩
 | .block _ b,os,h=>Rd0 b os h
 | .loop l b,[],_=>trivial
 | .loop l b,o::os,h=>h.1
 | .cut l b,os,h=>by
   simp only[mkT,Kl0]at h⊢
   split
   ·trivial
   ·rename_i hb
    rw[if_neg hb]at h
    cases os with
    |nil=>trivial
    |cons o os=>exact h.1
 | .skip,_,_=>trivial
 | .region _ _ _,_,_=>trivial
 | .exit _,_,_=>trivial
 | .ret,_,_=>trivial
 | .rangef _ _ _ _ _ _,_,_=>trivial
end
def nd(c:IC)(i:Nat):IC:=(Kl0 c).getD i .skip
def Is0{R:Type}(summ:Nat->Option Summ)(fu:Nat)(call:Zz0 R)(c:IC):Nat->List (Orc R)->Prop
 |_,[]=>True
 |i,o::os=>okN summ fu call (nd c i) o/\Is0 summ fu call c (i+1) os
theorem Hn1{R:Type}{summ:Nat->Option Summ}{fu:Nat}{call:Zz0 R}{c:IC}:∀(os:List (Orc R))(i:Nat),Is0 summ fu call c i os->allN summ fu call ((Kl0 c).drop i) os
 |[],i,_=>by cases (Kl0 c).drop i<;>trivial
 |o::os,i,h=>by
  rcases Nat.lt_or_ge i (Kl0 c).length with hi|hi
  ·rw[List.drop_eq_getElem_cons hi]
   refine⟨?_,Hn1 os (i+1) h.2⟩
   have:=h.1
   unfold nd at this
   rw[List.getD_eq_getElem?_getD,List.getElem?_eq_getElem hi]at this
   exact this
  ·rw[List.drop_eq_nil_of_le hi];trivial
theorem Bq1{R:Type}{summ:Nat->Option Summ}{fu:Nat}{call:Zz0 R}{c:IC}{os:List (Orc R)}(h:Is0 summ fu call c 0 os):LTok summ fu call (mkT c os) c:=Rd0 c os (Hn1 os 0 h)
theorem gdN{A B:Type}{c:Bool}{x:Option A}{f:A->Option B}{y:Option B}(h:x.bind f=y):(gd c x).bind f=gd c y:=by cases c;rfl;exact h
theorem Bb0{A B:Type}{c:Bool}{x x':Option A}{f:A->Option B}{y y':Option B}(h:x.bind f=y)(h':x'.bind f=y'):(bif c then x else x').bind f=bif c then y else y':=by cases c;exact h';exact h
section
variable{summ:Nat->Option Summ}{fns:Nat->Option IFn}{n:Nat}
theorem lpN{R E:Type}{b:St->(Ex->St->Option R)->Option R}{nrm:St->St}{T:PS}(L:Nat->T.E->Option E)(Sf:(R:Type)->(T.E->Option R)->(E->Option R)->T.E->Option R){k:Ex->St->Option R}{Y:E->Option R}
 (h0:∀a,L 0 a=none) (hs:∀m a,L (m+1) a=Sf E (L m) some a)
 (hb:∀K a,evLB b nrm (T.inst a) K k=Sf R (fun a=>K (T.inst a)) Y a)
 (hn:∀(K:T.E->Option E)a,(Sf E K some a).bind Y=Sf R (fun a=>(K a).bind Y) Y a):∀m a,De0 b nrm m (T.inst a) k=(L m a).bind Y
 |0,a=>by rw[h0];rfl
 |m+1,a=>by
  rw[Lf0,hb,hs,hn]
  congr 1
  funext a
  exact lpN L Sf h0 hs hb hn m a
theorem lp{R E:Type}{c:IC}{ov:Nat->Option (List CV->List Blk->(CV->List Blk->Option R)->Option R)}(ho:Dl0 ov (evFn summ fns FU n)){os:List (Orc R)}(hi:Is0 summ FU (evFn summ fns FU n) (Hd0 c) 0 os)(T:PS)(L:Nat->T.E->Option E)(Sf:(R:Type)->(T.E->Option R)->(E->Option R)->T.E->Option R)(Y:(Ex->St->Option R)->E->Option R)
 (h0:∀a,L 0 a=none) (hs:∀m a,L (m+1) a=Sf E (L m) some a)
 (hb:∀k K a,evLB (Au0 summ FU (ovr ov (evFn summ fns FU n)) (mkT (Hd0 c) os) (Hd0 c)) (St.norm (lv c)) (T.inst a) K k=Sf R (fun a=>K (T.inst a)) (Y k) a)
 (hn:∀(Y:E->Option R)(K:T.E->Option E)a,(Sf E K some a).bind Y=Sf R (fun a=>(K a).bind Y) Y a) {o:Orc R} (hq:okN summ FU (evFn summ fns FU n) c o) (hc:Ia1 c=true:=by kernel_rfl) :
 okN summ FU (evFn summ fns FU n) c (orL T (L FU) Y o):=by
 cases c with
 |loop l b=>
  intro S k r h
  unfold orL orc at h
  split at h
  ·rename_i e he
   rw[PS.dec_inst he]
   refine Or0 ho (Bq1 hi) _ _ _ _ ?_
   rw[<-h]
   exact lpN L Sf h0 hs (hb k) (hn (Y k)) FU e
  ·exact hq _ _ _ h
 |_=>cases hc
theorem lpN2{R E E2:Type}{b:St->(Ex->St->Option R)->Option R}{nrm:St->St}{T T2:PS}(L:Nat->T.E->Option E)(L2:Nat->T2.E->Option E2)(Sf:(R:Type)->(T.E->Option R)->(T2.E->Option R)->(E->Option R)->T.E->Option R){k:Ex->St->Option R}{Y:E->Option R}{Y2:E2->Option R}(C:E2->E)
 (h0:∀a,L 0 a=none) (hs:∀m a,L (m+1) a=Sf E (L m) (fun q=>(L2 m q).bind fun e=>some (C e)) some a) (hC:∀e,Y (C e)=Y2 e)
 (h2:∀m q,De0 b nrm m (T2.inst q) k=(L2 m q).bind Y2)
 (hb:∀K a,evLB b nrm (T.inst a) K k=Sf R (fun a=>K (T.inst a)) (fun q=>K (T2.inst q)) Y a)
 (hn:∀(K:T.E->Option E)(K2:T2.E->Option E)a,(Sf E K K2 some a).bind Y=Sf R (fun a=>(K a).bind Y) (fun q=>(K2 q).bind Y) Y a):∀m a,De0 b nrm m (T.inst a) k=(L m a).bind Y
 |0,a=>by rw[h0];rfl
 |m+1,a=>by
  rw[Lf0,hb,hs,hn]
  congr 1
  ·funext a
   exact lpN2 L L2 Sf C h0 hs hC h2 hb hn m a
  ·funext q
   rw[h2]
   cases L2 m q with
   |none=>rfl
   |some e=>exact(hC e).symm
theorem lp2{R E E2:Type}{c:IC}{ov:Nat->Option (List CV->List Blk->(CV->List Blk->Option R)->Option R)}(ho:Dl0 ov (evFn summ fns FU n)){os:List (Orc R)}(hi:Is0 summ FU (evFn summ fns FU n) (Hd0 c) 0 os)(T T2:PS)(L:Nat->T.E->Option E)(L2:Nat->T2.E->Option E2)(Sf:(R:Type)->(T.E->Option R)->(T2.E->Option R)->(E->Option R)->T.E->Option R)(Y:(Ex->St->Option R)->E->Option R)(Y2:(Ex->St->Option R)->E2->Option R)(C:E2->E)
 (h0:∀a,L 0 a=none) (hs:∀m a,L (m+1) a=Sf E (L m) (fun q=>(L2 m q).bind fun e=>some (C e)) some a) (hC:∀k e,Y k (C e)=Y2 k e)
 (h2:∀k m q,De0 (Au0 summ FU (ovr ov (evFn summ fns FU n)) (mkT (Hd0 c) os) (Hd0 c)) (St.norm (lv c)) m (T2.inst q) k=(L2 m q).bind (Y2 k))
 (hb:∀k K a,evLB (Au0 summ FU (ovr ov (evFn summ fns FU n)) (mkT (Hd0 c) os) (Hd0 c)) (St.norm (lv c)) (T.inst a) K k=Sf R (fun a=>K (T.inst a)) (fun q=>K (T2.inst q)) (Y k) a)
 (hn:∀(Y:E->Option R)(K:T.E->Option E)(K2:T2.E->Option E)a,(Sf E K K2 some a).bind Y=Sf R (fun a=>(K a).bind Y) (fun q=>(K2 q).bind Y) Y a) {o:Orc R} (hq:okN summ FU (evFn summ fns FU n) c o) (hc:Ia1 c=true:=by kernel_rfl) :
 okN summ FU (evFn summ fns FU n) c (orL T (L FU) Y o):=by
 cases c with
 |loop l b=>
  intro S k r h
  unfold orL orc at h
  split at h
  ·rename_i e he
   rw[PS.dec_inst he]
   refine Or0 ho (Bq1 hi) _ _ _ _ ?_
   rw[<-h]
   exact lpN2 L L2 Sf C h0 hs (hC k) (h2 k) (hb k) (hn (Y k)) FU e
  ·exact hq _ _ _ h
 |_=>cases hc
theorem lp0{R E:Type}{c:IC}(T:PS)(L:Nat->T.E->Option E)(Sf:(R:Type)->(T.E->Option R)->(E->Option R)->T.E->Option R)(Y:(Ex->St->Option R)->E->Option R)
 (hb:∀k K a,evLB (Au0 summ FU (ovr noO (evFn summ fns FU n)) (mkT (Hd0 c) []) (Hd0 c)) (St.norm (lv c)) (T.inst a) K k=Sf R (fun a=>K (T.inst a)) (Y k) a)
 (hn:∀(Y:E->Option R)(K:T.E->Option E)a,(Sf E K some a).bind Y=Sf R (fun a=>(K a).bind Y) Y a) {o:Orc R} (hq:okN summ FU (evFn summ fns FU n) c o) (h0:∀a,L 0 a=none:=by intro _;rfl) (hs:∀m a,L (m+1) a=Sf E (L m) some a:=by intro _ _;rfl) (hc:Ia1 c=true:=by kernel_rfl) :
 okN summ FU (evFn summ fns FU n) c (orL T (L FU) Y o):=lp Ah0 (os:=[]) trivial T L Sf Y h0 hs hb hn hq hc
theorem ok0{R:Type}{call:Zz0 R}(c:IC):okN summ FU call c (fun _ _=>none):=by
 unfold okN
 cases c<;>first|trivial|(intro _ _ _ h;cases h)
theorem jp{R E:Type}{c:IC}{ov:Nat->Option (List CV->List Blk->(CV->List Blk->Option R)->Option R)}(ho:Dl0 ov (evFn summ fns FU n)){os:List (Orc R)}(hi:Is0 summ FU (evFn summ fns FU n) (Hd0 c) 0 os)(T:PS)(Sf:(R:Type)->(E->Option R)->T.E->Option R)(Y:(Ex->St->Option R)->E->Option R)
 (hb:∀k a,evJ (Au0 summ FU (ovr ov (evFn summ fns FU n)) (mkT (Hd0 c) os) (Hd0 c)) (T.inst a) k=Sf R (Y k) a)
 (hn:∀(Y:E->Option R)a,(Sf E some a).bind Y=Sf R Y a) {o:Orc R} (hq:okN summ FU (evFn summ fns FU n) c o) (hc:Mh2 c=true:=by kernel_rfl) :
 okN summ FU (evFn summ fns FU n) c (orL T (Sf E some) Y o):=by
 cases c with
 |cut l b=>
  intro S k r h
  unfold orL orc at h
  split at h
  ·rename_i e he
   rw[PS.dec_inst he]
   refine Zr0 ho (Bq1 hi) ?_
   rw[<-h]
   exact(hb k e).trans (hn (Y k) e).symm
  ·exact hq _ _ _ h
 |_=>cases hc
end
theorem Cd1{p:Prop} [Decidable p]{l:List Nat}{x:IC}:(if p then IC.cut l x else x).erase=x.erase:=by split<;>rfl
theorem Cu0(wm:Nat)(ret:List Nat):∀(c:IC)(ex:List (Nat×List Nat))(out:List Nat)(es:List AEnv)(acc:Nat),(flow wm ret c ex out es acc).c.erase=c.erase
 | .skip,_,_,_,_=>rfl
 | .region _ _ _,_,_,_,_=>rfl
 | .seq a b,ex,out,es,acc=>by simp only[flow,IC.erase,Cd1,Cu0 wm ret a,Cu0 wm ret b]
 | .cond c a b,ex,out,es,acc=>by simp only[flow,IC.erase,Cd1,Cu0 wm ret a,Cu0 wm ret b]
 | .block id b,ex,out,es,acc=>by simp only[flow,IC.erase,Cu0 wm ret b]
 | .loop l b,ex,out,es,acc=>by simp only[flow,IC.erase,Cu0 wm ret b]
 | .cut l b,ex,out,es,acc=>by simp only[flow,IC.erase,Cu0 wm ret b]
 | .exit _,_,_,_,_=>rfl
 | .ret,_,_,_,_=>rfl
 | .rangef id g lv ps a b,ex,out,es,acc=>by simp only[flow,IC.erase,Cu0 wm [] a,Cu0 wm [] b]
theorem Co0(P:Program)(sm:Nat->Bool)(f:Nat):∀c:Code,(Ck0 P sm f c).erase=Ck0 P sm f c
 | .region _ ops draw=>by
   simp only[Ck0]
   split
   ·rfl
   ·split
    ·split<;>rfl
    ·rfl
 | .seq a b=>by simp only[Ck0,IC.erase,Co0 P sm f a,Co0 P sm f b]
 | .cond c a b=>by simp only[Ck0,IC.erase,Co0 P sm f a,Co0 P sm f b]
 | .block id b=>by simp only[Ck0,IC.erase,Co0 P sm f b]
 | .loop b=>by simp only[Ck0,IC.erase,Co0 P sm f b]
 | .skip=>rfl
 | .exit _=>rfl
 | .ret=>rfl
 | .goto _=>rfl
 | .label _=>rfl
 | .scope _=>rfl
 | .refuse _=>rfl
 | .rangeFunc _ _ a b=>by simp only[Ck0,IC.erase,Co0 P sm f a,Co0 P sm f b]
def oneF(fn:Func):Bool:=match fn.body with|some b=>oneR b|none=>true
def cutB(c:Bool)(n:Nat)(g:IFn):IFn:=if c=true then {g with body:= .cut (List.range n) g.body}else g
def fnsP(P:Program)(sm:Nat->Bool)(w:Nat->Nat)(cf df:Nat->Bool)(f:Nat):Option IFn:=match P.funcs[f]? with
 |some fn=>if df f=true\/fn.name= "runtime.NumGoroutine" \/oneF fn=false then none else match comp P sm f fn (w f)with
  |some g=>some (cutB (cf f) (fn.params.size+fn.nfree) g)
  |none=>none
 |none=>none
theorem Wp1{P:Program}{sm:Nat->Bool}{w:Nat->Nat}{cf df:Nat->Bool}:Yy1 P sm (fnsP P sm w cf df):=by
 intro f g h
 unfold fnsP at h
 split at h
 ·rename_i fn hfn
  split at h
  ·cases h
  ·rename_i hn
   split at h
   ·rename_i g' hg
    injection h with h
    subst h
    unfold comp at hg
    split at hg
    ·cases hg
    ·rename_i b hb
     injection hg with hg
     subst hg
     have hk:∀(n:Nat)(c:Bool)(g:IFn),(cutB c n g).key=g.key:=by
      intro n c g
      unfold cutB IFn.key
      split<;>rfl
     rw[hk]
     unfold Wq1 IFn.key
     simp only[hfn,hb,Cu0,Co0]
     have h1:=not_or.1 (not_or.1 hn).2
     have h2:(fn.name != "runtime.NumGoroutine")=true:=by simpa using h1.1
     have h3:oneR b=true:=by
      have:=h1.2
      unfold oneF at this
      simp only[hb]at this
      simpa using this
     rw[h2,h3]
     rfl
   ·cases h
 ·cases h
def fO(fns:Nat->Option IFn)(f:Nat):IFn:=match fns f with|some g=>g|none=>⟨0,[],.skip⟩
abbrev fB(fns:Nat->Option IFn)(f:Nat):IC:=(fO fns f).body
section
variable{summ:Nat->Option Summ}{fns:Nat->Option IFn}{d:Nat}
theorem runG{R:Type}{N:Nat}{ov:Nat->Option (List CV->List Blk->(CV->List Blk->Option R)->Option R)}(ho:Dl0 ov (evFn summ fns FU d)){os:List (Orc R)}(hos:Is0 summ FU (evFn summ fns FU d) (fB fns N) 0 os){args:List CV}{hp:List Blk}{k:CV->List Blk->Option R}{r:R}
 (h:Ee0 summ FU (ovr ov (evFn summ fns FU d)) (mkT (fB fns N) os) (fO fns N) args hp k=some r) (hf:(fns N).isSome=true:=by kernel_rfl) (hrz:Nat.ble RZ N=false:=by kernel_rfl):evFn summ fns FU (d+1) N args hp k=some r:=by
 obtain⟨fn,hfn⟩:=Option.isSome_iff_exists.1 hf
 have e:fO fns N=fn:=by unfold fO;rw[hfn]
 unfold fB at hos h
 rw[e]at hos h
 exact Zo0 hrz hfn ho (Bq1 hos) h
end
abbrev fR(fns:Nat->Option IFn)(f:Nat):List Nat×IC×IC:=rndO (fO fns f)
theorem pvG{α:Type}{o:Option α}{e y:α}(h:o=some y):o.isSome=true/\o.getD e=y:=by subst h;exact⟨rfl,rfl⟩
def smL:List (Nat×Summ)->Nat->Option Summ
 |[],_=>none
 |p::l,f=>bif Nat.beq f p.1 then some p.2 else smL l f
def Zu0(P:Program):List (Nat×Summ)->Prop
 |[]=>True
 |p::l=>Ag0 P p.1 p.2/\Zu0 P l
theorem Gh1{P:Program}:∀ {l:List (Nat×Summ)},Zu0 P l->∀f s,smL l f=some s->Ag0 P f s
 |[],_,f,s,h=>by cases h
 |p::l,h,f,s,e=>by
  unfold smL at e
  cases hb:Nat.beq f p.1
  ·rw[hb]at e;exact Gh1 h.2 f s e
  ·rw[hb]at e
   injection e with e
   subst e
   rw[Nat.eq_of_beq_eq_true hb]
   exact h.1
theorem Jw1{P:Program}{sm:Nat->Bool}{w:Nat->Nat}{cf df:Nat->Bool}(hm:P.follows .mixedOrders=true){l:List (Nat×Summ)}(h:Zu0 P l){R:Type}(n base:Nat):Dt0 P base (Vf0 P sm (fnsP P sm w cf df)) (evFn (R:=R) (smL l) (fnsP P sm w cf df) FU n) :=
 Ms1 hm (Gh1 h) (fun f s e=>(Gh1 h f s e).2.1) Wp1 n
theorem sokS{P:Program}{sm:Nat->Bool}{w:Nat->Nat}{cf df:Nat->Bool}(hm:P.follows .mixedOrders=true){l:List (Nat×Summ)}{f n:Nat}{ts rs:List Ty}{F:HDen ts->Option (HDen rs)}
 (h:∀x y,F x=some y->evFn (smL l) (fnsP P sm w cf df) FU n f (ofH ts x) [] (Yh0 rs)=some y) (hl:Zu0 P l) (hcb:Bq0 P f=true:=by kernel_rfl) (hrz:Nat.ble RZ f=false:=by kernel_rfl):Ag0 P f (shS ts rs (fun x=>(F x).isSome) (fun x=>(F x).getD (dfH rs))) :=
 Uu1 (fun _=>rfl) (fun _=>rfl) (Jw1 hm hl n) hrz hcb h
theorem sokN{P:Program}{sm:Nat->Bool}{w:Nat->Nat}{cf df:Nat->Bool}(hm:P.follows .mixedOrders=true){l:List (Nat×Summ)}{f n:Nat}{ts rs:List Ty}{F:HDen ts->Option (HDen rs)}
 (h:∀x y,F x=some y->evFn (smL l) (fnsP P sm w cf df) FU n f (ofH ts x) [] (Yh0 rs)=some y) (hl:Zu0 P l) (hrs:(rs.all fun t=> !t.slices)=true:=by decide) (hcb:Bq0 P f=true:=by kernel_rfl) (hrz:Nat.ble RZ f=false:=by kernel_rfl):Ag0 P f (shN ts rs (fun x=>(F x).isSome) (fun x=>(F x).getD (dfH rs))) :=
 Lm1 hrs (fun _=>rfl) (fun _=>rfl) (Jw1 hm hl n) hrz hcb h
end Go.Ev
namespace Go.Ev
open Go Go.RowKit
def lmT:List Bool->Ty->Ty
 |true::q,.pair _ b=>lmT q b
 |false::q,.pair a _=>lmT q a
 |[],.pair a _=>lmT [] a
 |_,.slice u=>u
 |_,t=>t
def lmV:(p:List Bool)->(t:Ty)->t.den->List (lmT p t).den
 |true::q,.pair _ b,x=>lmV q b x.2
 |false::q,.pair a _,x=>lmV q a x.1
 |[],.pair a _,x=>lmV [] a x.1
 |[],.slice _,x=>x|true::_,.slice _,x=>x|false::_,.slice _,x=>x
 |[],.int _,_=>[]|[],.bool,_=>[]|[],.str,_=>[]|[],.unit,_=>[]|[],.arr _ _,_=>[]
 |true::_,.int _,_=>[]|true::_,.bool,_=>[]|true::_,.str,_=>[]|true::_,.unit,_=>[]|true::_,.arr _ _,_=>[]
 |false::_,.int _,_=>[]|false::_,.bool,_=>[]|false::_,.str,_=>[]|false::_,.unit,_=>[]|false::_,.arr _ _,_=>[]
def hasB(o:Option Nat)(l:List Nat):Bool:=match o with|some n=>l.contains n|none=>false
def ownL(look:Look)(te:Nat)(u:Ty):CV->Option (Option Nat×List u.den)
 | .nil _ _=>some (none,([]:List u.den))
 | .whole b=>match look b with
   | .vec te' u' xs=>if h:te'=te/\u'=u then some (some b,(h.2▸xs:List u.den))else none
   |_=>none
 |_=>none
def ownV(look:Look)(te:Nat):List Bool->(t:Ty)->CV->Option (Option Nat×t.den)
 |_,.slice u,c=>ownL look te u c
 |true::q,.pair a b,.pair c d=>match toPH look a c with
  |some x=>match ownV look te q b d with
   |some r=>if hasB r.1 c.refs then none else some (r.1,(x,r.2))
   |none=>none
  |none=>none
 |false::q,.pair a b,.pair c d=>match ownV look te q a c with
  |some r=>match toPH look b d with
   |some y=>if hasB r.1 d.refs then none else some (r.1,(r.2,y))
   |none=>none
  |none=>none
 |[],.pair a b,.pair c d=>match ownV look te [] a c with
  |some r=>match toPH look b d with
   |some y=>if hasB r.1 d.refs then none else some (r.1,(r.2,y))
   |none=>none
  |none=>none
 |_,_,_=>none
def ownC(nid:Nat):List Bool->(t:Ty)->t.den->CV
 |_,.slice _,_=> .whole nid
 |true::q,.pair a b,x=> .pair (ofP a x.1) (ownC nid q b x.2)
 |false::q,.pair a b,x=> .pair (ownC nid q a x.1) (ofP b x.2)
 |[],.pair a b,x=> .pair (ownC nid [] a x.1) (ofP b x.2)
 |_,.int k,x=> .int k x|_,.bool,x=> .bool x|_,.str,x=> .pure .str x|_,.unit,x=> .pure .unit x|_,.arr n e,x=> .pure (.arr n e) x
def Jo0:List Bool->Ty->CV->List Nat
 |true::q,.pair _ b,.pair c d=>c.refs++Jo0 q b d
 |false::q,.pair a _,.pair c d=>Jo0 q a c++d.refs
 |[],.pair a _,.pair c d=>Jo0 [] a c++d.refs
 |_,_,_=>[]
theorem Hh1(look:Look)(te:Nat)(p:List Bool)(u:Ty)(c:CV):ownV look te p (.slice u) c=ownL look te u c:=by
 cases p with
 |nil=>rw[ownV]
 |cons b q=>cases b<;>rw[ownV]
theorem So0(p:List Bool)(u:Ty)(c:CV):Jo0 p (.slice u) c=[]:=by
 cases p with
 |nil=>rfl
 |cons b q=>cases b<;>rfl
theorem Mh1{look:Look}{te n:Nat}:∀ {t:Ty}{p:List Bool}{c:CV}{x:t.den},ownV look te p t c=some (some n,x)->n∉Jo0 p t c:=by
 intro t
 induction t with
 |slice u=>intro p c x _;rw[So0];simp
 |pair a b iha ihb=>
  intro p c x h
  have left:∀q,(∀ {c:CV}{x:a.den},ownV look te q a c=some (some n,x)->n∉Jo0 q a c)->∀c d,(match ownV look te q a c with|some r=>(match toPH look b d with|some y=>if hasB r.1 d.refs then none else some (r.1,(r.2,y))|none=>none)|none=>none)=some (some n,x)->n∉Jo0 q a c++d.refs:=by
   intro q ih c d h
   split at h
   ·rename_i r hr
    split at h
    ·split at h
     ·cases h
     ·rename_i hb
      obtain⟨r1,r2⟩:=r
      simp at h
      obtain⟨rfl,_⟩:=h
      have:=ih hr
      simp only[hasB]at hb
      simp only[List.mem_append,not_or]
      exact⟨this,by simpa using hb⟩
    ·cases h
   ·cases h
  cases p with
  |nil=>
   cases c<;>simp only[ownV]at h<;>try (cases h;done)
   exact left [] iha _ _ h
  |cons f q=>
   cases f with
   |false=>
    cases c<;>simp only[ownV]at h<;>try (cases h;done)
    exact left q iha _ _ h
   |true=>
    cases c<;>simp only[ownV]at h<;>try (cases h;done)
    split at h
    ·split at h
     ·rename_i r hr
      split at h
      ·cases h
      ·rename_i hb
       obtain⟨r1,r2⟩:=r
       simp at h
       obtain⟨rfl,_⟩:=h
       have:=ihb hr
       simp only[hasB]at hb
       simp only[Jo0,List.mem_append,not_or]
       exact⟨by simpa using hb,this⟩
     ·cases h
    ·cases h
 |_=>intros p c x h;cases p with
     |nil=>cases c<;>simp[ownV]at h
     |cons f q=>cases f<;>cases c<;>simp[ownV]at h
theorem Yj0{look:Look}{te:Nat}{p:List Bool}:∀ {t:Ty}{c:CV}{r:Option Nat×t.den},ownV look te p t c=some r->c.isAgg=t.agg/\(∀d,c≠ .tup d)/\∀nid,(ownC nid p t r.2).isAgg=t.agg/\∀d,ownC nid p t r.2≠ .tup d:=by
 intro t
 cases t with
 |pair a b=>
  intro c r h
  cases p with
  |nil=>cases c<;>simp only[ownV]at h<;>try (cases h;done)
        exact⟨rfl,by simp,fun nid=>⟨rfl,by simp[ownC]⟩⟩
  |cons f q=>cases f<;>cases c<;>simp only[ownV]at h<;>try (cases h;done)
             all_goals exact⟨rfl,by simp,fun nid=>⟨rfl,by simp[ownC]⟩⟩
 |slice u=>
  intro c r h
  rw[Hh1]at h
  have e:∀nid,ownC nid p (.slice u) r.2= .whole nid:=fun nid=>by
   cases p with
   |nil=>rfl
   |cons f q=>cases f<;>rfl
  cases c<;>simp only[ownL]at h<;>try (cases h;done)
  all_goals exact⟨rfl,by simp,fun nid=>⟨by rw[e];rfl,by rw[e];simp⟩⟩
 |_=>intros c r h;cases p with
     |nil=>cases c<;>simp[ownV]at h
     |cons f q=>cases f<;>cases c<;>simp[ownV]at h
theorem Yi0{E:Env}{base:Nat}{look:Look}(L:LRep E base look){te:Nat}{I2:Nat->Prop}(hI:∀g,E.R g->I2 g):∀ {t:Ty}{p:List Bool}{c:CV}{o:Option Nat}{x:t.den}{cells:List Value},ownV look te p t c=some (o,x)->c.subOK look=true->CRep E c cells->(∀b∈Jo0 p t c,∀g,An0 E b (look b) g->I2 g) ->
 ∃v rows,E.w.ownsRow base te (lmT p t).size v (lmV p t x).length rows/\Rows (RepD E.w E.R (lmT p t)) (lmV p t x) rows/\(∀g,v.ownBlock=some g->∃b,o=some b/\An0 E b (look b) g)/\(∃a n k,v= .slice a n k) /\
  ∀(E':Env)(nid:Nat),E'.w=E.w->(∀g,I2 g->E'.R g)->E'.live nid->E'.σ nid=v->CRep E' (ownC nid p t x) cells:=by
 intro t
 induction t with
 |slice u=>
  intro p c o x cells h hs hc hr
  rw[Hh1]at h
  have e1:lmT p (.slice u)=u:=by
   cases p with
   |nil=>rfl
   |cons f q=>cases f<;>rfl
  have key:∃v rows,E.w.ownsRow base te u.size v (List.length x) rows/\Rows (RepD E.w E.R u) x rows/\(∀g,v.ownBlock=some g->∃b,o=some b/\An0 E b (look b) g)/\(∃a n k,v= .slice a n k) /\
   ∀(E':Env)(nid:Nat),E'.live nid->E'.σ nid=v->CRep E' (.whole nid) cells:=by
   cases c<;>simp only[ownL]at h<;>try (cases h;done)
   ·simp at h
    obtain⟨rfl,rfl⟩:=h
    have hc:cells=[.slice none 0 0]:=hc
    subst hc
    exact⟨.slice none 0 0,[],World.ownsRow_nil _ _ _ _,rfl,(fun g hg=>by cases hg),⟨_,_,_,rfl⟩,(fun E' nid hl hσ=>⟨hl,(by rw[hσ]),_,_,_,hσ⟩)⟩
   ·rename_i b
    split at h
    ·rename_i te' u' xs hlk
     split at h
     ·rename_i he
      obtain⟨rfl,rfl⟩:=he
      simp at h
      obtain⟨rfl,rfl⟩:=h
      obtain⟨hl,rfl,hsl⟩:=hc
      have hb:=L b
      rw[hlk]at hb
      obtain⟨cells,hrw,hown,hpos,hg⟩:=hb
      refine⟨E.σ b,cells,hown,hrw,(fun g hg=>⟨b,rfl,(by rw[hlk];exact hg)⟩),hsl,(fun E' nid hl hσ=>⟨hl,(by rw[hσ]),?_⟩)⟩
      obtain⟨a,n,k,e⟩:=hsl
      exact⟨a,n,k,hσ.trans e⟩
     ·cases h
    ·cases h
  obtain⟨v,rows,k1,k2,k3,k4,k5⟩:=key
  cases p with
  |nil=>exact⟨v,rows,k1,k2,k3,k4,fun E' nid _ _ h1 h2=>k5 E' nid h1 h2⟩
  |cons f q=>cases f<;>exact⟨v,rows,k1,k2,k3,k4,fun E' nid _ _ h1 h2=>k5 E' nid h1 h2⟩
 |pair a b iha ihb=>
  intro p c o x cells h hs hc hr
  have left:∀q c d,(match ownV look te q a c with|some r=>(match toPH look b d with|some y=>if hasB r.1 d.refs then none else some (r.1,(r.2,y))|none=>none)|none=>none)=some (o,x)->(CV.pair c d).subOK look=true->CRep E (.pair c d) cells->(∀b'∈Jo0 q a c++d.refs,∀g,An0 E b' (look b') g->I2 g) ->
   ∃v rows,E.w.ownsRow base te (lmT q a).size v (lmV q a x.1).length rows/\Rows (RepD E.w E.R (lmT q a)) (lmV q a x.1) rows/\(∀g,v.ownBlock=some g->∃b,o=some b/\An0 E b (look b) g)/\(∃a n k,v= .slice a n k) /\
    ∀(E':Env)(nid:Nat),E'.w=E.w->(∀g,I2 g->E'.R g)->E'.live nid->E'.σ nid=v->CRep E' (.pair (ownC nid q a x.1) (ofP b x.2)) cells:=by
   intro q c d h hs hc hr
   split at h
   ·rename_i r hra
    split at h
    ·rename_i y hy
     split at h
     ·cases h
     ·obtain⟨r1,r2⟩:=r
      simp at h
      obtain⟨rfl,rfl⟩:=h
      obtain⟨c1,c2,rfl,h1,h2⟩:=hc
      simp only[CV.subOK,Bool.and_eq_true]at hs
      obtain⟨v,rows,g1,g2,g3,g4,g5⟩:=iha hra hs.1 h1 (fun b hb=>hr b (by simp[hb]))
      have hd:=Gf0 L (I':=I2) hI hy hs.2 h2 (fun g⟨b,hb,hg⟩=>hr b (by simp[hb]) g hg)
      refine⟨v,rows,g1,g2,g3,g4,(fun E' nid hw hI' hl hσ=>⟨c1,c2,rfl,g5 E' nid hw hI' hl hσ,Cz0 ?_⟩)⟩
      rw[hw]
      exact RepD.mono (w:=E.w) (w':=E.w) hI' (fun _ _=>rfl) _ _ _ hd
    ·cases h
   ·cases h
  cases p with
  |nil=>
   cases c<;>simp only[ownV]at h<;>try (cases h;done)
   exact left [] _ _ h hs hc hr
  |cons f q=>
   cases f with
   |false=>
    cases c<;>simp only[ownV]at h<;>try (cases h;done)
    exact left q _ _ h hs hc hr
   |true=>
    cases c<;>simp only[ownV]at h<;>try (cases h;done)
    split at h
    ·rename_i y hy
     split at h
     ·rename_i r hrb
      split at h
      ·cases h
      ·obtain⟨r1,r2⟩:=r
       simp at h
       obtain⟨rfl,rfl⟩:=h
       obtain⟨c1,c2,rfl,h1,h2⟩:=hc
       simp only[CV.subOK,Bool.and_eq_true]at hs
       simp only[Jo0]at hr
       obtain⟨v,rows,g1,g2,g3,g4,g5⟩:=ihb hrb hs.2 h2 (fun b hb=>hr b (by simp[hb]))
       have hd:=Gf0 L (I':=I2) hI hy hs.1 h1 (fun g⟨b,hb,hg⟩=>hr b (by simp[hb]) g hg)
       refine⟨v,rows,g1,g2,g3,g4,(fun E' nid hw hI' hl hσ=>⟨c1,c2,rfl,Cz0 ?_,g5 E' nid hw hI' hl hσ⟩)⟩
       rw[hw]
       exact RepD.mono (w:=E.w) (w':=E.w) hI' (fun _ _=>rfl) _ _ _ hd
     ·cases h
    ·cases h
 |_=>intros p c o x cells h;cases p with
     |nil=>cases c<;>simp[ownV]at h
     |cons f q=>cases f<;>cases c<;>simp[ownV]at h
def ownK(te:Nat)(pt:List Bool)(t:Ty)(ts:List Ty)(v:CV)(hp:List Blk):Option (HDen (t::ts)):=match Lg1 (ts.length+1) v with
 |some (c::l)=>match ownV (Ae0 hp) te pt t c with
  |some r=>if hasB r.1 (l.flatMap CV.refs)then none else gd (Ch0 (Ae0 hp) (c::l)) (match Ba0 (Ae0 hp) ts l with
   |some cs=>match toH ts cs with|some y=>some (r.2,y)|none=>none
   |none=>none)
  |none=>none
 |_=>none
theorem Nn0{te:Nat}{pt:List Bool}{t:Ty}{ts:List Ty}{v:CV}{hp:List Blk}{y:HDen (t::ts)}(h:ownK te pt t ts v hp=some y):∃c l o,v=Fi0 (c::l)/\ownV (Ae0 hp) te pt t c=some (o,y.1)/\hasB o (l.flatMap CV.refs)=false/\Ch0 (Ae0 hp) (c::l)=true/\Ba0 (Ae0 hp) ts l=some (ofH ts y.2):=by
 unfold ownK at h
 split at h
 ·rename_i c l hl
  split at h
  ·rename_i r hr
   split at h
   ·cases h
   ·rename_i hb
    obtain⟨h1,h2⟩:=Iu0 h
    split at h2
    ·rename_i cs hcs
     obtain⟨x,rfl⟩:=Dh0 hcs
     rw[Gg0]at h2
     simp at h2;subst h2
     exact⟨c,l,r.1,(Ur0 hl).symm,hr,by simpa using hb,h1,hcs⟩
    ·cases h2
  ·cases h
 ·cases h
def ownS(ats:List Ty)(te:Nat)(pt:List Bool)(t:Ty)(ts:List Ty)(p:HDen ats->Bool)(v:HDen ats->HDen (t::ts)):Summ:=fun cs look nid=>match Ba0 look ats cs with
 |none=>none
 |some cs'=>match toH ats cs' with
  |none=>none
  |some x=>some ⟨Ch0 look cs&&p x,Fi0 (ownC nid pt t (v x).1::ofH ts (v x).2),frzs look cs++[(nid,.vec te (lmT pt t) (lmV pt t (v x).1))]⟩
theorem Ds1(ats:List Ty)(te:Nat)(pt:List Bool)(t:Ty)(ts:List Ty)(p:HDen ats->Bool)(v:HDen ats->HDen (t::ts)):Ka0 (ownS ats te pt t ts p v):=by
 intro cs look look' nid h
 unfold ownS
 rw[Dp0 h,Cc0 h,Ds0 h]
theorem Ln1{rk:Nat->Loop->Prop}{P:Program}{f te:Nat}{pt:List Bool}{ats:List Ty}{t:Ty}{ts:List Ty}{F:HDen ats->Option (HDen (t::ts))}{p:HDen ats->Bool}{v:HDen ats->HDen (t::ts)}{summ:Nat->Option Summ}{fns:Nat->Option IFn}{fu n:Nat}
 (hpos:0<(lmT pt t).size) (hp0:∀x,p x=(F x).isSome) (hv0:∀x,v x=(F x).getD (dfH (t::ts))) (hcall:∀base,Dt0 P base rk (evFn (R:=CV×List Blk) summ fns fu n)) (hrz:Nat.ble RZ f=false) (hcb:Bq0 P f=true)
 (h:∀x y,F x=some y->evFn summ fns fu n f (ofH ats x) [] (ownK te pt t ts)=some y):Ag0 P f (ownS ats te pt t ts p v):=by
 refine⟨hcb,Ds1 _ _ _ _ _ _ _,?_⟩
 intro base E hp cs vs nid out H hvs hs hok hf hn
 unfold ownS at hs
 split at hs
 ·cases hs
 ·rename_i cs' hcs'
  split at hs
  ·cases hs
  ·rename_i x hx
   simp at hs;subst hs
   simp only[Bool.and_eq_true]at hok
   obtain⟨hsub,hpx⟩:=hok
   obtain⟨x',e'⟩:=Dh0 hcs'
   subst e'
   rw[Gg0]at hx
   simp at hx;subst hx
   rw[hp0]at hpx
   obtain⟨y,hy⟩:=Option.isSome_iff_exists.1 hpx
   have ey:v x'=y:=by rw[hv0,hy];rfl
   obtain⟨c0,hp2,hk1,hk2⟩:=Go0 summ fu fns n _ _ _ _ _ _ (h x' y hy)
   obtain⟨c,l,o,rfl,hov,hob,hso,hpl⟩:=Nn0 hk1
   obtain⟨_,ht,_⟩:=Bv0 hcs'
   obtain⟨E',hle,H',hw,_,_,hlive,hI⟩:=HS.frzs (Ae0 hp) (cs.flatMap CV.refs) H (fun _=> .inl rfl) (Hp0 hvs ht)
   have hvs0:Vs (E'.clean rk) (ofH ats x') vs:=Dg0 (base:=base) (E':=(E'.clean rk)) H.blk hw hle.R hcs' hsub hvs (fun c hc g⟨b,hb,hg⟩=>hI g (.inr ⟨b,List.mem_flatMap.2 ⟨c,hc,hb⟩,hg⟩))
   have hc:=((hcall _).1 f (ofH ats x') [] _ _ hrz (hk2 _ (fun v h=>some (v,h)) _ rfl) (E'.clean rk) vs rfl H'.empty hvs0).2
   rw[<-hw]
   refine Calls.mono hc ?_
   rintro e w' ⟨v1,c1,hp1,E1,rfl,hk,rfl,hle1,H1,hv1,_⟩
   simp only[Option.some.injEq,Prod.mk.injEq]at hk
   obtain⟨rfl,rfl⟩:=hk
   obtain⟨hll,ht0,htl⟩:=Bv0 hpl
   obtain⟨hag,htc,hag2⟩:=Yj0 hov
   have ht1:∀c'∈c::l,∀d,c'≠ .tup d:=fun c' hc'=>by
    rcases List.mem_cons.1 hc' with rfl|hc'
    ·exact htc
    ·exact ht0 c' hc'
   obtain⟨us,hus,hback⟩:=Fv0 hv1 ht1
   match us,hus with
   |u0::ur,⟨hu0,hur⟩ =>
   obtain⟨cells,g1,g2⟩:=hu0.one1 htc
   obtain⟨I2,hI2⟩:∃I2:Nat->Prop,I2=fun g=>E1.I g\/∃b,b∈Jo0 pt t c++l.flatMap CV.refs/\An0 E1 b (Ae0 hp1 b) g:=⟨_,rfl⟩
   have hI2a:∀g,E1.I g->I2 g:=fun g hg=>by rw[hI2];exact .inl hg
   have hI2b:∀b,b∈Jo0 pt t c++l.flatMap CV.refs->∀g,An0 E1 b (Ae0 hp1 b) g->I2 g:=fun b hb g hg=>by rw[hI2];exact .inr ⟨b,hb,hg⟩
   have jE:E1.J=E'.J:=hle1.J
   have hR2a:∀g,E1.R g->({E' with w:=E1.w,I:=I2}:Env).R g:=fun g hg=>⟨hI2a g hg.1,fun hj=>hg.2 (by rw[jE];exact hj)⟩
   have hR2b:∀b,b∈Jo0 pt t c++l.flatMap CV.refs->∀g,An0 E1 b (Ae0 hp1 b) g->({E' with w:=E1.w,I:=I2}:Env).R g:=fun b hb g hg=>⟨hI2b b hb g hg,fun hj=>H1.heldJ hg (by rw[jE];exact hj)⟩
   simp only[Ch0,List.all_cons,Bool.and_eq_true]at hso
   obtain⟨v0,rows,r1,r2,r3,r4,r5⟩:=Yi0 H1.blk (I2:=({E' with w:=E1.w,I:=I2}:Env).R) hR2a hov hso.1 g1 (fun b hb g hg=>hR2b b (List.mem_append.2 (.inl hb)) g hg)
   obtain⟨hle3,H3⟩:=H'.back H1 hle1 I2 hI2a (fun g hg=>by
    rw[hI2]at hg
    rcases hg with h|⟨b,_,h⟩
    ·exact .inl h
    ·exact .inr ⟨(H1.sep b g h).2,H1.held_lt h⟩)
   have hnl:¬E'.live nid:=fun hl=>by
    rw[hlive]at hl
    exact(H.live nid).1 hl hf
   have hfr:Ae0 (Bg0 hp (frzs (Ae0 hp) cs)) nid= .fresh:=by
    rcases Classical.em (Ae0 (Bg0 hp (frzs (Ae0 hp) cs)) nid= .fresh)with h1|h1
    ·exact h1
    ·exact absurd ((H'.live nid).2 h1) hnl
   have hown:v0.ownBlock=none\/∃g b,v0.ownBlock=some g/\o=some b/\An0 E1 b (Ae0 hp1 b) g:=by
    cases hg:v0.ownBlock with
    |none=>exact .inl rfl
    |some g=>obtain⟨b,h1,h2⟩:=r3 g hg;exact .inr ⟨g,b,rfl,h1,h2⟩
   have hE:({E' with w:=E1.w,I:=I2}:Env).w.heap.size=E1.w.heap.size:=rfl
   obtain⟨hle4,H4⟩:=H3.newVec (n:=nid) hfr (Nat.le_trans hn (Fa0 _ _)) (w':=E1.w) (v:=v0) (te:=te) (e:=lmT pt t) (xs:=lmV pt t y.1) (cells:=rows) (Below.refl _ _) (fun _ _=>rfl) (fun _ _ _=>rfl)
    (Rows.mono (fun x c=>RepD.mono hR2a (fun _ _=>rfl) (lmT pt t) x c) _ _ r2) (Bd1 H'.base r1) hpos (fun g hg=>by
     obtain⟨b,h1,h2⟩:=r3 g hg
     subst h1
     refine⟨fun hi=> ?_,fun b2 hb2=> ?_⟩
     ·have hi:I2 g:=hi
      rw[hI2]at hi
      rcases hi with hi|⟨b3,hb3,hg3⟩
      ·exact(H1.sep b g h2).1 hi
      ·have:=H1.inj b b3 g h2 hg3
       subst this
       rcases List.mem_append.1 hb3 with hb3|hb3
       ·exact Mh1 hov hb3
       ·simp only[hasB]at hob
        have:(l.flatMap CV.refs).contains b=true:=by simpa using hb3
        rw[this]at hob;cases hob
     ·have h3:=H'.held_lt hb2
      have h4:=(H1.sep b g h2).2
      omega)
   refine⟨v1,({E' with w:=E1.w,I:=I2}:Env).newVec nid E1.w v0,rfl,rfl,hle.trans (hle3.trans hle4),?_,hback _ (ownC nid pt t (v x').1::ofH ts (v x').2) ?_ ?_ ?_⟩
   ·rw[Ej0,ey];exact H4
   ·rw[ey]
    refine⟨VRep1.up ⟨cells,r5 _ nid rfl (fun g hg=>hg) (.inr rfl) (by simp[Env.newVec,upd_same]),?_⟩ (hag2 nid).2,?_⟩
    ·rw[(hag2 nid).1,<-hag];exact g2
    ·exact Dg0 (base:=E'.w.heap.size) (E:=E1) (E':=({E' with w:=E1.w,I:=I2}:Env).newVec nid E1.w v0) H1.blk rfl hR2a hpl hso.2 hur (fun c' hc' g⟨b,hb,hg⟩=>hR2b b (List.mem_append.2 (.inr (List.mem_flatMap.2 ⟨c',hc',hb⟩))) g hg)
   ·rw[ey];simpa using hll
   ·rw[ey]
    intro c' hc'
    rcases List.mem_cons.1 hc' with rfl|hc'
    ·exact(hag2 nid).2
    ·exact htl c' hc'
end Go.Ev
namespace Go.Ev
open Go Go.RowKit
theorem sokO{P:Program}{sm:Nat->Bool}{w:Nat->Nat}{cf df:Nat->Bool}(hm:P.follows .mixedOrders=true){l:List (Nat×Summ)}{f n te:Nat}{pt:List Bool}{ats:List Ty}{t:Ty}{ts:List Ty}{F:HDen ats->Option (HDen (t::ts))}
 (h:∀x y,F x=some y->evFn (smL l) (fnsP P sm w cf df) FU n f (ofH ats x) [] (ownK te pt t ts)=some y) (hl:Zu0 P l) (hpos:0<(lmT pt t).size:=by decide) (hcb:Bq0 P f=true:=by kernel_rfl) (hrz:Nat.ble RZ f=false:=by kernel_rfl):Ag0 P f (ownS ats te pt t ts (fun x=>(F x).isSome) (fun x=>(F x).getD (dfH (t::ts)))) :=
 Ln1 hpos (fun _=>rfl) (fun _=>rfl) (Jw1 hm hl n) hrz hcb h
end Go.Ev
set_option linter.unusedVariables false
set_option linter.unusedSimpArgs false
namespace Go.Ev
open Go Go.Shelf Go.RowKit Go.Lib Go.Proofs
variable{P:Program}{ρ:Ren}
structure InsL(P:Program)(ρ:Ren)(z:Value)(by_:Nat):Prop where
 mixed:P.follows .mixedOrders=true
 f22:Bears P (ρ.f 22) (Body2.n22 ρ)
 f29:∃fn,P.funcs[ρ.f 29]? =some fn/\(fn.name== "runtime.NumGoroutine")=false/\fn.body.isNone=true/\Extern.findNext fn=none/\Extern.find fn=some (Extern.SlicesOverlaps.overlaps #[(ρ.t 24),(ρ.t 24)] #[(ρ.t 4)])
 t0:P.underlying (ρ.t 0)=some (TypeDesc.tuple #[])
 a0:∀w,(isAgg (ρ.t 0)).run P w= .ok false w
 z0:∀w,(Go.sizeOf (ρ.t 0)).run P w= .ok 1 w
 v0:∀w,(zeroValue (ρ.t 0)).run P w= .ok (Value.tuple #[]) w
 t3:P.underlying (ρ.t 3)=some (TypeDesc.int IntKind.i64)
 a3:∀w,(isAgg (ρ.t 3)).run P w= .ok false w
 z3:∀w,(Go.sizeOf (ρ.t 3)).run P w= .ok 1 w
 v3:∀w,(zeroValue (ρ.t 3)).run P w= .ok (Value.int IntKind.i64 0) w
 t4:P.underlying (ρ.t 4)=some (TypeDesc.bool)
 a4:∀w,(isAgg (ρ.t 4)).run P w= .ok false w
 z4:∀w,(Go.sizeOf (ρ.t 4)).run P w= .ok 1 w
 v4:∀w,(zeroValue (ρ.t 4)).run P w= .ok (Value.bool false) w
 z9:∀w,(Go.sizeOf (ρ.t 9)).run P w= .ok 2 w
 t24:P.underlying (ρ.t 24)=some (TypeDesc.slice (ρ.t 9))
 a24:∀w,(isAgg (ρ.t 24)).run P w= .ok false w
 z24:∀w,(Go.sizeOf (ρ.t 24)).run P w= .ok 1 w
 v24:∀w,(zeroValue (ρ.t 24)).run P w= .ok (Value.slice none 0 0) w
 i9:(P.info? (ρ.t 9)).map (fun i=>(i.zero,i.size,i.bytes))=some (some z,2,by_)
 c9:z.cells.size=2
theorem Fm0(w:World)(dT sT ty elem:TypeId)(b o dLen dCap:Nat)(a:Addr)(sLen sCap:Nat)(cs:List Value)
 (hu:P.underlying dT=some (.slice elem)) (hs:(P.info? elem).map (·.size)=some 2) (hn:cs.length=Nat.min sLen dLen*2)
 (hsrc:∀j v,cs[j]? =some v->w.cell? (a.add j)=some v) (hc:∀j,j<cs.length->(w.cell? ⟨b,o+j,none⟩).isSome=true) (hf:∀j,j<cs.length->w.frozen? ⟨b,o+j,none⟩=false) (h1:∀v∈cs,v.oneCell'=true) :
 (Builtin.copy_ #[dT,sT] ty #[.slice (some ⟨b,o,none⟩) dLen dCap,.slice (some a) sLen sCap]).run P w= .ok (goInt (Nat.min sLen dLen)) (w.setCells b o cs):=by
 have hl:=run_loadCells_list (P:=P) w a cs hsrc
 have hst:=run_storeCells_cells (P:=P) b o cs 0 w (by simpa using hc) (by simpa using hf) h1
 cases hq:P.info? elem with
 |none=>simp[hq]at hs
 |some i=>
  have hi:i.size=2:=by simpa[hq]using hs
  simp[Builtin.copy_,run_underlying hu,Builtin.lenOf,Builtin.firstCells,sizeOf,typeInfo,hq,hi,<-hn,hl,hst]
theorem Uq0(w:World){o:Oper}{a:Act}{K:Act->World->Prop}{Q:Exit->Act->World->Prop}(d s:Operand)(t t':TypeId)
 (ho:o.op= .call {callee:= .builtin .copy,args:= #[d,s],argTypes:= #[t,t']}) (v u:Value) (hd:a.eval d=v) (hs:a.eval s=u) {v':Value} {w':World}
 (hr:(Builtin.copy_ #[t,t'] o.type #[v,u]).run P w= .ok v' w') (h:K (a.put o.dst v') w'):o.wp P a w K Q:=by
 unfold Oper.wp execOp
 simp only[ho,resolve,invoke,builtin,Sem.run_bind,Sem.run_pure,Result.andThen_ok,List.map_toArray,List.map_cons,List.map_nil,hd,hs,hr]
 exact h
theorem Es0(w:World){ops:Array Oper}{rest:List Oper}{o:Oper}{a:Act}{Q:Exit->Act->World->Prop}(hgd:o.guard=none)(d s:Operand)(t t':TypeId)
 (ho:o.op= .call {callee:= .builtin .copy,args:= #[d,s],argTypes:= #[t,t']}) (v u:Value) (hd:a.eval d=v) (hs:a.eval s=u) {v':Value} {w':World}
 (hr:(Builtin.copy_ #[t,t'] o.type #[v,u]).run P w= .ok v' w') (h:wpList P ops Q rest (a.put o.dst v') w'):wpList P ops Q (o::rest) a w:=
 wpList_plain hgd fun _ hK=>Uq0 w d s t t' ho v u hd hs hr (hK _ _ h)
theorem Ig0{ops:Array Oper}{o:Oper}{a:Act}{w:World}{K:Act->World->Prop}{Q:Exit->Act->World->Prop}{E:Prop}
 (hg:o.guard=none) (d x:Operand) (dT sT:TypeId) (hop:o.op=Op.call {callee:=Callee.builtin Builtin.copy,args:= #[d,x],argTypes:= #[dT,sT]})
 (v u:Value) (hd:a.eval d=v) (hx:a.eval x=u) {v':Value} {w':World} (hr:(Builtin.copy_ #[dT,sT] o.type #[v,u]).run P w= .ok v' w') (hK:K (a.put o.dst v') w') :
 if Region.wanted o (yielded ops a.tmps)=true then Oper.wp P o a w K Q else E:=by
 have hw:Region.wanted o (yielded ops a.tmps)=true:=by simp[Region.wanted,hg]
 rw[if_pos hw]
 unfold Oper.wp
 simp[execOp,hop,resolve,invoke,builtin,hd,hx,hr,Result.andThen]
 exact hK
theorem Gy0(b:Nat)(vs:List Value)(o:Nat)(w:World)(h:∀j,j<vs.length->(w.cell? ⟨b,o+j,none⟩).isSome=true)(k:Nat)(hk:(w.cell? ⟨b,k,none⟩).isSome=true):((w.setCells b o vs).cell? ⟨b,k,none⟩).isSome=true:=by
 by_cases hin:o<=k/\k<o+vs.length
 ·have:=World.cell?_setCells_in b vs o w h (k-o) (by omega)
  rw[show o+(k-o)=k by omega]at this
  rw[this];rfl
 ·rw[World.cell?_setCells_out b vs o w ⟨b,k,none⟩ (fun _ _=>by show k<o\/o+vs.length<=k;omega)]
  exact hk
set_option maxHeartbeats 4000000 in
set_option maxRecDepth 100000 in
theorem Ib1{z:Value}{by_:Nat}(L:InsL P ρ z by_)(b off n c i vb voff m vc:Nat)(cs vs:List Value)(w:World)(hi:i<n)(hm:0<m)(hroom:n+m<=c)(hc63:c<=9223372036854775807)(hvb:vb≠b)
 (hcl:cs.length=n*2) (hvl:vs.length=m*2)
 (hcs:∀j v,cs[j]? =some v->w.cell? ⟨b,off+j,none⟩=some v) (hsp:∀j,j<(n+m)*2->(w.cell? ⟨b,off+j,none⟩).isSome=true) (hfz:∀j,j<(n+m)*2->w.frozen? ⟨b,off+j,none⟩=false)
 (hvs:∀j v,vs[j]? =some v->w.cell? ⟨vb,voff+j,none⟩=some v) (h1c:∀v∈cs,v.oneCell'=true) (h1v:∀v∈vs,v.oneCell'=true)
 (tA tB:TypeId) (kA kB:Nat) (hsa:w.shape? vb=some (tA,kA)) (hsb:w.shape? b=some (tB,kB)) (hkB:kB≠0) (hfa:w.frozen? ⟨vb,voff,none⟩=false) (hfe:w.frozen? ⟨vb,kA,none⟩=false) :
 Calls P (ρ.f 22) #[.slice (some ⟨b,off,none⟩) n c,.int .i64 i,.slice (some ⟨vb,voff,none⟩) m vc] w fun e w'=>
  e= .returned (.slice (some ⟨b,off,none⟩) (n+m) c)/\w'=(w.drew.setCells b (off+(i+m)*2) (cs.drop (i*2))).setCells b (off+i*2) vs:=by
 have t0:=L.t0;have a0:=L.a0;have z0:=L.z0;have v0:=L.v0;have t3:=L.t3;have a3:=L.a3;have z3:=L.z3;have v3:=L.v3;have t4:=L.t4;have a4:=L.a4;have z4:=L.z4;have v4:=L.v4;have z9:=L.z9;have t24:=L.t24;have a24:=L.a24;have z24:=L.z24;have v24:=L.v24
 have u0:=run_underlying L.t0;have u3:=run_underlying L.t3;have u4:=run_underlying L.t4;have u24:=run_underlying L.t24
 have hz1:¬((m:Int)=0):=by omega
 have hz2:¬((i:Int)=(n:Int)):=by omega
 have hsz:(P.info? (ρ.t 9)).map (·.size)=some 2:=by
  obtain⟨i0,hi0,h0,h1,h2⟩:=info_parts L.i9
  rw[hi0];simp[h1]
 have hov:∀lb cb,(callFunc (ρ.f 29) #[.slice (some ⟨vb,voff,none⟩) m vc,.slice (some ⟨b,off+(i+m)*2,none⟩) lb cb]).run P w= .ok (.value (.bool false)) w:=fun lb cb=>by
  obtain⟨fn,F29,n1,n2,n3,n4⟩:=L.f29
  rw[run_callFunc_extern F29 n1 n2 n3 n4,
   Lib.run_overlaps_apart w (ρ.t 24) (ρ.t 4) (ρ.t 9) L.t24 2 L.z9 ⟨vb,voff,none⟩ ⟨b,off+(i+m)*2,none⟩ m vc lb cb hvb tA tB kA kB hsa hsb hkB hfa hfe]
  rfl
 have hdl:(cs.drop (i*2)).length=(n-i)*2:=by rw[List.length_drop,hcl];omega
 have mixed:=L.mixed
 have hw1:IntKind.i64.wrap ((i:Int)+(m:Int))=(i:Int)+(m:Int):=by rw[IntKind.wrap_i64];omega
 have hb1:(0:Int)<=(i:Int)+(m:Int):=by omega
 have hin:i<=n:=by omega
 have htn:((i:Int)+(m:Int)).toNat=i+m:=by omega
 have hb2:¬(c=i+m):=by omega
 have hb3:(i:Int)<=(n:Int)+(m:Int):=by omega
 have hb4:¬(c=i):=by omega
 have hcp1:∀ty dc sc,(Builtin.copy_ #[(ρ.t 24),(ρ.t 24)] ty #[.slice (some ⟨b,off+(i+m)*2,none⟩) (n+m-(i+m)) dc,.slice (some ⟨b,off+i*2,none⟩) (n+m-i) sc]).run P w.drew= .ok (goInt (Nat.min (n+m-i) (n+m-(i+m)))) (w.drew.setCells b (off+(i+m)*2) (cs.drop (i*2))):=fun ty dc sc=>
  Fm0 w.drew _ _ ty (ρ.t 9) b (off+(i+m)*2) (n+m-(i+m)) dc ⟨b,off+i*2,none⟩ (n+m-i) sc (cs.drop (i*2)) L.t24 hsz (by rw[hdl];simp only[Nat.min_def];split<;>omega)
   (fun j v hj=>by rw[Addr.add_lit,Nat.add_assoc];exact hcs (i*2+j) v (by rwa [List.getElem?_drop]at hj))
   (fun j hj=>by rw[Nat.add_assoc];exact hsp _ (by omega)) (fun j hj=>by rw[Nat.add_assoc];exact hfz _ (by omega)) (fun v hv=>h1c v (List.mem_of_mem_drop hv))
 obtain⟨W1,hW1⟩:∃W1,W1=w.drew.setCells b (off+(i+m)*2) (cs.drop (i*2)):=⟨_,rfl⟩
 have hsp1:∀k,k<(n+m)*2->(W1.cell? ⟨b,off+k,none⟩).isSome=true:=fun k hk=>by
  rw[hW1]
  exact Gy0 b _ _ _ (fun j hj=>by rw[Nat.add_assoc];exact hsp _ (by omega)) _ (hsp k hk)
 have hcp2:∀(W:World),(∀x,W.cell? x=W1.cell? x)->(∀x,W.frozen? x=W1.frozen? x)->∀ty dc,(Builtin.copy_ #[(ρ.t 24),(ρ.t 24)] ty #[.slice (some ⟨b,off+i*2,none⟩) (n+m-i) dc,.slice (some ⟨vb,voff,none⟩) m vc]).run P W= .ok (goInt (Nat.min m (n+m-i))) (W.setCells b (off+i*2) vs):=fun W hWc hWf ty dc=>
  Fm0 W _ _ ty (ρ.t 9) b (off+i*2) (n+m-i) dc ⟨vb,voff,none⟩ m vc vs L.t24 hsz (by rw[hvl];simp only[Nat.min_def];split<;>omega)
   (fun j v hj=>by
    rw[Addr.add_lit,hWc,hW1,World.cell?_setCells_out b _ _ _ _ (fun h _=>absurd h hvb)]
    exact hvs j v hj)
   (fun j hj=>by rw[hWc,Nat.add_assoc];exact hsp1 _ (by omega)) (fun j hj=>by rw[hWf,hW1,World.frozen?_setCells,Nat.add_assoc];exact hfz _ (by omega)) h1v
 rw[<-hW1]at hcp1
 obtain⟨_,_,F22⟩:=L.f22
 go_enter F22,Body2.n22_ntmps ρ
 go_wp2_with (simp only[hov])
 go_region_law_o (refine Ig0 rfl _ _ (ρ.t 24) (ρ.t 24) rfl _ _ (by simp[Act.eval,Act.put]) (by simp[Act.eval,Act.put]) (hcp1 _ _ _) ?_)
 go_wp2_with (at_builtin;refine Es0 _ rfl _ _ (ρ.t 24) (ρ.t 24) rfl _ _ rfl rfl (hcp2 _ (fun _=>rfl) (fun _=>rfl) _ _) ?_)
 go_ret
 first|exact⟨rfl,rfl⟩|exact⟨rfl,by rw[hW1]⟩
set_option maxHeartbeats 4000000 in
set_option maxRecDepth 100000 in
theorem Ic1{z:Value}{by_:Nat}(L:InsL P ρ z by_)(base:Option Addr)(n c vb voff m vc:Nat)(w:World)(hm:0<m)(hnc:n<=c)(hc63:c<=9223372036854775807)(hnil:base=none->n=0/\c=0)(hlit:∀a,base=some a->a.spot=none)
 {v':Value} {w':World} (hrun:∀ty,(Builtin.append_ #[(ρ.t 24),(ρ.t 24)] ty #[.slice base n c,.slice (some ⟨vb,voff,none⟩) m vc]).run P w= .ok v' w') :
 Calls P (ρ.f 22) #[.slice base n c,.int .i64 n,.slice (some ⟨vb,voff,none⟩) m vc] w fun e x=>e= .returned v'/\x=w':=by
 have t0:=L.t0;have a0:=L.a0;have z0:=L.z0;have v0:=L.v0;have t3:=L.t3;have a3:=L.a3;have z3:=L.z3;have v3:=L.v3;have t4:=L.t4;have a4:=L.a4;have z4:=L.z4;have v4:=L.v4;have z9:=L.z9;have t24:=L.t24;have a24:=L.a24;have z24:=L.z24;have v24:=L.v24
 have u0:=run_underlying L.t0;have u3:=run_underlying L.t3;have u4:=run_underlying L.t4;have u24:=run_underlying L.t24
 have mixed:=L.mixed
 have hz1:¬((m:Int)=0):=by omega
 obtain⟨_,_,F22⟩:=L.f22
 go_enter F22,Body2.n22_ntmps ρ
 cases base with
 |none=>
  have h0:=(hnil rfl).1
  have h0':=(hnil rfl).2
  subst h0;subst h0'
  go_wp2_with (at_builtin;refine Lib.wpList_append_run _ rfl _ _ _ _ rfl _ _ rfl rfl _ _ (hrun _) ?_)
  go_ret
  exact⟨rfl,rfl⟩
 |some a=>
  obtain⟨ab,ao,asp⟩:=a
  have:=hlit _ rfl
  simp only at this
  subst this
  go_wp2_with (at_builtin;refine Lib.wpList_append_run _ rfl _ _ _ _ rfl _ _ rfl rfl _ _ (hrun _) ?_)
  all_goals (go_ret;exact⟨rfl,rfl⟩)
set_option maxHeartbeats 4000000 in
set_option maxRecDepth 100000 in
theorem Mo1{z:Value}{by_:Nat}(L:InsL P ρ z by_)(b off n c i vb voff m vc:Nat)(cs vs:List Value)(w:World)(hi:i<n)(hm:0<m)(hnc:n<=c)(hroom:c<n+m)(hbig:(n+m)*by_<=140737488355328)(hbp:0<by_)
 (hcl:cs.length=n*2) (hvl:vs.length=m*2)
 (hcs:∀j v,cs[j]? =some v->w.cell? ⟨b,off+j,none⟩=some v)
 (hvs:∀j v,vs[j]? =some v->w.cell? ⟨vb,voff+j,none⟩=some v) (h1c:∀v∈cs,v.oneCell'=true) (h1v:∀v∈vs,v.oneCell'=true) :
 Calls P (ρ.f 22) #[.slice (some ⟨b,off,none⟩) n c,.int .i64 i,.slice (some ⟨vb,voff,none⟩) m vc] w fun e w'=>
  e= .returned (.slice (some ⟨w.heap.size,0,none⟩) (n+m) (grownCap w (n+m) c (ρ.t 9))) /\
  w'=(((w.alloc (.cells ((cs.take (i*2)).toArray++Builtin.zeroCells z.cells (n+m-i)++Builtin.zeroCells z.cells (grownCap w (n+m) c (ρ.t 9)-(n+m))) (ρ.t 9))).drew.setCells w.heap.size (i*2) vs).drew).setCells w.heap.size ((i+m)*2) (cs.drop (i*2)):=by
 have t0:=L.t0;have a0:=L.a0;have z0:=L.z0;have v0:=L.v0;have t3:=L.t3;have a3:=L.a3;have z3:=L.z3;have v3:=L.v3;have t4:=L.t4;have a4:=L.a4;have z4:=L.z4;have v4:=L.v4;have z9:=L.z9;have t24:=L.t24;have a24:=L.a24;have z24:=L.z24;have v24:=L.v24
 have u0:=run_underlying L.t0;have u3:=run_underlying L.t3;have u4:=run_underlying L.t4;have u24:=run_underlying L.t24
 have mixed:=L.mixed
 obtain⟨i0,hi0,hz0,hzs,hzb⟩:=info_parts L.i9
 have hnm:n+m<=140737488355328:=Nat.le_trans (Nat.le_mul_of_pos_right _ hbp) hbig
 have hz1:¬((m:Int)=0):=by omega
 have hz2:¬((i:Int)=(n:Int)):=by omega
 have hz3:(c:Int)<(n:Int)+(m:Int):=by omega
 have hsz:(P.info? (ρ.t 9)).map (·.size)=some 2:=by rw[hi0];simp[hzs]
 have hbw:b<w.heap.size:=block_lt_of_cell (hcs 0 _ (List.getElem?_eq_getElem (by omega)))
 have hvw:vb<w.heap.size:=block_lt_of_cell (hvs 0 _ (List.getElem?_eq_getElem (by omega)))
 have hkk:(n:Int)+(m:Int)-(i:Int)=((n+m-i:Nat):Int):=by omega
 have hik:i+(n+m-i)=n+m:=by omega
 have htl:(cs.take (i*2)).length=i*2:=by rw[List.length_take,hcl];omega
 have hold:(Builtin.firstCells i0.size i (.slice (some ⟨b,off,none⟩) i c)).run P w.drew= .ok (cs.take (i*2)).toArray w.drew:=by
  rw[hzs]
  exact run_firstCells_some w.drew 2 i ⟨b,off,none⟩ i c (cs.take (i*2)) htl (fun j v hj=>by
   rw[Addr.add_lit]
   rw[List.getElem?_take]at hj
   split at hj
   ·exact hcs j v hj
   ·cases hj)
 have hrz:∀ty,(Builtin.append_ #[(ρ.t 24),(ρ.t 3)] ty #[.slice (some ⟨b,off,none⟩) i c,.int .i64 ((n:Int)+(m:Int)-(i:Int))]).run P w=
  .ok (.slice (some ⟨w.heap.size,0,none⟩) (n+m) (grownCap w (n+m) c (ρ.t 9))) (w.drew.alloc (.cells ((cs.take (i*2)).toArray++Builtin.zeroCells z.cells (n+m-i)++Builtin.zeroCells z.cells (grownCap w (n+m) c (ρ.t 9)-(n+m))) (ρ.t 9))):=fun ty=>by
  have hkb:(n+m-i)*i0.bytes<=281474976710656:=by
   rw[hzb]
   exact Nat.le_trans (Nat.mul_le_mul_right by_ (by omega:n+m-i<=n+m)) (by omega)
  have h:=Lib.run_append_grow_zeros w (ρ.t 24) (ρ.t 3) ty (ρ.t 9) i0 _ .i64 .i64 L.t24 L.t3 hi0 hz0 (some ⟨b,off,none⟩) i c (cs.take (i*2)) hold (n+m-i) (by omega) (by omega) (by omega) (by omega) hkb (by rw[hzb,hik];exact growslice_fits hroom hbig)
  rw[hik]at h
  rw[hkk]
  exact h
 obtain⟨G,hG⟩:∃G,G=grownCap w (n+m) c (ρ.t 9):=⟨_,rfl⟩
 obtain⟨ROW,hROW⟩:∃ROW:Array Value,ROW=(cs.take (i*2)).toArray++Builtin.zeroCells z.cells (n+m-i)++Builtin.zeroCells z.cells (G-(n+m)):=⟨_,rfl⟩
 rw[<-hG]at hrz⊢
 rw[<-hROW]at hrz⊢
 have hzc:∀(k:Nat),(Builtin.zeroCells z.cells k).size=k*2:=fun k=>by simp[Builtin.zeroCells,L.c9]
 have hRl:(n+m)*2<=ROW.size:=by
  rw[hROW]
  simp only[Array.size_append,hzc,List.size_toArray,htl]
  omega
 obtain⟨W1,hW1⟩:∃W1,W1=w.drew.alloc (.cells ROW (ρ.t 9)):=⟨_,rfl⟩
 rw[<-hW1]at hrz
 have hN:∀j,j<(n+m)*2->(W1.cell? ⟨w.heap.size,j,none⟩).isSome=true:=fun j hj=>by
  rw[hW1,World.cell?_alloc_at (w:=w.drew) ROW _ w.heap.size j rfl,Array.getElem?_eq_getElem (by omega)];rfl
 have hNf:∀j,W1.frozen? ⟨w.heap.size,j,none⟩=false:=fun j=>by rw[hW1];exact World.frozen?_alloc_at (w:=w.drew) ROW _ w.heap.size j rfl
 have hOb:∀j v,w.cell? ⟨b,j,none⟩=some v->W1.cell? ⟨b,j,none⟩=some v:=fun j v h=>by rw[hW1,World.cell?_alloc_past (w:=w.drew) _ b j hbw];exact h
 have hOv:∀j v,w.cell? ⟨vb,j,none⟩=some v->W1.cell? ⟨vb,j,none⟩=some v:=fun j v h=>by rw[hW1,World.cell?_alloc_past (w:=w.drew) _ vb j hvw];exact h
 have hcpA:∀(W:World),(∀x,W.cell? x=W1.cell? x)->(∀x,W.frozen? x=W1.frozen? x)->∀ty dc,(Builtin.copy_ #[(ρ.t 24),(ρ.t 24)] ty #[.slice (some ⟨w.heap.size,i*2,none⟩) (n+m-i) dc,.slice (some ⟨vb,voff,none⟩) m vc]).run P W= .ok (goInt (Nat.min m (n+m-i))) (W.setCells w.heap.size (i*2) vs):=fun W hWc hWf ty dc=>
  Fm0 W _ _ ty (ρ.t 9) w.heap.size (i*2) (n+m-i) dc ⟨vb,voff,none⟩ m vc vs L.t24 hsz (by rw[hvl];simp only[Nat.min_def];split<;>omega)
   (fun j v hj=>by rw[Addr.add_lit,hWc];exact hOv _ v (hvs j v hj))
   (fun j hj=>by rw[hWc];exact hN _ (by omega)) (fun j hj=>by rw[hWf];exact hNf _) h1v
 have hGn:n+m<=G:=by rw[hG];exact grownCap_ge w _ _ _
 have hG63:G<=9223372036854775807:=by
  have:=grownCap_le_maxLen w (n+m) c (ρ.t 9) (by unfold maxLen;omega)
  rw[<-hG]at this
  unfold maxLen at this
  omega
 have hGi:¬(G=i):=by omega
 have hGim:¬(G=i+m):=by omega
 have hci:¬(c=i):=by omega
 have hbN:b≠w.heap.size:=by omega
 have hdl:(cs.drop (i*2)).length=(n-i)*2:=by rw[List.length_drop,hcl];omega
 have hcpB:∀(W:World),(∀x,W.cell? x=(W1.setCells w.heap.size (i*2) vs).cell? x)->(∀x,W.frozen? x=(W1.setCells w.heap.size (i*2) vs).frozen? x)->∀ty dc sc,(Builtin.copy_ #[(ρ.t 24),(ρ.t 24)] ty #[.slice (some ⟨w.heap.size,(i+m)*2,none⟩) (n+m-(i+m)) dc,.slice (some ⟨b,off+i*2,none⟩) (n-i) sc]).run P W= .ok (goInt (Nat.min (n-i) (n+m-(i+m)))) (W.setCells w.heap.size ((i+m)*2) (cs.drop (i*2))):=fun W hWc hWf ty dc sc=>
  Fm0 W _ _ ty (ρ.t 9) w.heap.size ((i+m)*2) (n+m-(i+m)) dc ⟨b,off+i*2,none⟩ (n-i) sc (cs.drop (i*2)) L.t24 hsz (by rw[hdl];simp only[Nat.min_def];split<;>omega)
   (fun j v hj=>by
    rw[Addr.add_lit,hWc,World.cell?_setCells_out _ _ _ _ _ (fun h _=>absurd h hbN),Nat.add_assoc]
    exact hOb _ v (hcs (i*2+j) v (by rwa [List.getElem?_drop]at hj)))
   (fun j hj=>by rw[hWc];exact Gy0 _ _ _ _ (fun t ht=>hN _ (by omega)) _ (hN _ (by omega)))
   (fun j hj=>by rw[hWf,World.frozen?_setCells];exact hNf _) (fun v hv=>h1c v (List.mem_of_mem_drop hv))
 subst hW1
 have hE1:∀x,((w.alloc (.cells ROW (ρ.t 9))).drew).cell? x=(w.drew.alloc (.cells ROW (ρ.t 9))).cell? x:=fun x=>rfl
 have hE2:∀x,((w.alloc (.cells ROW (ρ.t 9))).drew).frozen? x=(w.drew.alloc (.cells ROW (ρ.t 9))).frozen? x:=fun x=>rfl
 have hF1:∀x,(((w.alloc (.cells ROW (ρ.t 9))).drew.setCells w.heap.size (i*2) vs).drew).cell? x=((w.drew.alloc (.cells ROW (ρ.t 9))).setCells w.heap.size (i*2) vs).cell? x:=fun x=>rfl
 have hF2:∀x,(((w.alloc (.cells ROW (ρ.t 9))).drew.setCells w.heap.size (i*2) vs).drew).frozen? x=((w.drew.alloc (.cells ROW (ρ.t 9))).setCells w.heap.size (i*2) vs).frozen? x:=fun x=>rfl
 have hw1:IntKind.i64.wrap ((i:Int)+(m:Int))=(i:Int)+(m:Int):=by rw[IntKind.wrap_i64];omega
 have hb1:(0:Int)<=(i:Int)+(m:Int):=by omega
 have hin:i<=n:=by omega
 have htn:((i:Int)+(m:Int)).toNat=i+m:=by omega
 have hb3:(i:Int)<=(n:Int):=by omega
 clear hkk hik hold hROW hG hRl
 obtain⟨_,_,F22⟩:=L.f22
 go_enter F22,Body2.n22_ntmps ρ
 go_wp2_with (first
  |(at_builtin;refine Lib.wpList_append_run _ rfl _ _ _ _ rfl _ _ rfl rfl _ _ (hrz _) ?_)
  |(at_builtin;refine Es0 _ rfl _ _ (ρ.t 24) (ρ.t 24) rfl _ _ rfl rfl (hcpA _ hE1 hE2 _ _) ?_)
  |(at_builtin;refine Es0 _ rfl _ _ (ρ.t 24) (ρ.t 24) rfl _ _ rfl rfl (hcpB _ (fun _=>rfl) (fun _=>rfl) _ _ _) ?_))
 go_region_law_o (refine Ig0 rfl _ _ (ρ.t 24) (ρ.t 24) rfl (.slice (some ⟨w.heap.size,(i+m)*2,none⟩) (n+m-(i+m)) (G-(i+m))) (.slice (some ⟨b,off+i*2,none⟩) (n-i) (c-i)) (by simp[Act.eval,Act.put]) (by simp[Act.eval,Act.put]) (hcpB _ hF1 hF2 (ρ.t 9) (G-(i+m)) (c-i)) ?_)
 go_wp2
 go_ret
 exact⟨rfl,rfl⟩
end Go.Ev
namespace Go.Ev
open Go Go.RowKit Go.Shelf
variable{P:Program}{ρ:Ren}
def insS(u:Ty)(te bytes:Nat):Summ:=fun cs look nid=>match cs with
 |[s,.int .i64 i,.whole b2]=>match look b2 with
  | .vec _ u2 ys=>if h2:u2=u then match s with
    | .nil _ _=>some ⟨decide (i=0)&&(decide (0<List.length ys)&&room (List.length ys) bytes),.whole nid,[(nid,.vec te u (h2▸ys))]⟩
    | .whole b=>if b=b2 then none else match look b with
      | .vec te' u' xs=>if h:te'=te/\u'=u then some ⟨(decide (0<=i)&&decide (i<=(List.length xs:Int)))&&(decide (0<List.length ys)&&room (List.length xs+List.length ys) bytes),.whole nid,
       [(b,.dead),(nid,.vec te u ((show List u.den from h.2▸xs).take i.toNat++((show List u.den from h2▸ys)++(show List u.den from h.2▸xs).drop i.toNat)))]⟩else none
      |_=>none
    |_=>none else none
  |_=>none
 |_=>none
theorem Dx1(u:Ty)(te bytes:Nat):Ka0 (insS u te bytes):=by
 intro cs look look' nid h
 unfold insS
 split
 ·rename_i s i b2
  have h2:look b2=look' b2:=h b2 (by simp[CV.refs])
  rw[<-h2]
  split
  ·split
   ·split
    ·rfl
    ·rename_i b
     have h1:look b=look' b:=h b (by simp[CV.refs])
     rw[<-h1]
    ·rfl
   ·rfl
  ·rfl
 ·rfl
theorem Fl0{w:World}{g:Nat}{cur:Array Value}{t:TypeId}(hg:w.heap[g]? =some (.cells cur t (0,0))){o:Nat}{vs:List Value}(hl:o+vs.length<=cur.size)(h1:∀v∈vs,v.oneCell'=true) :
 w.setCells g o vs=w.setRow g (cur.toList.take o++vs++cur.toList.drop (o+vs.length)).toArray:=by
 have P0:Program:=default
 have e1:=run_storeCells_at P0 g o t vs 0 cur w hg (by simpa using hl) h1
 have hc:∀j,j<vs.length->(w.cell? ⟨g,o+0+j,none⟩).isSome=true:=fun j hj=>by
  have:o+j<cur.size:=by omega
  simp[World.cell?,hg,this]
 have hf:∀j,j<vs.length->w.frozen? ⟨g,o+0+j,none⟩=false:=fun j hj=>by simp[World.frozen?,hg]
 have e2:=run_storeCells_cells (P:=P0) g o vs 0 w hc hf h1
 rw[e1]at e2
 injection e2 with _ e2
 simpa using e2.symm
theorem Ag1{α:Type}(a b X c:List α)(h:X.take c.length=c):(a++b++X).take (a++(b++c)).length=a++(b++c):=by
 have e:(a++(b++c)).length=(a++b).length+c.length:=by simp only[List.length_append];omega
 rw[e,List.take_append,List.take_of_length_le (Nat.le_add_right _ _),Nat.add_sub_cancel_left,h,List.append_assoc]
set_option maxHeartbeats 2000000 in
theorem Wk1{f te:Nat}{u:Ty}{bytes:Nat}{z:Value}(L:InsL P ρ z bytes)(hte:ρ.t 9=te)(hf0:ρ.f 22=f)(hcb:Bq0 P f=true)(hu2:u.size=2)(hbp:0<bytes):Ag0 P f (insS u te bytes):=by
 subst hte;subst hf0
 refine⟨hcb,Dx1 _ _ _,?_⟩
 intro base E hp cs vs nid out H hvs hs hok hf hn
 obtain⟨i0,hi0,hz0,hzs,hzb⟩:=info_parts L.i9
 have hpos:0<u.size:=by omega
 have hcz:z.cells.size=u.size:=by rw[hu2];exact L.c9
 have his:i0.size=u.size:=by rw[hu2];exact hzs
 have fin:∀(v':Value)(w':World)(hp1:List Blk)(xs:List u.den)(cells:List Value),HS base E hp1->Ae0 hp1 nid= .fresh->nid<=hp1.length->w'.ownsRow base (ρ.t 9) u.size v' (List.length xs) cells->Rows (RepD E.w E.R u) xs cells->Below base E.w w'->
  (∀g,E.I g->w'.heap[g]? =E.w.heap[g]?)->(∀b g,An0 E b (Ae0 hp1 b) g->w'.heap[g]? =E.w.heap[g]?)->(∀g,v'.ownBlock=some g->¬E.I g/\∀b,¬An0 E b (Ae0 hp1 b) g) ->
  Bg0 hp out.wr=setH hp1 nid (.vec (ρ.t 9) u xs)->out.v= .whole nid->∃v E',Ending.returned v'= .returned v/\E'.w=w'/\E.le base E'/\HS base E' (Bg0 hp out.wr)/\VRep E' out.v v:=by
  intro v' w' hp1 xs cells H1 hf1 hn1 hown hr hbel hI hk hv hwr hov
  obtain⟨hle,H2⟩:=H1.newVec hf1 hn1 hbel hI hk (Rows.mono (fun x c=>RepD.mono (fun _ h=>h) (fun g hg=>hI g hg.1) u x c) _ _ hr) hown hpos hv
  refine⟨v',_,rfl,rfl,hle,by rw[hwr];exact H2,?_⟩
  rw[hov]
  refine Bo0.2 ⟨.inr rfl,?_,?_⟩
  ·show v'=upd E.σ nid v' nid;rw[upd_same]
  ·show ∃a n c,upd E.σ nid v' nid=_
   rw[upd_same]
   rcases hown.2 with⟨h,_⟩|⟨g,cap,cur,h,_⟩
   ·exact⟨_,_,_,h⟩
   ·exact⟨_,_,_,h⟩
 unfold insS at hs
 split at hs
 ·rename_i s i b2
  split at hs
  ·rename_i te2 u2 ys hlk2
   split at hs
   ·rename_i h2
    subst h2
    match vs,hvs with
    |[v1,v2,v3],⟨r1,r2,r3,_⟩ =>
    have ev2:=(Ak0.1 r2).1
    subst ev2
    have hsr:SrcRep E u2 ys v3:=Gh0 (look:=Ae0 hp) H.blk (e:=u2) (c:= .whole b2) (x:=ys) (by simp[toPH,hlk2]) rfl r3
    obtain⟨hlb2,hv3,_⟩:=Bo0.1 r3
    have hbk2:=H.blk b2
    rw[hlk2]at hbk2
    obtain⟨cells2,hrw2,hown2,_,hgμ2⟩:=hbk2
    have h3:0<List.length ys->∃g2 cap2 cur2,v3= .slice (some ⟨g2,0,none⟩) (List.length ys) cap2/\E.w.heap[g2]? =some (.cells cur2 te2 (0,0))/\cellsAt E.w g2 0 cells2/\cells2.length=List.length ys*2:=by
     intro h0
     rcases hown2.2 with⟨_,h⟩|⟨g2,cap2,cur2,hv2,hbg2,hh2,hnc2,hcm2,hcs2,htk2⟩
     ·omega
     ·rw[hv2]at hown2
      exact⟨g2,cap2,cur2,hv3.trans hv2,hh2,Gj0 hown2,by rw[hown2.1,hu2]⟩
    split at hs
    ·
     simp at hs;subst hs
     simp only[Bool.and_eq_true,decide_eq_true_eq]at hok
     obtain⟨rfl,h0,hroom⟩:=hok
     have hroom:=Fb0 hroom
     have hv1:=Jz0.1 r1
     obtain⟨g2,cap2,cur2,e3,hh2,hc2,hl2⟩:=h3 h0
     obtain⟨v',w',rows,hrun,hown,hg,hr,hnew⟩:=Hy0 (P:=P) (base:=base) (E:=E) (ρ.t 24) 0 (ρ.t 9) L.t24 hi0 hz0 hcz his hpos (v1:=v1) (n:=0) (xs:=[]) (by rw[hv1];exact World.ownsRow_nil _ _ _ _) hsr (by rw[hzb];simpa using hroom.1) (by simpa using hroom.2) H.base
     have hnone:v1.ownBlock=none:=by rw[hv1];rfl
     rw[hnone]at hg hnew
     have hrun':∀ty,(Builtin.append_ #[(ρ.t 24),(ρ.t 24)] ty #[.slice none 0 0,.slice (some ⟨g2,0,none⟩) (List.length ys) cap2]).run P E.w= .ok v' w':=fun ty=>by
      rw[<-hv1,<-e3];exact hrun
     rw[hv1,e3]
     refine Calls.mono (Ic1 L none 0 0 g2 0 (List.length ys) cap2 E.w h0 (Nat.le_refl _) (by omega) (fun _=>⟨rfl,rfl⟩) (fun a h=>by cases h) hrun') ?_
     rintro e w1 ⟨rfl,rfl⟩
     exact fin _ _ hp ys rows H hf hn (by simpa using hown) hr (grownBy_below hg (by simp) H.base) (fun g h=>hg.block g (H.imm g h) (by simp)) (fun b g h=>hg.block g (H.held_lt h) (by simp))
      (fun g h=>by
       rcases hnew g h with rfl|h'
       ·exact⟨fun h=>Nat.lt_irrefl _ (H.imm _ h),fun b hb=>Nat.lt_irrefl _ (H.held_lt hb)⟩
       ·cases h') (by simp[Bg0]) rfl
    ·rename_i b
     split at hs
     ·cases hs
     ·rename_i hbb
      split at hs
      ·rename_i te' u' xs hlk
       split at hs
       ·rename_i hte
        obtain⟨rfl,rfl⟩:=hte
        simp at hs;subst hs
        simp only[Bool.and_eq_true,decide_eq_true_eq]at hok
        obtain⟨⟨hi1,hi2⟩,h0,hroom⟩:=hok
        have hroom:=Fb0 hroom
        obtain⟨k,rfl⟩:=Int.eq_ofNat_of_zero_le hi1
        obtain⟨g2,cap2,cur2,e3,hh2,hc2,hl2⟩:=h3 h0
        obtain⟨hlb,hv1,_⟩:=Bo0.1 r1
        have hbk:=H.blk b
        rw[hlk]at hbk
        obtain⟨cells,hrw,hown0,_,hgμ⟩:=hbk
        have hlt:=Cd0 ((H.live b).1 hlb)
        have H1:=H.die hlb
        have hne:nid≠b:=fun e=>(H.live b).1 hlb (e▸hf)
        have hlk1:∀x,Ae0 (setH hp b .dead) x=if x=b then .dead else Ae0 hp x:=Dv0 (by omega) .dead
        have hob:∀g,v1.ownBlock=some g->An0 E b (Ae0 hp b) g:=fun g h=>by rw[hlk];show(E.σ b).ownBlock=some g;rw[<-hv1];exact h
        have hother:∀x g,An0 E x (Ae0 (setH hp b .dead) x) g->some g≠v1.ownBlock:=by
         intro x g hx he
         rw[hlk1]at hx
         split at hx
         ·exact hx.elim
         ·rename_i hxb
          exact hxb (H.inj x b g hx (hob g he.symm))
        have hf1:Ae0 (setH hp b .dead) nid= .fresh:=by rw[hlk1,if_neg hne];exact hf
        have hn1:nid<=(setH hp b .dead).length:=by unfold setH;rw[if_pos hlt];simpa using hn
        have hkn:k<=List.length xs:=by simpa using hi2
        have hwr:∀zs:List u'.den,Bg0 hp [(b,.dead),(nid,.vec (ρ.t 9) u' zs)]=setH (setH hp b .dead) nid (.vec (ρ.t 9) u' zs):=fun zs=>by simp[Bg0]
        have fin2:∀(v':Value)(w':World)(news:List Value),w'.ownsRow base (ρ.t 9) u'.size v' (List.length xs+List.length ys) news->E.w.grownBy w' v1.ownBlock->Rows (RepD E.w E.R u') (xs.take k++(ys++xs.drop k)) news->(∀g,v'.ownBlock=some g->g=E.w.heap.size\/v1.ownBlock=some g) ->
         ∃v E',Ending.returned v'= .returned v/\E'.w=w'/\E.le base E'/\HS base E' (Bg0 hp [(b,.dead),(nid,.vec (ρ.t 9) u' (xs.take k++(ys++xs.drop k)))])/\VRep E' (.whole nid) v:=by
         intro v' w' news hown hg hr hnew
         have hlen:List.length (xs.take k++(ys++xs.drop k))=List.length xs+List.length ys:=by
          simp only[List.length_append,List.length_take,List.length_drop];omega
         exact fin v' w' (setH hp b .dead) _ news H1 hf1 hn1 (by rw[hlen];exact hown) hr (grownBy_below hg (fun k hk=>(H.sep b k (hob k hk)).2) H.base)
          (fun g h=>hg.block g (H.imm g h) (fun e=>(H.sep b g (hob g e.symm)).1 h)) (fun x g h=>hg.block g (H1.held_lt h) (hother x g h))
          (fun g h=>by
           rcases hnew g h with rfl|h'
           ·exact⟨fun h=>Nat.lt_irrefl _ (H.imm _ h),fun b hb=>Nat.lt_irrefl _ (H1.held_lt hb)⟩
           ·exact⟨(H.sep b g (hob g h')).1,fun x hx=>hother x g hx h'.symm⟩) (hwr _) rfl
        by_cases hke:k=List.length xs
        ·
         subst hke
         obtain⟨v',w',rows,hrun,hown,hg,hr,hnew⟩:=Hy0 (P:=P) (base:=base) (E:=E) (ρ.t 24) 0 (ρ.t 9) L.t24 hi0 hz0 hcz his hpos (v1:=v1) (n:=List.length xs) (xs:=cells) (by rw[hv1];exact hown0) hsr (by rw[hzb];exact hroom.1) hroom.2 H.base
         have hrr:Rows (RepD E.w E.R u') (xs.take (List.length xs)++(ys++xs.drop (List.length xs))) (cells++rows):=by
          rw[List.take_length,List.drop_length,List.append_nil]
          exact Rows.app _ _ _ _ hrw hr
         have hcase:∃ad cap,v1= .slice ad (List.length xs) cap/\List.length xs<=cap/\cap<=9223372036854775807/\(ad=none->List.length xs=0/\cap=0)/\(∀a,ad=some a->a.spot=none):=by
          rcases hown0.2 with⟨h,hn0⟩|⟨g,cap,cur,h,hbg,hh,hnc,hcm,hcs,htk⟩
          ·exact⟨none,0,by rw[hv1,h,hn0],(by omega),(by omega),(fun _=>⟨hn0,rfl⟩),(fun a h=>by cases h)⟩
          ·exact⟨some ⟨g,0,none⟩,cap,by rw[hv1,h],hnc,(by simpa[maxLen]using hcm),(fun h=>by cases h),(fun a h=>by cases h;rfl)⟩
         obtain⟨ad,cap,ev1,q1,q2,q3,q4⟩:=hcase
         have hrun':∀ty,(Builtin.append_ #[(ρ.t 24),(ρ.t 24)] ty #[.slice ad (List.length xs) cap,.slice (some ⟨g2,0,none⟩) (List.length ys) cap2]).run P E.w= .ok v' w':=fun ty=>by
          rw[<-ev1,<-e3];exact hrun
         rw[e3,show v1=_ from ev1]
         refine Calls.mono (Ic1 L ad (List.length xs) cap g2 0 (List.length ys) cap2 E.w h0 q1 q2 q3 q4 hrun') ?_
         rintro e w1 ⟨rfl,rfl⟩
         exact fin2 _ _ _ hown hg hrr hnew
        ·have hk:k<List.length xs:=by omega
         rcases hown0.2 with⟨h,hn0⟩|⟨g,cap,cur,hσ,hbg,hh,hnc,hcm,hcs,htk⟩
         ·omega
         ·have ev1:v1= .slice (some ⟨g,0,none⟩) (List.length xs) cap:=by rw[hv1,hσ]
          have hgg:g2≠g:=by
           intro e
           subst e
           refine hbb (H.inj b b2 g2 (hob g2 (by rw[ev1];rfl)) ?_)
           rw[hlk2]
           show(E.σ b2).ownBlock=some g2
           rw[<-hv3,e3];rfl
          have hown1:E.w.ownsRow base (ρ.t 9) u'.size (.slice (some ⟨g,0,none⟩) (List.length xs) cap) (List.length xs) cells:=by rw[<-hσ];exact hown0
          have hcl:cells.length=List.length xs*2:=by rw[hown0.1,hu2]
          have h1c:=Rows.one _ _ hrw
          have h1v:=Rows.one _ _ hrw2
          obtain⟨c1,c2,ec,hc1l,hrt,hrd⟩:=Rows.split (fun x c=>RepD.len u' x c) k xs cells hrw (by omega)
          rw[hu2]at hc1l
          have et:cells.take (k*2)=c1:=by rw[ec,<-hc1l];exact List.take_left
          have ed:cells.drop (k*2)=c2:=by rw[ec,<-hc1l];exact List.drop_left
          have hc2l:c2.length=(List.length xs-k)*2:=by rw[<-ed,List.length_drop,hcl];omega
          have hrr:Rows (RepD E.w E.R u') (xs.take k++(ys++xs.drop k)) (c1++(cells2++c2)):=Rows.app _ _ _ _ hrt (Rows.app _ _ _ _ hrw2 hrd)
          have hcur:cur.toList=cells++cur.toList.drop (List.length xs*2):=by
           have:=List.take_append_drop (List.length xs*2) cur.toList
           rw[hu2]at htk
           rw[htk]at this
           exact this.symm
          rw[hu2]at hcs
          have hnl:(c1++(cells2++c2)).length=(List.length xs+List.length ys)*2:=by
           simp only[List.length_append,hc1l,hl2,hc2l];omega
          have h1c1:∀v∈c2,v.oneCell'=true:=fun v hv=>h1c v (by rw[ec];exact List.mem_append.2 (.inr hv))
          rw[e3,show v1=_ from ev1]
          by_cases hro:List.length xs+List.length ys<=cap
          ·
           refine Calls.mono (Ib1 L g 0 (List.length xs) cap k g2 0 (List.length ys) cap2 cells cells2 E.w hk h0 hro (by simpa[maxLen]using hcm) hgg hcl hl2 (Gj0 hown1) (fun j hj=>by
            have:j<cur.size:=by omega
            simp[World.cell?,hh,this]) (fun j hj=>by simp[World.frozen?,hh]) hc2 h1c h1v te2 (ρ.t 9) cur2.size cur.size (by simp[World.shape?,hh2]) (by simp[World.shape?,hh]) (by omega) (by simp[World.frozen?,hh2]) (by simp[World.frozen?,hh2])) ?_
           rintro e w1 ⟨rfl,rfl⟩
           have hhd:E.w.drew.heap[g]? =some (.cells cur (ρ.t 9) (0,0)):=hh
           rw[ed,Fl0 hhd (by rw[hc2l];omega) h1c1]
           have hsz1:(cur.toList.take (0+(k+List.length ys)*2)++c2++cur.toList.drop (0+(k+List.length ys)*2+c2.length)).length=cur.size:=by
            simp only[List.length_append,List.length_take,List.length_drop,Array.length_toList,hc2l];omega
           rw[Fl0 (setRow_heap E.w.drew g cur _ (ρ.t 9) _ hhd) (by rw[List.size_toArray,hsz1,hl2];omega) h1v]
           have hG:∀(x:Array Value),(E.w.drew.setRow g x).setRow g=fun y=>(E.w.drew).setRow g y:=fun x=>by funext y;exact setRow_setRow _ _ _ _
           obtain⟨row,hrow⟩:∃row:List Value,row=(cur.toList.take (0+(k+List.length ys)*2)++c2++cur.toList.drop (0+(k+List.length ys)*2+c2.length)):=⟨_,rfl⟩
           rw[<-hrow]at hsz1⊢
           have hrt2:row.take (0+k*2)=c1:=by
            rw[hrow,List.append_assoc,List.take_append_of_le_length (by simp only[List.length_take,Array.length_toList];omega),List.take_take,Nat.min_eq_left (by omega),hcur,List.take_append_of_le_length (by omega),Nat.zero_add,et]
           have hrd2:(row.drop (0+k*2+cells2.length)).take c2.length=c2:=by
            have e0:0+k*2+cells2.length=(cur.toList.take (0+(k+List.length ys)*2)).length:=by
             simp only[List.length_take,Array.length_toList,hl2];omega
            rw[hrow,List.append_assoc,e0,List.drop_left,List.take_left]
           refine fin2 _ _ (c1++(cells2++c2)) ⟨by rw[hnl,hu2],.inr ⟨g,cap,_,rfl,hbg,setRow_heap _ g _ _ (ρ.t 9) _ (setRow_heap E.w.drew g cur _ (ρ.t 9) _ hhd),hro,hcm,?_,?_⟩⟩ ⟨rfl,rfl,rfl,by simp,fun j _ hj=> ?_⟩ hrr (fun g' hg'=> .inr (by rw[ev1];exact hg'))
           ·simp only[List.toList_toArray,List.size_toArray,List.length_append,List.length_take,List.length_drop,hsz1,hl2,hu2]
            omega
           ·rw[hrt2,hu2,<-hnl]
            exact Ag1 _ _ _ _ hrd2
           ·have hjg:j≠g:=fun e=>hj (by rw[ev1,e];rfl)
            rw[setRow_other _ _ _ _ hjg,setRow_other _ _ _ _ hjg];rfl
          ·
           refine Calls.mono (Mo1 L g 0 (List.length xs) cap k g2 0 (List.length ys) cap2 cells cells2 E.w hk h0 hnc (by omega) hroom.1 hbp hcl hl2 (Gj0 hown1) hc2 h1c h1v) ?_
           rintro e w1 ⟨rfl,rfl⟩
           obtain⟨G,hG⟩:∃G,G=grownCap E.w (List.length xs+List.length ys) cap (ρ.t 9):=⟨_,rfl⟩
           have hGn:List.length xs+List.length ys<=G:=by rw[hG];exact grownCap_ge _ _ _ _
           have hGm:G<=maxLen:=by rw[hG];exact grownCap_le_maxLen _ _ _ _ hroom.2
           rw[<-hG,et,ed]
           have hzc:∀(q:Nat),(Builtin.zeroCells z.cells q).size=q*2:=fun q=>by simp[Builtin.zeroCells,L.c9]
           obtain⟨R0,hR0⟩:∃R0:Array Value,R0=c1.toArray++Builtin.zeroCells z.cells (List.length xs+List.length ys-k)++Builtin.zeroCells z.cells (G-(List.length xs+List.length ys)):=⟨_,rfl⟩
           have hR0s:R0.size=G*2:=by
            rw[hR0];simp only[Array.size_append,hzc,List.size_toArray,hc1l];omega
           have hR0t:R0.toList.take (k*2)=c1:=by
            rw[hR0,<-hc1l]
            simp only[Array.toList_append,List.append_assoc]
            exact List.take_left
           rw[<-hR0]
           have hh0:((E.w.alloc (.cells R0 (ρ.t 9))).drew).heap[E.w.heap.size]? =some (.cells R0 (ρ.t 9) (0,0)):=heap_alloc_new E.w _
           rw[Fl0 hh0 (by omega) h1v]
           obtain⟨r1,hr1⟩:∃r1:List Value,r1=R0.toList.take (k*2)++cells2++R0.toList.drop (k*2+cells2.length):=⟨_,rfl⟩
           have hr1s:r1.length=G*2:=by
            rw[hr1];simp only[List.length_append,List.length_take,List.length_drop,Array.length_toList,hl2,hR0s];omega
           rw[<-hr1]
           have hh1:(((E.w.alloc (.cells R0 (ρ.t 9))).drew.setRow E.w.heap.size r1.toArray).drew).heap[E.w.heap.size]? =some (.cells r1.toArray (ρ.t 9) (0,0)):=setRow_heap _ _ _ _ _ _ hh0
           rw[Fl0 hh1 (by rw[List.size_toArray,hr1s,hc2l];omega) h1c1]
           refine fin2 _ _ (c1++(cells2++c2)) ⟨by rw[hnl,hu2],.inr ⟨E.w.heap.size,G,_,rfl,H.base,setRow_heap _ _ _ _ (ρ.t 9) _ hh1,hGn,hGm,?_,?_⟩⟩ ⟨rfl,rfl,rfl,?_,fun j hj1 hj=> ?_⟩ hrr (fun g' hg'=> .inl (by simpa[Value.ownBlock]using hg'.symm))
           ·simp only[List.size_toArray,List.length_append,List.length_take,List.length_drop,hr1s,hc2l,hu2,List.toList_toArray]
            omega
           ·have et1:r1.take ((k+List.length ys)*2)=c1++cells2:=by
             rw[hr1,hR0t]
             have:(k+List.length ys)*2=(c1++cells2).length:=by rw[List.length_append,hc1l,hl2];omega
             rw[this]
             exact List.take_left
            simp only[List.toList_toArray]
            rw[et1,hu2,<-hnl,List.append_assoc (c1++cells2)]
            exact Ag1 _ _ _ _ List.take_left
           ·show E.w.heap.size<=(((E.w.alloc (.cells R0 (ρ.t 9))).drew.setRow E.w.heap.size r1.toArray).drew.setRow E.w.heap.size _).heap.size
            have:∀(W:World)(q:Nat)(c:Array Value),(W.setRow q c).heap.size=W.heap.size:=fun W q c=>by simp[World.setRow]
            rw[this]
            show _<=(World.setRow _ _ _).heap.size
            rw[this]
            show _<=(E.w.heap.push _).size
            simp
           ·rw[setRow_other _ _ _ _ (by omega)]
            show(World.setRow _ _ _).heap[j]? =_
            rw[setRow_other _ _ _ _ (by omega)]
            exact Below.heap_alloc E.w _ j hj1
       ·cases hs
      ·cases hs
    ·cases hs
   ·cases hs
  ·cases hs
 ·cases hs
end Go.Ev
namespace Go.Ev
open Go Go.RowKit
def ooS(te:Nat)(u:Ty)(ats:List Ty)(p:List u.den->HDen ats->Bool)(v:List u.den->HDen ats->List u.den):Summ:=fun cs look nid=>match cs with
 | .whole b::rest=>match Ba0 look ats rest with
   |none=>none
   |some cs'=>match toH ats cs' with
    |none=>none
    |some x=>if(rest.flatMap CV.refs).contains b then none else match look b with
     | .vec te' u' xs=>if h:te'=te/\u'=u then some ⟨Ch0 look rest&&p (h.2▸xs) x,.whole nid,frzs look rest++[(b,.dead),(nid,.vec te u (v (h.2▸xs) x))]⟩else none
     |_=>none
 | .nil _ _::rest=>match Ba0 look ats rest with
   |none=>none
   |some cs'=>match toH ats cs' with
    |none=>none
    |some x=>some ⟨Ch0 look rest&&p [] x,.whole nid,frzs look rest++[(nid,.vec te u (v [] x))]⟩
 |_=>none
theorem Hm1(te:Nat)(u:Ty)(ats:List Ty)(p:List u.den->HDen ats->Bool)(v:List u.den->HDen ats->List u.den):Ka0 (ooS te u ats p v):=by
 intro cs look look' nid h
 unfold ooS
 split
 ·rename_i b rest
  have hb:look b=look' b:=h b (by simp[CV.refs])
  have hr:∀c∈rest.flatMap CV.refs,look c=look' c:=fun c hc=>h c (by simp[CV.refs];exact .inr (by simpa using hc))
  rw[Dp0 hr,Cc0 hr,Ds0 hr,hb]
 ·rename_i rest
  have hr:∀c∈rest.flatMap CV.refs,look c=look' c:=fun c hc=>h c (by simp[CV.refs];simpa using hc)
  rw[Dp0 hr,Cc0 hr,Ds0 hr]
 ·rfl
def Mp1(E:Env)(hp:List Blk)(b g:Nat):Prop:=∃b',b'≠b/\An0 E b' (Ae0 hp b') g
def Env.only(E:Env)(hp:List Blk)(b:Nat)(rk:Nat->Loop->Prop):Env:=
 {w:=E.w,I:=fun g=>E.I g\/Mp1 E hp b g,μ:=fun _=>E.μ b,σ:=fun _=>E.σ b,live:=fun n=>n=0,rok:=rk,J:=fun g=>E.J g\/Mp1 E hp b g}
theorem Env.only_R{base b:Nat}{E:Env}{hp:List Blk}{rk:Nat->Loop->Prop}(H:HS base E hp)(g:Nat)(h:E.R g):(E.only hp b rk).R g:=
 ⟨.inl h.1,fun hj=>hj.elim h.2 fun⟨b',_,hb'⟩=>(H.sep b' g hb').1 h.1⟩
theorem HS.only{base b te:Nat}{u:Ty}{xs:List u.den}{E:Env}{hp:List Blk}(H:HS base E hp)(hb:Ae0 hp b= .vec te u xs)(rk:Nat->Loop->Prop):HS base (E.only hp b rk) [.vec te u xs]:=by
 have h0:Ae0 [Blk.vec te u xs] 0= .vec te u xs:=rfl
 have hn:∀n,n≠0->Ae0 [Blk.vec te u xs] n= .fresh:=fun n hn=>by
  obtain⟨k,rfl⟩:∃k,n=k+1:=⟨n-1,by omega⟩
  simp[Ae0]
 have hB:=H.blk b
 rw[hb]at hB
 obtain⟨cells,r1,r2,r3,r4⟩:=hB
 have hold:∀n g,An0 (E.only hp b rk) n (Ae0 [Blk.vec te u xs] n) g->n=0/\An0 E b (Ae0 hp b) g:=fun n g hg=>by
  by_cases e:n=0
  ·subst e
   refine⟨rfl,?_⟩
   rw[hb]
   exact hg
  ·rw[hn n e]at hg;exact hg.elim
 refine⟨fun n=> ?_,fun n n' g h1 h2=> ?_,fun n g hg=> ?_,fun g hg=> ?_,fun n=> ?_,H.base,(fun n rec i h=>by cases h),fun g hg=> ?_⟩
 ·by_cases e:n=0
  ·subst e
   exact⟨cells,Rows.mono (fun x c=>RepD.mono (fun g hg=>Env.only_R H g hg) (fun _ _=>rfl) u x c) _ _ r1,r2,r3,r4⟩
  ·rw[hn n e];trivial
 ·rw[(hold n g h1).1,(hold n' g h2).1]
 ·have hh:=(hold n g hg).2
  refine⟨fun hI=> ?_,(H.sep b g hh).2⟩
  rcases hI with hI|⟨b',hne,hb'⟩
  ·exact(H.sep b g hh).1 hI
  ·exact hne (H.inj b' b g hb' hh)
 ·rcases hg with h|⟨b',_,hb'⟩
  ·exact H.imm g h
  ·exact H.held_lt hb'
 ·show n=0↔_
  by_cases e:n=0
  ·subst e;simp[h0]
  ·rw[hn n e];simp[e]
 ·exact hg.elim (fun h=> .inl (H.jI g h)) .inr
def Mq1(E:Env)(hp:List Blk)(g:Nat):Prop:=∃b',An0 E b' (Ae0 hp b') g
def Env.none(E:Env)(hp:List Blk)(rk:Nat->Loop->Prop):Env:=
 {w:=E.w,I:=fun g=>E.I g\/Mq1 E hp g,μ:=fun _=>0,σ:=fun _=> .slice Option.none 0 0,live:=fun n=>n=0,rok:=rk,J:=fun g=>E.J g\/Mq1 E hp g}
theorem Env.none_R{base:Nat}{E:Env}{hp:List Blk}{rk:Nat->Loop->Prop}(H:HS base E hp)(g:Nat)(h:E.R g):(E.none hp rk).R g:=
 ⟨.inl h.1,fun hj=>hj.elim h.2 fun⟨b',hb'⟩=>(H.sep b' g hb').1 h.1⟩
theorem HS.none{base:Nat}{u:Ty}{E:Env}{hp:List Blk}(H:HS base E hp)(te:Nat)(hpos:0<u.size)(rk:Nat->Loop->Prop):HS base (E.none hp rk) [.vec te u ([]:List u.den)]:=by
 have hn:∀n,n≠0->Ae0 [Blk.vec te u ([]:List u.den)] n= .fresh:=fun n hn=>by
  obtain⟨k,rfl⟩:∃k,n=k+1:=⟨n-1,by omega⟩
  simp[Ae0]
 have hold:∀n g,¬An0 (E.none hp rk) n (Ae0 [Blk.vec te u ([]:List u.den)] n) g:=fun n g hg=>by
  by_cases e:n=0
  ·subst e
   have hg:(Value.slice Option.none 0 0).ownBlock=some g:=hg
   cases hg
  ·rw[hn n e]at hg;exact hg.elim
 refine⟨fun n=> ?_,fun n n' g h1 h2=>(hold n g h1).elim,fun n g hg=>(hold n g hg).elim,fun g hg=> ?_,fun n=> ?_,H.base,(fun n rec i h=>by cases h),fun g hg=> ?_⟩
 ·by_cases e:n=0
  ·subst e
   exact⟨[],rfl,World.ownsRow_nil _ _ _ _,hpos,fun g hg=>by cases hg⟩
  ·rw[hn n e];trivial
 ·rcases hg with h|⟨b',hb'⟩
  ·exact H.imm g h
  ·exact H.held_lt hb'
 ·show n=0↔_
  by_cases e:n=0
  ·subst e;simp[Ae0]
  ·rw[hn n e];simp[e]
 ·exact hg.elim (fun h=> .inl (H.jI g h)) .inr
theorem Uv1{rk:Nat->Loop->Prop}{P:Program}{f te:Nat}{u:Ty}{ats:List Ty}{F:List u.den->HDen ats->Option (HDen [.slice u])}{p:List u.den->HDen ats->Bool}{v:List u.den->HDen ats->List u.den}{summ:Nat->Option Summ}{fns:Nat->Option IFn}{fu n:Nat}
 (hpos:0<u.size) (hp0:∀xs x,p xs x=(F xs x).isSome) (hv0:∀xs x,v xs x=((F xs x).getD (dfH [.slice u])).1) (hcall:∀base,Dt0 P base rk (evFn (R:=CV×List Blk) summ fns fu n)) (hrz:Nat.ble RZ f=false) (hcb:Bq0 P f=true)
 (h:∀xs x y,F xs x=some y->evFn summ fns fu n f (.whole 0::ofH ats x) [.vec te u xs] (ownK te [] (.slice u) [])=some y):Ag0 P f (ooS te u ats p v):=by
 refine⟨hcb,Hm1 _ _ _ _ _,?_⟩
 intro base E hp cs vs nid out H hvs hs hok hf hn
 unfold ooS at hs
 split at hs
 rotate_left
 ·rename_i z1 z2 rest
  split at hs
  ·cases hs
  rename_i cs' hcs'
  split at hs
  ·cases hs
  rename_i x hx
  simp at hs;subst hs
  simp only[Bool.and_eq_true]at hok
  obtain⟨hsub,hpx⟩:=hok
  obtain⟨x',e'⟩:=Dh0 hcs'
  subst e'
  rw[Gg0]at hx
  simp at hx;subst hx
  rw[hp0]at hpx
  obtain⟨y,hy⟩:=Option.isSome_iff_exists.1 hpx
  have ey:v [] x'=y.1:=by rw[hv0,hy];rfl
  obtain⟨c0,hp2,hk1,hk2⟩:=Go0 summ fu fns n _ _ _ _ _ _ (h [] x' y hy)
  obtain⟨c,l,o,rfl,hov,hob,hso,hpl⟩:=Nn0 hk1
  match vs,hvs with
  |v0::vr,⟨hv0',hvr⟩ =>
  obtain⟨_,ht,_⟩:=Bv0 hcs'
  obtain⟨E',hle,H',hw,hμ,hσ,hlive,hI⟩:=HS.frzs (Ae0 hp) (rest.flatMap CV.refs) H (fun _=> .inl rfl) (Hp0 hvr ht)
  have H0:=H'.none (u:=u) te hpos rk
  obtain⟨hp',ehp⟩:∃hp',hp'=Bg0 hp ((rest.flatMap CV.refs).map fun b=>(b,(Ae0 hp b).frz)):=⟨_,rfl⟩
  rw[<-ehp]at H' H0
  have hvs0:Vs (E'.none hp' rk) (.whole 0::ofH ats x') (v0::vr):=by
   refine⟨?_,Dg0 (base:=base) (E':=E'.none hp' rk) H.blk hw (fun g hg=>Env.none_R H' g (hle.R g hg)) hcs' hsub hvr (fun c hc g⟨q,hq,hg⟩=>Env.none_R H' g (hI g (.inr ⟨q,List.mem_flatMap.2 ⟨c,hc,hq⟩,hg⟩)))⟩
   exact Bo0.2 ⟨rfl,Jz0.1 hv0',_,_,_,rfl⟩
  have hc:=((hcall base).1 f (.whole 0::ofH ats x') [.vec te u ([]:List u.den)] _ _ hrz (hk2 _ (fun v h=>some (v,h)) _ rfl) (E'.none hp' rk) (v0::vr) rfl H0 hvs0).2
  rw[<-hw]
  refine Calls.mono hc ?_
  rintro e w' ⟨v1,c1,hp1,E1,rfl,hk,rfl,hle1,H1,hv1,_⟩
  simp only[Option.some.injEq,Prod.mk.injEq]at hk
  obtain⟨rfl,rfl⟩:=hk
  obtain⟨hll,ht0,htl⟩:=Bv0 hpl
  obtain⟨hag,htc,hag2⟩:=Yj0 hov
  have ht1:∀c'∈c::l,∀d,c'≠ .tup d:=fun c' hc'=>by
   rcases List.mem_cons.1 hc' with rfl|hc'
   ·exact htc
   ·exact ht0 c' hc'
  obtain⟨us,hus,hback⟩:=Fv0 hv1 ht1
  match us,hus with
  |u0::ur,⟨hu0,hur⟩ =>
  obtain⟨cells,g1,g2⟩:=hu0.one1 htc
  obtain⟨E2,hE2⟩:∃E2:Env,E2= {E' with w:=E1.w,I:=fun g=>E1.I g/\¬Mq1 E' hp' g}:=⟨_,rfl⟩
  have hR2:∀g,E1.R g->E2.R g:=fun g hg=>by
   rw[hE2]
   exact⟨⟨hg.1,fun hh=>hg.2 (by rw[hle1.J];exact .inr hh)⟩,fun hj=>hg.2 (by rw[hle1.J];exact .inl hj)⟩
  have hkeep:∀b' g,An0 E' b' (Ae0 hp' b') g->E1.w.heap[g]? =E'.w.heap[g]? :=fun b' g hg=>hle1.heap g (.inr ⟨b',hg⟩)
  have hno:∀g,E'.I g->¬Mq1 E' hp' g:=fun g hg⟨b',hb'⟩=>(H'.sep b' g hb').1 hg
  have hle2:E'.le base E2:=by
   rw[hE2]
   refine⟨fun g hg=>⟨hle1.I g (.inl hg),hno g hg⟩,fun g hg=>hle1.heap g (.inl hg),fun _ h=>h,fun _ _=>rfl,fun _ _=>rfl,hle1.bel,fun g hg=> ?_,fun _ _=>rfl,rfl,rfl⟩
   rcases hle1.new g hg.1 with h|h
   ·exact h.elim .inl (fun h=>absurd h hg.2)
   ·exact .inr h
  have H2:HS base E2 hp':=by
   refine⟨fun q=> ?_,fun q q' g h1 h2=> ?_,fun q g hg=> ?_,fun g hg=> ?_,fun q=> ?_,?_,?_,hle2.jI H'.jI⟩
   ·by_cases hl:E'.live q
    ·exact(H'.blk q).mono hle2 hl _ (fun g hg=>by rw[hE2];exact hkeep q g hg)
    ·have:Ae0 hp' q= .fresh:=by
      rcases Classical.em (Ae0 hp' q= .fresh)with h1|h1
      ·exact h1
      ·exact absurd ((H'.live q).2 h1) hl
     rw[this];trivial
   ·rw[hE2]at h1 h2;exact H'.inj q q' g h1 h2
   ·rw[hE2]at hg
    exact⟨fun hI=>by rw[hE2]at hI;exact hI.2 ⟨q,hg⟩,(H'.sep q g hg).2⟩
   ·rw[hE2]at hg⊢;exact H1.imm g hg.1
   ·rw[hE2];exact H'.live q
   ·rw[hE2];exact Nat.le_trans H'.base hle1.bel.size
   ·rw[hE2];exact H'.eok
  simp only[Ch0,List.all_cons,Bool.and_eq_true]at hso
  obtain⟨v0',rows,r1,r2,r3,r4,r5⟩:=Yi0 H1.blk (I2:=E2.R) hR2 hov hso.1 g1 (fun b hb=>by rw[So0]at hb;cases hb)
  have hnl:¬E'.live nid:=fun hl=>by
   rw[hlive]at hl
   exact(H.live nid).1 hl hf
  have hfr:Ae0 hp' nid= .fresh:=by
   rcases Classical.em (Ae0 hp' nid= .fresh)with h1|h1
   ·exact h1
   ·exact absurd ((H'.live nid).2 h1) hnl
  have hw2:E2.w=E1.w:=by rw[hE2]
  have hnn:nid<=hp'.length:=by
   rw[ehp]
   exact Nat.le_trans hn (Fa0 _ _)
  obtain⟨hle4,H4⟩:=H2.newVec (n:=nid) hfr hnn (w':=E1.w) (v:=v0') (te:=te) (e:=u) (xs:=y.1) (cells:=rows) (by rw[hw2];exact Below.refl _ _) (fun g _=>by rw[hw2]) (fun _ g _=>by rw[hw2])
   (Rows.mono (fun x c=>RepD.mono hR2 (fun _ _=>rfl) u x c) _ _ r2) r1 hpos (fun g hg=>by
    obtain⟨q,h1,h2⟩:=r3 g hg
    refine⟨fun hi=> ?_,fun b2 hb2=> ?_⟩
    ·rw[hE2]at hi
     exact(H1.sep q g h2).1 hi.1
    ·have hb2:An0 E' b2 (Ae0 hp' b2) g:=by rw[hE2]at hb2;exact hb2
     exact(H1.sep q g h2).1 (hle1.I g (.inr ⟨b2,hb2⟩)))
  refine⟨v1,E2.newVec nid E1.w v0',rfl,rfl,hle.trans (hle2.trans hle4),?_,?_⟩
  ·rw[Ej0,ey]
   show HS base _ (setH (Bg0 hp (frzs (Ae0 hp) rest)) nid (.vec te u y.1))
   rw[show Bg0 hp (frzs (Ae0 hp) rest)=hp' from ehp.symm]
   exact H4
  ·have hl0:l=[]:=by
    cases l with
    |nil=>rfl
    |cons a l=>simp[Ba0]at hpl
   subst hl0
   have e1:ur=[]:=by
    cases ur with
    |nil=>rfl
    |cons a r=>exact hur.elim
   subst e1
   refine hback _ [ownC nid [] (.slice u) y.1] ?_ rfl ?_
   ·exact⟨VRep1.up ⟨cells,r5 _ nid rfl (fun g hg=>by rw[hE2]at hg⊢;exact hg) (.inr rfl) (by simp[Env.newVec,upd_same]),by rw[(hag2 nid).1,<-hag];exact g2⟩ (hag2 nid).2,trivial⟩
   ·intro c' hc'
    rw[List.mem_singleton]at hc'
    subst hc'
    exact(hag2 nid).2
 ·cases hs
 rename_i b rest
 split at hs
 ·cases hs
 rename_i cs' hcs'
 split at hs
 ·cases hs
 rename_i x hx
 split at hs
 ·cases hs
 rename_i hbr
 split at hs
 rotate_left
 ·cases hs
 rename_i te' u' xs hlb
 split at hs
 rotate_left
 ·cases hs
 rename_i he
 obtain⟨rfl,rfl⟩:=he
 simp at hs;subst hs
 simp only[Bool.and_eq_true]at hok
 obtain⟨hsub,hpx⟩:=hok
 obtain⟨x',e'⟩:=Dh0 hcs'
 subst e'
 rw[Gg0]at hx
 simp at hx;subst hx
 have hpx:p xs x'=true:=hpx
 rw[hp0]at hpx
 obtain⟨y,hy⟩:=Option.isSome_iff_exists.1 hpx
 have ey:v xs x'=y.1:=by rw[hv0,hy];rfl
 obtain⟨c0,hp2,hk1,hk2⟩:=Go0 summ fu fns n _ _ _ _ _ _ (h xs x' y hy)
 obtain⟨c,l,o,rfl,hov,hob,hso,hpl⟩:=Nn0 hk1
 match vs,hvs with
 |v0::vr,⟨hv0',hvr⟩ =>
 obtain⟨_,ht,_⟩:=Bv0 hcs'
 obtain⟨E',hle,H',hw,hμ,hσ,hlive,hI⟩:=HS.frzs (Ae0 hp) (rest.flatMap CV.refs) H (fun _=> .inl rfl) (Hp0 hvr ht)
 have hnb:∀q∈rest.flatMap CV.refs,q≠b:=fun q hq e=>hbr (by subst e;simpa using hq)
 have hlb':Ae0 (Bg0 hp ((rest.flatMap CV.refs).map fun b=>(b,(Ae0 hp b).frz))) b= .vec te' u' xs:=by
  rw[Gl0 (fun b=>(Ae0 hp b).frz) (rest.flatMap CV.refs) (hp:=hp) (b:=b) (fun q hq=>Cd0 ((H.live q).1 (Hp0 hvr ht q hq))) (fun hq=>hnb b hq rfl)]
  exact hlb
 have H0:=H'.only hlb' rk
 obtain⟨hp',ehp⟩:∃hp',hp'=Bg0 hp ((rest.flatMap CV.refs).map fun b=>(b,(Ae0 hp b).frz)):=⟨_,rfl⟩
 rw[<-ehp]at H' H0 hlb'
 have hvs0:Vs (E'.only hp' b rk) (.whole 0::ofH ats x') (v0::vr):=by
  refine⟨?_,Dg0 (base:=base) (E':=E'.only hp' b rk) H.blk hw (fun g hg=>Env.only_R H' g (hle.R g hg)) hcs' hsub hvr (fun c hc g⟨q,hq,hg⟩=>Env.only_R H' g (hI g (.inr ⟨q,List.mem_flatMap.2 ⟨c,hc,hq⟩,hg⟩)))⟩
  obtain⟨_,q2,q3⟩:=Bo0.1 hv0'
  refine Bo0.2 ⟨rfl,?_,?_⟩
  ·show v0=E'.σ b;rw[hσ];exact q2
  ·show ∃a n k,E'.σ b=_;rw[hσ];exact q3
 have hc:=((hcall base).1 f (.whole 0::ofH ats x') [.vec te' u' xs] _ _ hrz (hk2 _ (fun v h=>some (v,h)) _ rfl) (E'.only hp' b rk) (v0::vr) rfl H0 hvs0).2
 rw[<-hw]
 refine Calls.mono hc ?_
 rintro e w' ⟨v1,c1,hp1,E1,rfl,hk,rfl,hle1,H1,hv1,_⟩
 simp only[Option.some.injEq,Prod.mk.injEq]at hk
 obtain⟨rfl,rfl⟩:=hk
 obtain⟨hll,ht0,htl⟩:=Bv0 hpl
 obtain⟨hag,htc,hag2⟩:=Yj0 hov
 have ht1:∀c'∈c::l,∀d,c'≠ .tup d:=fun c' hc'=>by
  rcases List.mem_cons.1 hc' with rfl|hc'
  ·exact htc
  ·exact ht0 c' hc'
 obtain⟨us,hus,hback⟩:=Fv0 hv1 ht1
 match us,hus with
 |u0::ur,⟨hu0,hur⟩ =>
 obtain⟨cells,g1,g2⟩:=hu0.one1 htc
 obtain⟨E2,hE2⟩:∃E2:Env,E2= {E' with w:=E1.w,I:=fun g=>E1.I g/\¬Mp1 E' hp' b g}:=⟨_,rfl⟩
 have hR2:∀g,E1.R g->E2.R g:=fun g hg=>by
  rw[hE2]
  exact⟨⟨hg.1,fun hh=>hg.2 (by rw[hle1.J];exact .inr hh)⟩,fun hj=>hg.2 (by rw[hle1.J];exact .inl hj)⟩
 have hkeep:∀b' g,b'≠b->An0 E' b' (Ae0 hp' b') g->E1.w.heap[g]? =E'.w.heap[g]? :=fun b' g hne hg=>hle1.heap g (.inr ⟨b',hne,hg⟩)
 have hno:∀g,E'.I g->¬Mp1 E' hp' b g:=fun g hg⟨b',_,hb'⟩=>(H'.sep b' g hb').1 hg
 have hle2:E'.le base E2:=by
  rw[hE2]
  refine⟨fun g hg=>⟨hle1.I g (.inl hg),hno g hg⟩,fun g hg=>hle1.heap g (.inl hg),fun _ h=>h,fun _ _=>rfl,fun _ _=>rfl,hle1.bel,fun g hg=> ?_,fun _ _=>rfl,rfl,rfl⟩
  rcases hle1.new g hg.1 with h|h
  ·exact h.elim .inl (fun h=>absurd h hg.2)
  ·exact .inr h
 have hlvb:E'.live b:=by
  rw[hlive]
  exact(Bo0.1 hv0').1
 have hlen:b<=hp'.length:=Nat.le_of_lt (Cd0 ((H'.live b).1 hlvb))
 have H2:HS base E2 (setH hp' b .dead):=by
  refine H'.set hle2 hlen (by simp) (fun q=> ?_) (fun g hg=> ?_) (fun b' g hne hg hI=> ?_) (fun b' g hne hg=> ?_) (k:= .dead) trivial (fun _ h=>h.elim) ?_
  ·rw[hE2]
   exact⟨.inl,fun h=>h.elim id (fun e=>e▸hlvb)⟩
  ·rw[hE2]at hg⊢
   exact H1.imm g hg.1
  ·rw[hE2]at hI
   exact hI.2 ⟨b',hne,hg⟩
  ·rw[hE2]
   exact hkeep b' g hne hg
  ·rw[hE2]
   exact H'.eok
 simp only[Ch0,List.all_cons,Bool.and_eq_true]at hso
 obtain⟨v0',rows,r1,r2,r3,r4,r5⟩:=Yi0 H1.blk (I2:=E2.R) hR2 hov hso.1 g1 (fun b hb=>by rw[So0]at hb;cases hb)
 have hnl:¬E'.live nid:=fun hl=>by
  rw[hlive]at hl
  exact(H.live nid).1 hl hf
 have hnb2:nid≠b:=fun e=>hnl (e▸hlvb)
 have hfr:Ae0 (setH hp' b .dead) nid= .fresh:=by
  rw[Dv0 hlen,if_neg hnb2]
  rcases Classical.em (Ae0 hp' nid= .fresh)with h1|h1
  ·exact h1
  ·exact absurd ((H'.live nid).2 h1) hnl
 have hw2:E2.w=E1.w:=by rw[hE2]
 have hnn:nid<=(setH hp' b .dead).length:=by
  refine Nat.le_trans ?_ (Ht0 _ _ _)
  rw[ehp]
  exact Nat.le_trans hn (Fa0 _ _)
 obtain⟨hle4,H4⟩:=H2.newVec (n:=nid) hfr hnn (w':=E1.w) (v:=v0') (te:=te') (e:=u') (xs:=y.1) (cells:=rows) (by rw[hw2];exact Below.refl _ _) (fun g _=>by rw[hw2]) (fun _ g _=>by rw[hw2])
  (Rows.mono (fun x c=>RepD.mono hR2 (fun _ _=>rfl) u' x c) _ _ r2) r1 hpos (fun g hg=>by
   obtain⟨q,h1,h2⟩:=r3 g hg
   refine⟨fun hi=> ?_,fun b2 hb2=> ?_⟩
   ·rw[hE2]at hi
    exact(H1.sep q g h2).1 hi.1
   ·rw[Dv0 hlen]at hb2
    by_cases e:b2=b
    ·rw[if_pos e]at hb2;exact hb2.elim
    ·rw[if_neg e]at hb2
     have hb2:An0 E' b2 (Ae0 hp' b2) g:=by rw[hE2]at hb2;exact hb2
     exact(H1.sep q g h2).1 (hle1.I g (.inr ⟨b2,e,hb2⟩)))
 refine⟨v1,E2.newVec nid E1.w v0',rfl,rfl,hle.trans (hle2.trans hle4),?_,?_⟩
 ·rw[Ej0,ey]
  show HS base _ (setH (setH (Bg0 hp (frzs (Ae0 hp) rest)) b .dead) nid (.vec te' u' y.1))
  rw[show Bg0 hp (frzs (Ae0 hp) rest)=hp' from ehp.symm]
  exact H4
 ·have hl0:l=[]:=by
   cases l with
   |nil=>rfl
   |cons a l=>simp[Ba0]at hpl
  subst hl0
  have e1:ur=[]:=by
   cases ur with
   |nil=>rfl
   |cons a r=>exact hur.elim
  subst e1
  refine hback _ [ownC nid [] (.slice u') y.1] ?_ rfl ?_
  ·exact⟨VRep1.up ⟨cells,r5 _ nid rfl (fun g hg=>by rw[hE2]at hg⊢;exact hg) (.inr rfl) (by simp[Env.newVec,upd_same]),by rw[(hag2 nid).1,<-hag];exact g2⟩ (hag2 nid).2,trivial⟩
  ·intro c' hc'
   rw[List.mem_singleton]at hc'
   subst hc'
   exact(hag2 nid).2
end Go.Ev
namespace Go.Ev
open Go Go.RowKit
theorem Ii2{P:Program}{sm:Nat->Bool}{w:Nat->Nat}{cf df:Nat->Bool}(hm:P.follows .mixedOrders=true){l:List (Nat×Summ)}{f n te:Nat}{u:Ty}{ats:List Ty}{F:List u.den->HDen ats->Option (HDen [.slice u])}
 (h:∀xs x y,F xs x=some y->evFn (smL l) (fnsP P sm w cf df) FU n f (.whole 0::ofH ats x) [.vec te u xs] (ownK te [] (.slice u) [])=some y) (hl:Zu0 P l) (hpos:0<u.size:=by decide) (hcb:Bq0 P f=true:=by kernel_rfl) (hrz:Nat.ble RZ f=false:=by kernel_rfl):Ag0 P f (ooS te u ats (fun xs x=>(F xs x).isSome) (fun xs x=>((F xs x).getD (dfH [.slice u])).1)) :=
 Uv1 hpos (fun _ _=>rfl) (fun _ _=>rfl) (Jw1 hm hl n) hrz hcb h
end Go.Ev
