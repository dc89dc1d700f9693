/- Part of a typed evaluator of the program's functions, proved sound. No condition. -/
import Derived.Test.YtfofdehkgkjbbaaE9P2
import Derived.Test.YtfofdehkgkjbbaaE9P1
set_option maxRecDepth 10000
set_option linter.unusedVariables false
set_option linter.unusedSimpArgs false
namespace Go.Ev
open Go Go.RowKit
deriving instance DecidableEq for Step
def beqC:CV->CV->Bool
 | .junk,.junk=>true
 | .undef,.undef=>true
 | .nil a e,.nil b f=>Nat.beq a b&&decide (e=f)
 | .pure .unit _,.pure .unit _=>true
 | .pair a b,.pair c d=>beqC a c&&beqC b d
 | .whole a,.whole b=>Nat.beq a b
 | .ptr a p,.ptr b q=>Nat.beq a b&&decide (p=q)
 | .clo f a,.clo g b=>Nat.beq f g&&beqC a b
 | .tup a,.tup b=>beqC a b
 |_,_=>false
theorem beqC_eq:∀(a b:CV),beqC a b=true->a=b
 | .junk,b,h=>by cases b<;>first|rfl|cases h
 | .undef,b,h=>by cases b<;>first|rfl|cases h
 | .nil a e,b,h=>by
   cases b<;>first|(cases h;done)|skip
   simp only[beqC,Bool.and_eq_true,decide_eq_true_eq]at h
   rw[Nat.eq_of_beq_eq_true h.1,h.2]
 | .pure t x,b,h=>by
   cases b<;>first|(cases t<;>cases h;done)|skip
   rename_i u y
   cases t<;>cases u<;>first|(cases h;done)|rfl
 | .pair a b,c,h=>by
   cases c<;>first|(cases h;done)|skip
   simp only[beqC,Bool.and_eq_true]at h
   rw[beqC_eq _ _ h.1,beqC_eq _ _ h.2]
 | .whole a,b,h=>by
   cases b<;>first|(cases h;done)|skip
   rw[Nat.eq_of_beq_eq_true h]
 | .ptr a p,b,h=>by
   cases b<;>first|(cases h;done)|skip
   simp only[beqC,Bool.and_eq_true,decide_eq_true_eq]at h
   rw[Nat.eq_of_beq_eq_true h.1,h.2]
 | .clo f a,b,h=>by
   cases b<;>first|(cases h;done)|skip
   simp only[beqC,Bool.and_eq_true]at h
   rw[Nat.eq_of_beq_eq_true h.1,beqC_eq _ _ h.2]
 | .tup a,b,h=>by
   cases b<;>first|(cases h;done)|skip
   rename_i c
   exact congrArg CV.tup (beqC_eq a c h)
 | .int _ _,b,h=>by cases b<;>cases h
 | .bool _,b,h=>by cases b<;>cases h
 | .sub _ _ _ _ _ _,b,h=>by cases b<;>cases h
 | .ref _ _,b,h=>by cases b<;>cases h
 | .yld _ _ _,b,h=>by cases b<;>cases h
inductive PV where
 |kc (v:CV)|hv (t:Ty)|rf (t:Ty)|pr (a b:PV)|cl (f:Nat) (a:PV)|yl (b i:Nat) (a:PV)
 |sb (b:Nat) (p:Path) (sz:Nat) (o l:Option Nat) (cap:Option (Option Nat))
@[reducible] def nE (o:Option Nat) (r:Type):Type:=match o with|none=>Nat×r|some _=>r
@[reducible] def nE2 (o:Option (Option Nat)) (r:Type):Type:=match o with|none=>r|some o=>nE o r
@[reducible] def PV.E:PV->Type->Type
 | .kc _,r=>r
 | .hv t,r=>t.den×r
 | .rf t,r=>t.den×r
 | .pr a b,r=>a.E (b.E r)
 | .cl _ a,r=>a.E r
 | .yl _ _ a,r=>a.E r
 | .sb _ _ _ o l c,r=>nE o (nE l (nE2 c r))
def nI{r:Type}:(o:Option Nat)->nE o r->Nat×r
 |none,e=>(e.1,e.2)
 |some n,e=>(n,e)
def nI2{r:Type}:(o:Option (Option Nat))->nE2 o r->Option Nat×r
 |none,e=>(none,e)
 |some o,e=>(some (nI o e).1,(nI o e).2)
def PV.inst:(p:PV)-> {r:Type}->p.E r->CV×r
 | .kc v,_,e=>(v,e)
 | .hv t,_,e=>(ofP t e.1,e.2)
 | .rf t,_,e=>(.ref t e.1,e.2)
 | .pr a b,_,e=>(.pair (a.inst e).1 (b.inst (a.inst e).2).1,(b.inst (a.inst e).2).2)
 | .cl f a,_,e=>(.clo f (a.inst e).1,(a.inst e).2)
 | .yl b i a,_,e=>(.yld b i (a.inst e).1,(a.inst e).2)
 | .sb b p sz o l c,_,e=>(.sub b p sz (nI o e).1 (nI l (nI o e).2).1 (nI2 c (nI l (nI o e).2).2).1,(nI2 c (nI l (nI o e).2).2).2)
def nD{r:Type}:(o:Option Nat)->Nat->r->Option (nE o r)
 |none,n,t=>some (n,t)
 |some m,n,t=>if n=m then some t else none
def nD2{r:Type}:(o:Option (Option Nat))->Option Nat->r->Option (nE2 o r)
 |none,none,t=>some t
 |some o,some n,t=>nD o n t
 |_,_,_=>none
def ext:(t:Ty)->CV->Option t.den
 | .int k,.int k' n=>if k'=k then some n else none
 | .bool,.bool b=>some b
 | .int _,_=>none
 | .bool,_=>none
 |t,.pure t' x=>if h:t'=t then some (h▸x)else none
 |_,_=>none
def PV.dec:(p:PV)-> {r:Type}->CV->r->Option (p.E r)
 | .kc v,_,w,t=>if beqC w v=true then some t else none
 | .hv u,_,w,t=>match ext u w with|some x=>some (x,t)|none=>none
 | .rf u,_,w,t=>match w with| .ref u' x=>if h:u'=u then some (h▸x,t)else none|_=>none
 | .pr a b,_,w,t=>match w with| .pair x y=>(match b.dec y t with|some t'=>a.dec x t'|none=>none)|_=>none
 | .cl f a,_,w,t=>match w with| .clo g x=>if g=f then a.dec x t else none|_=>none
 | .yl b i a,_,w,t=>match w with| .yld b' i' x=>if b'=b/\i'=i then a.dec x t else none|_=>none
 | .sb b p sz o l c,_,w,t=>match w with
   | .sub b' p' sz' o' l' c'=>if b'=b/\p'=p/\sz'=sz then(match nD2 c c' t with|some t1=>(match nD l l' t1 with|some t2=>nD o o' t2|none=>none)|none=>none)else none
   |_=>none
theorem nD_inst{r:Type}{o:Option Nat}{n:Nat}{t:r}{e:nE o r}(h:nD o n t=some e):nI o e=(n,t):=by
 cases o with
 |none=>simp only[nD,Option.some.injEq]at h;subst h;rfl
 |some m=>
  simp only[nD]at h
  split at h
  ·rename_i hm;injection h with h;subst h;subst hm;rfl
  ·cases h
theorem nD2_inst{r:Type}{o:Option (Option Nat)}{n:Option Nat}{t:r}{e:nE2 o r}(h:nD2 o n t=some e):nI2 o e=(n,t):=by
 cases o with
 |none=>
  cases n with
  |none=>simp only[nD2,Option.some.injEq]at h;subst h;rfl
  |some n=>cases h
 |some o=>
  cases n with
  |none=>cases h
  |some n=>simp only[nD2]at h;have:=nD_inst h;simp only[nI2,this]
theorem ext_eq{t:Ty}{w:CV}{x:t.den}(h:ext t w=some x):ofP t x=w:=by
 cases t<;>cases w<;>simp only[ext]at h<;>first|(cases h;done)|skip
 all_goals first
  |(split at h
    ·rename_i hk;subst hk;injection h with h;subst h;rfl
    ·cases h)
  |(injection h with h;subst h;rfl)
theorem PV.dec_inst:∀(p:PV){r:Type}{w:CV}{t:r}{e:p.E r},p.dec w t=some e->p.inst e=(w,t)
 | .kc v,r,w,t,e,h=>by
   simp only[PV.dec]at h
   split at h
   ·rename_i hb;injection h with h;subst h;rw[beqC_eq _ _ hb];rfl
   ·cases h
 | .hv u,r,w,t,e,h=>by
   simp only[PV.dec]at h
   split at h
   ·rename_i x hx;injection h with h;subst h;simp only[PV.inst,ext_eq hx]
   ·cases h
 | .rf u,r,w,t,e,h=>by
   simp only[PV.dec]at h
   split at h
   ·split at h
    ·rename_i hu;subst hu;injection h with h;subst h;rfl
    ·cases h
   ·cases h
 | .pr a b,r,w,t,e,h=>by
   simp only[PV.dec]at h
   split at h
   ·split at h
    ·rename_i x y t' ht
     have h1:=PV.dec_inst b ht
     have h2:=PV.dec_inst a h
     simp only[PV.inst,h2,h1]
    ·cases h
   ·cases h
 | .cl f a,r,w,t,e,h=>by
   simp only[PV.dec]at h
   split at h
   ·split at h
    ·rename_i hg;subst hg
     have h2:=PV.dec_inst a h
     simp only[PV.inst,h2]
    ·cases h
   ·cases h
 | .yl b i a,r,w,t,e,h=>by
   simp only[PV.dec]at h
   split at h
   ·split at h
    ·rename_i hg;obtain⟨rfl,rfl⟩:=hg
     have h2:=PV.dec_inst a h
     simp only[PV.inst,h2]
    ·cases h
   ·cases h
 | .sb b p sz o l c,r,w,t,e,h=>by
   simp only[PV.dec]at h
   split at h
   ·split at h
    ·rename_i hb
     obtain⟨rfl,rfl,rfl⟩:=hb
     split at h
     ·split at h
      ·rename_i h1 _ _ h2
       have h3:=nD_inst h
       have h4:=nD_inst h2
       have h5:=nD2_inst h1
       simp only[PV.inst,h3,h4,h5]
      ·cases h
     ·cases h
    ·cases h
   ·cases h
inductive PB where
 |dead|fresh|gh (n:Nat)|mem (p:PV)|vec (te:Nat) (e:Ty)|fvec (te:Nat) (e:Ty)
@[reducible] def PB.E:PB->Type->Type
 | .mem p,r=>p.E r
 | .vec _ e,r=>List e.den×r
 | .fvec _ e,r=>List e.den×r
 |_,r=>r
def PB.inst:(p:PB)-> {r:Type}->p.E r->Blk×r
 | .dead,_,e=>(.dead,e)
 | .fresh,_,e=>(.fresh,e)
 | .gh n,_,e=>(.ghost n,e)
 | .mem p,_,e=>(.mem (p.inst e).1,(p.inst e).2)
 | .vec te u,_,e=>(.vec te u e.1,e.2)
 | .fvec te u,_,e=>(.fvec te u e.1,e.2)
def PB.dec:(p:PB)-> {r:Type}->Blk->r->Option (p.E r)
 | .dead,_,b,t=>match b with| .dead=>some t|_=>none
 | .fresh,_,b,t=>match b with| .fresh=>some t|_=>none
 | .gh n,_,b,t=>match b with| .ghost m=>if m=n then some t else none|_=>none
 | .mem p,_,b,t=>match b with| .mem c=>p.dec c t|_=>none
 | .vec te u,_,b,t=>match b with| .vec te' u' x=>if h:u'=u then if te'=te then some (h▸x,t)else none else none|_=>none
 | .fvec te u,_,b,t=>match b with| .fvec te' u' x=>if h:u'=u then if te'=te then some (h▸x,t)else none else none|_=>none
theorem PB.dec_inst:∀(p:PB){r:Type}{b:Blk}{t:r}{e:p.E r},p.dec b t=some e->p.inst e=(b,t)
 | .dead,r,b,t,e,h=>by
   simp only[PB.dec]at h
   split at h
   ·injection h with h;subst h;rfl
   ·cases h
 | .fresh,r,b,t,e,h=>by
   simp only[PB.dec]at h
   split at h
   ·injection h with h;subst h;rfl
   ·cases h
 | .gh n,r,b,t,e,h=>by
   simp only[PB.dec]at h
   split at h
   ·split at h
    ·rename_i hm;subst hm;injection h with h;subst h;rfl
    ·cases h
   ·cases h
 | .mem p,r,b,t,e,h=>by
   simp only[PB.dec]at h
   split at h
   ·simp only[PB.inst,p.dec_inst h]
   ·cases h
 | .vec te u,r,b,t,e,h=>by
   simp only[PB.dec]at h
   split at h
   ·split at h
    ·rename_i hu;subst hu
     split at h
     ·rename_i ht;subst ht;injection h with h;subst h;rfl
     ·cases h
    ·cases h
   ·cases h
 | .fvec te u,r,b,t,e,h=>by
   simp only[PB.dec]at h
   split at h
   ·split at h
    ·rename_i hu;subst hu
     split at h
     ·rename_i ht;subst ht;injection h with h;subst h;rfl
     ·cases h
    ·cases h
   ·cases h
@[reducible] def bE:List PB->Type->Type
 |[],r=>r
 |p::ps,r=>p.E (bE ps r)
def bI:(ps:List PB)-> {r:Type}->bE ps r->List Blk×r
 |[],_,e=>([],e)
 |p::ps,_,e=>((p.inst e).1::(bI ps (p.inst e).2).1,(bI ps (p.inst e).2).2)
def bD:(ps:List PB)-> {r:Type}->List Blk->r->Option (bE ps r)
 |[],_,l,t=>match l with|[]=>some t|_=>none
 |p::ps,_,l,t=>match l with|b::l=>(match bD ps l t with|some t'=>p.dec b t'|none=>none)|_=>none
theorem bD_inst:∀(ps:List PB){r:Type}{l:List Blk}{t:r}{e:bE ps r},bD ps l t=some e->bI ps e=(l,t)
 |[],r,l,t,e,h=>by
  simp only[bD]at h
  split at h
  ·injection h with h;subst h;rfl
  ·cases h
 |p::ps,r,l,t,e,h=>by
  simp only[bD]at h
  split at h
  ·split at h
   ·rename_i t' ht
    have h1:=bD_inst ps ht
    have h2:=p.dec_inst h
    simp only[bI,h2,h1]
   ·cases h
  ·cases h
@[reducible] def sE:List (Nat×PV)->Type->Type
 |[],r=>r
 |p::ps,r=>p.2.E (sE ps r)
def sI:(ps:List (Nat×PV))-> {r:Type}->sE ps r->List (Nat×CV)×r
 |[],_,e=>([],e)
 |p::ps,_,e=>((p.1,(p.2.inst e).1)::(sI ps (p.2.inst e).2).1,(sI ps (p.2.inst e).2).2)
def sD:(ps:List (Nat×PV))-> {r:Type}->List CV->r->Option (sE ps r)
 |[],_,_,t=>some t
 |p::ps,_,l,t=>match sD ps l t with|some t'=>p.2.dec (l.getD p.1 .junk) t'|none=>none
theorem sD_inst:∀(ps:List (Nat×PV)){r:Type}{l:List CV}{t:r}{e:sE ps r},sD ps l t=some e->allAt l (sI ps e).1/\(sI ps e).1.map (·.1)=ps.map (·.1)/\(sI ps e).2=t
 |[],r,l,t,e,h=>by
  simp only[sD]at h
  injection h with h;subst h;exact⟨trivial,rfl,rfl⟩
 |p::ps,r,l,t,e,h=>by
  simp only[sD]at h
  split at h
  ·rename_i t' ht
   obtain⟨h1,h2,h3⟩:=sD_inst ps ht
   have h4:=p.2.dec_inst h
   have e1:(p.2.inst e).1=l.getD p.1 .junk:=by rw[h4]
   have e2:(p.2.inst e).2=t':=by rw[h4]
   simp only[sI,e1,e2,List.map_cons,h2]
   exact⟨⟨rfl,h1⟩,trivial,h3⟩
  ·cases h
structure PS where
 n:Nat
 sl:List (Nat×PV)
 hp:List PB
 fb:Nat
@[reducible] def PS.E (T:PS):Type:=sE T.sl (bE T.hp Unit)
def PS.inst(T:PS)(e:T.E):St:=⟨fill T.n (sI T.sl e).1,(bI T.hp (sI T.sl e).2).1,T.fb⟩
def PS.dec(T:PS)(S:St):Option T.E:=if shapeOK S T.n (T.sl.map (·.1)) T.fb=true then match bD T.hp S.hp ()with|some t=>sD T.sl S.sl t|none=>none else none
theorem PS.dec_inst{T:PS}{S:St}{e:T.E}(h:T.dec S=some e):S=T.inst e:=by
 unfold PS.dec at h
 split at h
 ·rename_i hs
  split at h
  ·rename_i t ht
   obtain⟨h1,h2,h3⟩:=sD_inst T.sl h
   have h4:=bD_inst T.hp ht
   unfold PS.inst
   rw[<-h2]at hs
   rw[st_of hs h1 rfl,h3,h4]
  ·cases h
 ·cases h
def sx(n:Nat)(l:List (Nat×CV))(hp:List Blk)(fb:Nat:=0):St:=⟨fill n l,hp,fb⟩
abbrev Orc(R:Type):=St->(Ex->St->Option R)->Option R
def orc{R:Type}(T:PS)(G:T.E->(Ex->St->Option R)->Option R)(o:Orc R:=fun _ _=>none):Orc R:=fun S k=>match T.dec S with|some e=>G e k|none=>o S k
def orL{R E:Type}(T:PS)(L:T.E->Option E)(Y:(Ex->St->Option R)->E->Option R)(o:Orc R:=fun _ _=>none):Orc R:=orc T (fun a k=>(L a).bind (Y k)) o
def isEnd:IC->Bool| .ret=>true| .exit _=>true|_=>false
def outer:IC->List IC
 | .seq a b=>outer a++outer b
 | .cond _ a b=>outer a++outer b
 | .block _ b=>outer b
 | .loop l b=>[.loop l b]
 | .cut l b=>if isEnd b=true then []else [.cut l b]
 |_=>[]
def inner:IC->IC| .loop _ b=>b| .cut _ b=>b|c=>c
def lv:IC->List Nat| .loop l _=>l| .cut l _=>l|_=>[]
def isLoop:IC->Bool| .loop _ _=>true|_=>false
def isCut:IC->Bool| .cut _ _=>true|_=>false
def mkT{R:Type}:IC->List (Orc R)->LT R
 | .seq a b,os=> .node (mkT a os) (mkT b (os.drop (outer a).length))
 | .cond _ a b,os=> .node (mkT a os) (mkT b (os.drop (outer a).length))
 | .block _ b,os=> .node (mkT b os) .nil
 | .loop _ _,os=>match os with|o::_=> .orc o|[]=> .nil
 | .cut _ b,os=>if isEnd b=true then .nil else match os with|o::_=> .orc o|[]=> .nil
 |_,_=> .nil
section
variable{R:Type}(summ:Nat->Option Summ)(fu:Nat)(call:CallT R)
def okN(c:IC)(o:Orc R):Prop:=match c with
 | .loop l b=>∀T k r,o T k=some r->evLoopN (evCode summ fu call b) (St.norm l) fu T k=some r
 | .cut _ b=>∀T k r,o T k=some r->evCode summ fu call b T k=some r
 |_=>True
def allN:List IC->List (Orc R)->Prop
 |c::cs,o::os=>okN summ fu call c o/\allN cs os
 |_,_=>True
variable{summ fu call}
theorem allN_app:∀(xs ys:List IC)(os:List (Orc R)),allN summ fu call (xs++ys) os->allN summ fu call xs os/\allN summ fu call ys (os.drop xs.length)
 |[],ys,os,h=>⟨trivial,h⟩
 |x::xs,ys,[],h=>⟨trivial,by cases ys<;>trivial⟩
 |x::xs,ys,o::os,h=>by
  obtain⟨h1,h2⟩:=allN_app xs ys os h.2
  exact⟨⟨h.1,h1⟩,h2⟩
theorem mkT_ok:∀(c:IC)(os:List (Orc R)),allN summ fu call (outer c) os->LTok summ fu call (mkT c os) c
 | .seq a b,os,h=>by
   obtain⟨h1,h2⟩:=allN_app _ _ _ h
   exact⟨mkT_ok a _ h1,mkT_ok b _ h2⟩
 | .cond _ a b,os,h=>by
   obtain⟨h1,h2⟩:=allN_app _ _ _ h
   exact⟨mkT_ok a _ h1,mkT_ok b _ h2⟩
 | .block _ b,os,h=>mkT_ok b os h
 | .loop l b,[],_=>trivial
 | .loop l b,o::os,h=>h.1
 | .cut l b,os,h=>by
   simp only[mkT,outer]at h⊢
   split
   ·trivial
   ·rename_i hb
    rw[if_neg hb]at h
    cases os with
    |nil=>trivial
    |cons o os=>exact h.1
 | .skip,_,_=>trivial
 | .region _ _ _,_,_=>trivial
 | .exit _,_,_=>trivial
 | .ret,_,_=>trivial
 | .rangef _ _ _ _ _ _,_,_=>trivial
end
def nd(c:IC)(i:Nat):IC:=(outer c).getD i .skip
def oksFrom{R:Type}(summ:Nat->Option Summ)(fu:Nat)(call:CallT R)(c:IC):Nat->List (Orc R)->Prop
 |_,[]=>True
 |i,o::os=>okN summ fu call (nd c i) o/\oksFrom summ fu call c (i+1) os
theorem oks_all{R:Type}{summ:Nat->Option Summ}{fu:Nat}{call:CallT R}{c:IC}:∀(os:List (Orc R))(i:Nat),oksFrom summ fu call c i os->allN summ fu call ((outer c).drop i) os
 |[],i,_=>by cases (outer c).drop i<;>trivial
 |o::os,i,h=>by
  rcases Nat.lt_or_ge i (outer c).length with hi|hi
  ·rw[List.drop_eq_getElem_cons hi]
   refine⟨?_,oks_all os (i+1) h.2⟩
   have:=h.1
   unfold nd at this
   rw[List.getD_eq_getElem?_getD,List.getElem?_eq_getElem hi]at this
   exact this
  ·rw[List.drop_eq_nil_of_le hi];trivial
theorem oks_ok{R:Type}{summ:Nat->Option Summ}{fu:Nat}{call:CallT R}{c:IC}{os:List (Orc R)}(h:oksFrom summ fu call c 0 os):LTok summ fu call (mkT c os) c:=mkT_ok c os (oks_all os 0 h)
theorem gdN{A B:Type}{c:Bool}{x:Option A}{f:A->Option B}{y:Option B}(h:x.bind f=y):(gd c x).bind f=gd c y:=by cases c;rfl;exact h
theorem condN{A B:Type}{c:Bool}{x x':Option A}{f:A->Option B}{y y':Option B}(h:x.bind f=y)(h':x'.bind f=y'):(bif c then x else x').bind f=bif c then y else y':=by cases c;exact h';exact h
section
variable{summ:Nat->Option Summ}{fns:Nat->Option IFn}{n:Nat}
theorem lpN{R E:Type}{b:St->(Ex->St->Option R)->Option R}{nrm:St->St}{T:PS}(L:Nat->T.E->Option E)(Sf:(R:Type)->(T.E->Option R)->(E->Option R)->T.E->Option R){k:Ex->St->Option R}{Y:E->Option R}
 (h0:∀a,L 0 a=none) (hs:∀m a,L (m+1) a=Sf E (L m) some a)
 (hb:∀K a,evLB b nrm (T.inst a) K k=Sf R (fun a=>K (T.inst a)) Y a)
 (hn:∀(K:T.E->Option E)a,(Sf E K some a).bind Y=Sf R (fun a=>(K a).bind Y) Y a):∀m a,evLoopN b nrm m (T.inst a) k=(L m a).bind Y
 |0,a=>by rw[h0];rfl
 |m+1,a=>by
  rw[evLoopN_succ,hb,hs,hn]
  congr 1
  funext a
  exact lpN L Sf h0 hs hb hn m a
theorem lp{R E:Type}{c:IC}{ov:Nat->Option (List CV->List Blk->(CV->List Blk->Option R)->Option R)}(ho:OvrOK ov (evFn summ fns FU n)){os:List (Orc R)}(hi:oksFrom summ FU (evFn summ fns FU n) (inner c) 0 os)(T:PS)(L:Nat->T.E->Option E)(Sf:(R:Type)->(T.E->Option R)->(E->Option R)->T.E->Option R)(Y:(Ex->St->Option R)->E->Option R)
 (h0:∀a,L 0 a=none) (hs:∀m a,L (m+1) a=Sf E (L m) some a)
 (hb:∀k K a,evLB (evCodeL summ FU (ovr ov (evFn summ fns FU n)) (mkT (inner c) os) (inner c)) (St.norm (lv c)) (T.inst a) K k=Sf R (fun a=>K (T.inst a)) (Y k) a)
 (hn:∀(Y:E->Option R)(K:T.E->Option E)a,(Sf E K some a).bind Y=Sf R (fun a=>(K a).bind Y) Y a) {o:Orc R} (hq:okN summ FU (evFn summ fns FU n) c o) (hc:isLoop c=true:=by kernel_rfl) :
 okN summ FU (evFn summ fns FU n) c (orL T (L FU) Y o):=by
 cases c with
 |loop l b=>
  intro S k r h
  unfold orL orc at h
  split at h
  ·rename_i e he
   rw[PS.dec_inst he]
   refine evLoopN_L ho (oks_ok hi) _ _ _ _ ?_
   rw[<-h]
   exact lpN L Sf h0 hs (hb k) (hn (Y k)) FU e
  ·exact hq _ _ _ h
 |_=>cases hc
theorem lp0{R E:Type}{c:IC}(T:PS)(L:Nat->T.E->Option E)(Sf:(R:Type)->(T.E->Option R)->(E->Option R)->T.E->Option R)(Y:(Ex->St->Option R)->E->Option R)
 (hb:∀k K a,evLB (evCodeL summ FU (ovr noO (evFn summ fns FU n)) (mkT (inner c) []) (inner c)) (St.norm (lv c)) (T.inst a) K k=Sf R (fun a=>K (T.inst a)) (Y k) a)
 (hn:∀(Y:E->Option R)(K:T.E->Option E)a,(Sf E K some a).bind Y=Sf R (fun a=>(K a).bind Y) Y a) {o:Orc R} (hq:okN summ FU (evFn summ fns FU n) c o) (h0:∀a,L 0 a=none:=by intro _;rfl) (hs:∀m a,L (m+1) a=Sf E (L m) some a:=by intro _ _;rfl) (hc:isLoop c=true:=by kernel_rfl) :
 okN summ FU (evFn summ fns FU n) c (orL T (L FU) Y o):=lp noO_ok (os:=[]) trivial T L Sf Y h0 hs hb hn hq hc
theorem ok0{R:Type}{call:CallT R}(c:IC):okN summ FU call c (fun _ _=>none):=by
 unfold okN
 cases c<;>first|trivial|(intro _ _ _ h;cases h)
theorem jp{R E:Type}{c:IC}{ov:Nat->Option (List CV->List Blk->(CV->List Blk->Option R)->Option R)}(ho:OvrOK ov (evFn summ fns FU n)){os:List (Orc R)}(hi:oksFrom summ FU (evFn summ fns FU n) (inner c) 0 os)(T:PS)(Sf:(R:Type)->(E->Option R)->T.E->Option R)(Y:(Ex->St->Option R)->E->Option R)
 (hb:∀k a,evJ (evCodeL summ FU (ovr ov (evFn summ fns FU n)) (mkT (inner c) os) (inner c)) (T.inst a) k=Sf R (Y k) a)
 (hn:∀(Y:E->Option R)a,(Sf E some a).bind Y=Sf R Y a) {o:Orc R} (hq:okN summ FU (evFn summ fns FU n) c o) (hc:isCut c=true:=by kernel_rfl) :
 okN summ FU (evFn summ fns FU n) c (orL T (Sf E some) Y o):=by
 cases c with
 |cut l b=>
  intro S k r h
  unfold orL orc at h
  split at h
  ·rename_i e he
   rw[PS.dec_inst he]
   refine bodyL_sound ho (oks_ok hi) ?_
   rw[<-h]
   exact(hb k e).trans (hn (Y k) e).symm
  ·exact hq _ _ _ h
 |_=>cases hc
end
theorem erase_if{p:Prop} [Decidable p]{l:List Nat}{x:IC}:(if p then IC.cut l x else x).erase=x.erase:=by split<;>rfl
theorem flow_erase(wm:Nat)(ret:List Nat):∀(c:IC)(ex:List (Nat×List Nat))(out:List Nat)(es:List AEnv)(acc:Nat),(flow wm ret c ex out es acc).c.erase=c.erase
 | .skip,_,_,_,_=>rfl
 | .region _ _ _,_,_,_,_=>rfl
 | .seq a b,ex,out,es,acc=>by simp only[flow,IC.erase,erase_if,flow_erase wm ret a,flow_erase wm ret b]
 | .cond c a b,ex,out,es,acc=>by simp only[flow,IC.erase,erase_if,flow_erase wm ret a,flow_erase wm ret b]
 | .block id b,ex,out,es,acc=>by simp only[flow,IC.erase,flow_erase wm ret b]
 | .loop l b,ex,out,es,acc=>by simp only[flow,IC.erase,flow_erase wm ret b]
 | .cut l b,ex,out,es,acc=>by simp only[flow,IC.erase,flow_erase wm ret b]
 | .exit _,_,_,_,_=>rfl
 | .ret,_,_,_,_=>rfl
 | .rangef id g lv ps a b,ex,out,es,acc=>by simp only[flow,IC.erase,flow_erase wm [] a,flow_erase wm [] b]
theorem compC_erase(P:Program)(sm:Nat->Bool)(f:Nat):∀c:Code,(compC P sm f c).erase=compC P sm f c
 | .region _ ops draw=>by
   simp only[compC]
   split
   ·rfl
   ·split
    ·split<;>rfl
    ·rfl
 | .seq a b=>by simp only[compC,IC.erase,compC_erase P sm f a,compC_erase P sm f b]
 | .cond c a b=>by simp only[compC,IC.erase,compC_erase P sm f a,compC_erase P sm f b]
 | .block id b=>by simp only[compC,IC.erase,compC_erase P sm f b]
 | .loop b=>by simp only[compC,IC.erase,compC_erase P sm f b]
 | .skip=>rfl
 | .exit _=>rfl
 | .ret=>rfl
 | .goto _=>rfl
 | .label _=>rfl
 | .scope _=>rfl
 | .refuse _=>rfl
 | .rangeFunc _ _ a b=>by simp only[compC,IC.erase,compC_erase P sm f a,compC_erase P sm f b]
def oneF(fn:Func):Bool:=match fn.body with|some b=>oneR b|none=>true
def cutB(c:Bool)(n:Nat)(g:IFn):IFn:=if c=true then {g with body:= .cut (List.range n) g.body}else g
def fnsP(P:Program)(sm:Nat->Bool)(w:Nat->Nat)(cf df:Nat->Bool)(f:Nat):Option IFn:=match P.funcs[f]? with
 |some fn=>if df f=true\/fn.name= "runtime.NumGoroutine" \/oneF fn=false then none else match comp P sm f fn (w f)with
  |some g=>some (cutB (cf f) (fn.params.size+fn.nfree) g)
  |none=>none
 |none=>none
theorem fnsP_ok{P:Program}{sm:Nat->Bool}{w:Nat->Nat}{cf df:Nat->Bool}:FnsOK P sm (fnsP P sm w cf df):=by
 intro f g h
 unfold fnsP at h
 split at h
 ·rename_i fn hfn
  split at h
  ·cases h
  ·rename_i hn
   split at h
   ·rename_i g' hg
    injection h with h
    subst h
    unfold comp at hg
    split at hg
    ·cases hg
    ·rename_i b hb
     injection hg with hg
     subst hg
     have hk:∀(n:Nat)(c:Bool)(g:IFn),(cutB c n g).key=g.key:=by
      intro n c g
      unfold cutB IFn.key
      split<;>rfl
     rw[hk]
     unfold fnKey IFn.key
     simp only[hfn,hb,flow_erase,compC_erase]
     have h1:=not_or.1 (not_or.1 hn).2
     have h2:(fn.name != "runtime.NumGoroutine")=true:=by simpa using h1.1
     have h3:oneR b=true:=by
      have:=h1.2
      unfold oneF at this
      simp only[hb]at this
      simpa using this
     rw[h2,h3]
     rfl
   ·cases h
 ·cases h
def fO(fns:Nat->Option IFn)(f:Nat):IFn:=match fns f with|some g=>g|none=>⟨0,[],.skip⟩
abbrev fB(fns:Nat->Option IFn)(f:Nat):IC:=(fO fns f).body
section
variable{summ:Nat->Option Summ}{fns:Nat->Option IFn}{d:Nat}
theorem runG{R:Type}{N:Nat}{ov:Nat->Option (List CV->List Blk->(CV->List Blk->Option R)->Option R)}(ho:OvrOK ov (evFn summ fns FU d)){os:List (Orc R)}(hos:oksFrom summ FU (evFn summ fns FU d) (fB fns N) 0 os){args:List CV}{hp:List Blk}{k:CV->List Blk->Option R}{r:R}
 (h:evFnL summ FU (ovr ov (evFn summ fns FU d)) (mkT (fB fns N) os) (fO fns N) args hp k=some r) (hf:(fns N).isSome=true:=by kernel_rfl) (hrz:Nat.ble RZ N=false:=by kernel_rfl):evFn summ fns FU (d+1) N args hp k=some r:=by
 obtain⟨fn,hfn⟩:=Option.isSome_iff_exists.1 hf
 have e:fO fns N=fn:=by unfold fO;rw[hfn]
 unfold fB at hos h
 rw[e]at hos h
 exact evFnL_sound hrz hfn ho (oks_ok hos) h
end
abbrev fR(fns:Nat->Option IFn)(f:Nat):List Nat×IC×IC:=rndO (fO fns f)
theorem pvG{α:Type}{o:Option α}{e y:α}(h:o=some y):o.isSome=true/\o.getD e=y:=by subst h;exact⟨rfl,rfl⟩
def smL:List (Nat×Summ)->Nat->Option Summ
 |[],_=>none
 |p::l,f=>bif Nat.beq f p.1 then some p.2 else smL l f
def SmAll(P:Program):List (Nat×Summ)->Prop
 |[]=>True
 |p::l=>SummOK P p.1 p.2/\SmAll P l
theorem smL_ok{P:Program}:∀ {l:List (Nat×Summ)},SmAll P l->∀f s,smL l f=some s->SummOK P f s
 |[],_,f,s,h=>by cases h
 |p::l,h,f,s,e=>by
  unfold smL at e
  cases hb:Nat.beq f p.1
  ·rw[hb]at e;exact smL_ok h.2 f s e
  ·rw[hb]at e
   injection e with e
   subst e
   rw[Nat.eq_of_beq_eq_true hb]
   exact h.1
theorem callG{P:Program}{sm:Nat->Bool}{w:Nat->Nat}{cf df:Nat->Bool}(hm:P.follows .mixedOrders=true){l:List (Nat×Summ)}(h:SmAll P l){R:Type}(n base:Nat):CallOK P base (rokOf P sm (fnsP P sm w cf df)) (evFn (R:=R) (smL l) (fnsP P sm w cf df) FU n) :=
 ev_sound hm (smL_ok h) (fun f s e=>(smL_ok h f s e).2.1) fnsP_ok n
theorem sokS{P:Program}{sm:Nat->Bool}{w:Nat->Nat}{cf df:Nat->Bool}(hm:P.follows .mixedOrders=true){l:List (Nat×Summ)}{f n:Nat}{ts rs:List Ty}{F:HDen ts->Option (HDen rs)}
 (h:∀x y,F x=some y->evFn (smL l) (fnsP P sm w cf df) FU n f (ofH ts x) [] (pureK rs)=some y) (hl:SmAll P l) (hcb:callable P f=true:=by kernel_rfl) (hrz:Nat.ble RZ f=false:=by kernel_rfl):SummOK P f (shS ts rs (fun x=>(F x).isSome) (fun x=>(F x).getD (dfH rs))) :=
 summ_sh (fun _=>rfl) (fun _=>rfl) (callG hm hl n) hrz hcb h
theorem sokN{P:Program}{sm:Nat->Bool}{w:Nat->Nat}{cf df:Nat->Bool}(hm:P.follows .mixedOrders=true){l:List (Nat×Summ)}{f n:Nat}{ts rs:List Ty}{F:HDen ts->Option (HDen rs)}
 (h:∀x y,F x=some y->evFn (smL l) (fnsP P sm w cf df) FU n f (ofH ts x) [] (pureK rs)=some y) (hl:SmAll P l) (hrs:(rs.all fun t=> !t.slices)=true:=by decide) (hcb:callable P f=true:=by kernel_rfl) (hrz:Nat.ble RZ f=false:=by kernel_rfl):SummOK P f (shN ts rs (fun x=>(F x).isSome) (fun x=>(F x).getD (dfH rs))) :=
 summ_shN hrs (fun _=>rfl) (fun _=>rfl) (callG hm hl n) hrz hcb h
end Go.Ev
namespace Go.Ev
open Go Go.RowKit
def lmT:List Bool->Ty->Ty
 |true::q,.pair _ b=>lmT q b
 |false::q,.pair a _=>lmT q a
 |[],.pair a _=>lmT [] a
 |_,.slice u=>u
 |_,t=>t
def lmV:(p:List Bool)->(t:Ty)->t.den->List (lmT p t).den
 |true::q,.pair _ b,x=>lmV q b x.2
 |false::q,.pair a _,x=>lmV q a x.1
 |[],.pair a _,x=>lmV [] a x.1
 |[],.slice _,x=>x|true::_,.slice _,x=>x|false::_,.slice _,x=>x
 |[],.int _,_=>[]|[],.bool,_=>[]|[],.str,_=>[]|[],.unit,_=>[]|[],.arr _ _,_=>[]
 |true::_,.int _,_=>[]|true::_,.bool,_=>[]|true::_,.str,_=>[]|true::_,.unit,_=>[]|true::_,.arr _ _,_=>[]
 |false::_,.int _,_=>[]|false::_,.bool,_=>[]|false::_,.str,_=>[]|false::_,.unit,_=>[]|false::_,.arr _ _,_=>[]
def hasB(o:Option Nat)(l:List Nat):Bool:=match o with|some n=>l.contains n|none=>false
def ownL(look:Look)(te:Nat)(u:Ty):CV->Option (Option Nat×List u.den)
 | .nil _ _=>some (none,([]:List u.den))
 | .whole b=>match look b with
   | .vec te' u' xs=>if h:te'=te/\u'=u then some (some b,(h.2▸xs:List u.den))else none
   |_=>none
 |_=>none
def ownV(look:Look)(te:Nat):List Bool->(t:Ty)->CV->Option (Option Nat×t.den)
 |_,.slice u,c=>ownL look te u c
 |true::q,.pair a b,.pair c d=>match toPH look a c with
  |some x=>match ownV look te q b d with
   |some r=>if hasB r.1 c.refs then none else some (r.1,(x,r.2))
   |none=>none
  |none=>none
 |false::q,.pair a b,.pair c d=>match ownV look te q a c with
  |some r=>match toPH look b d with
   |some y=>if hasB r.1 d.refs then none else some (r.1,(r.2,y))
   |none=>none
  |none=>none
 |[],.pair a b,.pair c d=>match ownV look te [] a c with
  |some r=>match toPH look b d with
   |some y=>if hasB r.1 d.refs then none else some (r.1,(r.2,y))
   |none=>none
  |none=>none
 |_,_,_=>none
def ownC(nid:Nat):List Bool->(t:Ty)->t.den->CV
 |_,.slice _,_=> .whole nid
 |true::q,.pair a b,x=> .pair (ofP a x.1) (ownC nid q b x.2)
 |false::q,.pair a b,x=> .pair (ownC nid q a x.1) (ofP b x.2)
 |[],.pair a b,x=> .pair (ownC nid [] a x.1) (ofP b x.2)
 |_,.int k,x=> .int k x|_,.bool,x=> .bool x|_,.str,x=> .pure .str x|_,.unit,x=> .pure .unit x|_,.arr n e,x=> .pure (.arr n e) x
def restR:List Bool->Ty->CV->List Nat
 |true::q,.pair _ b,.pair c d=>c.refs++restR q b d
 |false::q,.pair a _,.pair c d=>restR q a c++d.refs
 |[],.pair a _,.pair c d=>restR [] a c++d.refs
 |_,_,_=>[]
theorem ownV_sl(look:Look)(te:Nat)(p:List Bool)(u:Ty)(c:CV):ownV look te p (.slice u) c=ownL look te u c:=by
 cases p with
 |nil=>rw[ownV]
 |cons b q=>cases b<;>rw[ownV]
theorem restR_sl(p:List Bool)(u:Ty)(c:CV):restR p (.slice u) c=[]:=by
 cases p with
 |nil=>rfl
 |cons b q=>cases b<;>rfl
theorem own_rest{look:Look}{te n:Nat}:∀ {t:Ty}{p:List Bool}{c:CV}{x:t.den},ownV look te p t c=some (some n,x)->n∉restR p t c:=by
 intro t
 induction t with
 |slice u=>intro p c x _;rw[restR_sl];simp
 |pair a b iha ihb=>
  intro p c x h
  have left:∀q,(∀ {c:CV}{x:a.den},ownV look te q a c=some (some n,x)->n∉restR q a c)->∀c d,(match ownV look te q a c with|some r=>(match toPH look b d with|some y=>if hasB r.1 d.refs then none else some (r.1,(r.2,y))|none=>none)|none=>none)=some (some n,x)->n∉restR q a c++d.refs:=by
   intro q ih c d h
   split at h
   ·rename_i r hr
    split at h
    ·split at h
     ·cases h
     ·rename_i hb
      obtain⟨r1,r2⟩:=r
      simp at h
      obtain⟨rfl,_⟩:=h
      have:=ih hr
      simp only[hasB]at hb
      simp only[List.mem_append,not_or]
      exact⟨this,by simpa using hb⟩
    ·cases h
   ·cases h
  cases p with
  |nil=>
   cases c<;>simp only[ownV]at h<;>try (cases h;done)
   exact left [] iha _ _ h
  |cons f q=>
   cases f with
   |false=>
    cases c<;>simp only[ownV]at h<;>try (cases h;done)
    exact left q iha _ _ h
   |true=>
    cases c<;>simp only[ownV]at h<;>try (cases h;done)
    split at h
    ·split at h
     ·rename_i r hr
      split at h
      ·cases h
      ·rename_i hb
       obtain⟨r1,r2⟩:=r
       simp at h
       obtain⟨rfl,_⟩:=h
       have:=ihb hr
       simp only[hasB]at hb
       simp only[restR,List.mem_append,not_or]
       exact⟨by simpa using hb,this⟩
     ·cases h
    ·cases h
 |_=>intros p c x h;cases p with
     |nil=>cases c<;>simp[ownV]at h
     |cons f q=>cases f<;>cases c<;>simp[ownV]at h
theorem own_agg{look:Look}{te:Nat}{p:List Bool}:∀ {t:Ty}{c:CV}{r:Option Nat×t.den},ownV look te p t c=some r->c.isAgg=t.agg/\(∀d,c≠ .tup d)/\∀nid,(ownC nid p t r.2).isAgg=t.agg/\∀d,ownC nid p t r.2≠ .tup d:=by
 intro t
 cases t with
 |pair a b=>
  intro c r h
  cases p with
  |nil=>cases c<;>simp only[ownV]at h<;>try (cases h;done)
        exact⟨rfl,by simp,fun nid=>⟨rfl,by simp[ownC]⟩⟩
  |cons f q=>cases f<;>cases c<;>simp only[ownV]at h<;>try (cases h;done)
             all_goals exact⟨rfl,by simp,fun nid=>⟨rfl,by simp[ownC]⟩⟩
 |slice u=>
  intro c r h
  rw[ownV_sl]at h
  have e:∀nid,ownC nid p (.slice u) r.2= .whole nid:=fun nid=>by
   cases p with
   |nil=>rfl
   |cons f q=>cases f<;>rfl
  cases c<;>simp only[ownL]at h<;>try (cases h;done)
  all_goals exact⟨rfl,by simp,fun nid=>⟨by rw[e];rfl,by rw[e];simp⟩⟩
 |_=>intros c r h;cases p with
     |nil=>cases c<;>simp[ownV]at h
     |cons f q=>cases f<;>cases c<;>simp[ownV]at h
theorem own_rep{E:Env}{base:Nat}{look:Look}(L:LRep E base look){te:Nat}{I2:Nat->Prop}(hI:∀g,E.R g->I2 g):∀ {t:Ty}{p:List Bool}{c:CV}{o:Option Nat}{x:t.den}{cells:List Value},ownV look te p t c=some (o,x)->c.subOK look=true->CRep E c cells->(∀b∈restR p t c,∀g,holdsB E b (look b) g->I2 g) ->
 ∃v rows,E.w.ownsRow base te (lmT p t).size v (lmV p t x).length rows/\Rows (RepD E.w E.R (lmT p t)) (lmV p t x) rows/\(∀g,v.ownBlock=some g->∃b,o=some b/\holdsB E b (look b) g)/\(∃a n k,v= .slice a n k) /\
  ∀(E':Env)(nid:Nat),E'.w=E.w->(∀g,I2 g->E'.R g)->E'.live nid->E'.σ nid=v->CRep E' (ownC nid p t x) cells:=by
 intro t
 induction t with
 |slice u=>
  intro p c o x cells h hs hc hr
  rw[ownV_sl]at h
  have e1:lmT p (.slice u)=u:=by
   cases p with
   |nil=>rfl
   |cons f q=>cases f<;>rfl
  have key:∃v rows,E.w.ownsRow base te u.size v (List.length x) rows/\Rows (RepD E.w E.R u) x rows/\(∀g,v.ownBlock=some g->∃b,o=some b/\holdsB E b (look b) g)/\(∃a n k,v= .slice a n k) /\
   ∀(E':Env)(nid:Nat),E'.live nid->E'.σ nid=v->CRep E' (.whole nid) cells:=by
   cases c<;>simp only[ownL]at h<;>try (cases h;done)
   ·simp at h
    obtain⟨rfl,rfl⟩:=h
    have hc:cells=[.slice none 0 0]:=hc
    subst hc
    exact⟨.slice none 0 0,[],World.ownsRow_nil _ _ _ _,rfl,(fun g hg=>by cases hg),⟨_,_,_,rfl⟩,(fun E' nid hl hσ=>⟨hl,(by rw[hσ]),_,_,_,hσ⟩)⟩
   ·rename_i b
    split at h
    ·rename_i te' u' xs hlk
     split at h
     ·rename_i he
      obtain⟨rfl,rfl⟩:=he
      simp at h
      obtain⟨rfl,rfl⟩:=h
      obtain⟨hl,rfl,hsl⟩:=hc
      have hb:=L b
      rw[hlk]at hb
      obtain⟨cells,hrw,hown,hpos,hg⟩:=hb
      refine⟨E.σ b,cells,hown,hrw,(fun g hg=>⟨b,rfl,(by rw[hlk];exact hg)⟩),hsl,(fun E' nid hl hσ=>⟨hl,(by rw[hσ]),?_⟩)⟩
      obtain⟨a,n,k,e⟩:=hsl
      exact⟨a,n,k,hσ.trans e⟩
     ·cases h
    ·cases h
  obtain⟨v,rows,k1,k2,k3,k4,k5⟩:=key
  cases p with
  |nil=>exact⟨v,rows,k1,k2,k3,k4,fun E' nid _ _ h1 h2=>k5 E' nid h1 h2⟩
  |cons f q=>cases f<;>exact⟨v,rows,k1,k2,k3,k4,fun E' nid _ _ h1 h2=>k5 E' nid h1 h2⟩
 |pair a b iha ihb=>
  intro p c o x cells h hs hc hr
  have left:∀q c d,(match ownV look te q a c with|some r=>(match toPH look b d with|some y=>if hasB r.1 d.refs then none else some (r.1,(r.2,y))|none=>none)|none=>none)=some (o,x)->(CV.pair c d).subOK look=true->CRep E (.pair c d) cells->(∀b'∈restR q a c++d.refs,∀g,holdsB E b' (look b') g->I2 g) ->
   ∃v rows,E.w.ownsRow base te (lmT q a).size v (lmV q a x.1).length rows/\Rows (RepD E.w E.R (lmT q a)) (lmV q a x.1) rows/\(∀g,v.ownBlock=some g->∃b,o=some b/\holdsB E b (look b) g)/\(∃a n k,v= .slice a n k) /\
    ∀(E':Env)(nid:Nat),E'.w=E.w->(∀g,I2 g->E'.R g)->E'.live nid->E'.σ nid=v->CRep E' (.pair (ownC nid q a x.1) (ofP b x.2)) cells:=by
   intro q c d h hs hc hr
   split at h
   ·rename_i r hra
    split at h
    ·rename_i y hy
     split at h
     ·cases h
     ·obtain⟨r1,r2⟩:=r
      simp at h
      obtain⟨rfl,rfl⟩:=h
      obtain⟨c1,c2,rfl,h1,h2⟩:=hc
      simp only[CV.subOK,Bool.and_eq_true]at hs
      obtain⟨v,rows,g1,g2,g3,g4,g5⟩:=iha hra hs.1 h1 (fun b hb=>hr b (by simp[hb]))
      have hd:=toPH_rep L (I':=I2) hI hy hs.2 h2 (fun g⟨b,hb,hg⟩=>hr b (by simp[hb]) g hg)
      refine⟨v,rows,g1,g2,g3,g4,(fun E' nid hw hI' hl hσ=>⟨c1,c2,rfl,g5 E' nid hw hI' hl hσ,CRep_ofP ?_⟩)⟩
      rw[hw]
      exact RepD.mono (w:=E.w) (w':=E.w) hI' (fun _ _=>rfl) _ _ _ hd
    ·cases h
   ·cases h
  cases p with
  |nil=>
   cases c<;>simp only[ownV]at h<;>try (cases h;done)
   exact left [] _ _ h hs hc hr
  |cons f q=>
   cases f with
   |false=>
    cases c<;>simp only[ownV]at h<;>try (cases h;done)
    exact left q _ _ h hs hc hr
   |true=>
    cases c<;>simp only[ownV]at h<;>try (cases h;done)
    split at h
    ·rename_i y hy
     split at h
     ·rename_i r hrb
      split at h
      ·cases h
      ·obtain⟨r1,r2⟩:=r
       simp at h
       obtain⟨rfl,rfl⟩:=h
       obtain⟨c1,c2,rfl,h1,h2⟩:=hc
       simp only[CV.subOK,Bool.and_eq_true]at hs
       simp only[restR]at hr
       obtain⟨v,rows,g1,g2,g3,g4,g5⟩:=ihb hrb hs.2 h2 (fun b hb=>hr b (by simp[hb]))
       have hd:=toPH_rep L (I':=I2) hI hy hs.1 h1 (fun g⟨b,hb,hg⟩=>hr b (by simp[hb]) g hg)
       refine⟨v,rows,g1,g2,g3,g4,(fun E' nid hw hI' hl hσ=>⟨c1,c2,rfl,CRep_ofP ?_,g5 E' nid hw hI' hl hσ⟩)⟩
       rw[hw]
       exact RepD.mono (w:=E.w) (w':=E.w) hI' (fun _ _=>rfl) _ _ _ hd
     ·cases h
    ·cases h
 |_=>intros p c o x cells h;cases p with
     |nil=>cases c<;>simp[ownV]at h
     |cons f q=>cases f<;>cases c<;>simp[ownV]at h
def ownK(te:Nat)(pt:List Bool)(t:Ty)(ts:List Ty)(v:CV)(hp:List Blk):Option (HDen (t::ts)):=match untup (ts.length+1) v with
 |some (c::l)=>match ownV (lookH hp) te pt t c with
  |some r=>if hasB r.1 (l.flatMap CV.refs)then none else gd (subsOK (lookH hp) (c::l)) (match purify (lookH hp) ts l with
   |some cs=>match toH ts cs with|some y=>some (r.2,y)|none=>none
   |none=>none)
  |none=>none
 |_=>none
theorem ownK_some{te:Nat}{pt:List Bool}{t:Ty}{ts:List Ty}{v:CV}{hp:List Blk}{y:HDen (t::ts)}(h:ownK te pt t ts v hp=some y):∃c l o,v=tupOf (c::l)/\ownV (lookH hp) te pt t c=some (o,y.1)/\hasB o (l.flatMap CV.refs)=false/\subsOK (lookH hp) (c::l)=true/\purify (lookH hp) ts l=some (ofH ts y.2):=by
 unfold ownK at h
 split at h
 ·rename_i c l hl
  split at h
  ·rename_i r hr
   split at h
   ·cases h
   ·rename_i hb
    obtain⟨h1,h2⟩:=gd_some h
    split at h2
    ·rename_i cs hcs
     obtain⟨x,rfl⟩:=purify_ofH hcs
     rw[toH_ofH]at h2
     simp at h2;subst h2
     exact⟨c,l,r.1,(untup_tup hl).symm,hr,by simpa using hb,h1,hcs⟩
    ·cases h2
  ·cases h
 ·cases h
def ownS(ats:List Ty)(te:Nat)(pt:List Bool)(t:Ty)(ts:List Ty)(p:HDen ats->Bool)(v:HDen ats->HDen (t::ts)):Summ:=fun cs look nid=>match purify look ats cs with
 |none=>none
 |some cs'=>match toH ats cs' with
  |none=>none
  |some x=>some ⟨subsOK look cs&&p x,tupOf (ownC nid pt t (v x).1::ofH ts (v x).2),frzs look cs++[(nid,.vec te (lmT pt t) (lmV pt t (v x).1))]⟩
theorem ownS_congr(ats:List Ty)(te:Nat)(pt:List Bool)(t:Ty)(ts:List Ty)(p:HDen ats->Bool)(v:HDen ats->HDen (t::ts)):SummC (ownS ats te pt t ts p v):=by
 intro cs look look' nid h
 unfold ownS
 rw[purify_congr h,subsOK_congr h,frzs_congr h]
theorem summ_own{rk:Nat->Loop->Prop}{P:Program}{f te:Nat}{pt:List Bool}{ats:List Ty}{t:Ty}{ts:List Ty}{F:HDen ats->Option (HDen (t::ts))}{p:HDen ats->Bool}{v:HDen ats->HDen (t::ts)}{summ:Nat->Option Summ}{fns:Nat->Option IFn}{fu n:Nat}
 (hpos:0<(lmT pt t).size) (hp0:∀x,p x=(F x).isSome) (hv0:∀x,v x=(F x).getD (dfH (t::ts))) (hcall:∀base,CallOK P base rk (evFn (R:=CV×List Blk) summ fns fu n)) (hrz:Nat.ble RZ f=false) (hcb:callable P f=true)
 (h:∀x y,F x=some y->evFn summ fns fu n f (ofH ats x) [] (ownK te pt t ts)=some y):SummOK P f (ownS ats te pt t ts p v):=by
 refine⟨hcb,ownS_congr _ _ _ _ _ _ _,?_⟩
 intro base E hp cs vs nid out H hvs hs hok hf hn
 unfold ownS at hs
 split at hs
 ·cases hs
 ·rename_i cs' hcs'
  split at hs
  ·cases hs
  ·rename_i x hx
   simp at hs;subst hs
   simp only[Bool.and_eq_true]at hok
   obtain⟨hsub,hpx⟩:=hok
   obtain⟨x',e'⟩:=purify_ofH hcs'
   subst e'
   rw[toH_ofH]at hx
   simp at hx;subst hx
   rw[hp0]at hpx
   obtain⟨y,hy⟩:=Option.isSome_iff_exists.1 hpx
   have ey:v x'=y:=by rw[hv0,hy];rfl
   obtain⟨c0,hp2,hk1,hk2⟩:=evFn_nat summ fu fns n _ _ _ _ _ _ (h x' y hy)
   obtain⟨c,l,o,rfl,hov,hob,hso,hpl⟩:=ownK_some hk1
   obtain⟨_,ht,_⟩:=purify_tup hcs'
   obtain⟨E',hle,H',hw,_,_,hlive,hI⟩:=HS.frzs (lookH hp) (cs.flatMap CV.refs) H (fun _=> .inl rfl) (Vs_refs hvs ht)
   have hvs0:Vs (E'.clean rk) (ofH ats x') vs:=purify_rep (base:=base) (E':=(E'.clean rk)) H.blk hw hle.R hcs' hsub hvs (fun c hc g⟨b,hb,hg⟩=>hI g (.inr ⟨b,List.mem_flatMap.2 ⟨c,hc,hb⟩,hg⟩))
   have hc:=((hcall _).1 f (ofH ats x') [] _ _ hrz (hk2 _ (fun v h=>some (v,h)) _ rfl) (E'.clean rk) vs rfl H'.empty hvs0).2
   rw[<-hw]
   refine Calls.mono hc ?_
   rintro e w' ⟨v1,c1,hp1,E1,rfl,hk,rfl,hle1,H1,hv1,_⟩
   simp only[Option.some.injEq,Prod.mk.injEq]at hk
   obtain⟨rfl,rfl⟩:=hk
   obtain⟨hll,ht0,htl⟩:=purify_tup hpl
   obtain⟨hag,htc,hag2⟩:=own_agg hov
   have ht1:∀c'∈c::l,∀d,c'≠ .tup d:=fun c' hc'=>by
    rcases List.mem_cons.1 hc' with rfl|hc'
    ·exact htc
    ·exact ht0 c' hc'
   obtain⟨us,hus,hback⟩:=tup_split hv1 ht1
   match us,hus with
   |u0::ur,⟨hu0,hur⟩ =>
   obtain⟨cells,g1,g2⟩:=hu0.one1 htc
   obtain⟨I2,hI2⟩:∃I2:Nat->Prop,I2=fun g=>E1.I g\/∃b,b∈restR pt t c++l.flatMap CV.refs/\holdsB E1 b (lookH hp1 b) g:=⟨_,rfl⟩
   have hI2a:∀g,E1.I g->I2 g:=fun g hg=>by rw[hI2];exact .inl hg
   have hI2b:∀b,b∈restR pt t c++l.flatMap CV.refs->∀g,holdsB E1 b (lookH hp1 b) g->I2 g:=fun b hb g hg=>by rw[hI2];exact .inr ⟨b,hb,hg⟩
   have jE:E1.J=E'.J:=hle1.J
   have hR2a:∀g,E1.R g->({E' with w:=E1.w,I:=I2}:Env).R g:=fun g hg=>⟨hI2a g hg.1,fun hj=>hg.2 (by rw[jE];exact hj)⟩
   have hR2b:∀b,b∈restR pt t c++l.flatMap CV.refs->∀g,holdsB E1 b (lookH hp1 b) g->({E' with w:=E1.w,I:=I2}:Env).R g:=fun b hb g hg=>⟨hI2b b hb g hg,fun hj=>H1.heldJ hg (by rw[jE];exact hj)⟩
   simp only[subsOK,List.all_cons,Bool.and_eq_true]at hso
   obtain⟨v0,rows,r1,r2,r3,r4,r5⟩:=own_rep H1.blk (I2:=({E' with w:=E1.w,I:=I2}:Env).R) hR2a hov hso.1 g1 (fun b hb g hg=>hR2b b (List.mem_append.2 (.inl hb)) g hg)
   obtain⟨hle3,H3⟩:=H'.back H1 hle1 I2 hI2a (fun g hg=>by
    rw[hI2]at hg
    rcases hg with h|⟨b,_,h⟩
    ·exact .inl h
    ·exact .inr ⟨(H1.sep b g h).2,H1.held_lt h⟩)
   have hnl:¬E'.live nid:=fun hl=>by
    rw[hlive]at hl
    exact(H.live nid).1 hl hf
   have hfr:lookH (wrAll hp (frzs (lookH hp) cs)) nid= .fresh:=by
    rcases Classical.em (lookH (wrAll hp (frzs (lookH hp) cs)) nid= .fresh)with h1|h1
    ·exact h1
    ·exact absurd ((H'.live nid).2 h1) hnl
   have hown:v0.ownBlock=none\/∃g b,v0.ownBlock=some g/\o=some b/\holdsB E1 b (lookH hp1 b) g:=by
    cases hg:v0.ownBlock with
    |none=>exact .inl rfl
    |some g=>obtain⟨b,h1,h2⟩:=r3 g hg;exact .inr ⟨g,b,rfl,h1,h2⟩
   have hE:({E' with w:=E1.w,I:=I2}:Env).w.heap.size=E1.w.heap.size:=rfl
   obtain⟨hle4,H4⟩:=H3.newVec (n:=nid) hfr (Nat.le_trans hn (wrAll_len _ _)) (w':=E1.w) (v:=v0) (te:=te) (e:=lmT pt t) (xs:=lmV pt t y.1) (cells:=rows) (Below.refl _ _) (fun _ _=>rfl) (fun _ _ _=>rfl)
    (Rows.mono (fun x c=>RepD.mono hR2a (fun _ _=>rfl) (lmT pt t) x c) _ _ r2) (own_base H'.base r1) hpos (fun g hg=>by
     obtain⟨b,h1,h2⟩:=r3 g hg
     subst h1
     refine⟨fun hi=> ?_,fun b2 hb2=> ?_⟩
     ·have hi:I2 g:=hi
      rw[hI2]at hi
      rcases hi with hi|⟨b3,hb3,hg3⟩
      ·exact(H1.sep b g h2).1 hi
      ·have:=H1.inj b b3 g h2 hg3
       subst this
       rcases List.mem_append.1 hb3 with hb3|hb3
       ·exact own_rest hov hb3
       ·simp only[hasB]at hob
        have:(l.flatMap CV.refs).contains b=true:=by simpa using hb3
        rw[this]at hob;cases hob
     ·have h3:=H'.held_lt hb2
      have h4:=(H1.sep b g h2).2
      omega)
   refine⟨v1,({E' with w:=E1.w,I:=I2}:Env).newVec nid E1.w v0,rfl,rfl,hle.trans (hle3.trans hle4),?_,hback _ (ownC nid pt t (v x').1::ofH ts (v x').2) ?_ ?_ ?_⟩
   ·rw[wrAll_append,ey];exact H4
   ·rw[ey]
    refine⟨VRep1.up ⟨cells,r5 _ nid rfl (fun g hg=>hg) (.inr rfl) (by simp[Env.newVec,upd_same]),?_⟩ (hag2 nid).2,?_⟩
    ·rw[(hag2 nid).1,<-hag];exact g2
    ·exact purify_rep (base:=E'.w.heap.size) (E:=E1) (E':=({E' with w:=E1.w,I:=I2}:Env).newVec nid E1.w v0) H1.blk rfl hR2a hpl hso.2 hur (fun c' hc' g⟨b,hb,hg⟩=>hR2b b (List.mem_append.2 (.inr (List.mem_flatMap.2 ⟨c',hc',hb⟩))) g hg)
   ·rw[ey];simpa using hll
   ·rw[ey]
    intro c' hc'
    rcases List.mem_cons.1 hc' with rfl|hc'
    ·exact(hag2 nid).2
    ·exact htl c' hc'
end Go.Ev
namespace Go.Ev
open Go Go.RowKit
theorem sokO{P:Program}{sm:Nat->Bool}{w:Nat->Nat}{cf df:Nat->Bool}(hm:P.follows .mixedOrders=true){l:List (Nat×Summ)}{f n te:Nat}{pt:List Bool}{ats:List Ty}{t:Ty}{ts:List Ty}{F:HDen ats->Option (HDen (t::ts))}
 (h:∀x y,F x=some y->evFn (smL l) (fnsP P sm w cf df) FU n f (ofH ats x) [] (ownK te pt t ts)=some y) (hl:SmAll P l) (hpos:0<(lmT pt t).size:=by decide) (hcb:callable P f=true:=by kernel_rfl) (hrz:Nat.ble RZ f=false:=by kernel_rfl):SummOK P f (ownS ats te pt t ts (fun x=>(F x).isSome) (fun x=>(F x).getD (dfH (t::ts)))) :=
 summ_own hpos (fun _=>rfl) (fun _=>rfl) (callG hm hl n) hrz hcb h
end Go.Ev
