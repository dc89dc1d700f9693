/- Part of a typed evaluator of the program's functions, proved sound. No condition. -/
import Derived.Test.YtabdddcgjocmnaaE3P2
import Derived.Test.YtabdddcgjocmnaaE3P1
set_option maxRecDepth 10000
set_option linter.unusedVariables false
set_option linter.unusedSimpArgs false
namespace Go.Ev
open Go Go.RowKit
variable{P:Program}
theorem add_plain(b off i:Nat):(⟨b,off,none⟩:Addr).add i=⟨b,off+i,none⟩:=by
 unfold Addr.add;split<;>simp_all
theorem bclone_vec{f te:Nat}(hcb:callable P f=true)
 (h1:∀(a:Addr)(n c:Nat)(xs:List Int)(w:World),xs.length=n->n<=140737488355328->(∀i,i<n->w.cell? (a.add i)=some (.int .u8 (xs.getD i 0))) ->
  Calls P f #[.slice (some a) n c] w fun e w'=>∃v',e= .returned v'/\w'.ownsRow w.heap.size te 1 v' n (xs.map (Value.int .u8))/\v'≠ .slice none 0 0/\Below w.heap.size w w')
 (h2:∀(n c:Nat)(w:World),Calls P f #[.slice none n c] w fun e w'=>e= .returned (.slice none 0 0)/\w'=w) :
 SummOK P f (vecS (.int .u8) te 1):=by
 refine⟨hcb,vecS_congr _ _ _,?_⟩
 intro base E hp cs vs nid out H hvs hs hok hf hn
 unfold vecS at hs
 split at hs
 ·rename_i c
  split at hs
  ·rename_i xs hxs
   simp at hs;subst hs
   simp only[Bool.and_eq_true]at hok
   obtain⟨hsub,hroom⟩:=hok
   have hroom:=room_spec hroom
   match vs,hvs with
   |[v],⟨hv,_⟩ =>
    obtain⟨ad,cp,rfl,s1,s2,s3⟩:=src_rep H.blk hxs hsub hv
    have fin:∀(v':Value)(w':World)(news:List Value),w'.ownsRow E.w.heap.size te 1 v' (List.length xs) news->Rows (RepD E.w E.R (.int .u8)) xs news->Below E.w.heap.size E.w w'->
     ∃v E',(Ending.returned v':Ending)= .returned v/\E'.w=w'/\E.le base E'/\HS base E' (wrAll hp [(nid,.vec te (.int .u8) xs)])/\VRep E' (.whole nid) v:=by
     intro v' w' news hown hrows hbel
     have hrows':Rows (RepD w' E.R (.int .u8)) xs news:=Rows.mono (fun x c=>RepD.mono (fun _ h=>h) (fun g hg=>hbel.block g (H.imm g hg.1)) (.int .u8) x c) _ _ hrows
     obtain⟨hle,H'⟩:=H.newVec hf hn (w':=w') (v:=v') (te:=te) (e:= .int .u8) (xs:=xs) (cells:=news) ⟨hbel.os,hbel.tape,hbel.output,hbel.size,fun k hk=>hbel.block k (Nat.lt_of_lt_of_le hk H.base)⟩ (fun g hg=>hbel.block g (H.imm g hg)) (fun b g hg=>hbel.block g (H.held_lt hg)) hrows' (own_base H.base hown) (by decide) (fun g hg=>by
      have:=(hown.lt g hg).1
      exact⟨fun h=>absurd (H.imm g h) (by omega),fun b h=>absurd (H.held_lt h) (by omega)⟩)
     refine⟨v',_,rfl,rfl,hle,H',?_⟩
     refine⟨[v'],⟨.inr rfl,by simp[Env.newVec,upd_same],?_⟩,by simp[CV.isAgg]⟩
     simp only[Env.newVec,upd_same]
     rcases hown.2 with⟨h,hn0⟩|⟨g,cap,cur,h,_⟩
     ·exact⟨none,0,0,h⟩
     ·exact⟨_,_,_,h⟩
    cases ad with
    |none=>
     refine Calls.mono (h2 _ _ E.w) ?_
     rintro e w' ⟨rfl,rfl⟩
     have h0:List.length xs=0:=by
      rcases Nat.eq_zero_or_pos (List.length xs)with h|h
      ·exact h
      ·obtain⟨_,_,_,h4,_⟩:=s3 h;cases h4
     have hx:xs=[]:=List.eq_nil_of_length_eq_zero h0
     subst hx
     exact fin _ _ [] (World.ownsRow_nil _ _ _ _) rfl (Below.refl _ _)
    |some a=>
     by_cases h0:0<List.length xs
     ·obtain⟨b',off',rows,h4,g1,g2⟩:=s3 h0
      cases h4
      obtain⟨er,_⟩:=rows_u8 (w:=E.w) (b:=b') (off:=off') xs rows g2
      refine Calls.mono (h1 ⟨b',off',none⟩ (List.length xs) cp xs E.w rfl (by have:=hroom.1;omega) (fun i hi=> ?_)) ?_
      ·rw[add_plain]
       refine g1 i _ ?_
       rw[er,List.getElem?_map,List.getElem?_eq_getElem hi]
       simp[List.getD,List.getElem?_eq_getElem hi]
      ·rintro e w' ⟨v',rfl,hown,_,hbel⟩
       rw[<-er]at hown
       exact fin v' w' rows hown g2 hbel
     ·have h00:List.length xs=0:=by omega
      have hx:xs=[]:=List.eq_nil_of_length_eq_zero h00
      subst hx
      refine Calls.mono (h1 a 0 cp [] E.w rfl (Nat.zero_le _) (fun i hi=>absurd hi (by omega))) ?_
      rintro e w' ⟨v',rfl,hown,_,hbel⟩
      exact fin v' w' [] hown rfl hbel
  ·cases hs
 ·cases hs
end Go.Ev
namespace Go.Ev
open Go Go.RowKit
deriving instance DecidableEq for Step
def beqC:CV->CV->Bool
 | .junk,.junk=>true
 | .undef,.undef=>true
 | .nil a e,.nil b f=>Nat.beq a b&&decide (e=f)
 | .pure .unit _,.pure .unit _=>true
 | .pair a b,.pair c d=>beqC a c&&beqC b d
 | .whole a,.whole b=>Nat.beq a b
 | .ptr a p,.ptr b q=>Nat.beq a b&&decide (p=q)
 | .clo f a,.clo g b=>Nat.beq f g&&beqC a b
 | .tup a,.tup b=>beqC a b
 |_,_=>false
theorem beqC_eq:∀(a b:CV),beqC a b=true->a=b
 | .junk,b,h=>by cases b<;>first|rfl|cases h
 | .undef,b,h=>by cases b<;>first|rfl|cases h
 | .nil a e,b,h=>by
   cases b<;>first|(cases h;done)|skip
   simp only[beqC,Bool.and_eq_true,decide_eq_true_eq]at h
   rw[Nat.eq_of_beq_eq_true h.1,h.2]
 | .pure t x,b,h=>by
   cases b<;>first|(cases t<;>cases h;done)|skip
   rename_i u y
   cases t<;>cases u<;>first|(cases h;done)|rfl
 | .pair a b,c,h=>by
   cases c<;>first|(cases h;done)|skip
   simp only[beqC,Bool.and_eq_true]at h
   rw[beqC_eq _ _ h.1,beqC_eq _ _ h.2]
 | .whole a,b,h=>by
   cases b<;>first|(cases h;done)|skip
   rw[Nat.eq_of_beq_eq_true h]
 | .ptr a p,b,h=>by
   cases b<;>first|(cases h;done)|skip
   simp only[beqC,Bool.and_eq_true,decide_eq_true_eq]at h
   rw[Nat.eq_of_beq_eq_true h.1,h.2]
 | .clo f a,b,h=>by
   cases b<;>first|(cases h;done)|skip
   simp only[beqC,Bool.and_eq_true]at h
   rw[Nat.eq_of_beq_eq_true h.1,beqC_eq _ _ h.2]
 | .tup a,b,h=>by
   cases b<;>first|(cases h;done)|skip
   rename_i c
   exact congrArg CV.tup (beqC_eq a c h)
 | .int _ _,b,h=>by cases b<;>cases h
 | .bool _,b,h=>by cases b<;>cases h
 | .sub _ _ _ _ _ _,b,h=>by cases b<;>cases h
 | .ref _ _,b,h=>by cases b<;>cases h
 | .yld _ _ _,b,h=>by cases b<;>cases h
inductive PV where
 |kc (v:CV)|hv (t:Ty)|rf (t:Ty)|pr (a b:PV)|cl (f:Nat) (a:PV)|yl (b i:Nat) (a:PV)
 |sb (b:Nat) (p:Path) (sz:Nat) (o l:Option Nat) (cap:Option (Option Nat))
@[reducible] def nE (o:Option Nat) (r:Type):Type:=match o with|none=>Nat×r|some _=>r
@[reducible] def nE2 (o:Option (Option Nat)) (r:Type):Type:=match o with|none=>r|some o=>nE o r
@[reducible] def PV.E:PV->Type->Type
 | .kc _,r=>r
 | .hv t,r=>t.den×r
 | .rf t,r=>t.den×r
 | .pr a b,r=>a.E (b.E r)
 | .cl _ a,r=>a.E r
 | .yl _ _ a,r=>a.E r
 | .sb _ _ _ o l c,r=>nE o (nE l (nE2 c r))
def nI{r:Type}:(o:Option Nat)->nE o r->Nat×r
 |none,e=>(e.1,e.2)
 |some n,e=>(n,e)
def nI2{r:Type}:(o:Option (Option Nat))->nE2 o r->Option Nat×r
 |none,e=>(none,e)
 |some o,e=>(some (nI o e).1,(nI o e).2)
def PV.inst:(p:PV)-> {r:Type}->p.E r->CV×r
 | .kc v,_,e=>(v,e)
 | .hv t,_,e=>(ofP t e.1,e.2)
 | .rf t,_,e=>(.ref t e.1,e.2)
 | .pr a b,_,e=>(.pair (a.inst e).1 (b.inst (a.inst e).2).1,(b.inst (a.inst e).2).2)
 | .cl f a,_,e=>(.clo f (a.inst e).1,(a.inst e).2)
 | .yl b i a,_,e=>(.yld b i (a.inst e).1,(a.inst e).2)
 | .sb b p sz o l c,_,e=>(.sub b p sz (nI o e).1 (nI l (nI o e).2).1 (nI2 c (nI l (nI o e).2).2).1,(nI2 c (nI l (nI o e).2).2).2)
def nD{r:Type}:(o:Option Nat)->Nat->r->Option (nE o r)
 |none,n,t=>some (n,t)
 |some m,n,t=>if n=m then some t else none
def nD2{r:Type}:(o:Option (Option Nat))->Option Nat->r->Option (nE2 o r)
 |none,none,t=>some t
 |some o,some n,t=>nD o n t
 |_,_,_=>none
def ext:(t:Ty)->CV->Option t.den
 | .int k,.int k' n=>if k'=k then some n else none
 | .bool,.bool b=>some b
 | .int _,_=>none
 | .bool,_=>none
 |t,.pure t' x=>if h:t'=t then some (h▸x)else none
 |_,_=>none
def PV.dec:(p:PV)-> {r:Type}->CV->r->Option (p.E r)
 | .kc v,_,w,t=>if beqC w v=true then some t else none
 | .hv u,_,w,t=>match ext u w with|some x=>some (x,t)|none=>none
 | .rf u,_,w,t=>match w with| .ref u' x=>if h:u'=u then some (h▸x,t)else none|_=>none
 | .pr a b,_,w,t=>match w with| .pair x y=>(match b.dec y t with|some t'=>a.dec x t'|none=>none)|_=>none
 | .cl f a,_,w,t=>match w with| .clo g x=>if g=f then a.dec x t else none|_=>none
 | .yl b i a,_,w,t=>match w with| .yld b' i' x=>if b'=b/\i'=i then a.dec x t else none|_=>none
 | .sb b p sz o l c,_,w,t=>match w with
   | .sub b' p' sz' o' l' c'=>if b'=b/\p'=p/\sz'=sz then(match nD2 c c' t with|some t1=>(match nD l l' t1 with|some t2=>nD o o' t2|none=>none)|none=>none)else none
   |_=>none
theorem nD_inst{r:Type}{o:Option Nat}{n:Nat}{t:r}{e:nE o r}(h:nD o n t=some e):nI o e=(n,t):=by
 cases o with
 |none=>simp only[nD,Option.some.injEq]at h;subst h;rfl
 |some m=>
  simp only[nD]at h
  split at h
  ·rename_i hm;injection h with h;subst h;subst hm;rfl
  ·cases h
theorem nD2_inst{r:Type}{o:Option (Option Nat)}{n:Option Nat}{t:r}{e:nE2 o r}(h:nD2 o n t=some e):nI2 o e=(n,t):=by
 cases o with
 |none=>
  cases n with
  |none=>simp only[nD2,Option.some.injEq]at h;subst h;rfl
  |some n=>cases h
 |some o=>
  cases n with
  |none=>cases h
  |some n=>simp only[nD2]at h;have:=nD_inst h;simp only[nI2,this]
theorem ext_eq{t:Ty}{w:CV}{x:t.den}(h:ext t w=some x):ofP t x=w:=by
 cases t<;>cases w<;>simp only[ext]at h<;>first|(cases h;done)|skip
 all_goals first
  |(split at h
    ·rename_i hk;subst hk;injection h with h;subst h;rfl
    ·cases h)
  |(injection h with h;subst h;rfl)
theorem PV.dec_inst:∀(p:PV){r:Type}{w:CV}{t:r}{e:p.E r},p.dec w t=some e->p.inst e=(w,t)
 | .kc v,r,w,t,e,h=>by
   simp only[PV.dec]at h
   split at h
   ·rename_i hb;injection h with h;subst h;rw[beqC_eq _ _ hb];rfl
   ·cases h
 | .hv u,r,w,t,e,h=>by
   simp only[PV.dec]at h
   split at h
   ·rename_i x hx;injection h with h;subst h;simp only[PV.inst,ext_eq hx]
   ·cases h
 | .rf u,r,w,t,e,h=>by
   simp only[PV.dec]at h
   split at h
   ·split at h
    ·rename_i hu;subst hu;injection h with h;subst h;rfl
    ·cases h
   ·cases h
 | .pr a b,r,w,t,e,h=>by
   simp only[PV.dec]at h
   split at h
   ·split at h
    ·rename_i x y t' ht
     have h1:=PV.dec_inst b ht
     have h2:=PV.dec_inst a h
     simp only[PV.inst,h2,h1]
    ·cases h
   ·cases h
 | .cl f a,r,w,t,e,h=>by
   simp only[PV.dec]at h
   split at h
   ·split at h
    ·rename_i hg;subst hg
     have h2:=PV.dec_inst a h
     simp only[PV.inst,h2]
    ·cases h
   ·cases h
 | .yl b i a,r,w,t,e,h=>by
   simp only[PV.dec]at h
   split at h
   ·split at h
    ·rename_i hg;obtain⟨rfl,rfl⟩:=hg
     have h2:=PV.dec_inst a h
     simp only[PV.inst,h2]
    ·cases h
   ·cases h
 | .sb b p sz o l c,r,w,t,e,h=>by
   simp only[PV.dec]at h
   split at h
   ·split at h
    ·rename_i hb
     obtain⟨rfl,rfl,rfl⟩:=hb
     split at h
     ·split at h
      ·rename_i h1 _ _ h2
       have h3:=nD_inst h
       have h4:=nD_inst h2
       have h5:=nD2_inst h1
       simp only[PV.inst,h3,h4,h5]
      ·cases h
     ·cases h
    ·cases h
   ·cases h
inductive PB where
 |dead|fresh|gh (n:Nat)|mem (p:PV)|vec (te:Nat) (e:Ty)|fvec (te:Nat) (e:Ty)
@[reducible] def PB.E:PB->Type->Type
 | .mem p,r=>p.E r
 | .vec _ e,r=>List e.den×r
 | .fvec _ e,r=>List e.den×r
 |_,r=>r
def PB.inst:(p:PB)-> {r:Type}->p.E r->Blk×r
 | .dead,_,e=>(.dead,e)
 | .fresh,_,e=>(.fresh,e)
 | .gh n,_,e=>(.ghost n,e)
 | .mem p,_,e=>(.mem (p.inst e).1,(p.inst e).2)
 | .vec te u,_,e=>(.vec te u e.1,e.2)
 | .fvec te u,_,e=>(.fvec te u e.1,e.2)
def PB.dec:(p:PB)-> {r:Type}->Blk->r->Option (p.E r)
 | .dead,_,b,t=>match b with| .dead=>some t|_=>none
 | .fresh,_,b,t=>match b with| .fresh=>some t|_=>none
 | .gh n,_,b,t=>match b with| .ghost m=>if m=n then some t else none|_=>none
 | .mem p,_,b,t=>match b with| .mem c=>p.dec c t|_=>none
 | .vec te u,_,b,t=>match b with| .vec te' u' x=>if h:u'=u then if te'=te then some (h▸x,t)else none else none|_=>none
 | .fvec te u,_,b,t=>match b with| .fvec te' u' x=>if h:u'=u then if te'=te then some (h▸x,t)else none else none|_=>none
theorem PB.dec_inst:∀(p:PB){r:Type}{b:Blk}{t:r}{e:p.E r},p.dec b t=some e->p.inst e=(b,t)
 | .dead,r,b,t,e,h=>by
   simp only[PB.dec]at h
   split at h
   ·injection h with h;subst h;rfl
   ·cases h
 | .fresh,r,b,t,e,h=>by
   simp only[PB.dec]at h
   split at h
   ·injection h with h;subst h;rfl
   ·cases h
 | .gh n,r,b,t,e,h=>by
   simp only[PB.dec]at h
   split at h
   ·split at h
    ·rename_i hm;subst hm;injection h with h;subst h;rfl
    ·cases h
   ·cases h
 | .mem p,r,b,t,e,h=>by
   simp only[PB.dec]at h
   split at h
   ·simp only[PB.inst,p.dec_inst h]
   ·cases h
 | .vec te u,r,b,t,e,h=>by
   simp only[PB.dec]at h
   split at h
   ·split at h
    ·rename_i hu;subst hu
     split at h
     ·rename_i ht;subst ht;injection h with h;subst h;rfl
     ·cases h
    ·cases h
   ·cases h
 | .fvec te u,r,b,t,e,h=>by
   simp only[PB.dec]at h
   split at h
   ·split at h
    ·rename_i hu;subst hu
     split at h
     ·rename_i ht;subst ht;injection h with h;subst h;rfl
     ·cases h
    ·cases h
   ·cases h
@[reducible] def bE:List PB->Type->Type
 |[],r=>r
 |p::ps,r=>p.E (bE ps r)
def bI:(ps:List PB)-> {r:Type}->bE ps r->List Blk×r
 |[],_,e=>([],e)
 |p::ps,_,e=>((p.inst e).1::(bI ps (p.inst e).2).1,(bI ps (p.inst e).2).2)
def bD:(ps:List PB)-> {r:Type}->List Blk->r->Option (bE ps r)
 |[],_,l,t=>match l with|[]=>some t|_=>none
 |p::ps,_,l,t=>match l with|b::l=>(match bD ps l t with|some t'=>p.dec b t'|none=>none)|_=>none
theorem bD_inst:∀(ps:List PB){r:Type}{l:List Blk}{t:r}{e:bE ps r},bD ps l t=some e->bI ps e=(l,t)
 |[],r,l,t,e,h=>by
  simp only[bD]at h
  split at h
  ·injection h with h;subst h;rfl
  ·cases h
 |p::ps,r,l,t,e,h=>by
  simp only[bD]at h
  split at h
  ·split at h
   ·rename_i t' ht
    have h1:=bD_inst ps ht
    have h2:=p.dec_inst h
    simp only[bI,h2,h1]
   ·cases h
  ·cases h
@[reducible] def sE:List (Nat×PV)->Type->Type
 |[],r=>r
 |p::ps,r=>p.2.E (sE ps r)
def sI:(ps:List (Nat×PV))-> {r:Type}->sE ps r->List (Nat×CV)×r
 |[],_,e=>([],e)
 |p::ps,_,e=>((p.1,(p.2.inst e).1)::(sI ps (p.2.inst e).2).1,(sI ps (p.2.inst e).2).2)
def sD:(ps:List (Nat×PV))-> {r:Type}->List CV->r->Option (sE ps r)
 |[],_,_,t=>some t
 |p::ps,_,l,t=>match sD ps l t with|some t'=>p.2.dec (l.getD p.1 .junk) t'|none=>none
theorem sD_inst:∀(ps:List (Nat×PV)){r:Type}{l:List CV}{t:r}{e:sE ps r},sD ps l t=some e->allAt l (sI ps e).1/\(sI ps e).1.map (·.1)=ps.map (·.1)/\(sI ps e).2=t
 |[],r,l,t,e,h=>by
  simp only[sD]at h
  injection h with h;subst h;exact⟨trivial,rfl,rfl⟩
 |p::ps,r,l,t,e,h=>by
  simp only[sD]at h
  split at h
  ·rename_i t' ht
   obtain⟨h1,h2,h3⟩:=sD_inst ps ht
   have h4:=p.2.dec_inst h
   have e1:(p.2.inst e).1=l.getD p.1 .junk:=by rw[h4]
   have e2:(p.2.inst e).2=t':=by rw[h4]
   simp only[sI,e1,e2,List.map_cons,h2]
   exact⟨⟨rfl,h1⟩,trivial,h3⟩
  ·cases h
structure PS where
 n:Nat
 sl:List (Nat×PV)
 hp:List PB
 fb:Nat
@[reducible] def PS.E (T:PS):Type:=sE T.sl (bE T.hp Unit)
def PS.inst(T:PS)(e:T.E):St:=⟨fill T.n (sI T.sl e).1,(bI T.hp (sI T.sl e).2).1,T.fb⟩
def PS.dec(T:PS)(S:St):Option T.E:=if shapeOK S T.n (T.sl.map (·.1)) T.fb=true then match bD T.hp S.hp ()with|some t=>sD T.sl S.sl t|none=>none else none
theorem PS.dec_inst{T:PS}{S:St}{e:T.E}(h:T.dec S=some e):S=T.inst e:=by
 unfold PS.dec at h
 split at h
 ·rename_i hs
  split at h
  ·rename_i t ht
   obtain⟨h1,h2,h3⟩:=sD_inst T.sl h
   have h4:=bD_inst T.hp ht
   unfold PS.inst
   rw[<-h2]at hs
   rw[st_of hs h1 rfl,h3,h4]
  ·cases h
 ·cases h
def sx(n:Nat)(l:List (Nat×CV))(hp:List Blk)(fb:Nat:=0):St:=⟨fill n l,hp,fb⟩
abbrev Orc(R:Type):=St->(Ex->St->Option R)->Option R
def orc{R:Type}(T:PS)(G:T.E->(Ex->St->Option R)->Option R)(o:Orc R:=fun _ _=>none):Orc R:=fun S k=>match T.dec S with|some e=>G e k|none=>o S k
def orL{R E:Type}(T:PS)(L:T.E->Option E)(Y:(Ex->St->Option R)->E->Option R)(o:Orc R:=fun _ _=>none):Orc R:=orc T (fun a k=>(L a).bind (Y k)) o
def isEnd:IC->Bool| .ret=>true| .exit _=>true|_=>false
def outer:IC->List IC
 | .seq a b=>outer a++outer b
 | .cond _ a b=>outer a++outer b
 | .block _ b=>outer b
 | .loop l b=>[.loop l b]
 | .cut l b=>if isEnd b=true then []else [.cut l b]
 |_=>[]
def inner:IC->IC| .loop _ b=>b| .cut _ b=>b|c=>c
def lv:IC->List Nat| .loop l _=>l| .cut l _=>l|_=>[]
def isLoop:IC->Bool| .loop _ _=>true|_=>false
def isCut:IC->Bool| .cut _ _=>true|_=>false
def mkT{R:Type}:IC->List (Orc R)->LT R
 | .seq a b,os=> .node (mkT a os) (mkT b (os.drop (outer a).length))
 | .cond _ a b,os=> .node (mkT a os) (mkT b (os.drop (outer a).length))
 | .block _ b,os=> .node (mkT b os) .nil
 | .loop _ _,os=>match os with|o::_=> .orc o|[]=> .nil
 | .cut _ b,os=>if isEnd b=true then .nil else match os with|o::_=> .orc o|[]=> .nil
 |_,_=> .nil
section
variable{R:Type}(summ:Nat->Option Summ)(fu:Nat)(call:CallT R)
def okN(c:IC)(o:Orc R):Prop:=match c with
 | .loop l b=>∀T k r,o T k=some r->evLoopN (evCode summ fu call b) (St.norm l) fu T k=some r
 | .cut _ b=>∀T k r,o T k=some r->evCode summ fu call b T k=some r
 |_=>True
def allN:List IC->List (Orc R)->Prop
 |c::cs,o::os=>okN summ fu call c o/\allN cs os
 |_,_=>True
variable{summ fu call}
theorem allN_app:∀(xs ys:List IC)(os:List (Orc R)),allN summ fu call (xs++ys) os->allN summ fu call xs os/\allN summ fu call ys (os.drop xs.length)
 |[],ys,os,h=>⟨trivial,h⟩
 |x::xs,ys,[],h=>⟨trivial,by cases ys<;>trivial⟩
 |x::xs,ys,o::os,h=>by
  obtain⟨h1,h2⟩:=allN_app xs ys os h.2
  exact⟨⟨h.1,h1⟩,h2⟩
theorem mkT_ok:∀(c:IC)(os:List (Orc R)),allN summ fu call (outer c) os->LTok summ fu call (mkT c os) c
 | .seq a b,os,h=>by
   obtain⟨h1,h2⟩:=allN_app _ _ _ h
   exact⟨mkT_ok a _ h1,mkT_ok b _ h2⟩
 | .cond _ a b,os,h=>by
   obtain⟨h1,h2⟩:=allN_app _ _ _ h
   exact⟨mkT_ok a _ h1,mkT_ok b _ h2⟩
 | .block _ b,os,h=>mkT_ok b os h
 | .loop l b,[],_=>trivial
 | .loop l b,o::os,h=>h.1
 | .cut l b,os,h=>by
   simp only[mkT,outer]at h⊢
   split
   ·trivial
   ·rename_i hb
    rw[if_neg hb]at h
    cases os with
    |nil=>trivial
    |cons o os=>exact h.1
 | .skip,_,_=>trivial
 | .region _ _ _,_,_=>trivial
 | .exit _,_,_=>trivial
 | .ret,_,_=>trivial
 | .rangef _ _ _ _ _ _,_,_=>trivial
end
def nd(c:IC)(i:Nat):IC:=(outer c).getD i .skip
def oksFrom{R:Type}(summ:Nat->Option Summ)(fu:Nat)(call:CallT R)(c:IC):Nat->List (Orc R)->Prop
 |_,[]=>True
 |i,o::os=>okN summ fu call (nd c i) o/\oksFrom summ fu call c (i+1) os
theorem oks_all{R:Type}{summ:Nat->Option Summ}{fu:Nat}{call:CallT R}{c:IC}:∀(os:List (Orc R))(i:Nat),oksFrom summ fu call c i os->allN summ fu call ((outer c).drop i) os
 |[],i,_=>by cases (outer c).drop i<;>trivial
 |o::os,i,h=>by
  rcases Nat.lt_or_ge i (outer c).length with hi|hi
  ·rw[List.drop_eq_getElem_cons hi]
   refine⟨?_,oks_all os (i+1) h.2⟩
   have:=h.1
   unfold nd at this
   rw[List.getD_eq_getElem?_getD,List.getElem?_eq_getElem hi]at this
   exact this
  ·rw[List.drop_eq_nil_of_le hi];trivial
theorem oks_ok{R:Type}{summ:Nat->Option Summ}{fu:Nat}{call:CallT R}{c:IC}{os:List (Orc R)}(h:oksFrom summ fu call c 0 os):LTok summ fu call (mkT c os) c:=mkT_ok c os (oks_all os 0 h)
theorem gdN{A B:Type}{c:Bool}{x:Option A}{f:A->Option B}{y:Option B}(h:x.bind f=y):(gd c x).bind f=gd c y:=by cases c;rfl;exact h
theorem condN{A B:Type}{c:Bool}{x x':Option A}{f:A->Option B}{y y':Option B}(h:x.bind f=y)(h':x'.bind f=y'):(bif c then x else x').bind f=bif c then y else y':=by cases c;exact h';exact h
section
variable{summ:Nat->Option Summ}{fns:Nat->Option IFn}{n:Nat}
theorem lpN{R E:Type}{b:St->(Ex->St->Option R)->Option R}{nrm:St->St}{T:PS}(L:Nat->T.E->Option E)(Sf:(R:Type)->(T.E->Option R)->(E->Option R)->T.E->Option R){k:Ex->St->Option R}{Y:E->Option R}
 (h0:∀a,L 0 a=none) (hs:∀m a,L (m+1) a=Sf E (L m) some a)
 (hb:∀K a,evLB b nrm (T.inst a) K k=Sf R (fun a=>K (T.inst a)) Y a)
 (hn:∀(K:T.E->Option E)a,(Sf E K some a).bind Y=Sf R (fun a=>(K a).bind Y) Y a):∀m a,evLoopN b nrm m (T.inst a) k=(L m a).bind Y
 |0,a=>by rw[h0];rfl
 |m+1,a=>by
  rw[evLoopN_succ,hb,hs,hn]
  congr 1
  funext a
  exact lpN L Sf h0 hs hb hn m a
theorem lp{R E:Type}{c:IC}{ov:Nat->Option (List CV->List Blk->(CV->List Blk->Option R)->Option R)}(ho:OvrOK ov (evFn summ fns FU n)){os:List (Orc R)}(hi:oksFrom summ FU (evFn summ fns FU n) (inner c) 0 os)(T:PS)(L:Nat->T.E->Option E)(Sf:(R:Type)->(T.E->Option R)->(E->Option R)->T.E->Option R)(Y:(Ex->St->Option R)->E->Option R)
 (h0:∀a,L 0 a=none) (hs:∀m a,L (m+1) a=Sf E (L m) some a)
 (hb:∀k K a,evLB (evCodeL summ FU (ovr ov (evFn summ fns FU n)) (mkT (inner c) os) (inner c)) (St.norm (lv c)) (T.inst a) K k=Sf R (fun a=>K (T.inst a)) (Y k) a)
 (hn:∀(Y:E->Option R)(K:T.E->Option E)a,(Sf E K some a).bind Y=Sf R (fun a=>(K a).bind Y) Y a) {o:Orc R} (hq:okN summ FU (evFn summ fns FU n) c o) (hc:isLoop c=true:=by kernel_rfl) :
 okN summ FU (evFn summ fns FU n) c (orL T (L FU) Y o):=by
 cases c with
 |loop l b=>
  intro S k r h
  unfold orL orc at h
  split at h
  ·rename_i e he
   rw[PS.dec_inst he]
   refine evLoopN_L ho (oks_ok hi) _ _ _ _ ?_
   rw[<-h]
   exact lpN L Sf h0 hs (hb k) (hn (Y k)) FU e
  ·exact hq _ _ _ h
 |_=>cases hc
theorem lpN2{R E E2:Type}{b:St->(Ex->St->Option R)->Option R}{nrm:St->St}{T T2:PS}(L:Nat->T.E->Option E)(L2:Nat->T2.E->Option E2)(Sf:(R:Type)->(T.E->Option R)->(T2.E->Option R)->(E->Option R)->T.E->Option R){k:Ex->St->Option R}{Y:E->Option R}{Y2:E2->Option R}(C:E2->E)
 (h0:∀a,L 0 a=none) (hs:∀m a,L (m+1) a=Sf E (L m) (fun q=>(L2 m q).bind fun e=>some (C e)) some a) (hC:∀e,Y (C e)=Y2 e)
 (h2:∀m q,evLoopN b nrm m (T2.inst q) k=(L2 m q).bind Y2)
 (hb:∀K a,evLB b nrm (T.inst a) K k=Sf R (fun a=>K (T.inst a)) (fun q=>K (T2.inst q)) Y a)
 (hn:∀(K:T.E->Option E)(K2:T2.E->Option E)a,(Sf E K K2 some a).bind Y=Sf R (fun a=>(K a).bind Y) (fun q=>(K2 q).bind Y) Y a):∀m a,evLoopN b nrm m (T.inst a) k=(L m a).bind Y
 |0,a=>by rw[h0];rfl
 |m+1,a=>by
  rw[evLoopN_succ,hb,hs,hn]
  congr 1
  ·funext a
   exact lpN2 L L2 Sf C h0 hs hC h2 hb hn m a
  ·funext q
   rw[h2]
   cases L2 m q with
   |none=>rfl
   |some e=>exact(hC e).symm
theorem lp2{R E E2:Type}{c:IC}{ov:Nat->Option (List CV->List Blk->(CV->List Blk->Option R)->Option R)}(ho:OvrOK ov (evFn summ fns FU n)){os:List (Orc R)}(hi:oksFrom summ FU (evFn summ fns FU n) (inner c) 0 os)(T T2:PS)(L:Nat->T.E->Option E)(L2:Nat->T2.E->Option E2)(Sf:(R:Type)->(T.E->Option R)->(T2.E->Option R)->(E->Option R)->T.E->Option R)(Y:(Ex->St->Option R)->E->Option R)(Y2:(Ex->St->Option R)->E2->Option R)(C:E2->E)
 (h0:∀a,L 0 a=none) (hs:∀m a,L (m+1) a=Sf E (L m) (fun q=>(L2 m q).bind fun e=>some (C e)) some a) (hC:∀k e,Y k (C e)=Y2 k e)
 (h2:∀k m q,evLoopN (evCodeL summ FU (ovr ov (evFn summ fns FU n)) (mkT (inner c) os) (inner c)) (St.norm (lv c)) m (T2.inst q) k=(L2 m q).bind (Y2 k))
 (hb:∀k K a,evLB (evCodeL summ FU (ovr ov (evFn summ fns FU n)) (mkT (inner c) os) (inner c)) (St.norm (lv c)) (T.inst a) K k=Sf R (fun a=>K (T.inst a)) (fun q=>K (T2.inst q)) (Y k) a)
 (hn:∀(Y:E->Option R)(K:T.E->Option E)(K2:T2.E->Option E)a,(Sf E K K2 some a).bind Y=Sf R (fun a=>(K a).bind Y) (fun q=>(K2 q).bind Y) Y a) {o:Orc R} (hq:okN summ FU (evFn summ fns FU n) c o) (hc:isLoop c=true:=by kernel_rfl) :
 okN summ FU (evFn summ fns FU n) c (orL T (L FU) Y o):=by
 cases c with
 |loop l b=>
  intro S k r h
  unfold orL orc at h
  split at h
  ·rename_i e he
   rw[PS.dec_inst he]
   refine evLoopN_L ho (oks_ok hi) _ _ _ _ ?_
   rw[<-h]
   exact lpN2 L L2 Sf C h0 hs (hC k) (h2 k) (hb k) (hn (Y k)) FU e
  ·exact hq _ _ _ h
 |_=>cases hc
theorem lp0{R E:Type}{c:IC}(T:PS)(L:Nat->T.E->Option E)(Sf:(R:Type)->(T.E->Option R)->(E->Option R)->T.E->Option R)(Y:(Ex->St->Option R)->E->Option R)
 (hb:∀k K a,evLB (evCodeL summ FU (ovr noO (evFn summ fns FU n)) (mkT (inner c) []) (inner c)) (St.norm (lv c)) (T.inst a) K k=Sf R (fun a=>K (T.inst a)) (Y k) a)
 (hn:∀(Y:E->Option R)(K:T.E->Option E)a,(Sf E K some a).bind Y=Sf R (fun a=>(K a).bind Y) Y a) {o:Orc R} (hq:okN summ FU (evFn summ fns FU n) c o) (h0:∀a,L 0 a=none:=by intro _;rfl) (hs:∀m a,L (m+1) a=Sf E (L m) some a:=by intro _ _;rfl) (hc:isLoop c=true:=by kernel_rfl) :
 okN summ FU (evFn summ fns FU n) c (orL T (L FU) Y o):=lp noO_ok (os:=[]) trivial T L Sf Y h0 hs hb hn hq hc
theorem ok0{R:Type}{call:CallT R}(c:IC):okN summ FU call c (fun _ _=>none):=by
 unfold okN
 cases c<;>first|trivial|(intro _ _ _ h;cases h)
theorem jp{R E:Type}{c:IC}{ov:Nat->Option (List CV->List Blk->(CV->List Blk->Option R)->Option R)}(ho:OvrOK ov (evFn summ fns FU n)){os:List (Orc R)}(hi:oksFrom summ FU (evFn summ fns FU n) (inner c) 0 os)(T:PS)(Sf:(R:Type)->(E->Option R)->T.E->Option R)(Y:(Ex->St->Option R)->E->Option R)
 (hb:∀k a,evJ (evCodeL summ FU (ovr ov (evFn summ fns FU n)) (mkT (inner c) os) (inner c)) (T.inst a) k=Sf R (Y k) a)
 (hn:∀(Y:E->Option R)a,(Sf E some a).bind Y=Sf R Y a) {o:Orc R} (hq:okN summ FU (evFn summ fns FU n) c o) (hc:isCut c=true:=by kernel_rfl) :
 okN summ FU (evFn summ fns FU n) c (orL T (Sf E some) Y o):=by
 cases c with
 |cut l b=>
  intro S k r h
  unfold orL orc at h
  split at h
  ·rename_i e he
   rw[PS.dec_inst he]
   refine bodyL_sound ho (oks_ok hi) ?_
   rw[<-h]
   exact(hb k e).trans (hn (Y k) e).symm
  ·exact hq _ _ _ h
 |_=>cases hc
end
theorem erase_if{p:Prop} [Decidable p]{l:List Nat}{x:IC}:(if p then IC.cut l x else x).erase=x.erase:=by split<;>rfl
theorem flow_erase(wm:Nat)(ret:List Nat):∀(c:IC)(ex:List (Nat×List Nat))(out:List Nat)(es:List AEnv)(acc:Nat),(flow wm ret c ex out es acc).c.erase=c.erase
 | .skip,_,_,_,_=>rfl
 | .region _ _ _,_,_,_,_=>rfl
 | .seq a b,ex,out,es,acc=>by simp only[flow,IC.erase,erase_if,flow_erase wm ret a,flow_erase wm ret b]
 | .cond c a b,ex,out,es,acc=>by simp only[flow,IC.erase,erase_if,flow_erase wm ret a,flow_erase wm ret b]
 | .block id b,ex,out,es,acc=>by simp only[flow,IC.erase,flow_erase wm ret b]
 | .loop l b,ex,out,es,acc=>by simp only[flow,IC.erase,flow_erase wm ret b]
 | .cut l b,ex,out,es,acc=>by simp only[flow,IC.erase,flow_erase wm ret b]
 | .exit _,_,_,_,_=>rfl
 | .ret,_,_,_,_=>rfl
 | .rangef id g lv ps a b,ex,out,es,acc=>by simp only[flow,IC.erase,flow_erase wm [] a,flow_erase wm [] b]
theorem compC_erase(P:Program)(sm:Nat->Bool)(f:Nat):∀c:Code,(compC P sm f c).erase=compC P sm f c
 | .region _ ops draw=>by
   simp only[compC]
   split
   ·rfl
   ·split
    ·split<;>rfl
    ·rfl
 | .seq a b=>by simp only[compC,IC.erase,compC_erase P sm f a,compC_erase P sm f b]
 | .cond c a b=>by simp only[compC,IC.erase,compC_erase P sm f a,compC_erase P sm f b]
 | .block id b=>by simp only[compC,IC.erase,compC_erase P sm f b]
 | .loop b=>by simp only[compC,IC.erase,compC_erase P sm f b]
 | .skip=>rfl
 | .exit _=>rfl
 | .ret=>rfl
 | .goto _=>rfl
 | .label _=>rfl
 | .scope _=>rfl
 | .refuse _=>rfl
 | .rangeFunc _ _ a b=>by simp only[compC,IC.erase,compC_erase P sm f a,compC_erase P sm f b]
def oneF(fn:Func):Bool:=match fn.body with|some b=>oneR b|none=>true
def cutB(c:Bool)(n:Nat)(g:IFn):IFn:=if c=true then {g with body:= .cut (List.range n) g.body}else g
def fnsP(P:Program)(sm:Nat->Bool)(w:Nat->Nat)(cf df:Nat->Bool)(f:Nat):Option IFn:=match P.funcs[f]? with
 |some fn=>if df f=true\/fn.name= "runtime.NumGoroutine" \/oneF fn=false then none else match comp P sm f fn (w f)with
  |some g=>some (cutB (cf f) (fn.params.size+fn.nfree) g)
  |none=>none
 |none=>none
theorem fnsP_ok{P:Program}{sm:Nat->Bool}{w:Nat->Nat}{cf df:Nat->Bool}:FnsOK P sm (fnsP P sm w cf df):=by
 intro f g h
 unfold fnsP at h
 split at h
 ·rename_i fn hfn
  split at h
  ·cases h
  ·rename_i hn
   split at h
   ·rename_i g' hg
    injection h with h
    subst h
    unfold comp at hg
    split at hg
    ·cases hg
    ·rename_i b hb
     injection hg with hg
     subst hg
     have hk:∀(n:Nat)(c:Bool)(g:IFn),(cutB c n g).key=g.key:=by
      intro n c g
      unfold cutB IFn.key
      split<;>rfl
     rw[hk]
     unfold fnKey IFn.key
     simp only[hfn,hb,flow_erase,compC_erase]
     have h1:=not_or.1 (not_or.1 hn).2
     have h2:(fn.name != "runtime.NumGoroutine")=true:=by simpa using h1.1
     have h3:oneR b=true:=by
      have:=h1.2
      unfold oneF at this
      simp only[hb]at this
      simpa using this
     rw[h2,h3]
     rfl
   ·cases h
 ·cases h
def fO(fns:Nat->Option IFn)(f:Nat):IFn:=match fns f with|some g=>g|none=>⟨0,[],.skip⟩
abbrev fB(fns:Nat->Option IFn)(f:Nat):IC:=(fO fns f).body
section
variable{summ:Nat->Option Summ}{fns:Nat->Option IFn}{d:Nat}
theorem runG{R:Type}{N:Nat}{ov:Nat->Option (List CV->List Blk->(CV->List Blk->Option R)->Option R)}(ho:OvrOK ov (evFn summ fns FU d)){os:List (Orc R)}(hos:oksFrom summ FU (evFn summ fns FU d) (fB fns N) 0 os){args:List CV}{hp:List Blk}{k:CV->List Blk->Option R}{r:R}
 (h:evFnL summ FU (ovr ov (evFn summ fns FU d)) (mkT (fB fns N) os) (fO fns N) args hp k=some r) (hf:(fns N).isSome=true:=by kernel_rfl) (hrz:Nat.ble RZ N=false:=by kernel_rfl):evFn summ fns FU (d+1) N args hp k=some r:=by
 obtain⟨fn,hfn⟩:=Option.isSome_iff_exists.1 hf
 have e:fO fns N=fn:=by unfold fO;rw[hfn]
 unfold fB at hos h
 rw[e]at hos h
 exact evFnL_sound hrz hfn ho (oks_ok hos) h
end
abbrev fR(fns:Nat->Option IFn)(f:Nat):List Nat×IC×IC:=rndO (fO fns f)
theorem pvG{α:Type}{o:Option α}{e y:α}(h:o=some y):o.isSome=true/\o.getD e=y:=by subst h;exact⟨rfl,rfl⟩
def smL:List (Nat×Summ)->Nat->Option Summ
 |[],_=>none
 |p::l,f=>bif Nat.beq f p.1 then some p.2 else smL l f
def SmAll(P:Program):List (Nat×Summ)->Prop
 |[]=>True
 |p::l=>SummOK P p.1 p.2/\SmAll P l
theorem smL_ok{P:Program}:∀ {l:List (Nat×Summ)},SmAll P l->∀f s,smL l f=some s->SummOK P f s
 |[],_,f,s,h=>by cases h
 |p::l,h,f,s,e=>by
  unfold smL at e
  cases hb:Nat.beq f p.1
  ·rw[hb]at e;exact smL_ok h.2 f s e
  ·rw[hb]at e
   injection e with e
   subst e
   rw[Nat.eq_of_beq_eq_true hb]
   exact h.1
theorem callG{P:Program}{sm:Nat->Bool}{w:Nat->Nat}{cf df:Nat->Bool}(hm:P.follows .mixedOrders=true){l:List (Nat×Summ)}(h:SmAll P l){R:Type}(n base:Nat):CallOK P base (rokOf P sm (fnsP P sm w cf df)) (evFn (R:=R) (smL l) (fnsP P sm w cf df) FU n) :=
 ev_sound hm (smL_ok h) (fun f s e=>(smL_ok h f s e).2.1) fnsP_ok n
theorem sokS{P:Program}{sm:Nat->Bool}{w:Nat->Nat}{cf df:Nat->Bool}(hm:P.follows .mixedOrders=true){l:List (Nat×Summ)}{f n:Nat}{ts rs:List Ty}{F:HDen ts->Option (HDen rs)}
 (h:∀x y,F x=some y->evFn (smL l) (fnsP P sm w cf df) FU n f (ofH ts x) [] (pureK rs)=some y) (hl:SmAll P l) (hcb:callable P f=true:=by kernel_rfl) (hrz:Nat.ble RZ f=false:=by kernel_rfl):SummOK P f (shS ts rs (fun x=>(F x).isSome) (fun x=>(F x).getD (dfH rs))) :=
 summ_sh (fun _=>rfl) (fun _=>rfl) (callG hm hl n) hrz hcb h
theorem sokN{P:Program}{sm:Nat->Bool}{w:Nat->Nat}{cf df:Nat->Bool}(hm:P.follows .mixedOrders=true){l:List (Nat×Summ)}{f n:Nat}{ts rs:List Ty}{F:HDen ts->Option (HDen rs)}
 (h:∀x y,F x=some y->evFn (smL l) (fnsP P sm w cf df) FU n f (ofH ts x) [] (pureK rs)=some y) (hl:SmAll P l) (hrs:(rs.all fun t=> !t.slices)=true:=by decide) (hcb:callable P f=true:=by kernel_rfl) (hrz:Nat.ble RZ f=false:=by kernel_rfl):SummOK P f (shN ts rs (fun x=>(F x).isSome) (fun x=>(F x).getD (dfH rs))) :=
 summ_shN hrs (fun _=>rfl) (fun _=>rfl) (callG hm hl n) hrz hcb h
end Go.Ev
