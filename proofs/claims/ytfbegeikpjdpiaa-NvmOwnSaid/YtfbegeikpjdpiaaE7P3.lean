/- Part of a typed evaluator of the program's functions, proved sound. No condition. -/
import Derived.Test.YtfbegeikpjdpiaaE7P2
set_option maxRecDepth 10000
set_option linter.unusedVariables false
set_option linter.unusedSimpArgs false
namespace Go.Ev
open Go Go.RowKit
def toPHJ(look:Look):(t:Ty)->CV->Option t.den
 | .slice e,.jsl e' xs=>if h:e'=e then some (h▸xs)else none
 | .pair a b,.pair c d=>match toPHJ look a c,toPHJ look b d with|some x,some y=>some (x,y)|_,_=>none
 |t,c=>toPH look t c
theorem toPHJ_rep{E:Env}{base:Nat}{look:Look}(L:LRep E base look){I':Nat->Prop}(hI:∀g,E.R g->I' g)(hK:∀g,E.K g->I' g):∀ {t:Ty}{c:CV}{x:t.den}{cs:List Value},toPHJ look t c=some x->c.subOK look=true->CRep E c cs->(∀g,refH E look c g->I' g)->RepD E.w I' t x cs:=by
 intro t
 induction t with
 |slice e ih=>
  intro c x cs h hs hc hr
  cases c with
  |jsl e' xs=>
   simp only[toPHJ]at h
   split at h
   ·rename_i he;subst he
    injection h with h;subst h
    exact RepD.mono hK (fun _ _=>rfl) (.slice e') xs cs hc
   ·cases h
  |_=>exact toPH_rep L hI (t:= .slice e) (by simpa only[toPHJ]using h) hs hc hr
 |pair a b iha ihb=>
  intro c x cs h hs hc hr
  cases c with
  |pair c d=>
   simp only[toPHJ]at h
   split at h
   ·rename_i y z hy hz
    injection h with h;subst h
    obtain⟨c1,c2,e,h1,h2⟩:=hc
    simp only[CV.subOK,Bool.and_eq_true]at hs
    exact⟨c1,c2,e,iha hy hs.1 h1 (fun g⟨b,hb,hg⟩=>hr g ⟨b,by simp[CV.refs,hb],hg⟩),ihb hz hs.2 h2 (fun g⟨b,hb,hg⟩=>hr g ⟨b,by simp[CV.refs,hb],hg⟩)⟩
   ·cases h
  |_=>exact toPH_rep L hI (t:= .pair a b) (by simpa only[toPHJ]using h) hs hc hr
 |int k=>intro c x cs h hs hc hr;exact toPH_rep L hI (t:= .int k) (by simpa only[toPHJ]using h) hs hc hr
 |bool=>intro c x cs h hs hc hr;exact toPH_rep L hI (t:= .bool) (by simpa only[toPHJ]using h) hs hc hr
 |str=>intro c x cs h hs hc hr;exact toPH_rep L hI (t:= .str) (by simpa only[toPHJ]using h) hs hc hr
 |unit=>intro c x cs h hs hc hr;exact toPH_rep L hI (t:= .unit) (by simpa only[toPHJ]using h) hs hc hr
 |arr n e ih=>intro c x cs h hs hc hr;exact toPH_rep L hI (t:= .arr n e) (by simpa only[toPHJ]using h) hs hc hr
theorem toPHJ_congr{look look':Look}:∀ {t:Ty}{c:CV},(∀b∈c.refs,look b=look' b)->toPHJ look t c=toPHJ look' t c:=by
 intro t
 induction t with
 |pair a b iha ihb=>
  intro c h
  cases c with
  |pair c d=>simp only[toPHJ];rw[iha (fun b hb=>h b (by simp[CV.refs,hb])),ihb (fun b hb=>h b (by simp[CV.refs,hb]))]
  |_=>simp only[toPHJ];exact toPH_congr h
 |slice e ih=>
  intro c h
  cases c with
  |jsl e' xs=>rfl
  |_=>simp only[toPHJ];exact toPH_congr h
 |_=>intros c h;simp only[toPHJ];exact toPH_congr h
theorem toPHJ_agg{look:Look}{t:Ty}{c:CV}{x:t.den}(h:toPHJ look t c=some x):c.isAgg=t.agg/\∀d,c≠ .tup d:=by
 cases t with
 |slice e=>
  cases c with
  |jsl e' xs=>exact⟨rfl,by simp⟩
  |_=>exact toPH_agg (t:= .slice e) (by simpa only[toPHJ]using h)
 |pair a b=>
  cases c with
  |pair c d=>exact⟨rfl,by simp⟩
  |_=>exact toPH_agg (t:= .pair a b) (by simpa only[toPHJ]using h)
 |int k=>exact toPH_agg (t:= .int k) (by simpa only[toPHJ]using h)
 |bool=>exact toPH_agg (t:= .bool) (by simpa only[toPHJ]using h)
 |str=>exact toPH_agg (t:= .str) (by simpa only[toPHJ]using h)
 |unit=>exact toPH_agg (t:= .unit) (by simpa only[toPHJ]using h)
 |arr n e=>exact toPH_agg (t:= .arr n e) (by simpa only[toPHJ]using h)
def purifyJ(look:Look):(ts:List Ty)->List CV->Option (HDen ts)
 |[],[]=>some ()
 |t::ts,c::cs=>match toPHJ look t c,purifyJ look ts cs with|some x,some l=>some (x,l)|_,_=>none
 |_,_=>none
theorem purifyJ_congr{look look':Look}:∀ {ts:List Ty}{cs:List CV},(∀b∈cs.flatMap CV.refs,look b=look' b)->purifyJ look ts cs=purifyJ look' ts cs
 |[],[],_=>rfl
 |[],_::_,_=>rfl
 |_::_,[],_=>rfl
 |t::ts,c::cs,h=>by
  simp only[purifyJ]
  rw[toPHJ_congr (fun b hb=>h b (by simp[hb])),purifyJ_congr (fun b hb=>h b (by rw[List.flatMap_cons];exact List.mem_append_right _ hb))]
theorem purifyJ_rep{E E':Env}{base:Nat}{look:Look}(L:LRep E base look)(hw:E'.w=E.w)(hI:∀g,E.R g->E'.R g)(hK:∀g,E.K g->E'.R g):∀ {ts:List Ty}{cs:List CV}{x:HDen ts}{vs:List Value},purifyJ look ts cs=some x->subsOK look cs=true->Vs E cs vs->(∀c∈cs,∀g,refH E look c g->E'.R g)->Vs E' (ofH ts x) vs
 |[],[],_,vs,h,_,hv,_=>by cases vs<;>exact hv
 |[],_::_,_,_,h,_,_,_=>by simp[purifyJ]at h
 |_::_,[],_,_,h,_,_,_=>by simp[purifyJ]at h
 |t::ts,c::cs,_,[],_,_,hv,_=>hv.elim
 |t::ts,c::cs,_,v::vs,h,hs,hv,hr=>by
  simp only[purifyJ]at h
  split at h
  ·rename_i x l hx hl
   injection h with h;subst h
   simp only[subsOK,List.all_cons,Bool.and_eq_true]at hs
   refine⟨?_,purifyJ_rep L hw hI hK hl hs.2 hv.2 (fun c' hc'=>hr c' (by simp[hc']))⟩
   obtain⟨ha,ht⟩:=toPHJ_agg hx
   obtain⟨cells,h1,h2⟩:=hv.1.one1 ht
   have hd:=toPHJ_rep L (I':=E'.R) hI hK hx hs.1 h1 (hr c (by simp))
   rw[<-hw]at hd
   refine VRep1.up ⟨cells,CRep_ofP hd,?_⟩ (isVal_tup (isVal_ofP t x))
   rw[isAgg_ofP,<-ha]
   exact h2
  ·cases h
def Ty.jok:Ty->Bool
 | .slice _=>true| .pair a b=>a.jok&&b.jok|t=> !t.slices
def ofPJ:(t:Ty)->t.den->CV
 | .slice e,x=> .jsl e x
 | .pair a b,x=>bif(Ty.pair a b).slices then .pair (ofPJ a x.1) (ofPJ b x.2)else .pure (.pair a b) x
 | .int k,x=> .int k x
 | .bool,x=> .bool x
 | .str,x=> .pure .str x
 | .unit,x=> .pure .unit x
 | .arr n e,x=> .pure (.arr n e) x
def ofJ:(ts:List Ty)->HDen ts->List CV
 |[],_=>[]
 |t::ts,x=>ofPJ t x.1::ofJ ts x.2
theorem ofPJ_rep{E:Env}:∀ {t:Ty}{x:t.den}{cs:List Value},t.jok=true->RepD E.w E.K t x cs->CRep E (ofPJ t x) cs:=by
 intro t
 induction t with
 |slice e=>intro x cs _ h;exact h
 |pair a b iha ihb=>
  intro x cs hj h
  simp only[Ty.jok,Bool.and_eq_true]at hj
  cases hs:(Ty.pair a b).slices
  ·simp only[ofPJ,hs,cond_false]
   exact RepD_any _ _ _ hs h
  ·simp only[ofPJ,hs,cond_true]
   obtain⟨c1,c2,e,h1,h2⟩:=h
   exact⟨c1,c2,e,iha hj.1 h1,ihb hj.2 h2⟩
 |int k=>intro x cs _ h;exact h
 |bool=>intro x cs _ h;exact h
 |str=>intro x cs _ h;exact h
 |unit=>intro x cs _ h;exact h
 |arr n e=>
  intro x cs hj h
  simp only[Ty.jok,Bool.not_eq_true']at hj
  exact RepD_any _ _ _ hj h
theorem ofPJ_agg(t:Ty)(x:t.den):(ofPJ t x).isAgg=t.agg/\∀d,ofPJ t x≠ .tup d:=by
 cases t with
 |pair a b=>
  simp only[ofPJ]
  cases hs:(Ty.pair a b).slices
  ·exact⟨rfl,by simp⟩
  ·exact⟨rfl,by simp⟩
 |_=>exact⟨rfl,by simp[ofPJ]⟩
theorem purifyJ_repJ{E E':Env}{base:Nat}{look:Look}(L:LRep E base look)(hw:E'.w=E.w)(hI:∀g,E.I g->E'.K g):∀ {ts:List Ty}{cs:List CV}{x:HDen ts}{vs:List Value},(ts.all Ty.jok)=true->purifyJ look ts cs=some x->subsOK look cs=true->Vs E cs vs->(∀c∈cs,∀g,refH E look c g->E'.K g)->Vs E' (ofJ ts x) vs
 |[],[],_,vs,_,h,_,hv,_=>by cases vs<;>exact hv
 |[],_::_,_,_,_,h,_,_,_=>by simp[purifyJ]at h
 |_::_,[],_,_,_,h,_,_,_=>by simp[purifyJ]at h
 |t::ts,c::cs,_,[],_,_,_,hv,_=>hv.elim
 |t::ts,c::cs,_,v::vs,hj,h,hs,hv,hr=>by
  simp only[List.all_cons,Bool.and_eq_true]at hj
  simp only[purifyJ]at h
  split at h
  ·rename_i x l hx hl
   injection h with h;subst h
   simp only[subsOK,List.all_cons,Bool.and_eq_true]at hs
   refine⟨?_,purifyJ_repJ L hw hI hj.2 hl hs.2 hv.2 (fun c' hc'=>hr c' (by simp[hc']))⟩
   obtain⟨ha,ht⟩:=toPHJ_agg hx
   obtain⟨cells,h1,h2⟩:=hv.1.one1 ht
   have hd:=toPHJ_rep L (I':=E'.K) (fun g hg=>hI g hg.1) (fun g hg=>hI g hg.1) hx hs.1 h1 (hr c (by simp))
   rw[<-hw]at hd
   refine VRep1.up ⟨cells,ofPJ_rep hj.1 hd,?_⟩ (ofPJ_agg t x).2
   rw[(ofPJ_agg t x).1,<-ha]
   exact h2
  ·cases h
def shJN(ts rs:List Ty)(p:HDen ts->Bool)(v:HDen ts->HDen rs):Summ:=fun cs look _=>match purifyJ look ts cs with
 |none=>none
 |some x=>some ⟨subsOK look cs&&p x,tupOf (ofH rs (v x)),[]⟩
theorem shJN_congr(ts rs:List Ty)(p:HDen ts->Bool)(v:HDen ts->HDen rs):SummC (shJN ts rs p v):=by
 intro cs look look' nid h
 unfold shJN
 rw[purifyJ_congr h,subsOK_congr h]
theorem ofH_tup:∀(ts:List Ty)(x:HDen ts),∀c∈ofH ts x,∀d,c≠ .tup d
 |[],_=>by simp[ofH]
 |t::ts,x=>by
  intro c hc
  rcases List.mem_cons.1 hc with rfl|hc
  ·exact isVal_tup (isVal_ofP t _)
  ·exact ofH_tup ts x.2 c hc
def allE(E:Env)(hp:List Blk)(rk:Nat->Loop->Prop):Env:= {w:=E.w,I:=fun g=>E.I g\/holdA0 E hp g,μ:=fun _=>0,σ:=fun _=>undef,live:=fun _=>False,rok:=rk}
where holdA0 (E:Env) (hp:List Blk) (g:Nat):Prop:=∃b',holdsB E b' (lookH hp b') g
def youE(w:World)(I:Nat->Prop)(rk:Nat->Loop->Prop):Env:= {w:=w,I:=I,μ:=fun _=>0,σ:=fun _=>undef,live:=fun _=>False,rok:=rk,J:=I}
theorem HS.nil0{E:Env}(himm:∀g,E.I g->g<E.w.heap.size)(hl:∀b,¬E.live b)(hr:∀b,E.lr b=Option.none)(hJ:∀g,E.J g->E.I g):HS E.w.heap.size E []:=by
 have hf:∀b,lookH [] b= .fresh:=fun b=>by simp[lookH]
 refine⟨fun b=>by rw[hf];trivial,fun b b' g h=>by rw[hf]at h;exact h.elim,fun b g h=>by rw[hf]at h;exact h.elim,himm,fun b=> ?_,Nat.le_refl _,(fun b rec i h=>by rw[hr]at h;cases h),hJ,fun g hg hb=>absurd (himm g hg) (by have hb:E.w.heap.size<=g:=hb;omega)⟩
 simp[hf,hl b]
theorem HS.allImm{base:Nat}{E:Env}{hp:List Blk}(H:HS base E hp):∀g,(E.I g\/allE.holdA0 E hp g)->g<E.w.heap.size:=fun g hg=>hg.elim (H.imm g) fun⟨_,h⟩=>H.held_lt h
theorem HS.grow{base:Nat}{E:Env}{hp:List Blk}(H:HS base E hp){w':World}(hbel:Below E.w.heap.size E.w w')(I2:Nat->Prop)(hI:∀g,E.I g->I2 g)(hI2:∀g,I2 g->E.I g\/(E.w.heap.size<=g/\g<w'.heap.size/\thaw w' g)) :
 E.le base {E with w:=w',I:=I2}/\HS base {E with w:=w',I:=I2} hp:=by
 have hle1:Env.le E.w.heap.size (E.clean E.rok) {E.clean E.rok with w:=w',I:=E.I} :=
  ⟨fun _ h=>h,fun g hg=>hbel.block g (H.imm g hg),fun _ h=>h,fun _ _=>rfl,fun _ _=>rfl,hbel,fun _ h=> .inl h,fun _ _=>rfl,rfl,rfl⟩
 have H1:HS E.w.heap.size {E.clean E.rok with w:=w',I:=E.I} []:=by
  have hf:∀b,lookH [] b= .fresh:=fun b=>by simp[lookH]
  refine⟨fun b=>by rw[hf];trivial,fun b b' g h=>by rw[hf]at h;exact h.elim,fun b g h=>by rw[hf]at h;exact h.elim,fun g hg=>Nat.lt_of_lt_of_le (H.imm g hg) hbel.size,fun b=> ?_,hbel.size,(fun b rec i h=>by cases h),H.jI,fun g hg hb=>absurd (H.imm g hg) (by have hb:E.w.heap.size<=g:=hb;omega)⟩
  show False↔_
  simp[hf]
 exact H.back H1 hle1 I2 hI hI2
theorem summ_jn{rk:Nat->Loop->Prop}{P:Program}{f:Nat}{ts rs:List Ty}{F:HDen ts->Option (HDen rs)}{p:HDen ts->Bool}{v:HDen ts->HDen rs}{summ:Nat->Option Summ}{fns:Nat->Option IFn}{fu n:Nat}(hrs:(rs.all fun t=> !t.slices)=true)
 (hp0:∀x,p x=(F x).isSome) (hv0:∀x,v x=(F x).getD (dfH rs)) (hcall:∀base,CallOK P base rk (evFn (R:=CV×List Blk) summ fns fu n)) (hrz:Nat.ble RZ f=false) (hcb:callable P f=true)
 (h:∀x y,F x=some y->evFn summ fns fu n f (ofH ts x) [] (pureK rs)=some y):SummOK P f (shJN ts rs p v):=by
 refine⟨hcb,shJN_congr _ _ _ _,?_⟩
 intro base E hp cs vs nid out H hvs hs hok _ _
 unfold shJN at hs
 split at hs
 ·cases hs
 ·rename_i x hx
  injection hs with hs;subst hs
  simp only[Bool.and_eq_true]at hok
  obtain⟨hsub,hpx⟩:=hok
  rw[hp0]at hpx
  obtain⟨y,hy⟩:=Option.isSome_iff_exists.1 hpx
  have ey:v x=y:=by rw[hv0,hy];rfl
  obtain⟨c0,hp2,h1,h2⟩:=evFn_nat summ fu fns n _ _ _ _ _ _ (h x y hy)
  obtain⟨l,rfl,hpl,hsl⟩:=pureK_some h1
  have H0:HS E.w.heap.size (allE E hp rk) []:=HS.nil0 (E:=allE E hp rk) H.allImm (fun _ h=>h) (fun _=>rfl) (fun _ h=>h.elim)
  have hvs0:Vs (allE E hp rk) (ofH ts x) vs:=purifyJ_rep (base:=base) (E':=allE E hp rk) H.blk rfl (fun g hg=>⟨.inl hg.1,fun h=>h⟩) (fun g hg=>⟨.inl hg.1,fun h=>h⟩) hx hsub hvs (fun c hc g⟨b,_,hg⟩=>⟨.inr ⟨b,hg⟩,fun h=>h⟩)
  refine Calls.mono ((hcall _).1 f (ofH ts x) [] _ _ hrz (h2 _ (fun v h=>some (v,h)) _ rfl) (allE E hp rk) vs rfl H0 hvs0).2 ?_
  rintro e w' ⟨v1,c,hp1,E1,rfl,hk,rfl,hle1,H1,hv,_⟩
  simp only[Option.some.injEq,Prod.mk.injEq]at hk
  obtain⟨rfl,rfl⟩:=hk
  obtain⟨hll,ht0,htl⟩:=purify_tup hpl
  obtain⟨us,hus,hback⟩:=tup_split hv ht0
  obtain⟨hle3,H3⟩:=H.grow (w':=E1.w) hle1.bel E.I (fun _ h=>h) (fun _ h=> .inl h)
  refine⟨v1,{E with w:=E1.w,I:=E.I},rfl,rfl,hle3,H3,?_⟩
  rw[ey]
  exact hback _ _ (purify_any hrs H1.blk hpl hus) hll htl
theorem sokJN{P:Program}{sm:Nat->Bool}{w:Nat->Nat}{cf df:Nat->Bool}(hm:P.follows .mixedOrders=true){l:List (Nat×Summ)}{f n:Nat}{ts rs:List Ty}{F:HDen ts->Option (HDen rs)}
 (h:∀x y,F x=some y->evFn (smL l) (fnsP P sm w cf df) FU n f (ofH ts x) [] (pureK rs)=some y) (hl:SmAll P l) (hrs:(rs.all fun t=> !t.slices)=true:=by decide) (hcb:callable P f=true:=by kernel_rfl) (hrz:Nat.ble RZ f=false:=by kernel_rfl):SummOK P f (shJN ts rs (fun x=>(F x).isSome) (fun x=>(F x).getD (dfH rs))) :=
 summ_jn hrs (fun _=>rfl) (fun _=>rfl) (callG hm hl n) hrz hcb h
def newI(w w':World):Nat->Prop:=fun g=>w.heap.size<=g/\g<w'.heap.size/\thaw w' g
theorem young_calls{rk:Nat->Loop->Prop}{P:Program}{f:Nat}{ts rs:List Ty}{summ:Nat->Option Summ}{fns:Nat->Option IFn}{fu n:Nat}(hcall:∀base,CallOK P base rk (evFn (R:=CV×List Blk) summ fns fu n))(hrz:Nat.ble RZ f=false){x:HDen ts}{y:HDen rs}
 (h:evFn summ fns fu n f (ofJ ts x) [] (pureK rs)=some y) {w:World} {I:Nat->Prop} (himm:∀g,I g->g<w.heap.size) {vs:List Value} (hvs:Vs (youE w I rk) (ofJ ts x) vs) :
 Calls P f vs.toArray w fun e w'=>∃v,e= .returned v/\Below w.heap.size w w'/\VRep (pureE w' (newI w w')) (tupOf (ofH rs y)) v:=by
 obtain⟨c0,hp2,h1,h2⟩:=evFn_nat summ fu fns n _ _ _ _ _ _ h
 obtain⟨l,rfl,hpl,hsl⟩:=pureK_some h1
 have H0:HS w.heap.size (youE w I rk) []:=HS.nil0 (E:=youE w I rk) himm (fun _ h=>h) (fun _=>rfl) (fun _ h=>h)
 refine Calls.mono ((hcall _).1 f (ofJ ts x) [] _ _ hrz (h2 _ (fun v h=>some (v,h)) _ rfl) (youE w I rk) vs rfl H0 hvs).2 ?_
 rintro e w' ⟨v1,c,hp1,E1,rfl,hk,rfl,hle1,H1,hv,_⟩
 simp only[Option.some.injEq,Prod.mk.injEq]at hk
 obtain⟨rfl,rfl⟩:=hk
 obtain⟨hll,ht0,htl⟩:=purify_tup hpl
 obtain⟨us,hus,hback⟩:=tup_split hv ht0
 refine⟨v1,rfl,hle1.bel,hback _ _ ?_ hll htl⟩
 refine purify_rep (base:=w.heap.size) (E:=E1) (E':=pureE E1.w (newI w E1.w)) H1.blk rfl (fun g hg=> ?_) hpl hsl hus (fun c hc g hg=> ?_)
 ·have h0:w.heap.size<=g:=by
   rcases hle1.new g hg.1 with h|h
   ·exact absurd (by rw[hle1.J];exact h) hg.2
   ·exact h
  exact⟨⟨h0,H1.imm g hg.1,H1.thw g hg.1 h0⟩,fun h=>h⟩
 ·obtain⟨b,_,hb⟩:=hg
  exact⟨⟨(H1.sep b g hb).2,H1.held_lt hb,H1.heldThaw hb⟩,fun h=>h⟩
def shJ(ts rs:List Ty)(p:HDen ts->Bool)(v:HDen ts->HDen rs):Summ:=shJN ts rs p v
theorem summ_j{rk:Nat->Loop->Prop}{P:Program}{f:Nat}{ts rs:List Ty}{F:HDen ts->Option (HDen rs)}{p:HDen ts->Bool}{v:HDen ts->HDen rs}{summ:Nat->Option Summ}{fns:Nat->Option IFn}{fu n:Nat}(hjk:(ts.all Ty.jok)=true)
 (hp0:∀x,p x=(F x).isSome) (hv0:∀x,v x=(F x).getD (dfH rs)) (hcall:∀base,CallOK P base rk (evFn (R:=CV×List Blk) summ fns fu n)) (hrz:Nat.ble RZ f=false) (hcb:callable P f=true)
 (h:∀x y,F x=some y->evFn summ fns fu n f (ofJ ts x) [] (pureK rs)=some y):SummOK P f (shJ ts rs p v):=by
 refine⟨hcb,shJN_congr _ _ _ _,?_⟩
 intro base E hp cs vs nid out H hvs hs hok _ _
 unfold shJ shJN at hs
 split at hs
 ·cases hs
 ·rename_i x hx
  injection hs with hs;subst hs
  simp only[Bool.and_eq_true]at hok
  obtain⟨hsub,hpx⟩:=hok
  rw[hp0]at hpx
  obtain⟨y,hy⟩:=Option.isSome_iff_exists.1 hpx
  have ey:v x=y:=by rw[hv0,hy];rfl
  have hvs0:Vs (youE E.w (fun g=>E.I g\/allE.holdA0 E hp g) rk) (ofJ ts x) vs:=purifyJ_repJ (base:=base) (E':=youE E.w (fun g=>E.I g\/allE.holdA0 E hp g) rk) H.blk rfl (fun g hg=>⟨.inl hg,.inl hg⟩) hjk hx hsub hvs (fun c hc g⟨b,_,hg⟩=>⟨.inr ⟨b,hg⟩,.inr ⟨b,hg⟩⟩)
  refine Calls.mono (young_calls hcall hrz (h x y hy) H.allImm hvs0) ?_
  rintro e w' ⟨v1,rfl,hbel,hv⟩
  obtain⟨us,hus,hback⟩:=tup_split hv (ofH_tup rs y)
  obtain⟨hle3,H3⟩:=H.grow (w':=w') hbel (fun g=>E.I g\/newI E.w w' g) (fun _ h=> .inl h) (fun _ h=>h)
  refine⟨v1,{E with w:=w',I:=fun g=>E.I g\/newI E.w w' g},rfl,rfl,hle3,H3,?_⟩
  rw[ey]
  refine hback _ _ ?_ rfl (ofH_tup rs y)
  exact purify_rep (base:=0) (look:=noLook) (E:=pureE w' (newI E.w w')) (E':= {E with w:=w',I:=fun g=>E.I g\/newI E.w w' g}) (LRep_no _ _) rfl (fun g h=>⟨.inr h.1,fun hj=>by have:=H.imm g (H.jI g hj);have:=h.1.1;omega⟩) (purify_self _ _ _) (subsOK_self _ _ _) hus (fun c hc g⟨b,_,hb⟩=>hb.elim)
theorem sokJ{P:Program}{sm:Nat->Bool}{w:Nat->Nat}{cf df:Nat->Bool}(hm:P.follows .mixedOrders=true){l:List (Nat×Summ)}{f n:Nat}{ts rs:List Ty}{F:HDen ts->Option (HDen rs)}
 (h:∀x y,F x=some y->evFn (smL l) (fnsP P sm w cf df) FU n f (ofJ ts x) [] (pureK rs)=some y) (hl:SmAll P l) (hjk:(ts.all Ty.jok)=true:=by decide) (hcb:callable P f=true:=by kernel_rfl) (hrz:Nat.ble RZ f=false:=by kernel_rfl):SummOK P f (shJ ts rs (fun x=>(F x).isSome) (fun x=>(F x).getD (dfH rs))) :=
 summ_j hjk (fun _=>rfl) (fun _=>rfl) (callG hm hl n) hrz hcb h
end Go.Ev
namespace Go.Ev
open Go Go.RowKit
def ownJ(ats:List Ty)(te:Nat)(pt:List Bool)(t:Ty)(ts:List Ty)(p:HDen ats->Bool)(v:HDen ats->HDen (t::ts)):Summ:=fun cs look nid=>match purifyJ look ats cs with
 |none=>none
 |some x=>some ⟨subsOK look cs&&p x,tupOf (ownC nid pt t (v x).1::ofH ts (v x).2),[(nid,.vec te (lmT pt t) (lmV pt t (v x).1))]⟩
theorem ownJ_congr(ats:List Ty)(te:Nat)(pt:List Bool)(t:Ty)(ts:List Ty)(p:HDen ats->Bool)(v:HDen ats->HDen (t::ts)):SummC (ownJ ats te pt t ts p v):=by
 intro cs look look' nid h
 unfold ownJ
 rw[purifyJ_congr h,subsOK_congr h]
theorem summ_ownJ{rk:Nat->Loop->Prop}{P:Program}{f te:Nat}{pt:List Bool}{ats:List Ty}{t:Ty}{ts:List Ty}{F:HDen ats->Option (HDen (t::ts))}{p:HDen ats->Bool}{v:HDen ats->HDen (t::ts)}{summ:Nat->Option Summ}{fns:Nat->Option IFn}{fu n:Nat}(hjk:(ats.all Ty.jok)=true)
 (hpos:0<(lmT pt t).size) (hp0:∀x,p x=(F x).isSome) (hv0:∀x,v x=(F x).getD (dfH (t::ts))) (hcall:∀base,CallOK P base rk (evFn (R:=CV×List Blk) summ fns fu n)) (hrz:Nat.ble RZ f=false) (hcb:callable P f=true)
 (h:∀x y,F x=some y->evFn summ fns fu n f (ofJ ats x) [] (ownK te pt t ts)=some y):SummOK P f (ownJ ats te pt t ts p v):=by
 refine⟨hcb,ownJ_congr _ _ _ _ _ _ _,?_⟩
 intro base E hp cs vs nid out H hvs hs hok hf hn
 unfold ownJ at hs
 split at hs
 ·cases hs
 ·rename_i x' hx
  injection hs with hs;subst hs
  simp only[Bool.and_eq_true]at hok
  obtain⟨hsub,hpx⟩:=hok
  rw[hp0]at hpx
  obtain⟨y,hy⟩:=Option.isSome_iff_exists.1 hpx
  have ey:v x'=y:=by rw[hv0,hy];rfl
  obtain⟨c0,hp2,hk1,hk2⟩:=evFn_nat summ fu fns n _ _ _ _ _ _ (h x' y hy)
  obtain⟨c,l,o,rfl,hov,hob,hso,hpl⟩:=ownK_some hk1
  obtain⟨E0,hE0⟩:∃E0:Env,E0=youE E.w (fun g=>E.I g\/allE.holdA0 E hp g) rk:=⟨_,rfl⟩
  have hvs0:Vs E0 (ofJ ats x') vs:=by
   rw[hE0]
   exact purifyJ_repJ (base:=base) (E':=youE E.w (fun g=>E.I g\/allE.holdA0 E hp g) rk) H.blk rfl (fun g hg=>⟨.inl hg,.inl hg⟩) hjk hx hsub hvs (fun c hc g⟨b,_,hg⟩=>⟨.inr ⟨b,hg⟩,.inr ⟨b,hg⟩⟩)
  have H0:HS E.w.heap.size E0 []:=by
   rw[hE0]
   exact HS.nil0 (E:=youE E.w (fun g=>E.I g\/allE.holdA0 E hp g) rk) H.allImm (fun _ h=>h) (fun _=>rfl) (fun _ h=>h)
  have hc:=((hcall E.w.heap.size).1 f (ofJ ats x') [] _ _ hrz (hk2 _ (fun v h=>some (v,h)) _ rfl) E0 vs (by rw[hE0];rfl) H0 hvs0).2
  have hw0:E0.w=E.w:=by rw[hE0];rfl
  rw[hw0]at hc
  refine Calls.mono hc ?_
  rintro e w' ⟨v1,c1,hp1,E1,rfl,hk,rfl,hle1,H1,hv1,_⟩
  simp only[Option.some.injEq,Prod.mk.injEq]at hk
  obtain⟨rfl,rfl⟩:=hk
  obtain⟨hll,ht0,htl⟩:=purify_tup hpl
  obtain⟨hag,htc,hag2⟩:=own_agg hov
  have ht1:∀c'∈c::l,∀d,c'≠ .tup d:=fun c' hc'=>by
   rcases List.mem_cons.1 hc' with rfl|hc'
   ·exact htc
   ·exact ht0 c' hc'
  have hbel:Below E.w.heap.size E.w E1.w:=by have:=hle1.bel;rwa [hw0]at this
  have hyou:∀g,E1.R g->newI E.w E1.w g:=fun g hg=>by
   have h0:E.w.heap.size<=g:=by
    rcases hle1.new g hg.1 with h|h
    ·refine absurd ?_ hg.2
     rw[hle1.J,hE0]
     rw[hE0]at h
     exact h
    ·exact h
   exact⟨h0,H1.imm g hg.1,H1.thw g hg.1 h0⟩
  obtain⟨us,hus,hback⟩:=tup_split hv1 ht1
  match us,hus with
  |u0::ur,⟨hu0,hur⟩ =>
  obtain⟨cells,g1,g2⟩:=hu0.one1 htc
  obtain⟨I2,hI2⟩:∃I2:Nat->Prop,I2=fun g=>E.I g\/E1.R g\/∃b,b∈restR pt t c++l.flatMap CV.refs/\holdsB E1 b (lookH hp1 b) g:=⟨_,rfl⟩
  have hnJ:∀g,newI E.w E1.w g->¬E.J g:=fun g hg hj=>by have:=H.imm g (H.jI g hj);have:=hg.1;omega
  have hR2a:∀g,E1.R g->({E with w:=E1.w,I:=I2}:Env).R g:=fun g hg=>⟨by rw[hI2];exact .inr (.inl hg),hnJ g (hyou g hg)⟩
  have hR2b:∀b,b∈restR pt t c++l.flatMap CV.refs->∀g,holdsB E1 b (lookH hp1 b) g->({E with w:=E1.w,I:=I2}:Env).R g:=fun b hb g hg=>⟨by rw[hI2];exact .inr (.inr ⟨b,hb,hg⟩),hnJ g ⟨(H1.sep b g hg).2,H1.held_lt hg,H1.heldThaw hg⟩⟩
  simp only[subsOK,List.all_cons,Bool.and_eq_true]at hso
  obtain⟨v0,rows,r1,r2,r3,r4,r5⟩:=own_rep H1.blk (I2:=({E with w:=E1.w,I:=I2}:Env).R) hR2a hov hso.1 g1 (fun b hb g hg=>hR2b b (List.mem_append.2 (.inl hb)) g hg)
  obtain⟨hle3,H3⟩:=H.grow (w':=E1.w) hbel I2 (fun g hg=>by rw[hI2];exact .inl hg) (fun g hg=>by
   rw[hI2]at hg
   rcases hg with h|h|⟨b,_,h⟩
   ·exact .inl h
   ·exact .inr (hyou g h)
   ·exact .inr ⟨(H1.sep b g h).2,H1.held_lt h,H1.heldThaw h⟩)
  obtain⟨hle4,H4⟩:=H3.newVec (n:=nid) hf hn (w':=E1.w) (v:=v0) (te:=te) (e:=lmT pt t) (xs:=lmV pt t y.1) (cells:=rows) (Below.refl _ _) (fun _ _=>rfl) (fun _ _ _=>rfl)
   (Rows.mono (fun x c=>RepD.mono hR2a (fun _ _=>rfl) (lmT pt t) x c) _ _ r2) (own_base H.base r1) hpos (fun g hg=>by
    obtain⟨b,h1,h2⟩:=r3 g hg
    subst h1
    refine⟨fun hi=> ?_,fun b2 hb2=> ?_⟩
    ·have hi:I2 g:=hi
     rw[hI2]at hi
     rcases hi with hi|hi|⟨b3,hb3,hg3⟩
     ·have h3:=H.imm g hi
      have h4:=(H1.sep b g h2).2
      omega
     ·exact(H1.sep b g h2).1 hi.1
     ·have:=H1.inj b b3 g h2 hg3
      subst this
      rcases List.mem_append.1 hb3 with hb3|hb3
      ·exact own_rest hov hb3
      ·simp only[hasB]at hob
       have:(l.flatMap CV.refs).contains b=true:=by simpa using hb3
       rw[this]at hob;cases hob
    ·have h3:=H.held_lt (b:=b2) hb2
     have h4:=(H1.sep b g h2).2
     omega)
  refine⟨v1,({E with w:=E1.w,I:=I2}:Env).newVec nid E1.w v0,rfl,rfl,hle3.trans hle4,?_,hback _ (ownC nid pt t (v x').1::ofH ts (v x').2) ?_ ?_ ?_⟩
  ·rw[ey];exact H4
  ·rw[ey]
   refine⟨VRep1.up ⟨cells,r5 _ nid rfl (fun g hg=>hg) (.inr rfl) (by simp[Env.newVec,upd_same]),?_⟩ (hag2 nid).2,?_⟩
   ·rw[(hag2 nid).1,<-hag];exact g2
   ·exact purify_rep (base:=E.w.heap.size) (E:=E1) (E':=({E with w:=E1.w,I:=I2}:Env).newVec nid E1.w v0) H1.blk rfl hR2a hpl hso.2 hur (fun c' hc' g⟨b,hb,hg⟩=>hR2b b (List.mem_append.2 (.inr (List.mem_flatMap.2 ⟨c',hc',hb⟩))) g hg)
  ·rw[ey];simpa using hll
  ·rw[ey]
   intro c' hc'
   rcases List.mem_cons.1 hc' with rfl|hc'
   ·exact(hag2 nid).2
   ·exact htl c' hc'
theorem sokOJ{P:Program}{sm:Nat->Bool}{w:Nat->Nat}{cf df:Nat->Bool}(hm:P.follows .mixedOrders=true){l:List (Nat×Summ)}{f n te:Nat}{pt:List Bool}{ats:List Ty}{t:Ty}{ts:List Ty}{F:HDen ats->Option (HDen (t::ts))}
 (h:∀x y,F x=some y->evFn (smL l) (fnsP P sm w cf df) FU n f (ofJ ats x) [] (ownK te pt t ts)=some y) (hl:SmAll P l) (hjk:(ats.all Ty.jok)=true:=by decide) (hpos:0<(lmT pt t).size:=by decide) (hcb:callable P f=true:=by kernel_rfl) (hrz:Nat.ble RZ f=false:=by kernel_rfl):SummOK P f (ownJ ats te pt t ts (fun x=>(F x).isSome) (fun x=>(F x).getD (dfH (t::ts)))) :=
 summ_ownJ hjk hpos (fun _=>rfl) (fun _=>rfl) (callG hm hl n) hrz hcb h
def vecJ(u:Ty)(te bytes:Nat):Summ:=fun cs look nid=>match cs with
 |[c]=>match toPHJ look (.slice u) c with
  |some xs=>some ⟨c.subOK look&&room (List.length xs) bytes,.whole nid,[(nid,.vec te u xs)]⟩
  |none=>none
 |_=>none
theorem vecJ_congr(u:Ty)(te bytes:Nat):SummC (vecJ u te bytes):=by
 intro cs look look' nid h
 unfold vecJ
 match cs with
 |[]=>rfl
 |[c] =>
  have h':∀b∈c.refs,look b=look' b:=fun b hb=>h b (by simpa using hb)
  simp only[toPHJ_congr h',subOK_congr h']
 |_::_::_=>rfl
theorem src_repJ{E:Env}{base:Nat}{look:Look}(L:LRep E base look){e:Ty}(he:e.slices=false){c:CV}{x:List e.den}{v:Value}(h:toPHJ look (.slice e) c=some x)(hs:c.subOK look=true)(hv:VRep E c v):SrcRep E e x v:=by
 cases c with
 |jsl e' xs=>
  simp only[toPHJ]at h
  split at h
  ·rename_i he';subst he'
   injection h with h;subst h
   obtain⟨ad,c,e1,h1,h2,h3⟩:=VRep_jsl.1 hv
   simp at e1
   refine⟨ad,c,e1,h1,h2,fun h0=> ?_⟩
   obtain⟨b,off,rows,h4,_,h5,h6⟩:=h3 h0
   exact⟨b,off,rows,h4,h5,Rows.mono (fun x c=>RepD_any e' x c he) _ _ h6⟩
  ·cases h
 |_=>exact src_rep L (by simpa only[toPHJ]using h) hs hv
theorem clone_vecJ{P:Program}{f te:Nat}{u:Ty}{bytes:Nat}(hus:u.slices=false)(hcb:callable P f=true)(hpos:0<u.size)
 (h1:∀(b off n c:Nat)(news:List Value)(w:World),news.length=n*u.size->n<=maxLen->n*bytes<=140737488355328->(∀(j:Nat)(v:Value),news[j]? =some v->w.cell? ⟨b,off+j,none⟩=some v)->(∀v∈news,v.oneCell'=true) ->
  Calls P f #[.slice (some ⟨b,off,none⟩) n c] w fun e w'=>∃v',e= .returned v'/\w'.ownsRow w.heap.size te u.size v' n news/\v'≠ .slice none 0 0/\Below w.heap.size w w')
 (h2:∀(n c:Nat)(w:World),Calls P f #[.slice none n c] w fun e w'=>e= .returned (.slice none 0 0)/\w'=w)
 (h3:∀(a:Addr)(c:Nat)(w:World),Calls P f #[.slice (some a) 0 c] w fun e w'=>∃v',e= .returned v'/\w'.ownsRow w.heap.size te u.size v' 0 []/\v'≠ .slice none 0 0/\Below w.heap.size w w') :
 SummOK P f (vecJ u te bytes):=by
 refine⟨hcb,vecJ_congr u te bytes,?_⟩
 intro base E hp cs vs nid out H hvs hs hok hf hn
 unfold vecJ at hs
 split at hs
 ·rename_i c
  split at hs
  ·rename_i xs hxs
   simp at hs;subst hs
   simp only[Bool.and_eq_true]at hok
   obtain⟨hsub,hroom⟩:=hok
   have hroom:=room_spec hroom
   match vs,hvs with
   |[v],⟨hv,_⟩ =>
    obtain⟨ad,cp,rfl,s1,s2,s3⟩:=src_repJ H.blk hus hxs hsub hv
    have fin:∀(v':Value)(w':World)(news:List Value),w'.ownsRow E.w.heap.size te u.size v' (List.length xs) news->Rows (RepD E.w E.R u) xs news->Below E.w.heap.size E.w w'->
     ∃v E',(Ending.returned v':Ending)= .returned v/\E'.w=w'/\E.le base E'/\HS base E' (wrAll hp [(nid,.vec te u xs)])/\VRep E' (.whole nid) v:=by
     intro v' w' news hown hrows hbel
     have hrows':Rows (RepD w' E.R u) xs news:=Rows.mono (fun x c=>RepD.mono (fun _ h=>h) (fun g hg=>hbel.block g (H.imm g hg.1)) u x c) _ _ hrows
     obtain⟨hle,H'⟩:=H.newVec hf hn (w':=w') (v:=v') (te:=te) (e:=u) (xs:=xs) (cells:=news) ⟨hbel.os,hbel.tape,hbel.output,hbel.size,fun k hk=>hbel.block k (Nat.lt_of_lt_of_le hk H.base)⟩ (fun g hg=>hbel.block g (H.imm g hg)) (fun b g hg=>hbel.block g (H.held_lt hg)) hrows' (own_base H.base hown) hpos (fun g hg=>by
      have:=(hown.lt g hg).1
      exact⟨fun h=>absurd (H.imm g h) (by omega),fun b h=>absurd (H.held_lt h) (by omega)⟩)
     refine⟨v',_,rfl,rfl,hle,H',?_⟩
     refine⟨[v'],⟨.inr rfl,by simp[Env.newVec,upd_same],?_⟩,by simp[CV.isAgg]⟩
     simp only[Env.newVec,upd_same]
     rcases hown.2 with⟨h,hn0⟩|⟨g,cap,cur,h,_⟩
     ·exact⟨none,0,0,h⟩
     ·exact⟨_,_,_,h⟩
    cases ad with
    |none=>
     refine Calls.mono (h2 _ _ E.w) ?_
     rintro e w' ⟨rfl,rfl⟩
     have h0:List.length xs=0:=by
      rcases Nat.eq_zero_or_pos (List.length xs)with h|h
      ·exact h
      ·obtain⟨_,_,_,h4,_⟩:=s3 h;cases h4
     have hx:xs=[]:=List.eq_nil_of_length_eq_zero h0
     subst hx
     exact fin _ _ [] (World.ownsRow_nil _ _ _ _) rfl (Below.refl _ _)
    |some a=>
     by_cases h0:0<List.length xs
     ·obtain⟨b',off',rows,h4,g1,g2⟩:=s3 h0
      cases h4
      have hR:∀(x:u.den)(c:List Value),RepD E.w E.R u x c->c.length=u.size:=fun x c h=>RepD.len u x c h
      refine Calls.mono (h1 b' off' (List.length xs) cp rows E.w (Rows.len hR xs rows g2) (by omega) hroom.1 g1 (fun v hv=>Rows.one _ _ g2 v hv)) ?_
      rintro e w' ⟨v',rfl,hown,_,hbel⟩
      exact fin v' w' rows hown g2 hbel
     ·have h00:List.length xs=0:=by omega
      have hx:xs=[]:=List.eq_nil_of_length_eq_zero h00
      subst hx
      refine Calls.mono (h3 a cp E.w) ?_
      rintro e w' ⟨v',rfl,hown,_,hbel⟩
      exact fin v' w' [] hown rfl hbel
  ·cases hs
 ·cases hs
end Go.Ev
namespace Go.Ev
open Go Go.RowKit
theorem oo_core{rk:Nat->Loop->Prop}{P:Program}{f te:Nat}{u:Ty}{summ:Nat->Option Summ}{fns:Nat->Option IFn}{fu n:Nat}
 (hpos:0<u.size) (hcall:∀base,CallOK P base rk (evFn (R:=CV×List Blk) summ fns fu n)) (hrz:Nat.ble RZ f=false)
 {args:List CV} {xs:List u.den} {y:HDen [.slice u]} (h:evFn summ fns fu n f (.whole 0::args) [.vec te u xs] (ownK te [] (.slice u) [])=some y)
 {base b nid:Nat} {E':Env} {hp':List Blk} (H':HS base E' hp') (hlb':lookH hp' b= .vec te u xs) {vs:List Value} (hvs0:Vs (E'.only hp' b rk) (.whole 0::args) vs) (hfr0:lookH hp' nid= .fresh) (hnn0:nid<=hp'.length) :
 Calls P f vs.toArray E'.w fun e w'=>∃v E2,e= .returned v/\E2.w=w'/\E'.le base E2/\HS base E2 (setH (setH hp' b .dead) nid (.vec te u y.1))/\VRep E2 (.whole nid) v:=by
 obtain⟨c0,hp2,hk1,hk2⟩:=evFn_nat summ fu fns n _ _ _ _ _ _ h
 obtain⟨c,l,o,rfl,hov,hob,hso,hpl⟩:=ownK_some hk1
 have H0:=H'.only hlb' rk
 have hc:=((hcall base).1 f (.whole 0::args) [.vec te u xs] _ _ hrz (hk2 _ (fun v h=>some (v,h)) _ rfl) (E'.only hp' b rk) vs rfl H0 hvs0).2
 refine Calls.mono hc ?_
 rintro e w' ⟨v1,c1,hp1,E1,rfl,hk,rfl,hle1,H1,hv1,_⟩
 simp only[Option.some.injEq,Prod.mk.injEq]at hk
 obtain⟨rfl,rfl⟩:=hk
 obtain⟨hll,ht0,htl⟩:=purify_tup hpl
 obtain⟨hag,htc,hag2⟩:=own_agg hov
 have ht1:∀c'∈c::l,∀d,c'≠ .tup d:=fun c' hc'=>by
  rcases List.mem_cons.1 hc' with rfl|hc'
  ·exact htc
  ·exact ht0 c' hc'
 obtain⟨us,hus,hback⟩:=tup_split hv1 ht1
 match us,hus with
 |u0::ur,⟨hu0,hur⟩ =>
 obtain⟨cells,g1,g2⟩:=hu0.one1 htc
 obtain⟨E2,hE2⟩:∃E2:Env,E2= {E' with w:=E1.w,I:=fun g=>E1.I g/\¬holdN E' hp' b g}:=⟨_,rfl⟩
 have hR2:∀g,E1.R g->E2.R g:=fun g hg=>by
  rw[hE2]
  exact⟨⟨hg.1,fun hh=>hg.2 (by rw[hle1.J];exact .inr hh)⟩,fun hj=>hg.2 (by rw[hle1.J];exact .inl hj)⟩
 have hkeep:∀b' g,b'≠b->holdsB E' b' (lookH hp' b') g->E1.w.heap[g]? =E'.w.heap[g]? :=fun b' g hne hg=>hle1.heap g (.inr ⟨b',hne,hg⟩)
 have hno:∀g,E'.I g->¬holdN E' hp' b g:=fun g hg⟨b',_,hb'⟩=>(H'.sep b' g hb').1 hg
 have hle2:E'.le base E2:=by
  rw[hE2]
  refine⟨fun g hg=>⟨hle1.I g (.inl hg),hno g hg⟩,fun g hg=>hle1.heap g (.inl hg),fun _ h=>h,fun _ _=>rfl,fun _ _=>rfl,hle1.bel,fun g hg=> ?_,fun _ _=>rfl,rfl,rfl⟩
  rcases hle1.new g hg.1 with h|h
  ·exact h.elim .inl (fun h=>absurd h hg.2)
  ·exact .inr h
 have hlvb:E'.live b:=(H'.live b).2 (by rw[hlb'];simp)
 have hlen:b<=hp'.length:=Nat.le_of_lt (lookH_lt ((H'.live b).1 hlvb))
 have H2:HS base E2 (setH hp' b .dead):=by
  refine H'.set hle2 hlen (by simp) (fun q=> ?_) (fun g hg=> ?_) (fun b' g hne hg hI=> ?_) (fun b' g hne hg=> ?_) (k:= .dead) trivial (fun _ h=>h.elim) ?_ (fun g hg hb=>by rw[hE2]at hg⊢;exact H1.thw g hg.1 hb)
  ·rw[hE2]
   exact⟨.inl,fun h=>h.elim id (fun e=>e▸hlvb)⟩
  ·rw[hE2]at hg⊢
   exact H1.imm g hg.1
  ·rw[hE2]at hI
   exact hI.2 ⟨b',hne,hg⟩
  ·rw[hE2]
   exact hkeep b' g hne hg
  ·rw[hE2]
   exact H'.eok
 simp only[subsOK,List.all_cons,Bool.and_eq_true]at hso
 obtain⟨v0',rows,r1,r2,r3,r4,r5⟩:=own_rep H1.blk (I2:=E2.R) hR2 hov hso.1 g1 (fun b hb=>by rw[restR_sl]at hb;cases hb)
 have hnl:¬E'.live nid:=fun hl=>(H'.live nid).1 hl hfr0
 have hnb2:nid≠b:=fun e=>hnl (e▸hlvb)
 have hfr:lookH (setH hp' b .dead) nid= .fresh:=by
  rw[lookH_set hlen,if_neg hnb2]
  exact hfr0
 have hw2:E2.w=E1.w:=by rw[hE2]
 have hnn:nid<=(setH hp' b .dead).length:=Nat.le_trans hnn0 (setH_len _ _ _)
 obtain⟨hle4,H4⟩:=H2.newVec (n:=nid) hfr hnn (w':=E1.w) (v:=v0') (te:=te) (e:=u) (xs:=y.1) (cells:=rows) (by rw[hw2];exact Below.refl _ _) (fun g _=>by rw[hw2]) (fun _ g _=>by rw[hw2])
  (Rows.mono (fun x c=>RepD.mono hR2 (fun _ _=>rfl) u x c) _ _ r2) r1 hpos (fun g hg=>by
   obtain⟨q,h1,h2⟩:=r3 g hg
   refine⟨fun hi=> ?_,fun b2 hb2=> ?_⟩
   ·rw[hE2]at hi
    exact(H1.sep q g h2).1 hi.1
   ·rw[lookH_set hlen]at hb2
    by_cases e:b2=b
    ·rw[if_pos e]at hb2;exact hb2.elim
    ·rw[if_neg e]at hb2
     have hb2:holdsB E' b2 (lookH hp' b2) g:=by rw[hE2]at hb2;exact hb2
     exact(H1.sep q g h2).1 (hle1.I g (.inr ⟨b2,e,hb2⟩)))
 refine⟨v1,E2.newVec nid E1.w v0',rfl,rfl,hle2.trans hle4,H4,?_⟩
 have hl0:l=[]:=by
  cases l with
  |nil=>rfl
  |cons a l=>simp[purify]at hpl
 subst hl0
 have e1:ur=[]:=by
  cases ur with
  |nil=>rfl
  |cons a r=>exact hur.elim
 subst e1
 refine hback _ [ownC nid [] (.slice u) y.1] ?_ rfl ?_
 ·exact⟨VRep1.up ⟨cells,r5 _ nid rfl (fun g hg=>by rw[hE2]at hg⊢;exact hg) (.inr rfl) (by simp[Env.newVec,upd_same]),by rw[(hag2 nid).1,<-hag];exact g2⟩ (hag2 nid).2,trivial⟩
 ·intro c' hc'
  rw[List.mem_singleton]at hc'
  subst hc'
  exact(hag2 nid).2
theorem oo_core_nil{rk:Nat->Loop->Prop}{P:Program}{f te:Nat}{u:Ty}{summ:Nat->Option Summ}{fns:Nat->Option IFn}{fu n:Nat}
 (hpos:0<u.size) (hcall:∀base,CallOK P base rk (evFn (R:=CV×List Blk) summ fns fu n)) (hrz:Nat.ble RZ f=false)
 {args:List CV} {y:HDen [.slice u]} (h:evFn summ fns fu n f (.whole 0::args) [.vec te u ([]:List u.den)] (ownK te [] (.slice u) [])=some y)
 {base nid:Nat} {E':Env} {hp':List Blk} (H':HS base E' hp') {vs:List Value} (hvs0:Vs (E'.none hp' rk) (.whole 0::args) vs) (hfr:lookH hp' nid= .fresh) (hnn:nid<=hp'.length) :
 Calls P f vs.toArray E'.w fun e w'=>∃v E2,e= .returned v/\E2.w=w'/\E'.le base E2/\HS base E2 (setH hp' nid (.vec te u y.1))/\VRep E2 (.whole nid) v:=by
 obtain⟨c0,hp2,hk1,hk2⟩:=evFn_nat summ fu fns n _ _ _ _ _ _ h
 obtain⟨c,l,o,rfl,hov,hob,hso,hpl⟩:=ownK_some hk1
 have H0:=H'.none (u:=u) te hpos rk
 have hc:=((hcall base).1 f (.whole 0::args) [.vec te u ([]:List u.den)] _ _ hrz (hk2 _ (fun v h=>some (v,h)) _ rfl) (E'.none hp' rk) vs rfl H0 hvs0).2
 refine Calls.mono hc ?_
 rintro e w' ⟨v1,c1,hp1,E1,rfl,hk,rfl,hle1,H1,hv1,_⟩
 simp only[Option.some.injEq,Prod.mk.injEq]at hk
 obtain⟨rfl,rfl⟩:=hk
 obtain⟨hll,ht0,htl⟩:=purify_tup hpl
 obtain⟨hag,htc,hag2⟩:=own_agg hov
 have ht1:∀c'∈c::l,∀d,c'≠ .tup d:=fun c' hc'=>by
  rcases List.mem_cons.1 hc' with rfl|hc'
  ·exact htc
  ·exact ht0 c' hc'
 obtain⟨us,hus,hback⟩:=tup_split hv1 ht1
 match us,hus with
 |u0::ur,⟨hu0,hur⟩ =>
 obtain⟨cells,g1,g2⟩:=hu0.one1 htc
 obtain⟨E2,hE2⟩:∃E2:Env,E2= {E' with w:=E1.w,I:=fun g=>E1.I g/\¬holdA E' hp' g}:=⟨_,rfl⟩
 have hR2:∀g,E1.R g->E2.R g:=fun g hg=>by
  rw[hE2]
  exact⟨⟨hg.1,fun hh=>hg.2 (by rw[hle1.J];exact .inr hh)⟩,fun hj=>hg.2 (by rw[hle1.J];exact .inl hj)⟩
 have hkeep:∀b' g,holdsB E' b' (lookH hp' b') g->E1.w.heap[g]? =E'.w.heap[g]? :=fun b' g hg=>hle1.heap g (.inr ⟨b',hg⟩)
 have hno:∀g,E'.I g->¬holdA E' hp' g:=fun g hg⟨b',hb'⟩=>(H'.sep b' g hb').1 hg
 have hle2:E'.le base E2:=by
  rw[hE2]
  refine⟨fun g hg=>⟨hle1.I g (.inl hg),hno g hg⟩,fun g hg=>hle1.heap g (.inl hg),fun _ h=>h,fun _ _=>rfl,fun _ _=>rfl,hle1.bel,fun g hg=> ?_,fun _ _=>rfl,rfl,rfl⟩
  rcases hle1.new g hg.1 with h|h
  ·exact h.elim .inl (fun h=>absurd h hg.2)
  ·exact .inr h
 have H2:HS base E2 hp':=by
  refine⟨fun q=> ?_,fun q q' g h1 h2=> ?_,fun q g hg=> ?_,fun g hg=> ?_,fun q=> ?_,?_,?_,hle2.jI H'.jI,fun g hg hb=>by rw[hE2]at hg⊢;exact H1.thw g hg.1 hb⟩
  ·by_cases hl:E'.live q
   ·exact(H'.blk q).mono hle2 hl _ (fun g hg=>by rw[hE2];exact hkeep q g hg)
   ·have:lookH hp' q= .fresh:=by
     rcases Classical.em (lookH hp' q= .fresh)with h1|h1
     ·exact h1
     ·exact absurd ((H'.live q).2 h1) hl
    rw[this];trivial
  ·rw[hE2]at h1 h2;exact H'.inj q q' g h1 h2
  ·rw[hE2]at hg
   exact⟨fun hI=>by rw[hE2]at hI;exact hI.2 ⟨q,hg⟩,(H'.sep q g hg).2⟩
  ·rw[hE2]at hg⊢;exact H1.imm g hg.1
  ·rw[hE2];exact H'.live q
  ·rw[hE2];exact Nat.le_trans H'.base hle1.bel.size
  ·rw[hE2];exact H'.eok
 simp only[subsOK,List.all_cons,Bool.and_eq_true]at hso
 obtain⟨v0',rows,r1,r2,r3,r4,r5⟩:=own_rep H1.blk (I2:=E2.R) hR2 hov hso.1 g1 (fun b hb=>by rw[restR_sl]at hb;cases hb)
 have hw2:E2.w=E1.w:=by rw[hE2]
 obtain⟨hle4,H4⟩:=H2.newVec (n:=nid) hfr hnn (w':=E1.w) (v:=v0') (te:=te) (e:=u) (xs:=y.1) (cells:=rows) (by rw[hw2];exact Below.refl _ _) (fun g _=>by rw[hw2]) (fun _ g _=>by rw[hw2])
  (Rows.mono (fun x c=>RepD.mono hR2 (fun _ _=>rfl) u x c) _ _ r2) r1 hpos (fun g hg=>by
   obtain⟨q,h1,h2⟩:=r3 g hg
   refine⟨fun hi=> ?_,fun b2 hb2=> ?_⟩
   ·rw[hE2]at hi
    exact(H1.sep q g h2).1 hi.1
   ·have hb2:holdsB E' b2 (lookH hp' b2) g:=by rw[hE2]at hb2;exact hb2
    exact(H1.sep q g h2).1 (hle1.I g (.inr ⟨b2,hb2⟩)))
 refine⟨v1,E2.newVec nid E1.w v0',rfl,rfl,hle2.trans hle4,H4,?_⟩
 have hl0:l=[]:=by
  cases l with
  |nil=>rfl
  |cons a l=>simp[purify]at hpl
 subst hl0
 have e1:ur=[]:=by
  cases ur with
  |nil=>rfl
  |cons a r=>exact hur.elim
 subst e1
 refine hback _ [ownC nid [] (.slice u) y.1] ?_ rfl ?_
 ·exact⟨VRep1.up ⟨cells,r5 _ nid rfl (fun g hg=>by rw[hE2]at hg⊢;exact hg) (.inr rfl) (by simp[Env.newVec,upd_same]),by rw[(hag2 nid).1,<-hag];exact g2⟩ (hag2 nid).2,trivial⟩
 ·intro c' hc'
  rw[List.mem_singleton]at hc'
  subst hc'
  exact(hag2 nid).2
def CV.kOK:CV->Bool
 | .int _ _=>true| .bool _=>true| .nil _ _=>true| .jsl _ _=>true| .pure t _=> !t.slices| .pair a b=>a.kOK&&b.kOK|_=>false
theorem kOK_rep{E:Env}{base:Nat}{look:Look}(L:LRep E base look){I':Nat->Prop}(hK:∀g,E.K g->I' g):∀ {t:Ty}{c:CV}{x:t.den}{cs:List Value},c.kOK=true->toPHJ look t c=some x->CRep E c cs->RepD E.w I' t x cs:=by
 have pl:∀ {t:Ty}{c:CV}{x:t.den}{cs:List Value},c.kOK=true->(∀a b,c≠ .pair a b)->toPH look t c=some x->CRep E c cs->RepD E.w I' t x cs:=by
  intro t c x cs hk hp h hc
  cases c with
  |pair a b=>exact absurd rfl (hp a b)
  |pure t' y=>
   have ht:t'=t:=by
    cases t<;>simp only[toPH]at h<;>first
     |(split at h
       ·rename_i ht;exact ht
       ·cases h)
   subst ht
   have e:y=x:=by
    rw[toPH]at h
    simpa using h
   subst e
   simp only[CV.kOK,Bool.not_eq_true']at hk
   exact RepD_any _ _ _ hk hc
  |nil te e=>
   cases t<;>simp only[toPH]at h<;>try (cases h;done)
   injection h with h;subst h
   exact⟨none,0,hc,by simp,by simp[maxLen],by simp⟩
  |int k n=>
   cases t<;>simp only[toPH]at h<;>try (cases h;done)
   split at h
   ·rename_i hk;injection h with h;subst h hk;exact hc
   ·cases h
  |bool b=>
   cases t<;>simp only[toPH]at h<;>try (cases h;done)
   injection h with h;subst h;exact hc
  |jsl e xs=>cases t<;>simp only[toPH]at h<;>cases h
  |_=>simp[CV.kOK]at hk
 intro t
 induction t with
 |slice e ih=>
  intro c x cs hk h hc
  cases c with
  |jsl e' xs=>
   simp only[toPHJ]at h
   split at h
   ·rename_i he;subst he
    injection h with h;subst h
    exact RepD.mono hK (fun _ _=>rfl) (.slice e') xs cs hc
   ·cases h
  |pair a b=>simp only[toPHJ,toPH]at h;cases h
  |_=>exact pl hk (by simp) (by simpa only[toPHJ]using h) hc
 |pair a b iha ihb=>
  intro c x cs hk h hc
  cases c with
  |pair c d=>
   simp only[toPHJ]at h
   simp only[CV.kOK,Bool.and_eq_true]at hk
   split at h
   ·rename_i y z hy hz
    injection h with h;subst h
    obtain⟨c1,c2,e,h1,h2⟩:=hc
    exact⟨c1,c2,e,iha hk.1 hy h1,ihb hk.2 hz h2⟩
   ·cases h
  |_=>exact pl hk (by simp) (by simpa only[toPHJ]using h) hc
 |int k=>
  intro c x cs hk h hc
  cases c with
  |pair a b=>simp only[toPHJ,toPH]at h;cases h
  |_=>exact pl hk (by simp) (by simpa only[toPHJ]using h) hc
 |bool=>
  intro c x cs hk h hc
  cases c with
  |pair a b=>simp only[toPHJ,toPH]at h;cases h
  |_=>exact pl hk (by simp) (by simpa only[toPHJ]using h) hc
 |str=>
  intro c x cs hk h hc
  cases c with
  |pair a b=>simp only[toPHJ,toPH]at h;cases h
  |_=>exact pl hk (by simp) (by simpa only[toPHJ]using h) hc
 |unit=>
  intro c x cs hk h hc
  cases c with
  |pair a b=>simp only[toPHJ,toPH]at h;cases h
  |_=>exact pl hk (by simp) (by simpa only[toPHJ]using h) hc
 |arr n e ih=>
  intro c x cs hk h hc
  cases c with
  |pair a b=>simp only[toPHJ,toPH]at h;cases h
  |_=>exact pl hk (by simp) (by simpa only[toPHJ]using h) hc
theorem kOKs_rep{E E':Env}{base:Nat}{look:Look}(L:LRep E base look)(hw:E'.w=E.w)(hK:∀g,E.K g->E'.K g):∀ {ts:List Ty}{cs:List CV}{x:HDen ts}{vs:List Value},(ts.all Ty.jok)=true->cs.all CV.kOK=true->purifyJ look ts cs=some x->Vs E cs vs->Vs E' (ofJ ts x) vs
 |[],[],_,vs,_,_,h,hv=>by cases vs<;>exact hv
 |[],_::_,_,_,_,_,h,_=>by simp[purifyJ]at h
 |_::_,[],_,_,_,_,h,_=>by simp[purifyJ]at h
 |t::ts,c::cs,_,[],_,_,_,hv=>hv.elim
 |t::ts,c::cs,_,v::vs,hj,hk,h,hv=>by
  simp only[List.all_cons,Bool.and_eq_true]at hj hk
  simp only[purifyJ]at h
  split at h
  ·rename_i x l hx hl
   injection h with h;subst h
   refine⟨?_,kOKs_rep L hw hK hj.2 hk.2 hl hv.2⟩
   obtain⟨ha,ht⟩:=toPHJ_agg hx
   obtain⟨cells,h1,h2⟩:=hv.1.one1 ht
   have hd:=kOK_rep L (I':=E'.K) hK hk.1 hx h1
   rw[<-hw]at hd
   refine VRep1.up ⟨cells,ofPJ_rep hj.1 hd,?_⟩ (ofPJ_agg t x).2
   rw[(ofPJ_agg t x).1,<-ha]
   exact h2
  ·cases h
def ooJ(te:Nat)(u:Ty)(ats:List Ty)(p:List u.den->HDen ats->Bool)(v:List u.den->HDen ats->List u.den):Summ:=fun cs look nid=>match cs with
 | .whole b::rest=>match purifyJ look ats rest with
   |none=>none
   |some x=>if rest.all CV.kOK=true then match look b with
    | .vec te' u' xs=>if h:te'=te/\u'=u then some ⟨p (h.2▸xs) x,.whole nid,[(b,.dead),(nid,.vec te u (v (h.2▸xs) x))]⟩else none
    |_=>none else none
 | .nil _ _::rest=>match purifyJ look ats rest with
   |none=>none
   |some x=>if rest.all CV.kOK=true then some ⟨p [] x,.whole nid,[(nid,.vec te u (v [] x))]⟩else none
 |_=>none
theorem ooJ_congr(te:Nat)(u:Ty)(ats:List Ty)(p:List u.den->HDen ats->Bool)(v:List u.den->HDen ats->List u.den):SummC (ooJ te u ats p v):=by
 intro cs look look' nid h
 unfold ooJ
 split
 ·rename_i b rest
  have hb:look b=look' b:=h b (by simp[CV.refs])
  have hr:∀c∈rest.flatMap CV.refs,look c=look' c:=fun c hc=>h c (by simp[CV.refs];exact .inr (by simpa using hc))
  rw[purifyJ_congr hr,hb]
 ·rename_i rest
  have hr:∀c∈rest.flatMap CV.refs,look c=look' c:=fun c hc=>h c (by simp[CV.refs];simpa using hc)
  rw[purifyJ_congr hr]
 ·rfl
theorem summ_ooJ{rk:Nat->Loop->Prop}{P:Program}{f te:Nat}{u:Ty}{ats:List Ty}{F:List u.den->HDen ats->Option (HDen [.slice u])}{p:List u.den->HDen ats->Bool}{v:List u.den->HDen ats->List u.den}{summ:Nat->Option Summ}{fns:Nat->Option IFn}{fu n:Nat}(hjk:(ats.all Ty.jok)=true)
 (hpos:0<u.size) (hp0:∀xs x,p xs x=(F xs x).isSome) (hv0:∀xs x,v xs x=((F xs x).getD (dfH [.slice u])).1) (hcall:∀base,CallOK P base rk (evFn (R:=CV×List Blk) summ fns fu n)) (hrz:Nat.ble RZ f=false) (hcb:callable P f=true)
 (h:∀xs x y,F xs x=some y->evFn summ fns fu n f (.whole 0::ofJ ats x) [.vec te u xs] (ownK te [] (.slice u) [])=some y):SummOK P f (ooJ te u ats p v):=by
 refine⟨hcb,ooJ_congr _ _ _ _ _,?_⟩
 intro base E hp cs vs nid out H hvs hs hok hf hn
 unfold ooJ at hs
 split at hs
 ·rename_i b rest
  split at hs
  ·cases hs
  rename_i x hx
  split at hs
  rotate_left
  ·cases hs
  rename_i hko
  split at hs
  rotate_left
  ·cases hs
  rename_i te' u' xs hlb
  split at hs
  rotate_left
  ·cases hs
  rename_i he
  obtain⟨rfl,rfl⟩:=he
  injection hs with hs;subst hs
  have hpx:p xs x=true:=hok
  rw[hp0]at hpx
  obtain⟨y,hy⟩:=Option.isSome_iff_exists.1 hpx
  have ey:v xs x=y.1:=by rw[hv0,hy];rfl
  match vs,hvs with
  |v0::vr,⟨hv0',hvr⟩ =>
  have hvs0:Vs (E.only hp b rk) (.whole 0::ofJ ats x) (v0::vr):=by
   refine⟨?_,kOKs_rep (base:=base) (E':=E.only hp b rk) H.blk rfl (fun g hg=>⟨.inl hg.1,.inl hg.2⟩) hjk hko hx hvr⟩
   obtain⟨_,q2,q3⟩:=VRep_whole.1 hv0'
   exact VRep_whole.2 ⟨rfl,q2,q3⟩
  have:=oo_core hpos hcall hrz (h xs x y hy) H hlb hvs0 hf hn
  rw[<-ey]at this
  exact this
 ·rename_i z1 z2 rest
  split at hs
  ·cases hs
  rename_i x hx
  split at hs
  rotate_left
  ·cases hs
  rename_i hko
  injection hs with hs;subst hs
  have hpx:p [] x=true:=hok
  rw[hp0]at hpx
  obtain⟨y,hy⟩:=Option.isSome_iff_exists.1 hpx
  have ey:v [] x=y.1:=by rw[hv0,hy];rfl
  match vs,hvs with
  |v0::vr,⟨hv0',hvr⟩ =>
  have hvs0:Vs (E.none hp rk) (.whole 0::ofJ ats x) (v0::vr):=by
   refine⟨?_,kOKs_rep (base:=base) (E':=E.none hp rk) H.blk rfl (fun g hg=>⟨.inl hg.1,.inl hg.2⟩) hjk hko hx hvr⟩
   exact VRep_whole.2 ⟨rfl,VRep_nil.1 hv0',_,_,_,rfl⟩
  have:=oo_core_nil hpos hcall hrz (h [] x y hy) H hvs0 hf hn
  rw[<-ey]at this
  exact this
 ·cases hs
def ooM(te:Nat)(u:Ty)(ats:List Ty)(p:List u.den->HDen ats->Bool)(v:List u.den->HDen ats->List u.den):Summ:=fun cs look nid=>match ooS te u ats p v cs look nid with
 |some o=>some o
 |none=>ooJ te u ats p v cs look nid
theorem sokOM{P:Program}{sm:Nat->Bool}{w:Nat->Nat}{cf df:Nat->Bool}(hm:P.follows .mixedOrders=true){l:List (Nat×Summ)}{f n te:Nat}{u:Ty}{ats:List Ty}{F:List u.den->HDen ats->Option (HDen [.slice u])}
 (h:∀xs x y,F xs x=some y->evFn (smL l) (fnsP P sm w cf df) FU n f (.whole 0::ofH ats x) [.vec te u xs] (ownK te [] (.slice u) [])=some y)
 (h':∀xs x y,F xs x=some y->evFn (smL l) (fnsP P sm w cf df) FU n f (.whole 0::ofJ ats x) [.vec te u xs] (ownK te [] (.slice u) [])=some y) (hl:SmAll P l) (hjk:(ats.all Ty.jok)=true:=by decide) (hpos:0<u.size:=by decide) (hcb:callable P f=true:=by kernel_rfl) (hrz:Nat.ble RZ f=false:=by kernel_rfl):SummOK P f (ooM te u ats (fun xs x=>(F xs x).isSome) (fun xs x=>((F xs x).getD (dfH [.slice u])).1)):=by
 have h1:=sokOO hm h hl hpos hcb hrz
 have h2:=summ_ooJ hjk hpos (fun _ _=>rfl) (fun _ _=>rfl) (callG hm hl n) hrz hcb h'
 refine⟨hcb,fun cs look look' nid hr=> ?_,fun base E hp cs vs nid out H hvs hs hok hf hn=> ?_⟩
 ·unfold ooM
  rw[h1.2.1 cs look look' nid hr,h2.2.1 cs look look' nid hr]
 ·unfold ooM at hs
  split at hs
  ·rename_i o ho
   injection hs with hs;subst hs
   exact h1.2.2 base E hp cs vs nid _ H hvs ho hok hf hn
  ·exact h2.2.2 base E hp cs vs nid out H hvs hs hok hf hn
end Go.Ev
namespace Go.Ev
open Go Go.RowKit
def badC:IC:= .region false 0 [⟨none,.bad,[],none,0,[]⟩]
def preI(P:Program)(sm:Nat->Bool)(f:Nat):Nat->Code->IC
 |0,_=> .skip
 |n+1,.seq a b=> .seq (compC P sm f a) (preI P sm f n b)
 |_+1,_=>badC
def preC:Nat->IC->IC
 |0,_=> .skip
 |n+1,.seq a b=> .seq a (preC n b)
 |n+1,.cut _ c=>preC (n+1) c
 |_+1,_=>badC
def dropK:Nat->Code->Code
 |0,c=>c
 |n+1,.seq _ b=>dropK n b
 |_+1,c=>c
def headK:Code->Code
 | .seq a _=>a
 |c=>c
def bodyK(P:Program)(f:Nat):Code:=match P.funcs[f]? with
 |some fn=>fn.body.getD .skip
 |none=> .skip
theorem pre_sound{R:Type}{P:Program}{sm:Nat->Bool}{summ:Nat->Option Summ}{base:Nat}{E0:Env}{call:Nat->List CV->List Blk->(CV->List Blk->Option R)->Option R}(hsum:∀f s,summ f=some s->SummOK P f s)(hcall:CallOK P base E0.rok call)(hdraw:DrawOK P sm R summ)(hdrawC:DrawOKC P sm R summ){fu:Nat}{r:R}{fno:Nat} :
 ∀(n:Nat)(code:Code),rngs code=[]->∀(Q:Exit->Act->World->Prop)(k:Ex->St->Option R)(S:St)(a:Act)(w:World),evCode summ fu call (preI P sm fno n code) S k=some r->Sim base E0 S a w->
  (∀ex S' a' w',k ex S'=some r->Sim base E0 S' a' w'->Exit.then ((dropK n code).wpIn (FR none) 0 P Q) Q (toExit ex) a' w')->code.wpIn (FR none) 0 P Q a w
 |0,code,_,Q,k,S,a,w,h,hS,hk=>hk .normal S a w (by simpa only[preI,evCode]using h) hS
 |n+1,.seq x y,hr,Q,k,S,a,w,h,hS,hk=>by
  simp only[preI,evCode]at h
  have hr2:rngs x=[]/\rngs y=[]:=by simpa only[rngs,List.append_eq_nil_iff]using hr
  refine wpIn_seq (evCode_sound (ro:=none) (fno:=fno) hsum hcall (fun live S a w h=>norm_sound live h) (fun Q id nnew ops k r S a w he h0 h1 h2 h3=>hdraw none base E0 _ Q id nnew ops k r S a w he h0 h1 h2 h3) (fun Q id nnew ops e k r S a w he hl h0 h1 h2 h3=>hdrawC none base E0 _ Q id nnew ops e k r S a w he hl h0 h1 h2 h3) x (compC P sm fno x) (compC_erase P sm fno x).symm (by rw[hr2.1];simp) _ _ _ _ _ h hS ?_)
  intro ex S' a' w' h1 h2
  cases ex with
  |normal=>exact pre_sound hsum hcall hdraw hdrawC n y hr2.2 Q k S' a' w' h1 h2 hk
  |exit id=>exact hk (.exit id) S' a' w' h1 h2
  |ret=>exact hk .ret S' a' w' h1 h2
 |n+1,.skip,_,Q,k,S,a,w,h,_,_=>by simp[preI,badC,evCode,evOps,act]at h
 |n+1,.region _ _ _,_,Q,k,S,a,w,h,_,_=>by simp[preI,badC,evCode,evOps,act]at h
 |n+1,.cond _ _ _,_,Q,k,S,a,w,h,_,_=>by simp[preI,badC,evCode,evOps,act]at h
 |n+1,.block _ _,_,Q,k,S,a,w,h,_,_=>by simp[preI,badC,evCode,evOps,act]at h
 |n+1,.loop _,_,Q,k,S,a,w,h,_,_=>by simp[preI,badC,evCode,evOps,act]at h
 |n+1,.rangeFunc _ _ _ _,_,Q,k,S,a,w,h,_,_=>by simp[preI,badC,evCode,evOps,act]at h
 |n+1,.exit _,_,Q,k,S,a,w,h,_,_=>by simp[preI,badC,evCode,evOps,act]at h
 |n+1,.scope _,_,Q,k,S,a,w,h,_,_=>by simp[preI,badC,evCode,evOps,act]at h
 |n+1,.label _,_,Q,k,S,a,w,h,_,_=>by simp[preI,badC,evCode,evOps,act]at h
 |n+1,.goto _,_,Q,k,S,a,w,h,_,_=>by simp[preI,badC,evCode,evOps,act]at h
 |n+1,.ret,_,Q,k,S,a,w,h,_,_=>by simp[preI,badC,evCode,evOps,act]at h
 |n+1,.refuse _,_,Q,k,S,a,w,h,_,_=>by simp[preI,badC,evCode,evOps,act]at h
def evPre{R:Type}(summ:Nat->Option Summ)(fu:Nat)(call:Nat->List CV->List Blk->(CV->List Blk->Option R)->Option R)(nt:Nat)(res:List (Nat ⊕ (Nat×Bool×Nat)))(c:IC)(args:List CV)(k:CV->List Blk->Option R):Option R:=
 evCode summ fu call c {sl:=args++List.replicate (nt-args.length) .junk,hp:=[],fb:=0} fun ex S=>match ex with
  | .normal=>bif Nat.beq S.sl.length nt then(match resOf S res with
    |none=>none
    |some l=>k (tupOf l) S.hp)else none
  |_=>none
theorem evPre_ovr{R:Type}{summ:Nat->Option Summ}{fns:Nat->Option IFn}{fu n:Nat}{o:Nat->Option (List CV->List Blk->(CV->List Blk->Option R)->Option R)}(ho:OvrOK o (evFn summ fns fu n)){nt:Nat}{res:List (Nat ⊕ (Nat×Bool×Nat))}{c:IC}{args:List CV}{k:CV->List Blk->Option R}{r:R}
 (h:evPre summ fu (ovr o (evFn summ fns fu n)) nt res c args k=some r):evPre summ fu (evFn summ fns fu n) nt res c args k=some r:=
 evCode_mono (ovr_le (evFn_mono summ fu fns n) ho) c _ _ _ _ (fun _ _ _ h=>h) h
section
variable{P:Program}
theorem put_size{a:Act}{d:Option Nat}{v:Value}:(a.put d v).tmps.size=a.tmps.size:=by cases d<;>simp[Act.put]
theorem put_defers{a:Act}{d:Option Nat}{v:Value}:(a.put d v).defers=a.defers:=by cases d<;>rfl
theorem eval_same{a:Act}{d:Nat}{v:Value}(h:d<a.tmps.size):(a.put (some d) v).eval (.tmp d)=v:=by simp[Act.put,Act.eval,h]
theorem eval_ne{a:Act}{d t:Nat}{v:Value}(h:t≠d):(a.put (some d) v).eval (.tmp t)=a.eval (.tmp t):=by simp[Act.put,Act.eval,Array.getElem?_setIfInBounds,Ne.symm h]
theorem eval_const{a:Act}{v:Value}:a.eval (.const v)=v:=rfl
inductive DC where
 |skip|exit (n:Nat)|reg (l:List (Option Nat×Op))|seq (a b:DC)|cond (c:Operand) (a b:DC)|block (n:Nat) (a:DC)|loop (a:DC)|bad
def desc:Code->DC
 | .skip=> .skip
 | .exit n=> .exit n
 | .region _ ops false=>match ops.toList.all fun o=>o.guard.isNone with
   |true=> .reg (ops.toList.map fun o=>(o.dst,o.op))
   |false=> .bad
 | .seq a b=> .seq (desc a) (desc b)
 | .cond c a b=> .cond c (desc a) (desc b)
 | .block n b=> .block n (desc b)
 | .loop b=> .loop (desc b)
 |_=> .bad
def wpL(P:Program)(Q:Exit->Act->World->Prop):List (Option Nat×Op)->Act->World->Prop
 |[],a,w=>Q .normal a w
 |p::l,a,w=>∀o:Oper,o.op=p.2->o.dst=p.1->∀next:Act->World->Prop,(∀a w,wpL P Q l a w->next a w)->o.wpIn (FR none) 0 P a w next Q
def wpD(P:Program)(d:DC)(Q:Exit->Act->World->Prop)(a:Act)(w:World):Prop:=∀c:Code,desc c=d->c.wpIn (FR none) 0 P Q a w
variable{Q:Exit->Act->World->Prop}{a:Act}{w:World}
theorem wpL_list(ops:Array Oper):∀(l:List Oper),(∀o∈l,o.guard=none)->∀a w,wpL P Q (l.map fun o=>(o.dst,o.op)) a w->wpListIn (FR none) 0 P ops Q l a w
 |[],_,a,w,h=>h
 |o::l,hg,a,w,h=>by
  have h0:o.guard=none:=hg o (by simp)
  unfold wpListIn
  rw[if_pos (by simp[Region.wanted,h0])]
  exact h o rfl rfl _ fun a w h=>wpL_list ops l (fun o ho=>hg o (by simp[ho])) a w h
theorem desc_reg{id:Nat}{ops:Array Oper}{l:List (Option Nat×Op)}(h:desc (.region id ops false)= .reg l):(∀o∈ops.toList,o.guard=none)/\l=ops.toList.map fun o=>(o.dst,o.op):=by
 simp only[desc]at h
 split at h
 ·rename_i hg
  injection h with h
  refine⟨fun o ho=> ?_,h.symm⟩
  have:=List.all_eq_true.1 hg o ho
  simpa using this
 ·cases h
theorem wpD_reg{l:List (Option Nat×Op)}(h:wpL P Q l a w):wpD P (.reg l) Q a w:=by
 intro c hc
 cases c with
 |region id ops draw=>
  cases draw with
  |true=>cases hc
  |false=>
   obtain⟨h1,rfl⟩:=desc_reg hc
   exact wpIn_region_list (wpL_list ops _ h1 a w h)
 |_=>cases hc
theorem desc_region{id:Nat}{ops:Array Oper}{draw:Bool}{d:DC}(h:desc (.region id ops draw)=d):(∃l,d= .reg l)\/d= .bad:=by
 cases draw with
 |true=>exact .inr h.symm
 |false=>
  simp only[desc]at h
  split at h
  ·exact .inl ⟨_,h.symm⟩
  ·exact .inr h.symm
theorem wpD_skip(h:Q .normal a w):wpD P .skip Q a w:=by
 intro c hc
 cases c with
 |skip=>exact wpIn_skip h
 |region id ops draw=>rcases desc_region hc with⟨_,h⟩|h<;>cases h
 |_=>cases hc
theorem wpD_exit{n:Nat}(h:Q (.exit n) a w):wpD P (.exit n) Q a w:=by
 intro c hc
 cases c with
 |exit m=>
  injection hc with hc
  subst hc
  exact wpIn_exit h
 |region id ops draw=>rcases desc_region hc with⟨_,h⟩|h<;>cases h
 |_=>cases hc
theorem then_mono{K K':Act->World->Prop}(h:∀a w,K a w->K' a w){e:Exit}{a:Act}{w:World}(hq:Exit.then K Q e a w):Exit.then K' Q e a w:=by
 cases e with
 |normal=>exact h _ _ hq
 |_=>exact hq
theorem wpD_seq{x y:DC}(h:wpD P x (Exit.then (fun a w=>wpD P y Q a w) Q) a w):wpD P (.seq x y) Q a w:=by
 intro c hc
 cases c with
 |seq c1 c2=>
  injection hc with h1 h2
  exact wpIn_seq (Code.wpIn_mono (fun e a w hq=>then_mono (fun a w hk=>hk c2 h2) hq) (h c1 h1))
 |region id ops draw=>rcases desc_region hc with⟨_,h⟩|h<;>cases h
 |_=>cases hc
theorem wpD_cond{c:Operand}{x y:DC}{t:Bool}(hc:a.eval c= .bool t)(h1:t=true->wpD P x Q a w)(h2:t=false->wpD P y Q a w):wpD P (.cond c x y) Q a w:=by
 intro c' hc'
 cases c' with
 |cond c0 c1 c2=>
  injection hc' with e h3 h4
  subst e
  exact wpIn_cond_split hc (fun e=>h1 e c1 h3) (fun e=>h2 e c2 h4)
 |region id ops draw=>rcases desc_region hc' with⟨_,h⟩|h<;>cases h
 |_=>cases hc'
theorem wpD_block{n:Nat}{x:DC}(h:wpD P x (Exit.inBlock n Q) a w):wpD P (.block n x) Q a w:=by
 intro c hc
 cases c with
 |block m c1=>
  injection hc with e h1
  subst e
  exact wpIn_block (h c1 h1)
 |region id ops draw=>rcases desc_region hc with⟨_,h⟩|h<;>cases h
 |_=>cases hc
theorem wpD_loop{x:DC}(I:Act->World->Prop)(μ:Act->World->Nat)(h0:I a w)(round:∀a w,I a w->wpD P x (Exit.then (fun a' w'=>I a' w'/\μ a' w'<μ a w) Q) a w):wpD P (.loop x) Q a w:=by
 intro c hc
 cases c with
 |loop c1=>
  injection hc with h1
  exact wpIn_loop I μ h0 fun a w hI=>round a w hI c1 h1
 |region id ops draw=>rcases desc_region hc with⟨_,h⟩|h<;>cases h
 |_=>cases hc
theorem wpL_nil(h:Q .normal a w):wpL P Q [] a w:=h
theorem wpL_val{d:Option Nat}{op:Op}{l:List (Option Nat×Op)}{v:Value}{w':World}(h:∀o:Oper,o.op=op->(execOp a.eval o).run P w= .ok (.value v) w')(hn:wpL P Q l (a.put d v) w'):wpL P Q ((d,op)::l) a w:=by
 intro o ho hd next hx
 exact wp_val (h o ho) (hx _ _ (by rw[hd];exact hn))
theorem wpL_skp{op:Op}{l:List (Option Nat×Op)}{w':World}(h:∀o:Oper,o.op=op->(execOp a.eval o).run P w= .ok .skip w')(hn:wpL P Q l a w'):wpL P Q ((none,op)::l) a w:=by
 intro o ho hd next hx
 exact wp_skp (h o ho) (hx _ _ (by rw[hd];exact hn))
theorem wpL_ent{d:Option Nat}{op:Op}{l:List (Option Nat×Op)}{f:FuncId}{vs:Array Value}{R:Ending->World->Prop}(h:∀o:Oper,o.op=op->(execOp a.eval o).run P w= .ok (.enter f vs) w)(hc:Calls P f vs w R)(hn:∀e w',R e w'->∃v,e= .returned v/\wpL P Q l (a.put d v) w'):wpL P Q ((d,op)::l) a w:=by
 intro o ho hd next hx
 refine wp_ent (h o ho) hc fun e w' hr=> ?_
 obtain⟨v,e1,e2⟩:=hn e w' hr
 exact⟨v,e1,hx _ _ (by rw[hd];exact e2)⟩
theorem wpL_mov{d:Option Nat}{x:Operand}{l:List (Option Nat×Op)}(hn:wpL P Q l (a.put d (a.eval x)) w):wpL P Q ((d,.move x)::l) a w:=
 wpL_val (fun o ho=>by unfold execOp;simp only[ho];rfl) hn
theorem wpL_asg{d:Option Nat}{x:Operand}{l:List (Option Nat×Op)}(hn:wpL P Q l (a.put d (a.eval x)) w):wpL P Q ((d,.assign x)::l) a w:=
 wpL_val (fun o ho=>by unfold execOp;simp only[ho];rfl) hn
theorem wpL_ext{d:Option Nat}{x:Operand}{i:Nat}{vs:Array Value}{v:Value}{l:List (Option Nat×Op)}(hx:a.eval x= .tuple vs)(hv:vs[i]? =some v)(hn:wpL P Q l (a.put d v) w):wpL P Q ((d,.extract x i)::l) a w:=
 wpL_val (fun o ho=>by unfold execOp;simp only[ho];rw[hx];simp[Instr.extract,hv]) hn
theorem wpL_bin{d:Option Nat}{op:BinOp}{t t':TypeId}{x y:Operand}{k:IntKind}{m n:Int}{c:CV}{l:List (Option Nat×Op)}(hx:a.eval x= .int k m)(hy:a.eval y= .int k n)(hm:k.wrap m=m)(hb:binI op k m n=some (true,c))(hn:∀v,VRep (pureE w fun _=>False) c v->wpL P Q l (a.put d v) w):wpL P Q ((d,.binOp op t x y t')::l) a w:=by
 obtain⟨v,h1,h2⟩:=bin_run (P:=P) (E:=pureE w fun _=>False) op t k m n hb rfl hm w
 refine wpL_val (v:=v) (fun o ho=> ?_) (hn v h2)
 unfold execOp
 simp only[ho]
 rw[hx,hy]
 have hg:(eqGuard op t x y (.int k m) (.int k n)).run P w= .ok () w:=by
  unfold eqGuard
  cases op<;>simp
 simp[Sem.run_bind,hg,h1]
theorem wpL_len{d:Option Nat}{c:Call}{x:Operand}{t te:TypeId}{ad:Option Addr}{n cp:Nat}{l:List (Option Nat×Op)}(hc:c.callee= .builtin .len)(ha:c.args= #[x])(ht:c.argTypes= #[t])(hu:P.underlying t=some (.slice te))(hx:a.eval x= .slice ad n cp)(hn:wpL P Q l (a.put d (.int .i64 n)) w):wpL P Q ((d,.call c)::l) a w:=
 wpL_val (fun o ho=>by
  unfold execOp
  simp only[ho,resolve,hc,invoke,builtin,Sem.run_bind,Sem.run_pure,Result.andThen_ok,ha,ht]
  simp[hx,Builtin.len_,run_underlying hu,goInt]) hn
theorem wpL_idx{d:Option Nat}{t te:TypeId}{x y:Operand}{b off n cp:Nat}{k:IntKind}{i:Int}{l:List (Option Nat×Op)}(hu:P.underlying t=some (.slice te))(hk:hasT P te=true)(hx:a.eval x= .slice (some ⟨b,off,none⟩) n cp)(hy:a.eval y= .int k i)(hi:inB i n=true)(hn:wpL P Q l (a.put d (.pointer (some ⟨b,off+i.toNat*szT P te,none⟩))) w):wpL P Q ((d,.indexAddr t x y)::l) a w:=
 wpL_val (fun o ho=>by
  unfold execOp
  simp only[ho]
  rw[hx,hy]
  simp[Instr.indexAt,run_underlying hu,asIntOf,inB_spec hi,run_sizeOf' hk,Addr.add_mid,szT]) hn
theorem wpL_fld{d:Option Nat}{t:TypeId}{x:Operand}{i b off:Nat}{fs:Array Field}{f:Field}{l:List (Option Nat×Op)}(hu:P.underlying t=some (.struct fs))(hf:fs[i]? =some f)(hk:hasT P f.type=true)(hz:szT P f.type≠0)(hx:a.eval x= .pointer (some ⟨b,off,none⟩))(hn:wpL P Q l (a.put d (.pointer (some ⟨b,off+f.offset,none⟩))) w):wpL P Q ((d,.fieldAddr t x i)::l) a w:=
 wpL_val (fun o ho=>by
  unfold execOp
  simp only[ho]
  rw[hx]
  simp only[Instr.fieldAt,Instr.sureAddr,fieldPlace,Sem.run_bind,run_underlying hu,Result.andThen_ok,hf,Sem.run_pure,run_sizeOf' hk]
  rw[if_neg (by simpa[szT]using hz)]
  simp[Addr.add_mid]) hn
theorem wpL_load{d:Option Nat}{t:TypeId}{x:Operand}{b off:Nat}{cs:List Value}{l:List (Option Nat×Op)}(hh:hasT P t=true)(hu:(P.underlying t).isSome=true)(hx:a.eval x= .pointer (some ⟨b,off,none⟩))(hc:cellsAt w b off cs)(hl:cs.length=P.cellsOf t)(h1:isAggT P t=false->cs.length=1)(hn:wpL P Q l (a.put d (if isAggT P t then .agg cs.toArray else cs.headD undef)) w):wpL P Q ((d,.load t x)::l) a w:=
 wpL_val (fun o ho=>by
  unfold execOp
  simp only[ho]
  rw[hx,Sem.run_bind,load_run w hc hl hh hu h1]
  rfl) hn
theorem wpL_alloc{d:Option Nat}{t:TypeId}{i:TypeInfo}{zv:Value}{l:List (Option Nat×Op)}(hi:P.info? t=some i)(hz:i.zero=some zv)(hn:wpL P Q l (a.put d (.pointer (some ⟨w.heap.size,0,none⟩))) (w.alloc (.cells zv.cells t))):wpL P Q ((d,.alloc t)::l) a w:=
 wpL_val (fun o ho=>by
  unfold execOp
  simp only[ho]
  simp only[Instr.alloc,zeroValue,typeInfo,Sem.run_bind,program,Sem.run,Sem.run_pure,Result.andThen_ok,hi,hz]
  rfl) hn
theorem wpL_stw{t:TypeId}{x y:Operand}{u:Value}{cur:Array Value}{te g:Nat}{l:List (Option Nat×Op)}(hone:∀v∈u.cells.toList,v.oneCell'=true)(hk:hasT P t=true)(hcl:u.cells.size=szT P t)(hx:a.eval x= .pointer (some ⟨g,0,none⟩))(hy:a.eval y=u)(hh:w.heap[g]? =some (.cells cur te (0,0)))(hs:cur.size=u.cells.size)
 (hn:wpL P Q l a (w.setRow g u.cells)):wpL P Q ((none,.store t x y)::l) a w:=
 wpL_skp (fun o ho=>by
  have:=storeRun (P:=P) hone ho hk rfl (by simpa using hcl) hx hy hh (l:=[]) (m:=cur.toList) (r:=[]) (by simp) rfl (by simpa using hs)
  simpa using this) hn
theorem wpL_st1{t:TypeId}{x y:Operand}{u u0:Value}{g off:Nat}{l:List (Option Nat×Op)}(hone:u.oneCell'=true)(hcs:u.cells= #[u])(hk:hasT P t=true)(hcl:szT P t=1)(hx:a.eval x= .pointer (some ⟨g,off,none⟩))(hy:a.eval y=u)(hc:w.cell? ⟨g,off,none⟩=some u0)(hf:w.frozen? ⟨g,off,none⟩=false)
 (hn:wpL P Q l a (w.setCell ⟨g,off,none⟩ u)):wpL P Q ((none,.store t x y)::l) a w:=
 wpL_skp (fun o ho=>by
  have hst:=run_storeCells_cells (P:=P) g off [u] 0 w (fun j hj=>by simp at hj;subst hj;simp[hc]) (fun j hj=>by simp at hj;subst hj;simpa using hf) (fun v hv=>by simp at hv;subst hv;exact hone)
  unfold execOp
  simp only[ho]
  rw[hx,hy]
  simp only[Instr.storeAt,Instr.sureAddr,Sem.run_bind,Sem.run_pure,Result.andThen_ok,storeVar,run_sizeOf' hk,hcs]
  rw[if_neg (by simp;simpa[szT]using hcl.symm)]
  rw[hst]
  simp[World.setCells]) hn
theorem wpL_call{d:Option Nat}{c:Call}{f:FuncId}{l:List (Option Nat×Op)}{R:Ending->World->Prop}(hc:c.callee= .value (.func f))(hcb:callable P f=true)(hcalls:Calls P f (c.args.map a.eval) w R)(hn:∀e w',R e w'->∃v,e= .returned v/\wpL P Q l (a.put d v) w'):wpL P Q ((d,.call c)::l) a w:=
 wpL_ent (fun o ho=>by
  unfold execOp
  simp only[ho,resolve,hc,Act.eval,Deferred.ofValue,invoke,Sem.run_bind,Sem.run_pure,Result.andThen_ok]
  have:=run_callFunc hcb (#[]++c.args.map a.eval++ #[]) w
  simpa using this) hcalls hn
end
end Go.Ev
