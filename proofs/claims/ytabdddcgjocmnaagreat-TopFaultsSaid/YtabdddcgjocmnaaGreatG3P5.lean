/- Helpers: functions of the program as Lean functions, and what they compute. No condition. -/
import Derived.Test.YtabdddcgjocmnaaGreatG3P4
import Derived.Test.YtabdddcgjocmnaaGreatG3P2
import Derived.Test.YtabdddcgjocmnaaGreatG3P1
import Derived.Test.YtabdddcgjocmnaaGreatG3P3
set_option maxRecDepth 10000
set_option linter.unusedVariables false
set_option linter.unusedSimpArgs false
open Go.IntKind (wrap i64 i32 i16 i8 u64 u32 u16 u8)
open List (getD length take drop replicate)
open Int (toNat)
open Go.Ev.Sp
set_option linter.unusedSimpArgs false
set_option linter.unusedVariables false
namespace Go.Ev
open Go
set_option maxRecDepth 100000
set_option maxHeartbeats 4000000
noncomputable def dZ:StT:=(false,0,0,())
theorem Jl1:∀(l:List StT){t:RsT},t.2.2.1=0->(Sp.dol l t).2.2.1≠0->∃j,j<l.length/\(Sp.dol (l.take j) t).2.2.1=0/\Sp.dol l t=Sp.dop (Sp.dol (l.take j) t) (l.getD j dZ)
 |[],t,e,h=>absurd e h
 |x::l,t,e,h=>by
  by_cases c:(Sp.dop t x).2.2.1=0
  ·rw[Sp.dol,if_pos e]at h
   obtain⟨j,h1,h2,h3⟩:=Jl1 l c h
   refine⟨j+1,by rw[List.length_cons];omega,?_,?_⟩
   ·rw[List.take_succ_cons,Sp.dol,if_pos e];exact h2
   ·rw[List.take_succ_cons,Sp.dol,if_pos e,h3,Sp.dol,if_pos e];rfl
  ·refine⟨0,by rw[List.length_cons];omega,e,?_⟩
   rw[Sp.dol,if_pos e,Fp0 _ c];rfl
theorem Ge2{s:RsT}{x:StT}(p0:0<=s.2.1.1)(e:(Sp.dop s x).2.2.1=0):0<=(Sp.dop s x).2.1.1/\Sp.dop (s.1,(s.2.1.1+1,s.2.1.2),0,()) x=((Sp.dop s x).1,((Sp.dop s x).2.1.1+1,(Sp.dop s x).2.1.2),0,()):=by
 unfold Sp.dop Sp.ers Sp.prg at *
 dsimp only at *
 by_cases b:x.1=true
 ·simp only[if_pos b]at e⊢
  by_cases w:s.1.2.1.getD x.2.1.toNat 0=s.1.2.2.1
  ·rw[if_pos w]at e;cases e
  ·simp only[if_neg w]at e⊢
   by_cases c0:s.2.1.1=0
   ·rw[if_pos c0]at e;cases e
   by_cases c1:s.2.1.1=1
   ·rw[if_neg c0,if_pos c1]at e;cases e
   rw[if_neg c0,if_neg c1,if_neg (show ¬s.2.1.1+1=0 by omega),if_neg (show ¬s.2.1.1+1=1 by omega)]
   refine⟨by show 0<=s.2.1.1-1;omega,?_⟩
   rw[show s.2.1.1+1-1=s.2.1.1-1+1 by omega]
 ·simp only[if_neg b]at e⊢
  by_cases c0:s.2.1.1=0
  ·rw[if_pos c0]at e;cases e
  by_cases c1:s.2.1.1=1
  ·rw[if_neg c0,if_pos c1]at e;cases e
  rw[if_neg c0,if_neg c1,if_neg (show ¬s.2.1.1+1=0 by omega),if_neg (show ¬s.2.1.1+1=1 by omega)]
  refine⟨by show 0<=s.2.1.1-1;omega,?_⟩
  rw[show s.2.1.1+1-1=s.2.1.1-1+1 by omega]
theorem Cf1:∀(l:List StT){s:RsT},s.2.2.1=0->0<=s.2.1.1->(Sp.dol l s).2.2.1=0->0<=(Sp.dol l s).2.1.1/\Sp.dol l (s.1,(s.2.1.1+1,s.2.1.2),0,())=((Sp.dol l s).1,((Sp.dol l s).2.1.1+1,(Sp.dol l s).2.1.2),0,())
 |[],s,e,p,_=>⟨p,rfl⟩
 |x::l,s,e,p,h=>by
  rw[Sp.dol,if_pos e]at h⊢
  have c:(Sp.dop s x).2.2.1=0:=by
   by_cases c:(Sp.dop s x).2.2.1=0
   ·exact c
   ·rw[Fp0 _ c]at h;exact absurd h c
  obtain⟨q,u⟩:=Ge2 p c
  obtain⟨r1,r2⟩:=Cf1 l c q h
  refine⟨r1,?_⟩
  rw[Sp.dol,if_pos rfl,u]
  exact r2
theorem Hy1{u:RsT}{k:Nat}{w:Int}(p0:0<=u.2.1.1)(hk:k<u.1.1.length)(hb:u.1.1.getD k 0=4294967295)(w0:0<=w)(w1:w<4294967296)(hn:(Sp.nmb w).2=true)(e:(Sp.prg u.1 k w u.2.1).2.2.1≠0)(hx:(Sp.prg u.1 k w u.2.1).1.1.getD k 0=w) :
 (Sp.prg u.1 k w (u.2.1.1+1,u.2.1.2)).2.2.1=0/\(Sp.prg u.1 k w (u.2.1.1+1,u.2.1.2)).1=(Sp.prg u.1 k w u.2.1).1:=by
 revert e hx
 unfold Sp.prg
 by_cases c0:u.2.1.1=0
 ·rw[if_pos c0]
  intro _ hx
  have hx:u.1.1.getD k 0=w:=hx
  rw[<-hx,hb]at hn
  exact absurd hn (by decide)
 rw[if_neg c0]
 by_cases c1:u.2.1.1=1
 ·rw[if_pos c1]
  intro _ hx
  dsimp only
  rw[if_neg (by omega),if_neg (by omega)]
  refine⟨rfl,?_⟩
  unfold Sp.pw at hx⊢
  dsimp only at hx⊢
  rw[Dj0 _ _ _ _ _ hk,if_pos rfl,hb]at hx
  rw[hb,hx,Sr0 w0 w1]
 ·rw[if_neg c1]
  intro e
  exact absurd rfl e
theorem Eo2{u:RsT}{k:Nat}{w:Int}(hk:k<u.1.1.length)(hb:u.1.1.getD k 0=4294967295)(w0:0<=w)(w1:w<4294967296):Sup w ((Sp.prg u.1 k w u.2.1).1.1.getD k 0):=by
 unfold Sp.prg
 split
 ·show Sup w (u.1.1.getD k 0)
  rw[hb]
  have:=Fn1 w0 w1 0
  rw[show Sp.andnI .u32 4294967295 (Sp.andnI .u32 0 w)=4294967295 by
   show wrap .u32 (((BitVec.ofInt 32 4294967295&&& ~~~ BitVec.ofInt 32 (wrap .u32 (((BitVec.ofInt 32 0&&& ~~~ BitVec.ofInt 32 w).toNat:Nat):Int))).toNat:Nat):Int)=_
   rw[bvk,show BitVec.ofInt 32 0=0#32 from rfl,BitVec.zero_and]
   decide]at this
  exact this
 split
 ·unfold Sp.pw
  dsimp only
  rw[Dj0 _ _ _ _ _ hk,if_pos rfl,hb]
  exact Fn1 w0 w1 _
 ·unfold Sp.pw
  dsimp only
  rw[Dj0 _ _ _ _ _ hk,if_pos rfl,hb]
  exact Fn1 w0 w1 _
theorem Vq1{l:List Int}{e:Nat}{key:Int}{n:Nat}(k0:0<=key)(k1:key<=254)(k2:n<=24)(hl:e+n+2<=l.length)(w0:l.getD e 0=Sp.prw (256*key+n))(hs:(Sp.nmb (l.getD (e+n+1) 0)).2=false)(hb:e+n+2<l.length->l.getD (e+n+2) 0=4294967295)(acc:List EnT) :
 (Sp.rdl l l.length e acc).2=acc:=by
 obtain⟨q,hq⟩:∃q,l.length=q+1:=⟨l.length-1,by omega⟩
 have hD:HD l e n key true:=⟨by rw[w0,(In0 (n:=256*key+n) (by omega) (by omega)).2.2,Int.mul_comm],by omega,k0,by omega⟩
 have e1:Sp.rdl l l.length e acc=Sp.rdl l (q+1) e acc:=by rw[hq]
 rw[e1,Yd0 hD,if_pos ⟨by omega,rfl,k1,k2,by omega⟩,if_neg (fun z=>by rw[hs]at z;exact absurd z.1 Bool.false_ne_true),Gu1 hb]
theorem Ej2{l:List Int}{e:Nat}(h:(Sp.nmb (l.getD e 0)).2=false):∀(f:Nat)(acc:List EnT),(Sp.rdl l f e acc).2=acc
 |0,_=>rfl
 |f+1,acc=>by rw[Sp.rdl,if_neg (fun z=>by rw[h]at z;exact absurd z.2.1 Bool.false_ne_true)]
theorem Ss0:∀(ws:List Int)(a:Int)(j:Nat),(Sp.pgl ws a).take j=Sp.pgl (ws.take j) a
 |[],a,j=>by rw[List.take_nil];exact List.take_nil
 |w::ws,a,0=>rfl
 |w::ws,a,j+1=>by rw[List.take_succ_cons,Sp.pgl,List.take_succ_cons,Ss0 ws (a+1) j,Sp.pgl]
theorem Oy1:∀(ws:List Int)(a:Int)(j:Nat),j<ws.length->(Sp.pgl ws a).getD j dZ=(false,a+j,ws.getD j 0,())
 |w::ws,a,0,_=>by rw[Sp.pgl];show(false,a,w,())=(false,a+0,w,());rw[Int.add_zero]
 |w::ws,a,j+1,h=>by
  rw[Sp.pgl]
  show(Sp.pgl ws (a+1)).getD j dZ=(false,a+((j+1:Nat):Int),ws.getD j 0,())
  rw[Oy1 ws (a+1) j (by rw[List.length_cons]at h;omega),show a+1+(j:Int)=a+((j+1:Nat):Int) by push_cast;omega]
theorem take_at(l:List Int){i j:Nat}(h:i<j):(l.take j).getD i 0=l.getD i 0:=by
 simp only[List.getD_eq_getElem?_getD,List.getElem?_take,if_pos h]
theorem Jz2{key:Int}{d:List Int}(k0:0<=key)(k1:key<=254)(k2:d.length<=24)(hd:W32l d):W32l (Sp.rcd key d):=fun x hx=>by
 unfold Sp.rcd at hx
 rcases List.mem_append.1 hx with hx|hx
 ·exact Md1 k0 k1 k2 hd x hx
 ·rw[List.mem_singleton.1 hx]
  have sb:=Xw0 ([Sp.prw (256*key+d.length)]++d) 0 (by decide) (by decide)
  have:=In0 (n:=Sp.smw ([Sp.prw (256*key+d.length)]++d)) sb.1 sb.2
  exact⟨this.1,this.2.1⟩
theorem Jq0(key:Int)(d:List Int):(Sp.rcd key d).getD (d.length+1) 0=Sp.prw (Sp.smw ([Sp.prw (256*key+d.length)]++d)):=by
 unfold Sp.rcd
 have e:=Hw0 ([Sp.prw (256*key+d.length)]++d) [Sp.prw (Sp.smw ([Sp.prw (256*key+d.length)]++d))] 0
 rw[List.length_append,List.length_singleton,Nat.add_zero,Nat.add_comm 1]at e
 rw[e];rfl
theorem Mu2{m:MeT}(hw:W32f m.1)(hm:Sp.mvl m=true){key:Int}{d:List Int}(k0:0<=key)(k1:key<=254)(k2:d.length<=24)(hd:W32l d){p:PwT}(h0:0<=p.1)(h1:p.1<1099511627776)(h:((Sp.rcd key d).length:Int)<=Sp.frl m)
 (s:RsT) (hs:s=Sp.dol (Sp.pgl (Sp.rcd key d) ((Sp.hbs m (Sp.acv m):Int)+(Sp.rdv (Sp.hwr m (Sp.acv m))).2.1)) (m.1,p,0,())) (e1:s.2.2.1≠0):Sp.ent (s.1,m.2)=Sp.ent m\/Sp.ent (s.1,m.2)=Sp.putE (Sp.ent m) key d:=by
 have c:(Sp.wrs m key d).2.1=0:=by unfold Sp.wrs;rw[if_pos h]
 have c':(Sp.wrs m key d).1=Sp.pgl (Sp.rcd key d) ((Sp.hbs m (Sp.acv m):Int)+(Sp.rdv (Sp.hwr m (Sp.acv m))).2.1):=by unfold Sp.wrs;rw[if_pos h]
 have g:=(Uo0 hw hm c).2 p h0 (by omega)
 rw[c',<-hs]at g
 obtain⟨hv,hp,hac⟩:=Gk0 hm
 have b:=pl_b hv hp
 obtain⟨hp2,hm2,ha2⟩:=pg_g hw hm h s g hs
 have fb:=Zi0 hw hm
 have rl:=Fu0 key d
 have al:=Bt0 m
 have bk:=pl_k hv hp al
 obtain⟨q1,q2⟩:Sp.frl m=(Sp.hsz m:Int)-(Sp.rdv (Sp.hwr m (Sp.acv m))).2.1/\Sp.blk (Sp.hwr m (Sp.acv m)) (Sp.rdl (Sp.hwr m (Sp.acv m)) (Sp.hwr m (Sp.acv m)).length 1 []).1=true:=by
  rcases fb.2.2 with q|q
  ·exact q
  ·omega
 have hwl:W32l (Sp.hwr m (Sp.acv m)):=hw.half (Sp.acv m)
 have po:=pg_o hw hm h s g hp2 hs (Sp.acv m) al
 have ln:=Dw0 hv hp al
 have ln2:=Dw0 (m:=(s.1,m.2)) g.v hp2 al
 have ee:(Sp.rdv (Sp.hwr m (Sp.acv m))).2.1=((Sp.rdl (Sp.hwr m (Sp.acv m)) (Sp.hwr m (Sp.acv m)).length 1 []).1:Int):=rfl
 have en:Sp.ent m=(Sp.rdl (Sp.hwr m (Sp.acv m)) (Sp.hwr m (Sp.acv m)).length 1 []).2:=rfl
 have en2:Sp.ent (s.1,m.2)=(Sp.rdl (Sp.hwr (s.1,m.2) (Sp.acv m)) (Sp.hwr (s.1,m.2) (Sp.acv m)).length 1 []).2:=by
  unfold Sp.ent Sp.rdv
  rw[ha2]
 have zs:Sp.hsz (s.1,m.2)=Sp.hsz m:=rfl
 rw[zs]at ln2
 have wl:=Jz2 k0 k1 k2 hd
 have hext:=Ye0 hwl (by rw[ln,ln2]) (Sp.hwr m (Sp.acv m)).length 1 [] (fun j hj=>po j (by omega) (by omega))
 rw[<-en]at hext
 rw[ee]at hs fb q1 po
 generalize he:(Sp.rdl (Sp.hwr m (Sp.acv m)) (Sp.hwr m (Sp.acv m)).length 1 []).1=e at *
 have hbl:∀i,e<=i->i<Sp.hsz m->m.1.1.getD (Sp.hbs m (Sp.acv m)+i) 0=4294967295:=fun i i1 i2=>by
  rw[Gz0 hv hp al (by omega)]
  exact Kc1 q2 (by omega) (by omega)
 obtain⟨j,j1,j2,j3⟩:=Jl1 _ rfl (by rw[<-hs];exact e1)
 rw[Gi0]at j1
 rw[Ss0,Oy1 _ _ _ j1,<-hs]at j3
 rw[Ss0]at j2
 have J:((Sp.hbs m (Sp.acv m):Int)+(e:Int))=((Sp.hbs m (Sp.acv m)+e:Nat):Int):=by push_cast;rfl
 rw[J]at j2 j3
 have tl:((Sp.rcd key d).take j).length=j:=by rw[List.length_take];omega
 have W:=Mf1 (f0:=m.1) ((Sp.rcd key d).take j) (Sp.hbs m (Sp.acv m)+e) (SG.init hv hw h0 (by omega)) rfl (fun x hx=>wl x (List.mem_of_mem_take hx)) (by omega)
  (fun i i1 i2=>by
   obtain⟨z,rfl⟩:∃z,i=Sp.hbs m (Sp.acv m)+z:=⟨i-Sp.hbs m (Sp.acv m),by omega⟩
   exact hbl z (by omega) (by omega)) j2
 have up:=Cf1 (Sp.pgl ((Sp.rcd key d).take j) ((Sp.hbs m (Sp.acv m)+e:Nat):Int)) (s:=(m.1,p,0,())) rfl h0 j2
 generalize hu:Sp.dol (Sp.pgl ((Sp.rcd key d).take j) ((Sp.hbs m (Sp.acv m)+e:Nat):Int)) (m.1,p,0,())=u at W j2 j3 up
 obtain⟨gu,u1,u2⟩:=W
 rw[tl]at u1 u2
 have j3:s=Sp.prg u.1 (Sp.hbs m (Sp.acv m)+e+j) ((Sp.rcd key d).getD j 0) u.2.1:=by
  rw[j3]
  unfold Sp.dop
  dsimp only
  rw[if_neg Bool.false_ne_true]
  congr 1
 have wj:=wl.at j
 have ub:u.1.1.getD (Sp.hbs m (Sp.acv m)+e+j) 0=4294967295:=by
  rw[u2 _ (by omega),Nat.add_assoc]
  exact hbl _ (by omega) (by omega)
 have ul:Sp.hbs m (Sp.acv m)+e+j<u.1.1.length:=by rw[gu.l];omega
 have X:=Eo2 (u:=u) ul ub wj.1 wj.2
 rw[<-j3]at X
 have at':∀i,i<Sp.hsz m->(Sp.hwr (s.1,m.2) (Sp.acv m)).getD i 0=s.1.1.getD (Sp.hbs m (Sp.acv m)+i) 0:=fun i hi=>(Gz0 (m:=(s.1,m.2)) g.v hp2 al hi).symm
 have so:∀i,i≠Sp.hbs m (Sp.acv m)+e+j->s.1.1.getD i 0=u.1.1.getD i 0:=fun i hi=>by rw[j3];exact Vw1 hi
 have sb:∀i,j<i->e+i<Sp.hsz m->(Sp.hwr (s.1,m.2) (Sp.acv m)).getD (e+i) 0=4294967295:=fun i i1 i2=>by
  rw[at' _ i2,so _ (by omega),u2 _ (by omega)]
  exact hbl _ (by omega) i2
 have sx:∀i,i<j->(Sp.hwr (s.1,m.2) (Sp.acv m)).getD (e+i) 0=(Sp.rcd key d).getD i 0:=fun i i1=>by
  rw[at' _ (by omega),so _ (by omega),<-Nat.add_assoc,u1 _ (by omega) (by omega),take_at _ (by omega)]
  congr 1
  omega
 have xw:=hwl
 have X2:Sup ((Sp.rcd key d).getD j 0) ((Sp.hwr (s.1,m.2) (Sp.acv m)).getD (e+j) 0):=by rw[at' _ (by omega),<-Nat.add_assoc];exact X
 have xb:0<=(Sp.hwr (s.1,m.2) (Sp.acv m)).getD (e+j) 0/\(Sp.hwr (s.1,m.2) (Sp.acv m)).getD (e+j) 0<4294967296:=(W32f.half (m:=(s.1,m.2)) g.w (Sp.acv m)).at _
 have h1w:(Sp.rcd key d).getD 0 0=Sp.prw (256*key+d.length):=rfl
 have pw0:=In0 (n:=256*key+d.length) (by omega) (by omega)
 have sm:=Xw0 ([Sp.prw (256*key+d.length)]++d) 0 (by decide) (by decide)
 have pws:=In0 (n:=Sp.smw ([Sp.prw (256*key+d.length)]++d)) sm.1 sm.2
 rw[en2,hext]
 have mid:(Sp.hwr (s.1,m.2) (Sp.acv m)).getD e 0=Sp.prw (256*key+d.length)->(Sp.nmb ((Sp.hwr (s.1,m.2) (Sp.acv m)).getD (e+d.length+1) 0)).2=false->(Sp.rdl (Sp.hwr (s.1,m.2) (Sp.acv m)) (Sp.hwr (s.1,m.2) (Sp.acv m)).length e (Sp.ent m)).2=Sp.ent m:=fun a b=>by
  refine Vq1 k0 k1 k2 (by omega) a b (fun z=> ?_) _
  rw[Nat.add_assoc]
  exact sb _ (by omega) (by omega)
 have blkn:(Sp.nmb 4294967295).2=false:=by decide
 rcases Nat.eq_zero_or_pos j with jz|jp
 ·left
  subst jz
  rw[Nat.add_zero]at X2 xb
  cases hn:(Sp.nmb ((Sp.hwr (s.1,m.2) (Sp.acv m)).getD e 0)).2
  ·exact Ej2 hn _ _
  ·have:=Ah1 (Wo0 (n:=256*key+d.length) (by omega) (by omega)) X2 pw0.1 pw0.2.1 xb.1 xb.2 hn
   refine mid this ?_
   rw[Nat.add_assoc,sb _ (by omega) (by omega)]
   exact blkn
 have hd0:(Sp.hwr (s.1,m.2) (Sp.acv m)).getD e 0=Sp.prw (256*key+d.length):=sx 0 jp
 by_cases jl:j<d.length+1
 ·left
  refine mid hd0 ?_
  rw[Nat.add_assoc,sb _ jl (by omega)]
  exact blkn
 have je:j=d.length+1:=by omega
 rw[je,Jq0]at X2 wj
 rw[je]at xb
 cases hn:(Sp.nmb ((Sp.hwr (s.1,m.2) (Sp.acv m)).getD (e+d.length+1) 0)).2
 ·exact .inl (mid hd0 hn)
 right
 have xe:=Ah1 (Wo0 sm.1 sm.2) X2 pws.1 pws.2.1 xb.1 xb.2 hn
 have L:=Hy1 (u:=u) gu.p0 ul ub (w:=(Sp.rcd key d).getD j 0) (by rw[je,Jq0];exact pws.1) (by rw[je,Jq0];exact pws.2.1) (by rw[je,Jq0,pws.2.2]) (by rw[<-j3];exact e1) (by
  rw[<-j3,je,Jq0,Nat.add_assoc,<-at' _ (by omega)]
  exact xe)
 rw[<-j3]at L
 have full:Sp.dol (Sp.wrs m key d).1 (m.1,(p.1+1,p.2),0,())=Sp.prg u.1 (Sp.hbs m (Sp.acv m)+e+j) ((Sp.rcd key d).getD j 0) (u.2.1.1+1,u.2.1.2):=by
  have sp:Sp.rcd key d=(Sp.rcd key d).take j++[(Sp.rcd key d).getD j 0]:=by
   refine Cn0 0 (by rw[List.length_append,tl,List.length_singleton];omega) (fun i hi=> ?_)
   rcases Nat.lt_or_ge i j with z|z
   ·rw[List.getD_eq_getElem?_getD,List.getD_eq_getElem?_getD,List.getElem?_append_left (by omega),List.getElem?_take,if_pos z]
   ·have:i=j:=by omega
    subst this
    have:=Hw0 ((Sp.rcd key d).take i) [(Sp.rcd key d).getD i 0] 0
    rw[tl,Nat.add_zero]at this
    rw[this];rfl
  conv=>lhs;rw[c',sp,ee,J,He1,Gq0,tl,up.2]
  show Sp.dol [(false,((Sp.hbs m (Sp.acv m)+e:Nat):Int)+(j:Int),(Sp.rcd key d).getD j 0,())] (u.1,(u.2.1.1+1,u.2.1.2),0,())=_
  rw[Os0,if_pos rfl]
  unfold Sp.dop
  dsimp only
  rw[if_neg Bool.false_ne_true]
  congr 1
 have R:=Nx1 hw hm k0 k1 k2 hd (p:=(p.1+1,p.2)) (by show 0<=p.1+1;omega) (by show p.1+1<=_;omega) c _ full.symm L.1
 rw[<-hext,<-en2]
 rw[L.2]at R
 exact R
structure EC(f0:FlT)(s:RsT):Prop where
 u:∀i,Sup (f0.1.getD i 0) (s.1.1.getD i 0)
 y:∀i,s.1.2.1.getD i 0<=f0.2.1.getD i 0+1
theorem Ut1{f:FlT}(h:W32f f)(o:Nat)(b:Int)(n i:Nat):Sup (f.1.getD i 0) ((Sp.orW f.1 o b n).getD i 0):=by
 rcases Nat.lt_or_ge i f.1.length with hi|hi
 ·rw[Hj0 _ _ _ _ _ hi]
  split
  ·exact Aa2 (h.at i).1 (h.at i).2 b
  ·exact Sup.rfl
 ·rw[List.getD_eq_getElem?_getD,List.getD_eq_getElem?_getD,List.getElem?_eq_none (show f.1.length<=i from hi),List.getElem?_eq_none (by rw[Db0];exact hi)]
  exact Sup.rfl
theorem EC.step{f0:FlT}{a k:Nat}{s:RsT}(h:EB f0 a k s)(c:EC f0 s)(hk:a+k<f0.2.1.length)(hw:f0.2.1.getD (a+k) 0≠f0.2.2.1):EC f0 (Sp.ers s.1 (a+k) s.2.1):=by
 have hl:s.1.2.2.1=f0.2.2.1:=by rw[h.r]
 have hn:s.1.2.1.getD (a+k) 0≠s.1.2.2.1:=by rw[h.q (a+k) (Nat.le_refl _),hl];exact hw
 have hkl:a+k<s.1.2.1.length:=by rw[h.g.n];exact hk
 have e:∀b q z,EC f0 ((Sp.ew s.1 (a+k) b,q,z):RsT):=fun b q z=>⟨fun i=>(c.u i).trans (Ut1 h.g.w _ _ _ _),fun i=>by
  show(s.1.2.1.set (a+k) (s.1.2.1.getD (a+k) 0+1)).getD i 0<=_
  rw[Dj0 _ _ _ _ _ hkl]
  split
  ·rename_i z
   rw[<-z,h.q (a+k) (Nat.le_refl _)]
   omega
  ·exact c.y i⟩
 unfold Sp.ers
 rw[if_neg hn]
 split
 ·exact⟨c.u,c.y⟩
 split
 ·exact e _ _ _
 ·exact e _ _ _
theorem Fw2{f0:FlT}{a:Nat}:∀(n k:Nat){s:RsT},EB f0 a k s->EC f0 s->a+k+n<=f0.2.1.length->Sp.wor f0 n (a+k)=false->EC f0 (Sp.dol (Sp.erl n ((a+k:Nat):Int)) s)
 |0,k,s,h,c,_,_=>c
 |n+1,k,s,h,c,hl,hw=>by
  rw[Sp.erl,Sp.dol]
  split
  ·rename_i e
   have w0:=Fj1 _ _ hw (a+k) (by omega) (by omega)
   have:=Fw2 n (k+1) (h.step (by omega) w0 e) (c.step h (by omega) w0) (by omega) (by
    rw[Sp.wor,Bool.or_eq_false_iff]at hw
    exact hw.2)
   unfold Sp.dop
   dsimp only
   rw[if_pos rfl,Int.toNat_natCast,show((a+k:Nat):Int)+1=((a+(k+1):Nat):Int) by push_cast;omega]
   exact this
  ·exact c
theorem Es2(f:FlT)(k:Nat)(w:Int)(p:PwT):(Sp.prg f k w p).1.2=f.2:=by
 unfold Sp.prg
 split
 ·rfl
 split<;>rfl
theorem Vz1:∀(ws:List Int)(a:Int)(s:RsT),(Sp.dol (Sp.pgl ws a) s).1.2=s.1.2
 |[],_,_=>rfl
 |w::ws,a,s=>by
  rw[Sp.pgl,Sp.dol]
  split
  ·rw[Vz1 ws (a+1)]
   unfold Sp.dop
   dsimp only
   rw[if_neg Bool.false_ne_true]
   exact Es2 ..
  ·rfl
structure CI(m:MeT)(s:RsT):Prop where
 g:SG m.1 s
 pl:Sp.plc (s.1,m.2)=true
 old:Sp.hwr (s.1,m.2) (Sp.acv m)=Sp.hwr m (Sp.acv m)
 w0:Sup ((Sp.hwr m (Sp.oh m)).getD 0 0) ((Sp.hwr (s.1,m.2) (Sp.oh m)).getD 0 0)\/Sup (Sp.prw (Sp.gnr m (Sp.acv m)+1)) ((Sp.hwr (s.1,m.2) (Sp.oh m)).getD 0 0)
 y:∀i,s.1.2.1.getD i 0<=m.1.2.1.getD i 0+1
 r:s.1.2.2=m.1.2.2
theorem Mp2{m:MeT}(hw:W32f m.1)(hm:Sp.mvl m=true){es:List EnT}(hk:KOK es)(ha:Asc es)(hl:es.length<=600){p:PwT}(h0:0<=p.1)(h1:p.1<1099511627776)(hz:1+(Sp.rcs es).length<=Sp.hsz m)(hwo:Sp.wor m.1 (Sp.hc m) (Sp.frs m)=false)(hg:Sp.gnr m (Sp.acv m)≠65535)(q:Qw ((Sp.hwr m (Sp.oh m)).getD 0 0))
 (s:RsT) (hs:s=Sp.dol (Sp.cst m es) (m.1,p,0,())):CI m s/\(s.2.2.1≠0->(Sp.hwr (s.1,m.2) (Sp.oh m)).getD 0 0=Sp.prw (Sp.gnr m (Sp.acv m)+1)->((Sp.hwr m (Sp.oh m)).getD 0 0≠Sp.prw (Sp.gnr m (Sp.acv m)+1))->Sp.mvl (s.1,m.2)=true/\Sp.ent (s.1,m.2)=es):=by
 obtain⟨hv,hp,hac⟩:=Gk0 hm
 obtain⟨p1,p2,p3,p4,p5⟩:=Eb0.1 hp
 have ob:=oh_b hv hp
 have b:=pl_b hv hp
 have v:=Dr0.1 hv
 have bo:=pl_k hv hp ob.1
 have gb:=Dy1 hw (Sp.acv m)
 have G:=Qk1 hw hv hp h0 (by omega) es hwo
 rw[<-hs]at G
 have hp2:Sp.plc (s.1,m.2)=true:=Eb0.2 ⟨p1,p2,p3,p4,(by dsimp only;rw[G.n];exact p5)⟩
 have bs:∀k,Sp.hbs (s.1,m.2) k=Sp.hbs m k:=fun _=>rfl
 have zs:Sp.hsz (s.1,m.2)=Sp.hsz m:=rfl
 have pw:=In0 (n:=Sp.gnr m (Sp.acv m)+1) (by omega) (by omega)
 have E:=Mt1 (f0:=m.1) (a:=Sp.frs m) (Sp.hc m) 0 (EB.init hv hw h0 (by omega) (Sp.frs m)) (by omega) (by rw[Nat.add_zero];exact hwo)
 have C:=Fw2 (f0:=m.1) (a:=Sp.frs m) (Sp.hc m) 0 (s:=(m.1,p,0,())) (EB.init hv hw h0 (by omega) (Sp.frs m)) ⟨fun _=>Sup.rfl,fun i=>by show m.1.2.1.getD i 0<=_;omega⟩ (by omega) (by rw[Nat.add_zero];exact hwo)
 rw[Nat.add_zero]at C
 rw[Nat.add_zero,Nat.zero_add]at E
 have hs0:=hs
 unfold Sp.cst at hs
 rw[List.append_assoc,Gq0,Gq0,Os0]at hs
 have up1:=Cf1 (Sp.erl (Sp.hc m) (Sp.frs m)) (s:=(m.1,p,0,())) rfl h0
 generalize ht:Sp.dol (Sp.erl (Sp.hc m) (Sp.frs m)) (m.1,p,0,())=t at E C hs up1
 rw[show(Sp.hbs m (Sp.oh m):Int)+1=((Sp.hbs m (Sp.oh m)+1:Nat):Int) by push_cast;rfl]at hs
 have o2:=Vy1 (Sp.rcs es) (Sp.hbs m (Sp.oh m)+1) t
 have t2:=Vz1 (Sp.rcs es) ((Sp.hbs m (Sp.oh m)+1:Nat):Int) t
 generalize hu:Sp.dol (Sp.pgl (Sp.rcs es) ((Sp.hbs m (Sp.oh m)+1:Nat):Int)) t=u at hs o2 t2
 have sp:u.2.2.1=0->s=Sp.prg u.1 (Sp.hbs m (Sp.oh m)) (Sp.prw (Sp.gnr m (Sp.acv m)+1)) u.2.1:=fun eu=>by
  rw[hs,if_pos eu]
  unfold Sp.dop
  dsimp only
  rw[if_neg Bool.false_ne_true,Int.toNat_natCast]
 have so:∀i,i≠Sp.hbs m (Sp.oh m)->s.1.1.getD i 0=u.1.1.getD i 0:=fun i hi=>by
  by_cases eu:u.2.2.1=0
  ·rw[sp eu];exact Vw1 hi
  ·rw[hs,if_neg eu]
 have s2:s.1.2=u.1.2:=by
  by_cases eu:u.2.2.1=0
  ·rw[sp eu];exact Es2 ..
  ·rw[hs,if_neg eu]
 have gu:SG m.1 u:=by rw[<-hu];exact Cg1 _ (fun x hx=>Mg1 _ _ x hx) E.g
 have old:Sp.hwr (s.1,m.2) (Sp.acv m)=Sp.hwr m (Sp.acv m):=by
  have l1:=Dw0 (m:=(s.1,m.2)) G.v hp2 (Bt0 m)
  have l2:=Dw0 hv hp (Bt0 m)
  refine Cn0 0 (by rw[l1,l2];rfl) (fun i hi=> ?_)
  rw[l1,zs]at hi
  have out:Sp.hbs m (Sp.acv m)+i<64*Sp.frs m\/64*(Sp.frs m+Sp.hc m)<=Sp.hbs m (Sp.acv m)+i:=by
   have ha:=Bt0 m
   have hbe:Sp.hbs m (Sp.acv m)=64*m.2.1.toNat+Sp.acv m*Sp.hsz m:=rfl
   have hbo:Sp.hbs m (Sp.oh m)=64*m.2.1.toNat+Sp.oh m*Sp.hsz m:=rfl
   have oe:Sp.oh m=1-Sp.acv m:=rfl
   match hh:Sp.acv m,ha with
   |0,_=>
    rw[hh]at oe hbe
    have o2:Sp.oh m*Sp.hsz m=Sp.hsz m:=by rw[show Sp.oh m=1 from oe,Nat.one_mul]
    left;omega
   |1,_=>
    rw[hh]at oe hbe
    have o2:Sp.oh m*Sp.hsz m=0:=by rw[show Sp.oh m=0 from oe,Nat.zero_mul]
    right;omega
  rw[<-Gz0 (m:=(s.1,m.2)) G.v hp2 (Bt0 m) hi,<-Gz0 hv hp (Bt0 m) hi,bs,so _ (by omega),o2 _ (by omega)]
  exact E.o _ out
 have hwz:∀M:MeT,Sp.fv M.1=true->Sp.plc M=true->Sp.hbs M (Sp.oh m)=Sp.hbs m (Sp.oh m)->Sp.hsz M=Sp.hsz m->(Sp.hwr M (Sp.oh m)).getD 0 0=M.1.1.getD (Sp.hbs m (Sp.oh m)) 0:=fun M a1 a2 a3 a4=>by
  rw[<-Gz0 a1 a2 ob.1 (by omega),a3,Nat.add_zero]
 have z1:=hwz m hv hp rfl rfl
 have z2:=hwz (s.1,m.2) G.v hp2 rfl rfl
 have ul:Sp.hbs m (Sp.oh m)<u.1.1.length:=by rw[gu.l];omega
 have tb0:t.2.2.1=0->u.1.1.getD (Sp.hbs m (Sp.oh m)) 0=4294967295:=fun et=>by
  rw[o2 _ (by omega)]
  exact E.b et _ (by omega) (by omega)
 have et:u.2.2.1=0->t.2.2.1=0:=fun eu=>by
  by_cases c:t.2.2.1=0
  ·exact c
  ·rw[Fp0 _ c]at hu
   rw[hu]at c
   exact absurd eu c
 refine⟨⟨G,hp2,old,?_,fun i=> ?_,?_⟩,fun e1 hx hne=> ?_⟩
 ·rw[z1,z2]
  by_cases eu:u.2.2.1=0
  ·right
   rw[sp eu]
   exact Eo2 ul (tb0 (et eu)) pw.1 pw.2.1
  ·left
   rw[hs,if_neg eu,o2 _ (by omega)]
   exact C.u _
 ·rw[s2,t2]
  exact C.y i
 ·rw[s2,t2];exact E.r
 ·rw[z2]at hx
  rw[z1]at hne
  have blkn:(Sp.nmb 4294967295).2=false:=by decide
  have eu:u.2.2.1=0:=by
   by_cases eu:u.2.2.1=0
   ·exact eu
   exfalso
   rw[hs,if_neg eu]at hx
   by_cases c:t.2.2.1=0
   ·rw[tb0 c]at hx
    have:=pw.2.2
    rw[<-hx]at this
    rw[this]at blkn
    cases blkn
   ·rw[o2 _ (by omega)]at hx
    have S:=C.u (Sp.hbs m (Sp.oh m))
    rw[hx]at S
    rw[z1]at q
    have wb:=hw.at (Sp.hbs m (Sp.oh m))
    exact hne (Ah1 q S wb.1 wb.2 pw.1 pw.2.1 (by rw[pw.2.2])).symm
  have u1:=up1 (et eu)
  have u2:=Cf1 (Sp.pgl (Sp.rcs es) ((Sp.hbs m (Sp.oh m)+1:Nat):Int)) (s:=t) (et eu) u1.1 (by rw[hu];exact eu)
  rw[hu]at u2
  have full:Sp.dol (Sp.cst m es) (m.1,(p.1+1,p.2),0,())=Sp.prg u.1 (Sp.hbs m (Sp.oh m)) (Sp.prw (Sp.gnr m (Sp.acv m)+1)) (u.2.1.1+1,u.2.1.2):=by
   unfold Sp.cst
   rw[List.append_assoc,Gq0,Gq0,u1.2,show(Sp.hbs m (Sp.oh m):Int)+1=((Sp.hbs m (Sp.oh m)+1:Nat):Int) by push_cast;rfl,u2.2,Os0,if_pos rfl]
   unfold Sp.dop
   dsimp only
   rw[if_neg Bool.false_ne_true,Int.toNat_natCast]
  have L:=Hy1 (u:=u) gu.p0 ul (tb0 (et eu)) pw.1 pw.2.1 (by rw[pw.2.2]) (by rw[<-sp eu];exact e1) (by rw[<-sp eu];exact hx)
  have R:=Ch1 hw hm hk ha hl (p:=(p.1+1,p.2)) (by show 0<=p.1+1;omega) (by show p.1+1<=_;omega) hz hwo hg _ full.symm L.1
  rw[L.2,<-sp eu]at R
  exact⟨R.2.1,R.2.2.1⟩
structure MI(n b:Nat)(m:MeT):Prop where
 w:W32f m.1
 v:Sp.mvl m=true
 a:m.2=(0,8,())
 l:m.1.2.2.1=1000
 q:∀k,k<2->Qw ((Sp.hwr m k).getD 0 0)
 y:∀i,m.1.2.1.getD i 0<=b
 g:∀k,k<2->Sp.gnr m k<=b+1
 ks:∀e∈Sp.ent m,e.1<n\/e.1=254
theorem Gg2(s:RsT)(x:StT)(p0:0<=s.2.1.1):0<=(Sp.dop s x).2.1.1/\(Sp.dop s x).2.1.1<=s.2.1.1:=by
 unfold Sp.dop Sp.ers Sp.prg
 split
 ·split
  ·exact⟨Int.le_refl _,p0⟩
  split
  ·exact⟨p0,Int.le_refl _⟩
  split
  ·exact⟨Int.le_refl _,p0⟩
  ·constructor
   ·show 0<=s.2.1.1-1;omega
   ·show s.2.1.1-1<=_;omega
 ·split
  ·exact⟨p0,Int.le_refl _⟩
  split
  ·exact⟨Int.le_refl _,p0⟩
  ·constructor
   ·show 0<=s.2.1.1-1;omega
   ·show s.2.1.1-1<=_;omega
theorem Qj1:∀(l:List StT)(s:RsT),0<=s.2.1.1->0<=(Sp.dol l s).2.1.1/\(Sp.dol l s).2.1.1<=s.2.1.1
 |[],s,h=>⟨h,Int.le_refl _⟩
 |x::l,s,h=>by
  rw[Sp.dol]
  split
  ·have a:=Gg2 s x h
   have b:=Qj1 l (Sp.dop s x) a.1
   exact⟨b.1,Int.le_trans b.2 a.2⟩
  ·exact⟨h,Int.le_refl _⟩
theorem Ny1{f:FlT}(h:∀i,f.2.1.getD i 0<f.2.2.1):∀n a,Sp.wor f n a=false
 |0,_=>rfl
 |n+1,a=>by
  rw[Sp.wor,Ny1 h n (a+1),decide_eq_false (by have:=h a;omega)]
  rfl
theorem Ax1{E:List EnT}{key:Int}{d:List Int}{e:EnT}(h:e∈Sp.putE E key d):e=(key,d,())\/e∈E:=by
 unfold Sp.putE at h
 split at h
 ·rcases List.mem_or_eq_of_mem_set h with h|h
  ·exact .inr h
  ·exact .inl h
 ·rcases List.mem_append.1 h with h|h
  ·exact .inr (List.mem_of_mem_take h)
  ·rcases List.mem_append.1 h with h|h
   ·exact .inl (List.mem_singleton.1 h)
   ·exact .inr (List.mem_of_mem_drop h)
theorem Qn1{E:List EnT}(h:Asc E)(hk:KOK E):∀i,i<E.length->(i:Int)<=(E.getD i Sp.dE).1
 |0,hi=>by have:=hk.at 0;omega
 |i+1,hi=>by
  have a:=Qn1 h hk i (by omega)
  have b:=h i (i+1) (by omega) hi
  omega
theorem Xh1{E:List EnT}(h:Asc E)(hk:KOK E){n:Nat}(hn:n<=4)(ks:∀e∈E,e.1<n\/e.1=254):E.length<=5:=by
 rcases Nat.lt_or_ge 5 E.length with c|c
 ·exfalso
  have a:=Qn1 h hk 4 (by omega)
  have b:=h 4 5 (by omega) c
  have m:=hk.at 5
  have k:=ks (E.getD 4 Sp.dE) (by rw[getD_at _ (show 4<E.length by omega)];exact List.getElem_mem _)
  omega
 ·exact c
theorem Xi1(m:MeT)(hw:W32f m.1):Sp.gnr m (Sp.oh m)<=Sp.gnr m (Sp.acv m):=by
 unfold Sp.oh Sp.acv
 by_cases c:Sp.gnr m 1>Sp.gnr m 0
 ·rw[decide_eq_true c];show Sp.gnr m 0<=Sp.gnr m 1;omega
 ·rw[decide_eq_false c];show Sp.gnr m 1<=Sp.gnr m 0;omega
theorem Fm2{m:MeT}(hw:W32f m.1)(k:Nat){w:Int}(q:Qw w)(w0:0<=w)(w1:w<4294967296)(s:Sup w ((Sp.hwr m k).getD 0 0)):Sp.gnr m k=0\/(Sp.hwr m k).getD 0 0=w:=by
 have xb:=(hw.half k).at 0
 cases hn:(Sp.nmb ((Sp.hwr m k).getD 0 0)).2
 ·left
  unfold Sp.gnr
  rw[hn];rfl
 ·exact .inr (Ah1 q s w0 w1 xb.1 xb.2 hn)
theorem Mo2{m:MeT}(hw:W32f m.1)(hm:Sp.mvl m=true){es:List EnT}(hk:KOK es)(ha:Asc es)(hl:es.length<=600){p:PwT}(h0:0<=p.1)(h1:p.1<1099511627776)(hz:1+(Sp.rcs es).length<=Sp.hsz m)(hwo:Sp.wor m.1 (Sp.hc m) (Sp.frs m)=false)(hg:Sp.gnr m (Sp.acv m)≠65535)(q:∀k,k<2->Qw ((Sp.hwr m k).getD 0 0))
 (s:RsT) (hs:s=Sp.dol (Sp.cst m es) (m.1,p,0,())):CI m s/\Sp.mvl (s.1,m.2)=true/\(Sp.ent (s.1,m.2)=es\/s.2.2.1≠0/\Sp.ent (s.1,m.2)=Sp.ent m)/\(∀k,k<2->Qw ((Sp.hwr (s.1,m.2) k).getD 0 0))/\∀k,k<2->Sp.gnr (s.1,m.2) k<=Sp.gnr m (Sp.acv m)+1:=by
 obtain⟨hv,hp,hac⟩:=Gk0 hm
 have ob:=oh_b hv hp
 have gb:=Dy1 hw (Sp.acv m)
 have gb2:=Dy1 hw (Sp.oh m)
 have C:=Mp2 hw hm hk ha hl h0 h1 hz hwo hg (q _ ob.1) s hs
 obtain⟨c,C2⟩:=C
 have pw:=In0 (n:=Sp.gnr m (Sp.acv m)+1) (by omega) (by omega)
 have mx:=Xi1 m hw
 have al:=Bt0 m
 have gA:Sp.gnr (s.1,m.2) (Sp.acv m)=Sp.gnr m (Sp.acv m):=by unfold Sp.gnr;rw[c.old]
 have wb:=(hw.half (Sp.oh m)).at 0
 have k2:∀k,k<2->k=Sp.acv m\/k=Sp.oh m:=fun k hk=>by
  have:Sp.oh m=1-Sp.acv m:=rfl
  omega
 have gO:(Sp.gnr (s.1,m.2) (Sp.oh m)=0\/Sp.gnr (s.1,m.2) (Sp.oh m)=Sp.gnr m (Sp.oh m))\/(Sp.hwr (s.1,m.2) (Sp.oh m)).getD 0 0=Sp.prw (Sp.gnr m (Sp.acv m)+1)/\Sp.gnr (s.1,m.2) (Sp.oh m)=Sp.gnr m (Sp.acv m)+1:=by
  rcases c.w0 with S|S
  ·rcases Fm2 (m:=(s.1,m.2)) c.g.w (Sp.oh m) (q _ ob.1) wb.1 wb.2 S with z|z
   ·exact .inl (.inl z)
   ·refine .inl (.inr ?_)
    unfold Sp.gnr
    rw[z]
  ·rcases Fm2 (m:=(s.1,m.2)) c.g.w (Sp.oh m) (Wo0 (by omega) (by omega)) pw.1 pw.2.1 S with z|z
   ·exact .inl (.inl z)
   ·refine .inr ⟨z,?_⟩
    unfold Sp.gnr
    rw[z,pw.2.2];rfl
 refine⟨c,?_⟩
 rw[<-and_assoc]
 refine⟨?_,fun k hk=> ?_,fun k hk=> ?_⟩
 ·by_cases e0:s.2.2.1=0
  ·have R:=Ch1 hw hm hk ha hl h0 (by omega) hz hwo hg s hs e0
   exact⟨R.2.1,.inl R.2.2.1⟩
  rcases gO with gO|⟨z1,z2⟩
  rotate_left
  ·have hne:(Sp.hwr m (Sp.oh m)).getD 0 0≠Sp.prw (Sp.gnr m (Sp.acv m)+1):=fun z=>by
    have:Sp.gnr m (Sp.oh m)=Sp.gnr m (Sp.acv m)+1:=by
     show(bif(Sp.nmb ((Sp.hwr m (Sp.oh m)).getD 0 0)).2 then(Sp.nmb ((Sp.hwr m (Sp.oh m)).getD 0 0)).1 else 0)=_
     rw[z,pw.2.2];rfl
    omega
   have R:=C2 e0 z1 hne
   exact⟨R.1,.inl R.2⟩
  have av:Sp.acv (s.1,m.2)=Sp.acv m/\Sp.acb (s.1,m.2)=true:=by
   have ha:=Bt0 m
   have oe:Sp.oh m=1-Sp.acv m:=rfl
   have g1:decide (Sp.gnr m 1>Sp.gnr m 0)=true->Sp.acv m=1:=fun z=>by unfold Sp.acv;rw[z];rfl
   unfold Sp.acb at hac
   match hh:Sp.acv m,ha with
   |0,_=>
    rw[hh]at oe gA gb mx
    have oe:Sp.oh m=1:=oe
    rw[oe]at gO mx
    have n1:decide (Sp.gnr m 1>Sp.gnr m 0)=false:=decide_eq_false (by omega)
    rw[n1,Bool.false_or,decide_eq_true_eq]at hac
    unfold Sp.acv Sp.acb
    rw[gA,decide_eq_false (p:=Sp.gnr (s.1,m.2) 1>Sp.gnr m 0) (by omega),decide_eq_true (p:=Sp.gnr m 0>0) hac]
    exact⟨rfl,rfl⟩
   |1,_=>
    rw[hh]at oe gA gb mx
    have oe:Sp.oh m=0:=oe
    rw[oe]at gO mx
    have n1:Sp.gnr m 1>Sp.gnr m 0:=by
     by_cases z:Sp.gnr m 1>Sp.gnr m 0
     ·exact z
     ·exfalso
      have:Sp.acv m=0:=by unfold Sp.acv;rw[decide_eq_false z];rfl
      omega
    have n0:=Dy1 hw 0
    unfold Sp.acv Sp.acb
    rw[gA,decide_eq_true (p:=Sp.gnr m 1>Sp.gnr (s.1,m.2) 0) (by omega)]
    exact⟨rfl,rfl⟩
  refine⟨?_,.inr ⟨e0,?_⟩⟩
  ·unfold Sp.mvl;rw[c.g.v,c.pl,av.2];rfl
  ·unfold Sp.ent
   rw[av.1,c.old]
 ·rcases k2 k hk with rfl|rfl
  ·rw[c.old];exact q _ hk
  ·rcases c.w0 with S|S
   ·exact(q _ hk).sup S
   ·exact(Wo0 (by omega) (by omega)).sup S
 ·rcases k2 k hk with rfl|rfl
  ·rw[gA];omega
  ·omega
theorem Hx2{n b:Nat}{m:MeT}(I:MI n b m)(hb:b<=900)(hn:n<=4){key:Int}{d:List Int}(k0:0<=key)(k1:key<n\/key=254)(k2:d.length<=24)(hd:W32l d):(Sp.wrs m key d).2.1=0/\((Sp.wrs m key d).1=Sp.cst m (Sp.putE (Sp.ent m) key d)\/((Sp.rcd key d).length:Int)<=Sp.frl m)/\KOK (Sp.putE (Sp.ent m) key d)/\Asc (Sp.putE (Sp.ent m) key d)/\(Sp.putE (Sp.ent m) key d).length<=5/\1+(Sp.rcs (Sp.putE (Sp.ent m) key d)).length<=Sp.hsz m/\Sp.wor m.1 (Sp.hc m) (Sp.frs m)=false/\Sp.gnr m (Sp.acv m)≠65535:=by
 obtain⟨hv,hp,hac⟩:=Gk0 I.v
 have eb:=Ew1 I.w I.v
 have kp:=eb.1.put (key:=key) k0 (by omega) (data:=d) (by omega) hd
 have ha:Asc (Sp.putE (Sp.ent m) key d):=Asc.put (Sn0 I.w hv hp (Bt0 m)).2 key d
 have hl:=Xh1 ha kp hn (fun e he=>by
  rcases Ax1 he with rfl|he
  ·exact k1
  ·exact I.ks e he)
 have rl:=Sp0 kp
 have hz:Sp.hsz m=256:=by unfold Sp.hsz;rw[I.a];rfl
 have wo:Sp.wor m.1 (Sp.hc m) (Sp.frs m)=false:=Ny1 (fun i=>by have:=I.y i;rw[I.l];omega) _ _
 have gn:Sp.gnr m (Sp.acv m)≠65535:=by have:=I.g _ (Bt0 m);omega
 refine⟨?_,?_,kp,ha,hl,by omega,wo,gn⟩
 ·unfold Sp.wrs
  split
  ·rfl
  ·unfold Sp.cov
   rw[if_neg (by omega),wo,if_neg Bool.false_ne_true,if_neg gn]
 ·unfold Sp.wrs
  split
  ·rename_i h;exact .inr h
  ·left
   unfold Sp.cov
   rw[if_neg (by omega),wo,if_neg Bool.false_ne_true,if_neg gn]
theorem MI.mg{n b:Nat}{m:MeT}(I:MI n b m){p:PwT}(h0:0<=p.1)(h1:p.1<1099511627776):MG m p:=⟨I.w,I.v,h0,by omega⟩
theorem Fh1{n b:Nat}{m:MeT}(I:MI n b m)(hb:b<=900)(hn:n<=4){key:Int}{d:List Int}(k0:0<=key)(k1:key<n\/key=254)(k2:d.length<=24)(hd:W32l d){p:PwT}(h0:0<=p.1)(h1:p.1<1099511627776) :
 ((Sp.wrv m key d p).2.2.1=0/\Sp.ent (Sp.wrv m key d p).1=Sp.putE (Sp.ent m) key d\/(Sp.wrv m key d p).2.2.1=18/\(Sp.ent (Sp.wrv m key d p).1=Sp.ent m\/Sp.ent (Sp.wrv m key d p).1=Sp.putE (Sp.ent m) key d))/\MI n (b+1) (Sp.wrv m key d p).1/\0<=(Sp.wrv m key d p).2.1.1/\(Sp.wrv m key d p).2.1.1<1099511627776:=by
 obtain⟨c,cc,kp,ha,hl,hz,wo,gn⟩:=Hx2 I hb hn k0 k1 k2 hd
 obtain⟨hv,hp,hac⟩:=Gk0 I.v
 have r:=((Zo1 (I.mg h0 h1) (key:=key) (d:=d) k0 (by omega) k2 hd).2 c)
 obtain⟨r1,r2⟩:=r
 rw[r1]
 unfold Sp.rdo
 dsimp only
 have pl:=Qj1 (Sp.wrs m key d).1 (m.1,p,0,()) h0
 have full:=Nx1 I.w I.v k0 (by omega) k2 hd h0 (Int.le_of_lt h1) c _ rfl
 have main:Sp.mvl ((Sp.dol (Sp.wrs m key d).1 (m.1,p,0,())).1,m.2)=true/\(Sp.ent ((Sp.dol (Sp.wrs m key d).1 (m.1,p,0,())).1,m.2)=Sp.ent m\/Sp.ent ((Sp.dol (Sp.wrs m key d).1 (m.1,p,0,())).1,m.2)=Sp.putE (Sp.ent m) key d)/\(∀k,k<2->Qw ((Sp.hwr ((Sp.dol (Sp.wrs m key d).1 (m.1,p,0,())).1,m.2) k).getD 0 0))/\(∀k,k<2->Sp.gnr ((Sp.dol (Sp.wrs m key d).1 (m.1,p,0,())).1,m.2) k<=((b+1:Nat):Int)+1)/\(∀i,(Sp.dol (Sp.wrs m key d).1 (m.1,p,0,())).1.2.1.getD i 0<=((b+1:Nat):Int))/\(Sp.dol (Sp.wrs m key d).1 (m.1,p,0,())).1.2.2.1=1000:=by
  by_cases h:((Sp.rcd key d).length:Int)<=Sp.frl m
  ·have c':(Sp.wrs m key d).1=Sp.pgl (Sp.rcd key d) ((Sp.hbs m (Sp.acv m):Int)+(Sp.rdv (Sp.hwr m (Sp.acv m))).2.1):=by unfold Sp.wrs;rw[if_pos h]
   have app:=Mu2 I.w I.v k0 (by omega) k2 hd h0 h1 h
   have s2:=Vz1 (Sp.rcd key d) ((Sp.hbs m (Sp.acv m):Int)+(Sp.rdv (Sp.hwr m (Sp.acv m))).2.1) (m.1,p,0,())
   rw[<-c']at app s2
   generalize hs:Sp.dol (Sp.wrs m key d).1 (m.1,p,0,())=s at *
   have hs':=hs.symm
   rw[c']at hs'
   obtain⟨hp2,hm2,ha2⟩:=pg_g I.w I.v h s r2 hs'
   have b0:=pl_b hv hp
   have fb:=Zi0 I.w I.v
   have q0:∀k,k<2->(Sp.hwr (s.1,m.2) k).getD 0 0=(Sp.hwr m k).getD 0 0:=fun k hk=>pg_o I.w I.v h s r2 hp2 hs' k hk 0 (by omega) (by omega)
   refine⟨hm2,?_,fun k hk=>by rw[q0 k hk];exact I.q k hk,fun k hk=> ?_,fun i=> ?_,?_⟩
   ·by_cases e:s.2.2.1=0
    ·exact .inr (full e)
    ·exact app s rfl e
   ·have:=I.g k hk
    have e:Sp.gnr (s.1,m.2) k=Sp.gnr m k:=by unfold Sp.gnr;rw[q0 k hk]
    omega
   ·have:=I.y i
    rw[s2]
    show m.1.2.1.getD i 0<=_
    omega
   ·rw[s2];exact I.l
  ·have c':=cc.resolve_right h
   have col:=Mo2 I.w I.v kp ha (by omega) h0 h1 hz wo gn I.q
   rw[<-c']at col
   generalize hs:Sp.dol (Sp.wrs m key d).1 (m.1,p,0,())=s at *
   obtain⟨c1,c2,c3,c4,c5⟩:=col s rfl
   refine⟨c2,?_,c4,fun k hk=> ?_,fun i=> ?_,?_⟩
   ·rcases c3 with z|z
    ·exact .inr z
    ·exact .inl z.2
   ·have:=c5 k hk
    have:=I.g _ (Bt0 m)
    omega
   ·have:=c1.y i
    have:=I.y i
    omega
   ·rw[c1.r];exact I.l
 generalize hs:Sp.dol (Sp.wrs m key d).1 (m.1,p,0,())=s at *
 obtain⟨m1,m2,m3,m4,m5,m6⟩:=main
 have pl:0<=s.2.1.1/\s.2.1.1<=p.1:=pl
 refine⟨?_,⟨r2.w,m1,I.a,m6,m3,m5,m4,fun e he=> ?_⟩,pl.1,by omega⟩
 ·rcases r2.e with e|e
  ·exact .inl ⟨e,full e⟩
  ·exact .inr ⟨e,m2⟩
 ·rcases m2 with z|z
  ·rw[z]at he;exact I.ks e he
  ·rw[z]at he
   rcases Ax1 he with rfl|he
   ·exact k1
   ·exact I.ks e he
noncomputable def Hd(m:MeT)(k:Int)(d:List Int):Prop:=Sp.uto (Sp.lku (Sp.ent m) k) k d
theorem Hd.of{m m':MeT}{k:Int}{d:List Int}(h:Hd m k d)(e:Sp.lku (Sp.ent m') k=Sp.lku (Sp.ent m) k):Hd m' k d:=by unfold Hd;rw[e];exact h
theorem MI.mono{n b b':Nat}{m:MeT}(I:MI n b m)(h:b<=b'):MI n b' m:=⟨I.w,I.v,I.a,I.l,I.q,fun i=>by have:=I.y i;omega,fun k hk=>by have:=I.g k hk;omega,I.ks⟩
theorem MI.asc{n b:Nat}{m:MeT}(I:MI n b m):Asc (Sp.ent m):=Wz1 (I.mg (p:=(0,0,())) (Int.le_refl _) (by decide))
theorem Aw1{E:List EnT}{m:MeT}{key:Int}{d:List Int}(h:Asc E)(e:Sp.ent m=Sp.putE E key d):Hd m key d:=by
 unfold Hd
 rw[e];exact Vt1 h key d
theorem Ll1{F:FsT}(hv:Sp.vf F=true){n:Nat}(hn:F.2.1.length=n)(h4:n<=4):∀(d i b:Nat)(m:MeT)(p:PwT),MI n b m->b+d<=900->i+d=n->0<=p.1->p.1<1099511627776->
 ((Sp.svl F d i m p).2.2.1=0/\(∀k:Nat,i<=k->k<n->Hd (Sp.svl F d i m p).1 k (Sp.dat F k))\/(Sp.svl F d i m p).2.2.1=18)/\MI n (b+d) (Sp.svl F d i m p).1/\
 ∀k:Int,Sp.lku (Sp.ent (Sp.svl F d i m p).1) k=Sp.lku (Sp.ent m) k\/((i:Int)<=k/\k<n/\Hd (Sp.svl F d i m p).1 k (Sp.dat F k))
 |0,i,b,m,p,I,_,hi,_,_=>⟨.inl ⟨rfl,fun k h1 h2=>by omega⟩,I,fun k=> .inl rfl⟩
 |d+1,i,b,m,p,I,hb,hi,h0,h1=>by
  have db:=Jm1 hv (key:=(i:Int)) (.inr ⟨by omega,by omega⟩)
  have sc:=I.asc
  have next:∀(m1:MeT)(r:OuM),Hd m1 i (Sp.dat F i)->(∀k,k≠(i:Int)->Sp.lku (Sp.ent m1) k=Sp.lku (Sp.ent m) k) ->
   (r.2.2.1=0/\(∀k:Nat,i+1<=k->k<n->Hd r.1 k (Sp.dat F k))\/r.2.2.1=18)/\MI n (b+1+d) r.1/\(∀k:Int,Sp.lku (Sp.ent r.1) k=Sp.lku (Sp.ent m1) k\/(((i+1:Nat):Int)<=k/\k<n/\Hd r.1 k (Sp.dat F k))) ->
   (r.2.2.1=0/\(∀k:Nat,i<=k->k<n->Hd r.1 k (Sp.dat F k))\/r.2.2.1=18)/\MI n (b+(d+1)) r.1/\(∀k:Int,Sp.lku (Sp.ent r.1) k=Sp.lku (Sp.ent m) k\/((i:Int)<=k/\k<n/\Hd r.1 k (Sp.dat F k))):=fun m1 r hd ho⟨a1,a2,a3⟩=>by
   have hi':Hd r.1 i (Sp.dat F i):=by
    rcases a3 i with z|z
    ·exact hd.of z
    ·exact z.2.2
   refine⟨a1.imp (fun z=>⟨z.1,fun k k1 k2=> ?_⟩) id,a2.mono (by omega),fun k=> ?_⟩
   ·rcases Nat.lt_or_ge i k with c|c
    ·exact z.2 k (by omega) k2
    ·have:k=i:=by omega
     subst this;exact hi'
   ·by_cases c:k=(i:Int)
    ·subst c;exact .inr ⟨Int.le_refl _,by omega,hi'⟩
    rcases a3 k with z|z
    ·exact .inl (z.trans (ho k c))
    ·exact .inr ⟨by have:=z.1;omega,z.2⟩
  rw[Sp.svl]
  split
  ·rename_i u
   exact next m _ ((Fl1 I.v (by omega) (by omega) _).1 u) (fun _ _=>rfl) (Ll1 hv hn h4 d (i+1) (b+1) m p (I.mono (by omega)) (by omega) (by omega) h0 h1)
  have W:=Fh1 I (by omega) h4 (key:=(i:Int)) (d:=Sp.dat F i) (by omega) (.inl (by omega)) (by omega) db.1 h0 h1
  generalize Sp.wrv m (i:Int) (Sp.dat F i) p=r at W⊢
  obtain⟨w1,w2,w3,w4⟩:=W
  split
  ·rename_i e
   have en:Sp.ent r.1=Sp.putE (Sp.ent m) i (Sp.dat F i):=by
    rcases w1 with z|z
    ·exact z.2
    ·rw[z.1]at e;cases e
   exact next r.1 _ (Aw1 sc en) (fun k hk=>by rw[en,Nw0 sc,if_neg hk]) (Ll1 hv hn h4 d (i+1) (b+1) r.1 r.2.1 w2 (by omega) (by omega) w3 w4)
  ·rename_i e
   have z:=w1.resolve_left (fun z=>e z.1)
   refine⟨.inr z.1,w2.mono (by omega),fun k=> ?_⟩
   rcases z.2 with y|y
   ·exact .inl (by rw[y])
   ·by_cases c:k=(i:Int)
    ·subst c;exact .inr ⟨Int.le_refl _,by omega,Aw1 sc y⟩
    ·exact .inl (by rw[y,Nw0 sc,if_neg c])
theorem Ic2{F:FsT}(hv:Sp.vf F=true){n b:Nat}(hn:F.2.1.length=n)(h4:n<=4){m:MeT}{p:PwT}(I:MI n b m)(hb:b+5<=900)(h0:0<=p.1)(h1:p.1<1099511627776) :
 ((Sp.svw F m p).2.2.1=0/\Hd (Sp.svw F m p).1 254 (Sp.dat F 254)/\(∀k:Nat,k<n->Hd (Sp.svw F m p).1 k (Sp.dat F k))\/(Sp.svw F m p).2.2.1=18)/\MI n (b+5) (Sp.svw F m p).1/\
 ((∀k:Int,Sp.lku (Sp.ent (Sp.svw F m p).1) k=Sp.lku (Sp.ent m) k)\/Hd (Sp.svw F m p).1 254 (Sp.dat F 254)/\∀k:Nat,k<n->Sp.lku (Sp.ent (Sp.svw F m p).1) k=Sp.lku (Sp.ent m) k\/Hd (Sp.svw F m p).1 k (Sp.dat F k)):=by
 have db:=Jm1 hv (key:=254) (.inl rfl)
 have sc:=I.asc
 have next:∀(m1:MeT)(r:OuM),Hd m1 254 (Sp.dat F 254)->(∀k,k≠(254:Int)->Sp.lku (Sp.ent m1) k=Sp.lku (Sp.ent m) k) ->
  (r.2.2.1=0/\(∀k:Nat,0<=k->k<n->Hd r.1 k (Sp.dat F k))\/r.2.2.1=18)/\MI n (b+1+n) r.1/\(∀k:Int,Sp.lku (Sp.ent r.1) k=Sp.lku (Sp.ent m1) k\/(((0:Nat):Int)<=k/\k<n/\Hd r.1 k (Sp.dat F k))) ->
  (r.2.2.1=0/\Hd r.1 254 (Sp.dat F 254)/\(∀k:Nat,k<n->Hd r.1 k (Sp.dat F k))\/r.2.2.1=18)/\MI n (b+5) r.1/\
  ((∀k:Int,Sp.lku (Sp.ent r.1) k=Sp.lku (Sp.ent m) k)\/Hd r.1 254 (Sp.dat F 254)/\∀k:Nat,k<n->Sp.lku (Sp.ent r.1) k=Sp.lku (Sp.ent m) k\/Hd r.1 k (Sp.dat F k)):=fun m1 r hd ho⟨a1,a2,a3⟩=>by
  have h254:Hd r.1 254 (Sp.dat F 254):=by
   rcases a3 254 with z|z
   ·exact hd.of z
   ·exact z.2.2
  refine⟨a1.imp (fun z=>⟨z.1,h254,fun k k2=>z.2 k (Nat.zero_le _) k2⟩) id,a2.mono (by omega),.inr ⟨h254,fun k hk=> ?_⟩⟩
  rcases a3 k with z|z
  ·exact .inl (z.trans (ho k (by omega)))
  ·exact .inr z.2.2
 unfold Sp.svw
 split
 ·rename_i u
  have:=Ll1 hv hn h4 n 0 (b+1) m p (I.mono (by omega)) (by omega) (by omega) h0 h1
  rw[hn]
  exact next m _ ((Fl1 I.v (by omega) (by omega) _).1 u) (fun _ _=>rfl) this
 have W:=Fh1 I (by omega) h4 (key:=254) (d:=Sp.dat F 254) (by omega) (.inr rfl) (by omega) db.1 h0 h1
 generalize Sp.wrv m 254 (Sp.dat F 254) p=r at W⊢
 obtain⟨w1,w2,w3,w4⟩:=W
 split
 ·rename_i e
  have en:Sp.ent r.1=Sp.putE (Sp.ent m) 254 (Sp.dat F 254):=by
   rcases w1 with z|z
   ·exact z.2
   ·rw[z.1]at e;cases e
  have:=Ll1 hv hn h4 n 0 (b+1) r.1 r.2.1 w2 (by omega) (by omega) w3 w4
  rw[hn]
  exact next r.1 _ (Aw1 sc en) (fun k hk=>by rw[en,Nw0 sc,if_neg hk]) this
 ·rename_i e
  have z:=w1.resolve_left (fun z=>e z.1)
  refine⟨.inr z.1,w2.mono (by omega),?_⟩
  rcases z.2 with y|y
  ·exact .inl (fun k=>by rw[y])
  ·exact .inr ⟨Aw1 sc y,fun k hk=> .inl (by rw[y,Nw0 sc,if_neg (by omega)])⟩
theorem Fc2{c:CfT}{f:FaT}{cy cy':Int}(hc:Sp.cfg c=true)(h:Sp.rgt c f cy=true)(hy:cy<=cy')(h0:0<=cy'):Sp.rgt c (Sp.kpt f) cy'=true:=by
 have h00:0<=cy:=by
  unfold Sp.rgt Sp.rngs at h
  simp only[Bool.and_eq_true,Bj0]at h
  omega
 have k:=Wj1 hc h h00
 have b1:Sp.bt (Sp.kpt f) 1=false:=by
  unfold Sp.kpt
  split
  ·exact(st_k (Vj1 h).1 (Vj1 h).2).2.1.2
  ·rfl
 unfold Sp.rgt at k⊢
 rw[Bool.and_eq_true,Bool.and_eq_true]at k
 obtain⟨a1,a2,a3⟩:=k
 have q1:Sp.rngs c (Sp.kpt f) cy'=true:=by
  unfold Sp.rngs at a1⊢
  simp only[Bool.and_eq_true,Bj0]at a1⊢
  omega
 have q3:∀y,Sp.q0 y (Sp.kpt f)=true:=fun y=>by unfold Sp.q0;rw[b1];rfl
 rw[q3]at a3⊢
 rw[q1,a2]
 exact a3
theorem Jn1{F:FsT}(hv:Sp.vf F=true){x:MeT}(hm:Sp.mvl x=true)(u:Hd x 254 (Sp.dat F 254)):Sp.cyc x=F.2.2.1:=by
 have vd:=vf_d hv
 have d0:Sp.dat F 254=[F.2.2.1]:=by unfold Sp.dat;rw[if_pos rfl,Um0 (by omega) (by omega)]
 unfold Sp.cyc
 rw[Vs1 hm (by decide) (by decide)]
 unfold Hd at u
 rw[d0]at u
 unfold Sp.uto at u
 cases hl:Sp.lku (Sp.ent x) 254 with
 |some e=>
  rw[hl]at u
  dsimp only at u⊢
  rw[u,if_pos ⟨rfl,rfl,by show F.2.2.1<=_;omega⟩]
  rfl
 |none=>
  rw[hl]at u
  dsimp only at u⊢
  rw[if_neg (fun z=>by have:=z.1;omega)]
  rcases u with u|u
  ·cases u
  ·exact u.2.symm
theorem Md2{F:FsT}(hv:Sp.vf F=true){x:MeT}(hm:Sp.mvl x=true){j:Nat}(hj:j<F.2.1.length)(u:Hd x j (Sp.dat F j)):Sp.lof x (F.1.getD j Zd0) j=if Sp.sto (F.2.1.getD j Zd1)=true then some (Sp.kpt (F.2.1.getD j Zd1))else none:=by
 have vd:=vf_d hv
 have ed:=Ex1 (F:=F) (i:=j) (by omega)
 have gg:=Kf0 hv hj
 have cf:=Gt0 vd.2.1 (show j<F.1.length by omega)
 have cb:1<=(F.1.getD j Zd0).1/\(F.1.getD j Zd0).1<=16777215:=by
  unfold Sp.cfg at cf
  simp only[Bool.and_eq_true,Bj0]at cf
  omega
 have gi:=(Di0.1 gg).1
 unfold Sp.lof
 rw[Vs1 hm (by omega) (by omega)]
 unfold Hd Sp.uto at u
 cases hs:Sp.sto (F.2.1.getD j Zd1)
 ·rw[hs,if_neg Bool.false_ne_true]at ed
  rw[if_neg (show ¬(false=true)from Bool.false_ne_true)]
  cases hl:Sp.lku (Sp.ent x) (j:Int)with
  |some e=>
   rw[hl,ed]at u
   dsimp only at u⊢
   rw[u,if_neg (fun z=>by have:=z.2.1;rw[List.length_nil]at this;omega)]
  |none=>
   dsimp only
   rw[if_neg (fun z=>by have:=z.1;omega)]
 ·rw[hs,if_pos rfl]at ed
  rw[if_pos rfl]
  cases hl:Sp.lku (Sp.ent x) (j:Int)with
  |none=>
   rw[hl,ed]at u
   dsimp only at u
   rcases u with u|u
   ·cases u
   ·omega
  |some e=>
   rw[hl,ed,Um0 (by omega) (by omega)]at u
   dsimp only at u⊢
   have bk:=Mt2 gg
   have up:Sp.upk (Sp.wpk (F.2.1.getD j Zd1))=((Sp.andI .i64 (F.2.1.getD j Zd1).1 22,0,(F.2.1.getD j Zd1).2.2),0,()):=by
    unfold Sp.upk
    rw[bk.2.2,Cf0,bk.2.1]
   have e1:([(F.1.getD j Zd0).1]++Sp.wpk (F.2.1.getD j Zd1)).drop 1=Sp.wpk (F.2.1.getD j Zd1):=rfl
   have e2:([(F.1.getD j Zd0).1]++Sp.wpk (F.2.1.getD j Zd1)).getD 0 0=(F.1.getD j Zd0).1:=rfl
   have kp:Sp.kpt (F.2.1.getD j Zd1)=(Sp.andI .i64 (F.2.1.getD j Zd1).1 22,0,(F.2.1.getD j Zd1).2.2):=by unfold Sp.kpt;rw[hs,if_pos rfl]
   have ks:=Hz1 gi.1 gi.2 hs
   rw[u,e1,e2,up,kp]
   dsimp only
   rw[if_pos ⟨rfl,by rw[List.length_append,List.length_singleton];omega,rfl,rfl,ks⟩]
theorem Jw2{F:FsT}(hv:Sp.vf F=true){x:MeT}(hm:Sp.mvl x=true){j:Nat}(hj:j<F.2.1.length)(u:Hd x j (Sp.dat F j)){cy:Int}(hy:F.2.2.1<=cy):Sp.rla x F.1 cy j=Sp.kpt (F.2.1.getD j Zd1):=by
 have vd:=vf_d hv
 unfold Sp.rla
 rw[Md2 hv hm hj u]
 cases hs:Sp.sto (F.2.1.getD j Zd1)
 ·show Sp.zeroF=Sp.kpt _
  unfold Sp.kpt
  rw[hs,if_neg Bool.false_ne_true]
 ·have rg:Sp.rgt (F.1.getD j Zd0) (F.2.1.getD j Zd1) F.2.2.1=true:=by
   have:=vd.2.2.2.2.2
   unfold Sp.rgts at this
   rw[List.all_eq_true]at this
   exact this j (List.mem_range.2 (by omega))
  rw[if_pos rfl]
  show(if Sp.rgt (F.1.getD j Zd0) (Sp.kpt (F.2.1.getD j Zd1)) cy=true then Sp.kpt (F.2.1.getD j Zd1)else Sp.zeroF)=_
  rw[if_pos (Fc2 (Gt0 vd.2.1 (by omega)) rg hy (by omega))]
theorem Uo1{f:FaT}(h:Sp.good f=true)(hs:Sp.sto f=true):Sp.wpk (Sp.kpt f)=Sp.wpk f/\Sp.sto (Sp.kpt f)=true:=by
 have gi:=(Di0.1 h).1
 have k:Sp.kpt f=(Sp.andI .i64 f.1 22,0,f.2.2):=by unfold Sp.kpt;rw[hs,if_pos rfl]
 rw[k]
 refine⟨?_,Hz1 gi.1 gi.2 hs⟩
 unfold Sp.wpk Sp.hdr
 dsimp only
 rw[(Dm1 gi.1 gi.2).2.2.2]
structure LI(cs:List CfT)(b:Nat)(may:List FsT)(m:MeT)(f:FsT):Prop where
 I:MI cs.length b m
 v:Sp.vf f=true
 c:f.1=cs
 mv:∀g∈may,Sp.vf g=true/\g.1=cs/\g.2.2.1<=f.2.2.1
 cy:∃g∈may,Hd m 254 (Sp.dat g 254)
 k:∀i:Nat,i<cs.length->∃g∈may,Hd m i (Sp.dat g i)/\g.2.2.1<=Sp.cyc m
structure LO(cs:List CfT)(may:List FsT)(x:FsT):Prop where
 c:x.1=cs
 l:x.2.1.length=cs.length
 v:Sp.vf x=true
 y:∃g∈may,g.2.2.1=x.2.2.1
 f:∀i,i<cs.length->∃g∈may,i<g.2.1.length/\x.2.1.getD i Zd1=Sp.kpt (g.2.1.getD i Zd1)
theorem Pi1{cs:List CfT}{b:Nat}{may:List FsT}{m:MeT}{f:FsT}(L:LI cs b may m f):∃x:FsT,Sp.lod m cs=(x,0,())/\LO cs may x/\LI cs b [x] m x:=by
 have hr:Sp.rcc cs=0:=by rw[<-L.c];exact El2 L.v
 have rd:=Me1 hr
 have cb:=Xd1 L.I.w
 refine⟨_,Me2 L.I.w L.I.v hr,?_⟩
 obtain⟨g0,g0m,g0h⟩:=L.cy
 have cy:=Jn1 (L.mv g0 g0m).1 L.I.v g0h
 have rl:(Sp.rll m cs (Sp.cyc m) cs.length).length=cs.length:=by unfold Sp.rll;rw[List.length_map,List.length_range]
 have ra:∀i,i<cs.length->(Sp.rll m cs (Sp.cyc m) cs.length).getD i Zd1=Sp.rla m cs (Sp.cyc m) i:=fun i hi=>by
  rw[getD_at _ (by rw[rl];exact hi)]
  unfold Sp.rll
  rw[List.getElem_map,List.getElem_range]
 have at':∀i,i<cs.length->∃g∈may,(i<g.2.1.length/\(Sp.rll m cs (Sp.cyc m) cs.length).getD i Zd1=Sp.kpt (g.2.1.getD i Zd1))/\Hd m i (Sp.dat g i):=fun i hi=>by
  obtain⟨g,gm,gh,gy⟩:=L.k i hi
  have gv:=L.mv g gm
  have vd:=vf_d gv.1
  refine⟨g,gm,⟨by rw[vd.2.2.1,gv.2.1];exact hi,?_⟩,gh⟩
  rw[ra i hi]
  have:=Jw2 gv.1 L.I.v (by rw[vd.2.2.1,gv.2.1];exact hi) gh gy
  rw[gv.2.1]at this
  exact this
 have vx:Sp.vf (cs,Sp.rll m cs (Sp.cyc m) cs.length,Sp.cyc m,false,())=true:=by
  unfold Sp.vf Sp.rgts
  dsimp only
  rw[decide_eq_true rd.1,rd.2.1,rd.2.2,rl]
  simp only[Bool.true_and,Bool.and_eq_true,Bj0,List.all_eq_true,List.mem_range,beq_self_eq_true,Bool.not_false,Bool.true_or]
  refine⟨⟨cb.1,cb.2⟩,fun j hj=> ?_⟩
  rw[ra j hj]
  exact Ec2 cb.1 rd.2.1 hj
 refine⟨⟨rfl,rl,vx,⟨g0,g0m,cy.symm⟩,fun i hi=> ?_⟩,⟨L.I,vx,rfl,fun g hg=> ?_,⟨_,List.mem_singleton.2 rfl,?_⟩,fun i hi=>⟨_,List.mem_singleton.2 rfl,?_,Int.le_refl _⟩⟩⟩
 ·obtain⟨g,gm,gl,_⟩:=at' i hi
  exact⟨g,gm,gl⟩
 ·rw[List.mem_singleton.1 hg]
  exact⟨vx,rfl,Int.le_refl _⟩
 ·have e:Sp.dat (cs,Sp.rll m cs (Sp.cyc m) cs.length,Sp.cyc m,false,()) 254=Sp.dat g0 254:=by
   unfold Sp.dat
   rw[if_pos rfl,if_pos rfl]
   show [wrap .u32 (Sp.cyc m)]=_
   rw[cy]
  rw[e];exact g0h
 ·obtain⟨g,gm,gl,gh⟩:=at' i hi
  have gv:=L.mv g gm
  have e:Sp.dat (cs,Sp.rll m cs (Sp.cyc m) cs.length,Sp.cyc m,false,()) i=Sp.dat g i:=by
   rw[Ex1 (by omega),Ex1 (by omega)]
   dsimp only
   rw[gl.2,gv.2.1]
   have gg:=Kf0 gv.1 gl.1
   cases hs:Sp.sto (g.2.1.getD i Zd1)
   ·have:Sp.kpt (g.2.1.getD i Zd1)=Sp.zeroF:=by unfold Sp.kpt;rw[hs,if_neg Bool.false_ne_true]
    rw[this];rfl
   ·have w:=Uo1 gg hs
    rw[w.1,w.2]
  rw[e];exact gh
theorem Zz1(a b:List Int)(ha:a.length<=1000000)(hb:b.length<=1000000):p_70 a b=true/\v_70 a b=(Sp.sw a b,()):=by
 refine Kk2 a b ?_
 unfold F_70 Sp.sw
 by_cases c:(a.length:Int)=(b.length:Int)
 rotate_left
 ·rw[Bh0 c,Bh0 c]
 rw[Ar0 c,Ar0 c]
 have hf:=Kq0 (fun q i=>L_70_0 q a b a.length i) (n:=a.length) (fun j=>a.getD j 0 !=b.getD j 0) (ex:=fun _=>some .e0) (e1:=some .e1) (by omega) (fun q j hj=>by
  show L_70_0 (q+1) a b a.length (j:Int)=bif a.getD j 0 !=b.getD j 0 then some .e0 else L_70_0 q a b a.length ((j+1:Nat):Int)
  rw[L_70_0,S_70_0,Af0 (by omega),Ap0 (by omega) (by omega),Int.toNat_natCast,Ap0 (by omega) (by omega),wi64 (by omega) (by omega)]
  push_cast
  rfl) (fun q=>by
  show L_70_0 (q+1) a b a.length (a.length:Int)=_
  rw[L_70_0,S_70_0,Ad0 (by omega)])
 refine(congrArg (fun z=>B_70_0 z _ _) hf).trans ?_
 cases fnd (fun j=>a.getD j 0 !=b.getD j 0) a.length 0<;>rfl
namespace Sp
noncomputable def eqF(a b:FaT):Bool:=bif a.1==b.1 then bif a.2.1==b.2.1 then bif a.2.2.1==b.2.2.1 then bif a.2.2.2.1==b.2.2.2.1 then bif a.2.2.2.2.1==b.2.2.2.2.1 then bif a.2.2.2.2.2.2.1==b.2.2.2.2.2.2.1 then sw a.2.2.2.2.2.1 b.2.2.2.2.2.1 else false else false else false else false else false else false
end Sp
theorem Wx1(a:FaT):Sp.eqF a a=true:=by
 unfold Sp.eqF
 simp only[beq_self_eq_true,Cf0]
 exact Oa1.2 rfl
theorem Fx2{a b:FaT}(ha:a.2.2.2.2.2.1.length<=1000000)(hb:b.2.2.2.2.2.1.length<=1000000):p_39 a b=true/\v_39 a b=(Sp.eqF a b,()):=by
 refine Lh2 a b ?_
 have s:=Zz1 _ _ ha hb
 unfold F_39 Sp.eqF
 rw[s.1,s.2,Ai0]
 cases a.1==b.1
 ·rfl
 cases a.2.1==b.2.1
 ·rfl
 cases a.2.2.1==b.2.2.1
 ·rfl
 cases a.2.2.2.1==b.2.2.2.1
 ·rfl
 cases a.2.2.2.2.1==b.2.2.2.2.1
 ·rfl
 cases a.2.2.2.2.2.2.1==b.2.2.2.2.2.2.1<;>rfl
theorem st_9{s:Int}(h0:0<=s)(h1:s<=31):Sp.andnI .i64 s 9=Sp.andI .i64 s 22:=by
 have:=tab (fun s=>decide (Sp.andnI .i64 s 9=Sp.andI .i64 s 22)) (by decide+kernel) h0 h1
 exact of_decide_eq_true this
theorem Fd2{f:FaT}(h0:0<=f.1)(h1:f.1<=31):p_40 f=true/\v_40 f=(Sp.kpt f,()):=by
 refine Lg2 f ?_
 unfold F_40 Sp.kpt Sp.sto
 rw[st_9 h0 h1]
 by_cases c:Sp.andI .i64 f.1 6=0
 ·rw[Aw0 c,if_neg (by rw[c];decide)];rfl
 ·rw[Ax0 c,if_pos (bne_iff_ne.2 c)]
theorem Pz1{f:FaT}(h:f.2.2.2.2.2.1.length<=1000):(Sp.kpt f).2.2.2.2.2.1.length<=1000:=by
 unfold Sp.kpt
 split
 ·exact h
 ·exact Nat.zero_le _
theorem Fr2{cs:List CfT}{may:List FsT}{x:FsT}(L:LO cs may x)(mv:∀g∈may,Sp.vf g=true/\g.1=cs)(hl:may.length<=1000)(hc:cs.length<=4):p_11 x may=true/\v_11 x may=(true,()):=by
 refine Ma2 x may ?_
 unfold F_11
 have h0:=Kq0 (fun q i=>L_11_69_0_0 q may may.length i x) (n:=may.length) (fun j=>(may.getD j Zd4).2.2.1==x.2.2.1) (ex:=fun j=>some (.e0 (j:Int) x)) (e1:=some (.e1 x)) (by omega) (fun q j hj=>by
  show L_11_69_0_0 (q+1) may may.length (j:Int) x=bif(may.getD j Zd4).2.2.1==x.2.2.1 then some (.e0 (j:Int) x)else L_11_69_0_0 q may may.length ((j+1:Nat):Int) x
  rw[L_11_69_0_0,S_11_69_0_0,Af0 (by omega),Ap0 (by omega) (by omega),Int.toNat_natCast,wi64 (by omega) (by omega)]
  push_cast
  rfl) (fun q=>by
  show L_11_69_0_0 (q+1) may may.length (may.length:Int) x=_
  rw[L_11_69_0_0,S_11_69_0_0,Ad0 (by omega)])
 have s0:∃j:Nat,L_11_69_0_0 4611686018427387904 may may.length 0 x=some (.e0 (j:Int) x):=by
  have h0:L_11_69_0_0 4611686018427387904 may may.length 0 x=_:=h0
  cases hf:fnd (fun j=>(may.getD j Zd4).2.2.1==x.2.2.1) may.length 0 with
  |some j=>rw[hf]at h0;exact⟨j,h0⟩
  |none=>
   exfalso
   obtain⟨g,gm,gy⟩:=L.y
   obtain⟨i,hi,e⟩:=List.mem_iff_getElem.1 gm
   have:=Eh0.1 hf i (Nat.zero_le _) (by omega)
   rw[getD_at _ hi,e]at this
   exact absurd gy (of_decide_eq_false this)
 obtain⟨j0,s0⟩:=s0
 rw[s0]
 show(bif !decide ((j0:Int)>=0)then some (false,())else B_11_0 (L_11_0 4611686018427387904 may x.2.1 x.2.1.length 0) (some (false,())) (some (true,())))=_
 rw[decide_eq_true (show(j0:Int)>=0 by omega),Bool.not_true,At0]
 have xl:=L.l
 have fr:∀i,i<cs.length->∀g∈may,i<g.2.1.length/\0<=(g.2.1.getD i Zd1).1/\(g.2.1.getD i Zd1).1<=31/\(g.2.1.getD i Zd1).2.2.2.2.2.1.length<=1000:=fun i hi g gm=>by
  have gv:=mv g gm
  have vd:=vf_d gv.1
  have il:i<g.2.1.length:=by rw[vd.2.2.1,gv.2];exact hi
  have gg:=Di0.1 (Kf0 gv.1 il)
  exact⟨il,gg.1.1,gg.1.2,by have:=gg.2.2.2.2.2.1;omega⟩
 have h2:=run0 (fun q i(_:Unit)=>L_11_0 q may x.2.1 x.2.1.length i) (n:=x.2.1.length) (fun _=>()) (r:=some .e1) (by omega) (fun q j hj=>by
  show L_11_0 (q+1) may x.2.1 x.2.1.length (j:Int)=L_11_0 q may x.2.1 x.2.1.length ((j+1:Nat):Int)
  rw[L_11_0,S_11_0,Af0 (by omega),Ap0 (by omega) (by omega),Int.toNat_natCast,wi64 (by omega) (by omega)]
  obtain⟨g,gm,gl,ge⟩:=L.f j (by omega)
  have yl:(x.2.1.getD j Zd1).2.2.2.2.2.1.length<=1000:=by rw[ge];exact Pz1 (fr j (by omega) g gm).2.2.2
  generalize x.2.1.getD j Zd1=y at ge yl
  have hf:=Kq0 (fun q i=>L_11_69_0_1 q may may.length i (j:Int) y) (n:=may.length) (fun i=>Sp.eqF (Sp.kpt ((may.getD i Zd4).2.1.getD j Zd1)) y) (ex:=fun i=>some (.e0 (i:Int) (j:Int) y)) (e1:=some (.e1 (j:Int) y)) (by omega) (fun q i hi=>by
   show L_11_69_0_1 (q+1) may may.length (i:Int) (j:Int) y=bif Sp.eqF (Sp.kpt ((may.getD i Zd4).2.1.getD j Zd1)) y then some (.e0 (i:Int) (j:Int) y)else L_11_69_0_1 q may may.length ((i+1:Nat):Int) (j:Int) y
   have mm:may.getD i Zd4∈may:=by rw[getD_at _ hi];exact List.getElem_mem hi
   have b:=fr j (by omega) _ mm
   have k:=Fd2 b.2.1 b.2.2.1
   have e:=Fx2 (a:=Sp.kpt ((may.getD i Zd4).2.1.getD j Zd1)) (b:=y) (by have:=Pz1 b.2.2.2;omega) (by omega)
   rw[L_11_69_0_1,S_11_69_0_1,Af0 (by omega),Ap0 (by omega) (by omega),Int.toNat_natCast,Af0 (by omega),Ap0 (by omega) (by omega),Int.toNat_natCast,k.1,Ai0,k.2,e.1,Ai0,e.2,wi64 (by omega) (by omega)]
   push_cast
   rfl) (fun q=>by
   show L_11_69_0_1 (q+1) may may.length (may.length:Int) (j:Int) y=_
   rw[L_11_69_0_1,S_11_69_0_1,Ad0 (by omega)])
  have hf:L_11_69_0_1 4611686018427387904 may may.length 0 (j:Int) y=_:=hf
  cases hq:fnd (fun i=>Sp.eqF (Sp.kpt ((may.getD i Zd4).2.1.getD j Zd1)) y) may.length 0 with
  |none=>
   exfalso
   obtain⟨i,hi,e⟩:=List.mem_iff_getElem.1 gm
   have:=Eh0.1 hq i (Nat.zero_le _) (by omega)
   rw[getD_at _ hi,e,<-ge,Wx1]at this
   cases this
  |some i=>
   rw[hq]at hf
   rw[hf]
   show(bif !decide ((i:Int)>=0)then some E_11_0.e0 else L_11_0 q may x.2.1 x.2.1.length ((j:Int)+1))=_
   rw[decide_eq_true (show(i:Int)>=0 by omega),Bool.not_true,At0]
   push_cast
   rfl) (fun q=>by
  show L_11_0 (q+1) may x.2.1 x.2.1.length (x.2.1.length:Int)=_
  rw[L_11_0,S_11_0,Ad0 (by omega)])
 have h2:L_11_0 4611686018427387904 may x.2.1 x.2.1.length 0=_:=h2
 rw[h2]
 rfl
set_option maxRecDepth 100000
set_option maxHeartbeats 4000000
theorem Pc1{f:FlT}(hw:W32f f)(a n:Int):p_8 f a n=true/\v_8 f a n=Sp.opn f a n:=by
 have v:=Je1 f
 refine pv_8 f a n ?_
 unfold F_8 Sp.opn
 rw[v.1,v.2,Ai0]
 dsimp only
 cases hv:Sp.fv f
 ·rfl
 have c:=Ql1 hv
 have hl:=Dr0.1 hv
 have p:=Hb1 (f,a,n,()) (show f.2.1.length<=1000000 by omega)
 rw[Bool.not_true,At0,if_pos rfl,c.1,c.2,Ai0,p.1,p.2,Ai0]
 dsimp only
 cases hp:Sp.plc (f,a,n,())
 ·rfl
 have t:=Wc0 (m:=(f,a,n,())) hw hv hp
 rw[Bool.not_true,At0,if_pos rfl,t.1,t.2,Ai0]
 dsimp only
 cases Sp.acb (f,a,n,())<;>rfl
theorem Fq2{f:FlT}{a n:Int}{p:PwT}(hw:W32f f):p_14 f a n p=true/\v_14 f a n p=Sp.fmv f a n p:=by
 have v:=Je1 f
 have pw:=Ox1 p
 refine Lx2 f a n p ?_
 unfold F_14 Sp.fmv
 rw[v.1,v.2,Ai0,pw.1,pw.2,Ai0]
 dsimp only
 cases hv:Sp.fv f
 ·rw[if_neg (fun a=>Bool.noConfusion a.1)];rfl
 cases hp:Sp.pok p
 ·rw[if_neg (fun a=>Bool.noConfusion a.2)];rfl
 have hpb:0<=p.1/\p.1<=1099511627776:=by unfold Sp.pok at hp;simpa using hp
 have hl:=Dr0.1 hv
 have pl:=Hb1 (f,a,n,()) (show f.2.1.length<=1000000 by omega)
 rw[Bool.not_true,At0,At0,if_pos ⟨rfl,rfl⟩,pl.1,pl.2,Ai0]
 dsimp only
 cases hpl:Sp.plc (f,a,n,())
 ·rfl
 obtain⟨p1,p2,p3,p4,p5⟩:=Eb0.1 hpl
 dsimp only at p1 p2 p3 p4 p5
 have er:=Qh1 (m:=(f,a,n,())) (show f.2.1.length<=1000 by omega) a.toNat n.toNat (show a.toNat+n.toNat<=f.2.1.length by omega)
 rw[show((a.toNat:Nat):Int)=a by omega,show((a.toNat+n.toNat:Nat):Int)=a+n by omega]at er
 rw[Bool.not_true,At0,if_pos rfl,wi64 (by omega) (by omega),er.1,er.2,Ai0]
 dsimp only
 cases hwo:Sp.wor f n.toNat a.toNat
 rotate_left
 ·rfl
 have b:=pl_b (m:=(f,a,n,())) hv hpl
 have ad:=Ru0 (m:=(f,a,n,())) hv hpl (k:=0) (by decide) (i:=0) (by omega) (by omega)
 rw[b.2.2.2.2.2.2.1,Int.add_zero]at ad
 have ad:p_51 (f,a,n,()) 0 0=true/\v_51 (f,a,n,()) 0 0=(64*a,()):=ad
 have p1v:=Kk0 (n:=1) (by decide) (by decide)
 have pg:=Hd1 (l:=[Sp.prw 1]) (by simp) (a:=64*a) (by omega) (by omega)
 rw[if_neg Bool.false_ne_true,if_neg Bool.false_ne_true,Bool.not_true,At0,ad.1,ad.2,Ai0,p1v.1,p1v.2,Ai0]
 dsimp only
 rw[pg.1,pg.2,Ai0]
 dsimp only
 rw[Iw0,Gi0,List.length_singleton,Be0 (by omega) (by omega)]
 have d:=Xc1 (m:=(f,a,n,())) (l:=Sp.erl n.toNat a++Sp.pgl [Sp.prw 1] (64*a)) (p:=p) hv hw hpb.1 hpb.2 (Mm2 hv hpl) (by rw[List.length_append,Iw0,Gi0,List.length_singleton];omega)
 rw[d.1,d.2,Ai0]
namespace Sp
noncomputable def f0:FlT:=(replicate 512 4294967295,replicate 8 0,1000,())
noncomputable def m0:MeT:=((prw 1::replicate 511 4294967295,replicate 8 1,1000,()),0,8,())
noncomputable def z0(cs:List CfT):FsT:=(cs,replicate cs.length Zd1,0,false,())
end Sp
theorem new8:p_4 8 1000=true/\v_4 8 1000=(Sp.f0,0,()):=by
 have r:p_13 [4294967295] 512=true/\v_13 [4294967295] 512=(replicate 512 4294967295,()):=Ly2 [4294967295] 512 (by kernel_rfl)
 refine pv_4 8 1000 ?_
 unfold F_4
 rw[Ad0 (by decide),Ad0 (by decide),Ad0 (by decide),Ad0 (by decide),show wrap .i64 ((8:Int)*64)=512 by decide,r.1,r.2,Ai0]
 rfl
theorem f0_w:W32f Sp.f0:=fun x hx=>by
 rw[List.eq_of_mem_replicate (show x∈replicate 512 4294967295 from hx)]
 decide
theorem opn0:Sp.opn Sp.f0 0 8=(Sp.zM,7,()):=by kernel_rfl
theorem Eu2(o n:Nat):Sp.orW (replicate 512 4294967295) o 4294967295 n=replicate 512 4294967295:=by
 refine Cn0 0 (by rw[Db0]) (fun i hi=> ?_)
 rw[Db0,List.length_replicate]at hi
 have e:(replicate 512 (4294967295:Int)).getD i 0=4294967295:=by rw[getD_at _ (by rw[List.length_replicate];exact hi),List.getElem_replicate]
 rw[Hj0 _ _ _ _ _ (by rw[List.length_replicate];exact hi),e,Bp1]
 split<;>rfl
theorem Lg0(w w':List Int)(k:Nat)(p:Int)(l:List StT)(h:w.getD k 0≠1000)(h0:2<=p)(hw:w.set k (w.getD k 0+1)=w'):Sp.dol ((true,(k:Int),0,())::l) ((replicate 512 4294967295,w,1000,()),(p,0,()),0,())=Sp.dol l ((replicate 512 4294967295,w',1000,()),(p-1,0,()),0,()):=by
 rw[Sp.dol,if_pos rfl]
 unfold Sp.dop Sp.ers Sp.ew
 dsimp only
 rw[if_pos rfl,Int.toNat_natCast,if_neg h,if_neg (by omega),if_neg (by omega),Eu2,hw]
theorem dol0:Sp.dol (Sp.erl 8 0++Sp.pgl [Sp.prw 1] 0) (Sp.f0,(1099511627776,0,()),0,())=(Sp.m0.1,(1099511627767,0,()),0,()):=by
 have e:Sp.erl 8 0++Sp.pgl [Sp.prw 1] 0=[(true,((0:Nat):Int),0,()),(true,((1:Nat):Int),0,()),(true,((2:Nat):Int),0,()),(true,((3:Nat):Int),0,()),(true,((4:Nat):Int),0,()),(true,((5:Nat):Int),0,()),(true,((6:Nat):Int),0,()),(true,((7:Nat):Int),0,()),(false,0,Sp.prw 1,())]:=rfl
 rw[e]
 unfold Sp.f0
 rw[Lg0 (replicate 8 0) [1,0,0,0,0,0,0,0] 0 _ _ (by decide) (by decide) (by decide),Lg0 _ [1,1,0,0,0,0,0,0] 1 _ _ (by decide) (by decide) (by decide),Lg0 _ [1,1,1,0,0,0,0,0] 2 _ _ (by decide) (by decide) (by decide),Lg0 _ [1,1,1,1,0,0,0,0] 3 _ _ (by decide) (by decide) (by decide),Lg0 _ [1,1,1,1,1,0,0,0] 4 _ _ (by decide) (by decide) (by decide),Lg0 _ [1,1,1,1,1,1,0,0] 5 _ _ (by decide) (by decide) (by decide),Lg0 _ [1,1,1,1,1,1,1,0] 6 _ _ (by decide) (by decide) (by decide),Lg0 _ (replicate 8 1) 7 _ _ (by decide) (by decide) (by decide),Os0,if_pos rfl]
 unfold Sp.dop
 dsimp only
 rw[if_neg Bool.false_ne_true]
 unfold Sp.prg Sp.pw
 dsimp only
 rw[if_neg (by decide),if_neg (by decide)]
 have z:(replicate 512 (4294967295:Int)).getD (toNat 0) 0=4294967295:=rfl
 have pb:=In0 (n:=1) (by decide) (by decide)
 rw[z,Sr0 pb.1 pb.2.1]
 rfl
theorem fmt0:Sp.fmv Sp.f0 0 8 (1099511627776,0,())=(Sp.m0,(1099511627767,0,()),0,()):=by
 have v:Sp.fv Sp.f0=true:=by kernel_rfl
 have w:Sp.wor Sp.f0 (toNat 8) (toNat 0)=false:=by kernel_rfl
 have d:Sp.dol (Sp.erl (toNat 8) 0++Sp.pgl [Sp.prw 1] (64*0)) (Sp.f0,(1099511627776,0,()),0,())=(Sp.m0.1,(1099511627767,0,()),0,()):=dol0
 unfold Sp.fmv
 rw[if_pos ⟨v,by decide⟩,if_pos (by kernel_rfl),if_neg (by rw[w];exact Bool.false_ne_true)]
 unfold Sp.dov
 dsimp only
 rw[d,if_pos (.inl rfl)]
 rfl
theorem m0_i(n:Nat):MI n 1 Sp.m0:=by
 have w:(Sp.m0.1.1.all fun x=>decide (0<=x)&&decide (x<4294967296))=true:=by kernel_rfl
 have y:Sp.m0.1.2.1=replicate 8 1:=by kernel_rfl
 have q0:(Sp.hwr Sp.m0 0).getD 0 0=Sp.prw 1:=by kernel_rfl
 have q1:(Sp.hwr Sp.m0 1).getD 0 0=4294967295:=by kernel_rfl
 have g0:Sp.gnr Sp.m0 0=1:=by kernel_rfl
 have g1:Sp.gnr Sp.m0 1=0:=by kernel_rfl
 have e:Sp.ent Sp.m0=[]:=by kernel_rfl
 have k2:∀k,k<2->k=0\/k=1:=fun k hk=>by omega
 refine⟨fun x hx=> ?_,by kernel_rfl,by kernel_rfl,by kernel_rfl,fun k hk=> ?_,fun i=> ?_,fun k hk=> ?_,fun x hx=> ?_⟩
 ·have:=List.all_eq_true.1 w x hx
  simpa using this
 ·rcases k2 k hk with rfl|rfl
  ·rw[q0];exact Wo0 (by decide) (by decide)
  ·rw[q1];exact Ns1
 ·rw[y]
  rcases Nat.lt_or_ge i 8 with h|h
  ·rw[getD_at _ (by rw[List.length_replicate];exact h),List.getElem_replicate];decide
  ·rw[List.getD_eq_getElem?_getD,List.getElem?_eq_none (by rw[List.length_replicate];exact h)];decide
 ·rcases k2 k hk with rfl|rfl
  ·rw[g0];decide
  ·rw[g1];decide
 ·rw[e]at hx;cases hx
theorem Zn1{cs:List CfT}(hr:Sp.rcc cs=0):Sp.vf (Sp.z0 cs)=true:=by
 have rd:=Me1 hr
 unfold Sp.vf Sp.rgts Sp.z0
 dsimp only
 rw[decide_eq_true rd.1,rd.2.1,rd.2.2,List.length_replicate]
 simp only[Bool.true_and,Bool.and_eq_true,Bj0,List.all_eq_true,List.mem_range,beq_self_eq_true,Bool.not_false,Bool.true_or]
 refine⟨by decide,fun j hj=> ?_⟩
 rw[getD_at (l:=replicate cs.length Zd1) _ (by rw[List.length_replicate];exact hj),List.getElem_replicate]
 exact Gp1 (Gt0 rd.2.1 hj) (Int.le_refl 0)
theorem m0_l{cs:List CfT}(hr:Sp.rcc cs=0):LI cs 1 [Sp.z0 cs] Sp.m0 (Sp.z0 cs):=by
 have e:Sp.ent Sp.m0=[]:=by kernel_rfl
 have rd:=Me1 hr
 have I:=m0_i cs.length
 refine⟨I,Zn1 hr,rfl,fun g hg=> ?_,⟨_,List.mem_singleton.2 rfl,?_⟩,fun i hi=>⟨_,List.mem_singleton.2 rfl,?_,(Xd1 I.w).1⟩⟩
 ·rw[List.mem_singleton.1 hg]
  exact⟨Zn1 hr,rfl,Int.le_refl _⟩
 ·unfold Hd
  rw[e]
  exact .inr ⟨rfl,rfl⟩
 ·unfold Hd
  rw[e,Ex1 (by omega)]
  show(if Sp.sto ((replicate cs.length Zd1).getD i Zd1)=true then _ else _)=[]\/_
  rw[getD_at (l:=replicate cs.length Zd1) _ (by rw[List.length_replicate];exact hi),List.getElem_replicate]
  exact .inl rfl
theorem Go2(cs:List CfT):p_5 Sp.f0 0 8 cs=true/\(Sp.rcc cs≠0->(v_5 Sp.f0 0 8 cs).2.2.1=Sp.rcc cs)/\(Sp.rcc cs=0->∃x:FsT,v_5 Sp.f0 0 8 cs=(Sp.m0,x,0,())/\x.2.1.length=cs.length/\LI cs 1 [x] Sp.m0 x):=by
 have o:=Pc1 f0_w 0 8
 have fm:=Fq2 (a:=0) (n:=8) (p:=(1099511627776,0,())) f0_w
 have l:=Ph1 (m0_i cs.length).w cs
 have lv:Sp.lod Sp.m0 cs=(if Sp.rcc cs=0 then((cs,Sp.lol Sp.m0 cs (Sp.cyc Sp.m0,false,()) cs.length 0 (replicate cs.length Zd1),Sp.cyc Sp.m0,false,()),0,())else(([],[],0,false,()),Sp.rcc cs,())):=by
  unfold Sp.lod
  rw[if_pos (m0_i cs.length).v]
 have main:∀r,(bif(Sp.lod Sp.m0 cs).2.1 !=0 then some ((([],[],0,()),0,0,()),([],[],0,false,()),(Sp.lod Sp.m0 cs).2.1,())else some (Sp.m0,(Sp.lod Sp.m0 cs).1,0,()))=some r->p_5 Sp.f0 0 8 cs=true/\v_5 Sp.f0 0 8 cs=r:=fun r hr=>by
  refine pv_5 Sp.f0 0 8 cs ?_
  unfold F_5
  rw[o.1,Ai0,o.2,opn0,Aw0 rfl,Jf1.1,Ai0,Jf1.2]
  dsimp only
  rw[fm.1,Ai0,fm.2,fmt0]
  dsimp only
  unfold J_5_0 S_5_0
  rw[Ar0 rfl,l.1,Ai0,l.2,<-hr]
  cases (Sp.lod Sp.m0 cs).2.1 !=0
  ·show some (Sp.m0,(v_9 Sp.m0 cs).1,(0:Int),())=some (Sp.m0,(Sp.lod Sp.m0 cs).1,(0:Int),())
   rw[l.2]
  ·show some ((([],[],0,()),0,0,()),([],[],0,false,()),(v_9 Sp.m0 cs).2.1,())=some ((([],[],0,()),0,0,()),([],[],0,false,()),(Sp.lod Sp.m0 cs).2.1,())
   rw[l.2]
 by_cases hr:Sp.rcc cs=0
 ·obtain⟨x,e,lo,li⟩:=Pi1 (m0_l hr)
  have m:=main (Sp.m0,x,0,()) (by rw[e];rfl)
  exact⟨m.1,fun z=>absurd hr z,fun _=>⟨x,m.2,lo.l,li⟩⟩
 ·rw[if_neg hr]at lv
  have m:=main ((([],[],0,()),0,0,()),([],[],0,false,()),Sp.rcc cs,()) (by rw[lv];dsimp only;rw[Bh0 hr])
  exact⟨m.1,fun _=>by rw[m.2],fun z=>absurd z hr⟩
set_option maxRecDepth 100000
set_option maxHeartbeats 4000000
theorem LI.act{cs:List CfT}{b:Nat}{may:List FsT}{m:MeT}{f f':FsT}(L:LI cs b may m f)(hv:Sp.vf f'=true)(hc:f'.1=f.1)(hy:f.2.2.1<=f'.2.2.1):LI cs b may m f':=
 ⟨L.I,hv,hc.trans L.c,fun g hg=>⟨(L.mv g hg).1,(L.mv g hg).2.1,Int.le_trans (L.mv g hg).2.2 hy⟩,L.cy,L.k⟩
theorem Bv2{cs:List CfT}{b:Nat}{may:List FsT}{m:MeT}{f:FsT}(L:LI cs b may m f)(h4:cs.length<=4)(hb:b+5<=900){p:PwT}(h0:0<=p.1)(h1:p.1<1099511627776) :
 ((Sp.svv m f p).2.2.1=0/\LI cs (b+5) [f] (Sp.svv m f p).1 f)\/((Sp.svv m f p).2.2.1=18/\LI cs (b+5) (may++[f]) (Sp.svv m f p).1 f):=by
 have vd:=vf_d L.v
 have fl:f.2.1.length=cs.length:=by rw[vd.2.2.1,L.c]
 have S:=Ic2 L.v fl h4 L.I hb h0 h1
 unfold Sp.svv
 rw[if_pos ⟨L.I.v,L.v,(L.I.mg h0 h1).pok⟩]
 generalize Sp.svw f m p=r at S⊢
 obtain⟨s1,s2,s3⟩:=S
 rcases s1 with⟨e,h254,hk⟩|e
 ·left
  refine⟨e,s2,L.v,L.c,fun g hg=> ?_,⟨f,List.mem_singleton.2 rfl,h254⟩,fun i hi=>⟨f,List.mem_singleton.2 rfl,hk i hi,?_⟩⟩
  ·rw[List.mem_singleton.1 hg]
   exact⟨L.v,L.c,Int.le_refl _⟩
  ·rw[Jn1 L.v s2.v h254];exact Int.le_refl _
 ·right
  obtain⟨g0,g0m,g0h⟩:=L.cy
  have fm:f∈may++[f]:=List.mem_append.2 (.inr (List.mem_singleton.2 rfl))
  have im:∀g∈may,g∈may++[f]:=fun g hg=>List.mem_append.2 (.inl hg)
  have mv:∀g∈may++[f],Sp.vf g=true/\g.1=cs/\g.2.2.1<=f.2.2.1:=fun g hg=>by
   rcases List.mem_append.1 hg with hg|hg
   ·exact L.mv g hg
   ·rw[List.mem_singleton.1 hg]
    exact⟨L.v,L.c,Int.le_refl _⟩
  rcases s3 with s|⟨h254,s⟩
  ·have c0:=Jn1 (L.mv g0 g0m).1 L.I.v g0h
   have c1:=Jn1 (L.mv g0 g0m).1 s2.v (g0h.of (s 254))
   refine⟨e,s2,L.v,L.c,mv,⟨g0,im _ g0m,g0h.of (s 254)⟩,fun i hi=> ?_⟩
   obtain⟨g,gm,gh,gy⟩:=L.k i hi
   exact⟨g,im _ gm,gh.of (s i),by rw[c1,<-c0];exact gy⟩
  ·have c1:=Jn1 L.v s2.v h254
   refine⟨e,s2,L.v,L.c,mv,⟨f,fm,h254⟩,fun i hi=> ?_⟩
   rcases s i hi with z|z
   ·obtain⟨g,gm,gh,gy⟩:=L.k i hi
    exact⟨g,im _ gm,gh.of z,by rw[c1];exact(L.mv g gm).2.2⟩
   ·exact⟨f,fm,z,by rw[c1];exact Int.le_refl _⟩
theorem gs{α:Type}{l:List α}{i:Nat}{x d:α}(h:i<l.length):(l.set i x).getD i d=x:=by
 simp[List.getD_eq_getElem?_getD,h]
theorem sg{α:Type}{l:List α}{i:Nat}(d:α)(h:i<l.length):l.set i (l.getD i d)=l:=by
 rw[getD_at d h]
 exact List.set_getElem_self h
theorem Qa1{α:Type}(l:List α)(i j:Nat)(x d:α)(h:i<l.length):(l.set i x).getD j d=if i=j then x else l.getD j d:=by
 simp only[List.getD_eq_getElem?_getD,List.getElem?_set]
 split
 ·simp[h]
 ·rfl
noncomputable def Fj0{α:Type}(g:Nat->α->α)(n:Nat)(l:List α):List α:=l.mapIdx fun i x=>if i<n then g i x else x
section
variable{α:Type}{g:Nat->α->α}{l:List α}{d:α}
theorem Dd0(n:Nat):(Fj0 g n l).length=l.length:=by simp[Fj0]
theorem Fd0(n:Nat){i:Nat}(h:i<l.length):(Fj0 g n l).getD i d=if i<n then g i (l.getD i d)else l.getD i d:=by
 rw[getD_at d (by rw[Dd0];exact h),getD_at d h]
 simp[Fj0]
theorem Re0:Fj0 g 0 l=l:=by
 cases l with
 |nil=>rfl
 |cons a l=>
  refine Cn0 a (Dd0 0) fun j hj=> ?_
  rw[Dd0]at hj
  rw[Fd0 0 hj,if_neg (by omega)]
theorem Rf0{n:Nat}(h:n<l.length):(Fj0 g n l).set n (g n (l.getD n d))=Fj0 g (n+1) l:=by
 refine Cn0 d (by rw[List.length_set,Dd0,Dd0]) fun j hj=> ?_
 rw[List.length_set,Dd0]at hj
 rw[Qa1 _ _ _ _ _ (by rw[Dd0];exact h),Fd0 _ hj,Fd0 _ hj]
 split
 ·subst j
  rw[if_pos (by omega)]
 ·by_cases hh:j<n
  ·rw[if_pos hh,if_pos (by omega)]
  ·rw[if_neg hh,if_neg (by omega)]
end
namespace Sp
noncomputable def beg1(f:FaT):FaT:=(andnI .i64 f.1 9,0,f.2.2)
noncomputable def fg1(f:FaT):FaT:=(8,f.2.1,0,0,0,[],0,())
noncomputable def end1(c:CfT)(cyc:Int)(f:FaT):FaT:=
 if bt f 8=true/\¬f.2.2.2.2.2.2.1=cyc then
  if bt (andnI .i64 f.1 2,f.2) 4=true then
   if f.2.2.2.1+1=c.2.2.2.2.1 then fg1 f else
   if f.2.2.2.1+1>=c.2.2.2.1 then(andnI .i64 (andnI .i64 f.1 2) 16,f.2.1,f.2.2.1,f.2.2.2.1+1,f.2.2.2.2)else(andnI .i64 f.1 2,f.2.1,f.2.2.1,f.2.2.2.1+1,f.2.2.2.2)
  else fg1 f
 else f
noncomputable def err(e:Int):FsT×Int×Unit:=(([],[],0,false,()),e,())
noncomputable def begF(F:FsT):FsT×Int×Unit:=if vf F=true then(if F.2.2.2.1=true then err 6 else if F.2.2.1=1073741824 then err 9 else((F.1,Fj0 (fun _=>beg1) F.2.1.length F.2.1,F.2.2.1+1,true,()),0,()))else err 1
noncomputable def endF(F:FsT):FsT×Int×Unit:=if vf F=true then(if F.2.2.2.1=true then((F.1,Fj0 (fun j=>end1 (F.1.getD j Zd0) F.2.2.1) F.2.1.length F.2.1,F.2.2.1,false,()),0,())else err 6)else err 1
end Sp
structure Vf(F:FsT):Prop where
 n:F.1.length<=64
 c:Sp.cfgs F.1=true
 d:Sp.dst (F.1.map fun c=>c.1)=true
 l:F.2.1.length=F.1.length
 y0:0<=F.2.2.1
 y1:F.2.2.1<=1073741824
 run:F.2.2.2.1=true->1<=F.2.2.1
 r:∀j,j<F.1.length->Sp.rgt (F.1.getD j Zd0) (F.2.1.getD j Zd1) F.2.2.1=true
theorem Gx0{F:FsT}:Sp.vf F=true↔Vf F:=by
 unfold Sp.vf Sp.rgts
 simp only[Bool.and_eq_true,decide_eq_true_eq,beq_iff_eq,Bj0,Bool.or_eq_true,Bool.not_eq_true',List.all_eq_true,List.mem_range]
 constructor
 ·rintro⟨a,b,c,d,e,f,g⟩
  refine⟨a,b,c,by omega,e.1,e.2,fun h=> ?_,fun j hj=>g j (by omega)⟩
  rcases f with f|f
  ·rw[h]at f;cases f
  ·omega
 ·intro h
  refine⟨h.n,h.c,h.d,by have:=h.l;omega,⟨h.y0,h.y1⟩,?_,fun j hj=>h.r j (by have:=h.l;omega)⟩
  cases hr:F.2.2.2.1
  ·exact Or.inl rfl
  ·exact Or.inr (by have:=h.run hr;omega)
theorem Lf1{c:CfT}{f:FaT}{cyc:Int}(hc:Sp.cfg c=true)(h:Sp.rgt c f cyc=true):f.2.2.2.2.2.1.length<=8:=by
 simp only[Sp.rgt,Sp.frq,Sp.cfg,Bool.and_eq_true,Bj0,Bool.or_eq_true,beq_iff_eq]at h hc
 have:=h.2.1.1
 omega
theorem Jx2{c:CfT}{f:FaT}{cyc:Int}(h:Sp.rgt c f cyc=true):(0<=f.1/\f.1<=31)/\(0-c.2.2.1<=f.2.1/\f.2.1<=c.2.1)/\(0<=f.2.2.1/\f.2.2.1<=2)/\(0<=f.2.2.2.1/\f.2.2.2.1<=c.2.2.2.2.1-1)/\(0<=f.2.2.2.2.1/\f.2.2.2.2.1<=255)/\(0<=f.2.2.2.2.2.2.1/\f.2.2.2.2.2.2.1<=cyc):=by
 simp only[Sp.rgt,Sp.rngs,Bool.and_eq_true,Bj0]at h
 exact h.1
theorem Vf.cf{F:FsT}(h:Vf F){j:Nat}(hj:j<F.1.length):Sp.cfg (F.1.getD j Zd0)=true:=Gt0 h.c hj
theorem Vf.fl{F:FsT}(h:Vf F){j:Nat}(hj:j<F.1.length):(F.2.1.getD j Zd1).2.2.2.2.2.1.length<=8:=Lf1 (h.cf hj) (h.r j hj)
theorem Vf.sm{F:FsT}(h:Vf F):Sm F:=⟨by have:=h.l;have:=h.n;omega,fun j hj=>by have:=h.fl (j:=j) (by have:=h.l;omega);omega⟩
theorem Nc1{F:FsT}(h:Vf F)(p2:FsT)(p3 p5 p7:Int×Bool×Unit)(p4 p8:List CfT)(p9:List FaT):L_42_71_0_0 4611686018427387904 F.2.1.length 0 p2 p3 p4 p5 F.2.1 p7 p8 p9=some (.e0 p2 p3 p4 p5 F.2.1 p7 p8 p9):=by
 have h1:=run0 (fun m i(_:Unit)=>L_42_71_0_0 m F.2.1.length i p2 p3 p4 p5 F.2.1 p7 p8 p9) (n:=F.2.1.length) (fun _=>()) (r:=some (.e0 p2 p3 p4 p5 F.2.1 p7 p8 p9)) h.sm.l (fun m j hj=>by
  show L_42_71_0_0 (m+1) F.2.1.length (j:Int) p2 p3 p4 p5 F.2.1 p7 p8 p9=L_42_71_0_0 m F.2.1.length ((j+1:Nat):Int) p2 p3 p4 p5 F.2.1 p7 p8 p9
  have hl:=h.l
  have hn:=h.n
  have hf:=h.fl (j:=j) (by omega)
  rw[L_42_71_0_0,S_42_71_0_0,Af0 (by omega)]
  simp only[Ap0 (show(0:Int)<=(j:Int) by omega) (show(j:Int)<((F.2.1.length:Nat):Int) by omega),Int.toNat_natCast,Bool.and_true,Eq0 hj]
  rw[Be0 (by omega) (by omega),wi64 (by omega) (by omega)]
  have e:F.2.1.set j (F.2.1.getD j Zd1)=F.2.1:=sg _ hj
  push_cast
  exact congrArg (fun L=>L_42_71_0_0 m F.2.1.length ((j:Int)+1) p2 p3 p4 p5 L p7 p8 p9) e) (fun m=>by
  show L_42_71_0_0 (m+1) F.2.1.length F.2.1.length p2 p3 p4 p5 F.2.1 p7 p8 p9=_
  rw[L_42_71_0_0,S_42_71_0_0,Ad0 (by omega)])
 exact h1
theorem Gr2{F:FsT}(hs:Sm F):F_42 F=some (Sp.begF F):=by
 unfold F_42 Sp.begF
 rw[(Mh0 hs).1,(Mh0 hs).2,Ai0]
 cases hv:Sp.vf F
 ·rfl
 have h:=Gx0.1 hv
 have hl:=h.l
 have hn:=h.n
 have hy0:=h.y0
 have hy1:=h.y1
 rw[if_pos rfl,Bool.not_true,At0]
 cases hr:F.2.2.2.1
 rotate_left
 ·rfl
 rw[At0,if_neg (by decide)]
 by_cases hb:F.2.2.1=1073741824
 ·rw[Aw0 hb,if_pos hb];rfl
 rw[Ax0 hb,if_neg hb,Be0 (by omega) (by omega),Nc1 h]
 simp only[B_42_71_0_0]
 have h2:=run0 (fun m i L=>L_42_0 m F.2.1.length i F.1 (F.2.2.1+1,true,()) L (0,false,()) [] []) (n:=F.2.1.length) (fun j=>Fj0 (fun _=>Sp.beg1) j F.2.1) (r:=some (.e0 F.1 (F.2.2.1+1,true,()) (Fj0 (fun _=>Sp.beg1) F.2.1.length F.2.1) (0,false,()) [] [])) h.sm.l (fun m j hj=>by
  show L_42_0 (m+1) F.2.1.length (j:Int) F.1 (F.2.2.1+1,true,()) (Fj0 (fun _=>Sp.beg1) j F.2.1) (0,false,()) [] []=L_42_0 m F.2.1.length ((j+1:Nat):Int) F.1 (F.2.2.1+1,true,()) (Fj0 (fun _=>Sp.beg1) (j+1) F.2.1) (0,false,()) [] []
  have hj':j<(Fj0 (fun _=>Sp.beg1) j F.2.1).length:=by rw[Dd0];exact hj
  have hx:(Fj0 (fun _=>Sp.beg1) j F.2.1).getD j Zd1=F.2.1.getD j Zd1:=by rw[Fd0 _ hj,if_neg (by omega)]
  rw[<-Rf0 (d:=Zd1) hj,L_42_0,S_42_0,Af0 (by omega)]
  generalize Fj0 (fun _=>Sp.beg1) j F.2.1=L at *
  rw[Ap0 (by omega) (by omega)]
  simp only[Int.toNat_natCast,Bool.and_true,Eq0 hj',List.length_set,gs hj',List.set_set,hx]
  rw[wi64 (by omega) (by omega)]
  push_cast
  rfl) (fun m=>by
  show L_42_0 (m+1) F.2.1.length F.2.1.length F.1 (F.2.2.1+1,true,()) _ (0,false,()) [] []=_
  rw[L_42_0,S_42_0,Ad0 (by omega)])
 rw[Re0]at h2
 have e2:L_42_0 4611686018427387904 F.2.1.length 0 F.1 (F.2.2.1+1,true,()) F.2.1 (0,false,()) [] []=_:=h2
 rw[wi64 (by omega) (by omega)]
 have eu:((F.2.2.1+1,true,F.2.2.2.2):Int×Bool×Unit)=(F.2.2.1+1,true,()):=rfl
 have eu2:(L_42_0 4611686018427387904 F.2.1.length 0 F.1 (F.2.2.1+1,true,F.2.2.2.2) F.2.1 (0,false,()) [] [])=_:=h2
 rw[eu2]
 rfl
theorem Gq2{F:FsT}(hs:Sm F):p_42 F=true/\v_42 F=Sp.begF F:=Le2 F (Gr2 hs)
theorem Mw1{F:FsT}(h:Vf F)(p2:FsT)(p3 p5 p7:Int×Bool×Unit)(p4 p8:List CfT)(p9:List FaT):L_41_71_0_0 4611686018427387904 F.2.1.length 0 p2 p3 p4 p5 F.2.1 p7 p8 p9=some (.e0 p2 p3 p4 p5 F.2.1 p7 p8 p9):=by
 have h1:=run0 (fun m i(_:Unit)=>L_41_71_0_0 m F.2.1.length i p2 p3 p4 p5 F.2.1 p7 p8 p9) (n:=F.2.1.length) (fun _=>()) (r:=some (.e0 p2 p3 p4 p5 F.2.1 p7 p8 p9)) h.sm.l (fun m j hj=>by
  show L_41_71_0_0 (m+1) F.2.1.length (j:Int) p2 p3 p4 p5 F.2.1 p7 p8 p9=L_41_71_0_0 m F.2.1.length ((j+1:Nat):Int) p2 p3 p4 p5 F.2.1 p7 p8 p9
  have hl:=h.l
  have hn:=h.n
  have hf:=h.fl (j:=j) (by omega)
  rw[L_41_71_0_0,S_41_71_0_0,Af0 (by omega)]
  simp only[Ap0 (show(0:Int)<=(j:Int) by omega) (show(j:Int)<((F.2.1.length:Nat):Int) by omega),Int.toNat_natCast,Bool.and_true,Eq0 hj]
  rw[Be0 (by omega) (by omega),wi64 (by omega) (by omega)]
  have e:F.2.1.set j (F.2.1.getD j Zd1)=F.2.1:=sg _ hj
  push_cast
  exact congrArg (fun L=>L_41_71_0_0 m F.2.1.length ((j:Int)+1) p2 p3 p4 p5 L p7 p8 p9) e) (fun m=>by
  show L_41_71_0_0 (m+1) F.2.1.length F.2.1.length p2 p3 p4 p5 F.2.1 p7 p8 p9=_
  rw[L_41_71_0_0,S_41_71_0_0,Ad0 (by omega)])
 exact h1
theorem Mv1{m j:Nat}{C:List CfT}{L:List FaT}{cy:Int×Bool×Unit}{n:Int}{z:Int×Bool×Unit}{z1:List CfT}{z2:List FaT}(hj:j<L.length)(hjn:(j:Int)<n)(hc:j<C.length)(hb:j<4611686018427387904)(hcl: -1000000<=(L.getD j Zd1).2.2.2.1)(hcl2:(L.getD j Zd1).2.2.2.1<=1000000) :
 L_41_0 (m+1) n (j:Int) C cy L z z1 z2=L_41_0 m n ((j+1:Nat):Int) C cy (L.set j (Sp.end1 (C.getD j Zd0) cy.1 (L.getD j Zd1))) z z1 z2:=by
 rw[L_41_0,S_41_0,Af0 hjn,Ap0 (by omega) (by omega)]
 have e0:L.set j (L.getD j Zd1)=L:=sg _ hj
 simp only[Int.toNat_natCast,Bool.and_true,Eq0 hj,Ol0,Ai0,List.length_set,gs hj,Bool.not_not,J_41_1,S_41_1,Ap0 (show(0:Int)<=(j:Int) by omega) (show(j:Int)<(C.length:Nat) by omega),List.set_set]
 unfold Sp.end1
 have hj1:((j+1:Nat):Int)=(j:Int)+1:=by omega
 rw[hj1]
 generalize C.getD j Zd0=c at *
 generalize hx:L.getD j Zd1=x at *
 have hw:=wi64 (n:=(j:Int)+1) (by omega) (by omega)
 rw[wi64 (n:=x.2.2.2.1+1) (by omega) (by omega)]
 cases h1:Sp.bt x 8
 ·simp[e0,hw]
 rw[Bool.not_true,At0]
 by_cases h2:x.2.2.2.2.2.2.1=cy.1
 ·rw[Aw0 h2,if_neg (by simp[h2]),e0,hw]
 rw[Ax0 h2,if_pos ⟨rfl,h2⟩]
 cases h3:Sp.bt (Sp.andnI .i64 x.1 2,x.2) 4
 ·simp only[At0,Bool.not_false,Cf0,B_41_1,gs hj,List.set_set,hw,if_true,Bool.false_eq_true,if_false]
  rfl
 simp only[Cf0,Bool.not_true,At0]
 by_cases h4:x.2.2.2.1+1=c.2.2.2.2.1
 ·simp only[Aw0 h4,B_41_1,gs hj,List.set_set,hw,if_true,if_pos h4]
  rfl
 simp only[Ax0 h4,if_neg h4]
 by_cases h5:x.2.2.2.1+1>=c.2.2.2.1
 ·simp only[Af0 h5,B_41_1,gs hj,List.set_set,hw,if_true,if_pos h5]
 ·simp only[Ad0 h5,B_41_1,hw,if_true,if_neg h5]
theorem Gb2{F:FsT}(hs:Sm F):F_41 F=some (Sp.endF F):=by
 unfold F_41 Sp.endF
 rw[(Mh0 hs).1,(Mh0 hs).2,Ai0]
 cases hv:Sp.vf F
 ·rfl
 have h:=Gx0.1 hv
 have hl:=h.l
 have hn:=h.n
 rw[if_pos rfl,Bool.not_true,At0]
 cases hr:F.2.2.2.1
 ·rfl
 rw[Bool.not_true,At0,if_pos rfl,Be0 (by omega) (by omega),Mw1 h]
 simp only[B_41_71_0_0]
 have h2:=run0 (fun m i L=>L_41_0 m F.2.1.length i F.1 (F.2.2.1,false,()) L (0,false,()) [] []) (n:=F.2.1.length) (fun j=>Fj0 (fun j=>Sp.end1 (F.1.getD j Zd0) F.2.2.1) j F.2.1) (r:=some (.e0 F.1 (F.2.2.1,false,()) (Fj0 (fun j=>Sp.end1 (F.1.getD j Zd0) F.2.2.1) F.2.1.length F.2.1) (0,false,()) [] [])) h.sm.l (fun m j hj=>by
  show L_41_0 (m+1) F.2.1.length (j:Int) F.1 (F.2.2.1,false,()) (Fj0 (fun j=>Sp.end1 (F.1.getD j Zd0) F.2.2.1) j F.2.1) (0,false,()) [] []=L_41_0 m F.2.1.length ((j+1:Nat):Int) F.1 (F.2.2.1,false,()) (Fj0 (fun j=>Sp.end1 (F.1.getD j Zd0) F.2.2.1) (j+1) F.2.1) (0,false,()) [] []
  have hj':j<(Fj0 (fun j=>Sp.end1 (F.1.getD j Zd0) F.2.2.1) j F.2.1).length:=by rw[Dd0];exact hj
  have hx:(Fj0 (fun j=>Sp.end1 (F.1.getD j Zd0) F.2.2.1) j F.2.1).getD j Zd1=F.2.1.getD j Zd1:=by rw[Fd0 _ hj,if_neg (by omega)]
  have hq:=Jx2 (h.r j (by omega))
  have hcf:=h.cf (j:=j) (by omega)
  simp only[Sp.cfg,Bool.and_eq_true,Bj0]at hcf
  rw[Mv1 hj' (by omega) (by omega) (by omega) (by rw[hx];omega) (by rw[hx];omega),hx]
  rw[Rf0 (g:=fun j=>Sp.end1 (F.1.getD j Zd0) F.2.2.1) hj]) (fun m=>by
  show L_41_0 (m+1) F.2.1.length F.2.1.length F.1 (F.2.2.1,false,()) _ (0,false,()) [] []=_
  rw[L_41_0,S_41_0,Ad0 (by omega)])
 rw[Re0]at h2
 have e2:L_41_0 4611686018427387904 F.2.1.length 0 F.1 (F.2.2.1,false,F.2.2.2.2) F.2.1 (0,false,()) [] []=_:=h2
 rw[e2]
 rfl
theorem Ga2{F:FsT}(hs:Sm F):p_41 F=true/\v_41 F=Sp.endF F:=Lf2 F (Gb2 hs)
set_option maxRecDepth 100000
set_option maxHeartbeats 4000000
namespace Sp
noncomputable def sb(s k:Int):Bool:=andI .i64 s k==k
noncomputable def fail1(c:CfT)(cyc:Int)(frame:List Int)(f:FaT)(n:Int):FaT:=
 let oc:=if bt f 1=true then f.2.2.2.2.1 else if 255<f.2.2.2.2.1+1 then 255 else f.2.2.2.2.1+1
 let fr:=if bt f 1=true then f.2.2.2.2.2.1 else if bt f 4=true then f.2.2.2.2.2.1 else frame
 let s:=orI .i64 f.1 11
 if f.2.2.2.2.2.2.1=cyc then(s,n,f.2.2.1,0,oc,fr,f.2.2.2.2.2.2.1,())else
 let cy:=if 2<f.2.2.1+1 then 2 else f.2.2.1+1
 if cy<2 then(s,n,cy,0,oc,fr,cyc,())else
 (if c.2.2.2.2.2.2.1=true then orI .i64 (orI .i64 s 4) 16 else orI .i64 s 4,n,cy,0,oc,fr,cyc,())
noncomputable def cnt1(c:CfT)(bad:Bool)(n:Int):Int:=
 if bad=true then(let x:=(if n>0 then n else 0)+1;if c.2.1<x then c.2.1 else x)else(let x:=(if n<0 then n else 0)-1;if 0-c.2.2.1>x then 0-c.2.2.1 else x)
noncomputable def res1(c:CfT)(cyc:Int)(bad:Bool)(frame:List Int)(f:FaT):FaT:=
 let n:=cnt1 c bad f.2.1
 if n=c.2.1 then fail1 c cyc frame f n else
 if n=0-c.2.2.1 then(andnI .i64 (orI .i64 f.1 8) 1,n,f.2.2)else(f.1,n,f.2.2)
end Sp
theorem Tw0(f:FaT)(k:Int):Sp.bt f k=Sp.sb f.1 k:=rfl
structure Rg(c:CfT)(f:FaT)(cyc:Int):Prop where
 s0:0<=f.1
 s1:f.1<=31
 n0:0-c.2.2.1<=f.2.1
 n1:f.2.1<=c.2.1
 y0:0<=f.2.2.1
 y1:f.2.2.1<=2
 c0:0<=f.2.2.2.1
 c1:f.2.2.2.1<=c.2.2.2.2.1-1
 o0:0<=f.2.2.2.2.1
 o1:f.2.2.2.2.1<=255
 l0:0<=f.2.2.2.2.2.2.1
 l1:f.2.2.2.2.2.2.1<=cyc
 fr:Sp.vals f.2.2.2.2.2.1=true
 fa:Sp.sb f.1 1=true->Sp.sb f.1 2=true/\Sp.sb f.1 8=true/\f.2.2.2.2.2.2.1=cyc
 co:Sp.sb f.1 4=true↔f.2.2.1=2
 lp:Sp.sb f.1 16=true->Sp.sb f.1 4=true/\c.2.2.2.2.2.2.1=true
 pe:Sp.sb f.1 2=true->f.2.2.2.1=0
 kn:Sp.sb f.1 2=true\/Sp.sb f.1 4=true->f.2.2.2.2.1>=1/\f.2.2.1>=1/\f.2.2.2.2.2.2.1>=1/\(f.2.2.2.2.2.1.length:Int)=c.2.2.2.2.2.2.2.1
 un:Sp.sb f.1 2=false->Sp.sb f.1 4=false->f.2.2.1=0/\f.2.2.2.1=0/\f.2.2.2.2.1=0/\f.2.2.2.2.2.2.1=0/\f.2.2.2.2.2.1.length=0
theorem Im0{c:CfT}{f:FaT}{cyc:Int}:Sp.rgt c f cyc=true↔Rg c f cyc:=by
 have hq:∀b:Bool,(b==true)=b:=by decide
 constructor
 ·intro h
  simp only[Sp.rgt,Sp.rngs,Sp.frq,Sp.q0,Sp.q1,Sp.q2,Sp.fin,Sp.kno,Sp.unk,Tw0,Bool.and_eq_true,Bj0]at h
  obtain⟨⟨hs,hn,hy,hcl,ho,hl⟩,⟨_,hv⟩,⟨q0,⟨q1,ql⟩,q2⟩,hf⟩:=h
  refine⟨hs.1,hs.2,hn.1,hn.2,hy.1,hy.2,hcl.1,hcl.2,ho.1,ho.2,hl.1,hl.2,hv,?_,?_,?_,?_,?_,?_⟩
  ·intro h
   simpa[h,and_assoc]using q0
  ·cases h:Sp.sb f.1 4<;>simp[h]at q1<;>simp[q1]
  ·intro h
   simpa[h]using ql
  ·intro h
   simpa[h]using q2
  ·intro h
   have:(Sp.sb f.1 2||Sp.sb f.1 4)=true:=by rcases h with h|h<;>simp[h]
   rw[this]at hf
   simpa[and_assoc]using hf
  ·intro h1 h2
   rw[h1,h2]at hf
   simpa[and_assoc]using hf
 ·intro h
  simp only[Sp.rgt,Sp.rngs,Sp.frq,Sp.q0,Sp.q1,Sp.q2,Sp.fin,Sp.kno,Sp.unk,Tw0,Bool.and_eq_true,Bj0]
  refine⟨⟨⟨h.s0,h.s1⟩,⟨h.n0,h.n1⟩,⟨h.y0,h.y1⟩,⟨h.c0,h.c1⟩,⟨h.o0,h.o1⟩,h.l0,h.l1⟩,⟨?_,h.fr⟩,⟨?_,⟨?_,?_⟩,?_⟩,?_⟩
  ·cases h2:Sp.sb f.1 2
   ·cases h4:Sp.sb f.1 4
    ·have:=h.un h2 h4
     simp[this.2.2.2.2]
    ·have:=h.kn (Or.inr h4)
     simp[this.2.2.2]
   ·have:=h.kn (Or.inl h2)
    simp[this.2.2.2]
  ·cases h1:Sp.sb f.1 1
   ·rfl
   ·have:=h.fa h1
    simp[this]
  ·have:=h.co
   cases h4:Sp.sb f.1 4<;>simp[h4]at this⊢ <;>exact this
  ·cases h1:Sp.sb f.1 16
   ·rfl
   ·have:=h.lp h1
    simp[this]
  ·cases h1:Sp.sb f.1 2
   ·rfl
   ·have:=h.pe h1
    simp[this]
  ·cases h2:Sp.sb f.1 2
   ·cases h4:Sp.sb f.1 4
    ·have:=h.un h2 h4
     simp[this]
    ·have:=h.kn (Or.inr h4)
     simp[this]
   ·have:=h.kn (Or.inl h2)
    simp[this]
theorem tabs{s:Int}(h0:0<=s)(h1:s<=31) :
 (0<=Sp.andnI .i64 s 9/\Sp.andnI .i64 s 9<=31/\Sp.sb (Sp.andnI .i64 s 9) 1=false/\Sp.sb (Sp.andnI .i64 s 9) 2=Sp.sb s 2/\Sp.sb (Sp.andnI .i64 s 9) 4=Sp.sb s 4/\Sp.sb (Sp.andnI .i64 s 9) 8=false/\Sp.sb (Sp.andnI .i64 s 9) 16=Sp.sb s 16) /\
 (0<=Sp.andnI .i64 s 2/\Sp.andnI .i64 s 2<=31/\Sp.sb (Sp.andnI .i64 s 2) 1=Sp.sb s 1/\Sp.sb (Sp.andnI .i64 s 2) 2=false/\Sp.sb (Sp.andnI .i64 s 2) 4=Sp.sb s 4/\Sp.sb (Sp.andnI .i64 s 2) 8=Sp.sb s 8/\Sp.sb (Sp.andnI .i64 s 2) 16=Sp.sb s 16) /\
 (0<=Sp.andnI .i64 (Sp.andnI .i64 s 2) 16/\Sp.andnI .i64 (Sp.andnI .i64 s 2) 16<=31/\Sp.sb (Sp.andnI .i64 (Sp.andnI .i64 s 2) 16) 1=Sp.sb s 1/\Sp.sb (Sp.andnI .i64 (Sp.andnI .i64 s 2) 16) 2=false/\Sp.sb (Sp.andnI .i64 (Sp.andnI .i64 s 2) 16) 4=Sp.sb s 4/\Sp.sb (Sp.andnI .i64 (Sp.andnI .i64 s 2) 16) 8=Sp.sb s 8/\Sp.sb (Sp.andnI .i64 (Sp.andnI .i64 s 2) 16) 16=false) /\
 (0<=Sp.orI .i64 s 11/\Sp.orI .i64 s 11<=31/\Sp.sb (Sp.orI .i64 s 11) 1=true/\Sp.sb (Sp.orI .i64 s 11) 2=true/\Sp.sb (Sp.orI .i64 s 11) 4=Sp.sb s 4/\Sp.sb (Sp.orI .i64 s 11) 8=true/\Sp.sb (Sp.orI .i64 s 11) 16=Sp.sb s 16) /\
 (0<=Sp.orI .i64 (Sp.orI .i64 s 11) 4/\Sp.orI .i64 (Sp.orI .i64 s 11) 4<=31/\Sp.sb (Sp.orI .i64 (Sp.orI .i64 s 11) 4) 1=true/\Sp.sb (Sp.orI .i64 (Sp.orI .i64 s 11) 4) 2=true/\Sp.sb (Sp.orI .i64 (Sp.orI .i64 s 11) 4) 4=true/\Sp.sb (Sp.orI .i64 (Sp.orI .i64 s 11) 4) 8=true/\Sp.sb (Sp.orI .i64 (Sp.orI .i64 s 11) 4) 16=Sp.sb s 16) /\
 (0<=Sp.orI .i64 (Sp.orI .i64 (Sp.orI .i64 s 11) 4) 16/\Sp.orI .i64 (Sp.orI .i64 (Sp.orI .i64 s 11) 4) 16<=31/\Sp.sb (Sp.orI .i64 (Sp.orI .i64 (Sp.orI .i64 s 11) 4) 16) 1=true/\Sp.sb (Sp.orI .i64 (Sp.orI .i64 (Sp.orI .i64 s 11) 4) 16) 2=true/\Sp.sb (Sp.orI .i64 (Sp.orI .i64 (Sp.orI .i64 s 11) 4) 16) 4=true/\Sp.sb (Sp.orI .i64 (Sp.orI .i64 (Sp.orI .i64 s 11) 4) 16) 8=true/\Sp.sb (Sp.orI .i64 (Sp.orI .i64 (Sp.orI .i64 s 11) 4) 16) 16=true) /\
 (0<=Sp.andnI .i64 (Sp.orI .i64 s 8) 1/\Sp.andnI .i64 (Sp.orI .i64 s 8) 1<=31/\Sp.sb (Sp.andnI .i64 (Sp.orI .i64 s 8) 1) 1=false/\Sp.sb (Sp.andnI .i64 (Sp.orI .i64 s 8) 1) 2=Sp.sb s 2/\Sp.sb (Sp.andnI .i64 (Sp.orI .i64 s 8) 1) 4=Sp.sb s 4/\Sp.sb (Sp.andnI .i64 (Sp.orI .i64 s 8) 1) 8=true/\Sp.sb (Sp.andnI .i64 (Sp.orI .i64 s 8) 1) 16=Sp.sb s 16):=by
 have:=tab (fun s=>decide (
  (0<=Sp.andnI .i64 s 9/\Sp.andnI .i64 s 9<=31/\Sp.sb (Sp.andnI .i64 s 9) 1=false/\Sp.sb (Sp.andnI .i64 s 9) 2=Sp.sb s 2/\Sp.sb (Sp.andnI .i64 s 9) 4=Sp.sb s 4/\Sp.sb (Sp.andnI .i64 s 9) 8=false/\Sp.sb (Sp.andnI .i64 s 9) 16=Sp.sb s 16) /\
  (0<=Sp.andnI .i64 s 2/\Sp.andnI .i64 s 2<=31/\Sp.sb (Sp.andnI .i64 s 2) 1=Sp.sb s 1/\Sp.sb (Sp.andnI .i64 s 2) 2=false/\Sp.sb (Sp.andnI .i64 s 2) 4=Sp.sb s 4/\Sp.sb (Sp.andnI .i64 s 2) 8=Sp.sb s 8/\Sp.sb (Sp.andnI .i64 s 2) 16=Sp.sb s 16) /\
  (0<=Sp.andnI .i64 (Sp.andnI .i64 s 2) 16/\Sp.andnI .i64 (Sp.andnI .i64 s 2) 16<=31/\Sp.sb (Sp.andnI .i64 (Sp.andnI .i64 s 2) 16) 1=Sp.sb s 1/\Sp.sb (Sp.andnI .i64 (Sp.andnI .i64 s 2) 16) 2=false/\Sp.sb (Sp.andnI .i64 (Sp.andnI .i64 s 2) 16) 4=Sp.sb s 4/\Sp.sb (Sp.andnI .i64 (Sp.andnI .i64 s 2) 16) 8=Sp.sb s 8/\Sp.sb (Sp.andnI .i64 (Sp.andnI .i64 s 2) 16) 16=false) /\
  (0<=Sp.orI .i64 s 11/\Sp.orI .i64 s 11<=31/\Sp.sb (Sp.orI .i64 s 11) 1=true/\Sp.sb (Sp.orI .i64 s 11) 2=true/\Sp.sb (Sp.orI .i64 s 11) 4=Sp.sb s 4/\Sp.sb (Sp.orI .i64 s 11) 8=true/\Sp.sb (Sp.orI .i64 s 11) 16=Sp.sb s 16) /\
  (0<=Sp.orI .i64 (Sp.orI .i64 s 11) 4/\Sp.orI .i64 (Sp.orI .i64 s 11) 4<=31/\Sp.sb (Sp.orI .i64 (Sp.orI .i64 s 11) 4) 1=true/\Sp.sb (Sp.orI .i64 (Sp.orI .i64 s 11) 4) 2=true/\Sp.sb (Sp.orI .i64 (Sp.orI .i64 s 11) 4) 4=true/\Sp.sb (Sp.orI .i64 (Sp.orI .i64 s 11) 4) 8=true/\Sp.sb (Sp.orI .i64 (Sp.orI .i64 s 11) 4) 16=Sp.sb s 16) /\
  (0<=Sp.orI .i64 (Sp.orI .i64 (Sp.orI .i64 s 11) 4) 16/\Sp.orI .i64 (Sp.orI .i64 (Sp.orI .i64 s 11) 4) 16<=31/\Sp.sb (Sp.orI .i64 (Sp.orI .i64 (Sp.orI .i64 s 11) 4) 16) 1=true/\Sp.sb (Sp.orI .i64 (Sp.orI .i64 (Sp.orI .i64 s 11) 4) 16) 2=true/\Sp.sb (Sp.orI .i64 (Sp.orI .i64 (Sp.orI .i64 s 11) 4) 16) 4=true/\Sp.sb (Sp.orI .i64 (Sp.orI .i64 (Sp.orI .i64 s 11) 4) 16) 8=true/\Sp.sb (Sp.orI .i64 (Sp.orI .i64 (Sp.orI .i64 s 11) 4) 16) 16=true) /\
  (0<=Sp.andnI .i64 (Sp.orI .i64 s 8) 1/\Sp.andnI .i64 (Sp.orI .i64 s 8) 1<=31/\Sp.sb (Sp.andnI .i64 (Sp.orI .i64 s 8) 1) 1=false/\Sp.sb (Sp.andnI .i64 (Sp.orI .i64 s 8) 1) 2=Sp.sb s 2/\Sp.sb (Sp.andnI .i64 (Sp.orI .i64 s 8) 1) 4=Sp.sb s 4/\Sp.sb (Sp.andnI .i64 (Sp.orI .i64 s 8) 1) 8=true/\Sp.sb (Sp.andnI .i64 (Sp.orI .i64 s 8) 1) 16=Sp.sb s 16))) (by decide+kernel) h0 h1
 exact of_decide_eq_true this
theorem sb8:Sp.sb 8 1=false/\Sp.sb 8 2=false/\Sp.sb 8 4=false/\Sp.sb 8 8=true/\Sp.sb 8 16=false:=by decide
theorem Gp2{c:CfT}{f:FaT}{cyc:Int}(hc:Sp.cfg c=true)(h:Rg c f cyc):Rg c (Sp.beg1 f) (cyc+1):=by
 simp only[Sp.cfg,Bool.and_eq_true,Bj0]at hc
 have ht:=(tabs h.s0 h.s1).1
 have hl:=h.l1
 unfold Sp.beg1
 refine⟨ht.1,ht.2.1,?_,?_,h.y0,h.y1,h.c0,h.c1,h.o0,h.o1,h.l0,?_,h.fr,?_,?_,?_,?_,?_,?_⟩<;>dsimp only
 ·omega
 ·omega
 ·omega
 ·rw[ht.2.2.1];intro h;cases h
 ·rw[ht.2.2.2.2.1];exact h.co
 ·rw[ht.2.2.2.2.1,ht.2.2.2.2.2.2];exact h.lp
 ·rw[ht.2.2.2.1];exact h.pe
 ·rw[ht.2.2.2.1,ht.2.2.2.2.1];exact h.kn
 ·rw[ht.2.2.2.1,ht.2.2.2.2.1];exact h.un
theorem Fs2{c:CfT}{f:FaT}{cyc:Int}(hc:Sp.cfg c=true)(h:Rg c f cyc):Rg c (Sp.fg1 f) cyc:=by
 simp only[Sp.cfg,Bool.and_eq_true,Bj0]at hc
 have hl:=h.l1
 have hl0:=h.l0
 have ht:=sb8
 unfold Sp.fg1
 refine⟨?_,?_,h.n0,h.n1,?_,?_,?_,?_,?_,?_,?_,?_,rfl,?_,?_,?_,?_,?_,?_⟩<;>dsimp only
 ·omega
 ·omega
 ·omega
 ·omega
 ·omega
 ·omega
 ·omega
 ·omega
 ·omega
 ·omega
 ·rw[ht.1];intro h;cases h
 ·rw[ht.2.2.1];decide
 ·rw[ht.2.2.2.2];intro h;cases h
 ·intro _;rfl
 ·rw[ht.2.1,ht.2.2.1];intro h;rcases h with h|h<;>cases h
 ·intro _ _;exact⟨rfl,rfl,rfl,rfl,rfl⟩
theorem Fz2{c:CfT}{f:FaT}{cyc:Int}(hc:Sp.cfg c=true)(h:Rg c f cyc):Rg c (Sp.end1 c cyc f) cyc:=by
 have hc':=hc
 simp only[Sp.cfg,Bool.and_eq_true,Bj0]at hc
 have ht:=(tabs h.s0 h.s1).2.1
 have hu:=(tabs h.s0 h.s1).2.2.1
 unfold Sp.end1
 split
 ·rename_i h1
  rw[Tw0,ht.2.2.2.2.1]
  split
  ·rename_i h4
   have hk:=h.kn (Or.inr h4)
   have hc0:=h.c0
   have hc1:=h.c1
   split
   ·exact Fs2 hc' h
   ·rename_i ha
    split
    ·refine⟨hu.1,hu.2.1,h.n0,h.n1,h.y0,h.y1,?_,?_,h.o0,h.o1,h.l0,h.l1,h.fr,?_,?_,?_,?_,?_,?_⟩<;>dsimp only
     ·omega
     ·omega
     ·rw[hu.2.2.1];intro hf;exact absurd (h.fa hf).2.2 h1.2
     ·rw[hu.2.2.2.2.1];exact h.co
     ·rw[hu.2.2.2.2.2.2];intro h;cases h
     ·rw[hu.2.2.2.1];intro h;cases h
     ·intro _;exact hk
     ·rw[hu.2.2.2.2.1,h4];intro _ h;cases h
    ·refine⟨ht.1,ht.2.1,h.n0,h.n1,h.y0,h.y1,?_,?_,h.o0,h.o1,h.l0,h.l1,h.fr,?_,?_,?_,?_,?_,?_⟩<;>dsimp only
     ·omega
     ·omega
     ·rw[ht.2.2.1];intro hf;exact absurd (h.fa hf).2.2 h1.2
     ·rw[ht.2.2.2.2.1];exact h.co
     ·rw[ht.2.2.2.2.2.2,ht.2.2.2.2.1];exact h.lp
     ·rw[ht.2.2.2.1];intro h;cases h
     ·intro _;exact hk
     ·rw[ht.2.2.2.2.1,h4];intro _ h;cases h
  ·exact Fs2 hc' h
 ·exact h
theorem Ms2{c:CfT}(hc:Sp.cfg c=true)(bad:Bool){n:Int}:0-c.2.2.1<=Sp.cnt1 c bad n/\Sp.cnt1 c bad n<=c.2.1:=by
 simp only[Sp.cfg,Bool.and_eq_true,Bj0]at hc
 unfold Sp.cnt1
 dsimp only
 split<;>split<;>split<;>omega
theorem Ed2{c:CfT}{f:FaT}{cyc:Int}{bad:Bool}{frame:List Int}(hc:Sp.cfg c=true)(hy:1<=cyc)(hf:Sp.frm c frame=true)(h:Rg c f cyc):Rg c (Sp.res1 c cyc bad frame f) cyc:=by
 have hn:=Ms2 hc bad (n:=f.2.1)
 simp only[Sp.frm,Bool.and_eq_true,beq_iff_eq]at hf
 unfold Sp.res1
 dsimp only
 generalize Sp.cnt1 c bad f.2.1=n at *
 have hts:=tabs h.s0 h.s1
 split
 ·
  have h11:=hts.2.2.2.1
  have h4:=hts.2.2.2.2.1
  have h16:=hts.2.2.2.2.2.1
  simp only[Sp.cfg,Bool.and_eq_true,Bj0]at hc
  have ho0:=h.o0
  have ho1:=h.o1
  have hy0:=h.y0
  have hy1:=h.y1
  have hl0:=h.l0
  have hl1:=h.l1
  have hoc:∀oc:Int,oc=(if Sp.bt f 1=true then f.2.2.2.2.1 else if 255<f.2.2.2.2.1+1 then 255 else f.2.2.2.2.1+1)->1<=oc/\oc<=255:=by
   intro oc e
   subst e
   rw[Tw0]
   split
   ·rename_i h1
    have:=h.kn (Or.inl (h.fa h1).1)
    omega
   ·split<;>omega
  have hfr:∀fr:List Int,fr=(if Sp.bt f 1=true then f.2.2.2.2.2.1 else if Sp.bt f 4=true then f.2.2.2.2.2.1 else frame)->Sp.vals fr=true/\(fr.length:Int)=c.2.2.2.2.2.2.2.1:=by
   intro fr e
   subst e
   rw[Tw0,Tw0]
   split
   ·rename_i h1
    exact⟨h.fr,(h.kn (Or.inl (h.fa h1).1)).2.2.2⟩
   ·split
    ·rename_i h4
     exact⟨h.fr,(h.kn (Or.inr h4)).2.2.2⟩
    ·exact⟨hf.2,hf.1⟩
  unfold Sp.fail1
  dsimp only
  have hoc:=hoc _ rfl
  have hfr:=hfr _ rfl
  generalize (if Sp.bt f 1=true then f.2.2.2.2.1 else if 255<f.2.2.2.2.1+1 then 255 else f.2.2.2.2.1+1)=oc at hoc
  generalize (if Sp.bt f 1=true then f.2.2.2.2.2.1 else if Sp.bt f 4=true then f.2.2.2.2.2.1 else frame)=fr at hfr
  split
  ·rename_i hlast
   have hkn:f.2.2.1>=1:=by
    cases e2:Sp.sb f.1 2
    ·cases e4:Sp.sb f.1 4
     ·have:=h.un e2 e4
      omega
     ·exact(h.kn (Or.inr e4)).2.1
    ·exact(h.kn (Or.inl e2)).2.1
   refine⟨h11.1,h11.2.1,hn.1,hn.2,h.y0,h.y1,?_,?_,?_,?_,h.l0,h.l1,hfr.1,?_,?_,?_,?_,?_,?_⟩<;>dsimp only
   ·omega
   ·omega
   ·omega
   ·omega
   ·intro _;exact⟨h11.2.2.2.1,h11.2.2.2.2.2.1,hlast⟩
   ·rw[h11.2.2.2.2.1];exact h.co
   ·rw[h11.2.2.2.2.1,h11.2.2.2.2.2.2];exact h.lp
   ·intro _;rfl
   ·intro _;exact⟨hoc.1,hkn,by omega,hfr.2⟩
   ·rw[h11.2.2.2.1];intro h;cases h
  ·rename_i hlast
   have hco:=h.co
   by_cases h2:(if 2<f.2.2.1+1 then(2:Int)else f.2.2.1+1)<2
   ·have hcy:(if 2<f.2.2.1+1 then(2:Int)else f.2.2.1+1)=f.2.2.1+1:=by
     by_cases e:2<f.2.2.1+1
     ·rw[if_pos e]at h2;omega
     ·rw[if_neg e]
    rw[if_pos h2]
    rw[hcy]at h2⊢
    refine⟨h11.1,h11.2.1,hn.1,hn.2,?_,?_,?_,?_,?_,?_,?_,?_,hfr.1,?_,?_,?_,?_,?_,?_⟩<;>dsimp only
    ·omega
    ·omega
    ·omega
    ·omega
    ·omega
    ·omega
    ·omega
    ·omega
    ·intro _;exact⟨h11.2.2.2.1,h11.2.2.2.2.2.1,rfl⟩
    ·rw[h11.2.2.2.2.1]
     constructor
     ·intro e;have:=hco.1 e;omega
     ·intro e;omega
    ·rw[h11.2.2.2.2.1,h11.2.2.2.2.2.2];exact h.lp
    ·intro _;rfl
    ·intro _;exact⟨hoc.1,by omega,by omega,hfr.2⟩
    ·rw[h11.2.2.2.1];intro h;cases h
   ·have hcy:(if 2<f.2.2.1+1 then(2:Int)else f.2.2.1+1)=2:=by
     by_cases e:2<f.2.2.1+1
     ·rw[if_pos e]
     ·rw[if_neg e]at h2⊢;omega
    rw[if_neg h2,hcy]
    split
    ·rename_i hlamp
     refine⟨h16.1,h16.2.1,hn.1,hn.2,?_,?_,?_,?_,?_,?_,?_,?_,hfr.1,?_,?_,?_,?_,?_,?_⟩<;>dsimp only
     ·omega
     ·omega
     ·omega
     ·omega
     ·omega
     ·omega
     ·omega
     ·omega
     ·intro _;exact⟨h16.2.2.2.1,h16.2.2.2.2.2.1,rfl⟩
     ·rw[h16.2.2.2.2.1];simp
     ·intro _;exact⟨h16.2.2.2.2.1,hlamp⟩
     ·intro _;rfl
     ·intro _;exact⟨hoc.1,by omega,by omega,hfr.2⟩
     ·rw[h16.2.2.2.1];intro h;cases h
    ·refine⟨h4.1,h4.2.1,hn.1,hn.2,?_,?_,?_,?_,?_,?_,?_,?_,hfr.1,?_,?_,?_,?_,?_,?_⟩<;>dsimp only
     ·omega
     ·omega
     ·omega
     ·omega
     ·omega
     ·omega
     ·omega
     ·omega
     ·intro _;exact⟨h4.2.2.2.1,h4.2.2.2.2.2.1,rfl⟩
     ·rw[h4.2.2.2.2.1];simp
     ·rw[h4.2.2.2.2.2.2];intro e;exact⟨h4.2.2.2.2.1,(h.lp e).2⟩
     ·intro _;rfl
     ·intro _;exact⟨hoc.1,by omega,by omega,hfr.2⟩
     ·rw[h4.2.2.2.1];intro h;cases h
 ·split
  ·have h8:=hts.2.2.2.2.2.2
   refine⟨h8.1,h8.2.1,hn.1,hn.2,h.y0,h.y1,h.c0,h.c1,h.o0,h.o1,h.l0,h.l1,h.fr,?_,?_,?_,?_,?_,?_⟩<;>dsimp only
   ·rw[h8.2.2.1];intro h;cases h
   ·rw[h8.2.2.2.2.1];exact h.co
   ·rw[h8.2.2.2.2.1,h8.2.2.2.2.2.2];exact h.lp
   ·rw[h8.2.2.2.1];exact h.pe
   ·rw[h8.2.2.2.1,h8.2.2.2.2.1];exact h.kn
   ·rw[h8.2.2.2.1,h8.2.2.2.2.1];exact h.un
  ·exact⟨h.s0,h.s1,hn.1,hn.2,h.y0,h.y1,h.c0,h.c1,h.o0,h.o1,h.l0,h.l1,h.fr,h.fa,h.co,h.lp,h.pe,h.kn,h.un⟩
set_option maxRecDepth 100000
set_option maxHeartbeats 4000000
theorem Mb1{F:FsT}(h:Vf F)(p2:FsT)(p3 p7 p9:Int×Bool×Unit)(p4 p6 p10:List CfT)(p5 p11:List FaT):L_43_71_0_0 4611686018427387904 F.2.1.length 0 p2 p3 p4 p5 p6 p7 F.2.1 p9 p10 p11=some (.e0 p2 p3 p4 p5 p6 p7 F.2.1 p9 p10 p11):=by
 have h1:=run0 (fun m i(_:Unit)=>L_43_71_0_0 m F.2.1.length i p2 p3 p4 p5 p6 p7 F.2.1 p9 p10 p11) (n:=F.2.1.length) (fun _=>()) (r:=some (.e0 p2 p3 p4 p5 p6 p7 F.2.1 p9 p10 p11)) h.sm.l (fun m j hj=>by
  show L_43_71_0_0 (m+1) F.2.1.length (j:Int) p2 p3 p4 p5 p6 p7 F.2.1 p9 p10 p11=L_43_71_0_0 m F.2.1.length ((j+1:Nat):Int) p2 p3 p4 p5 p6 p7 F.2.1 p9 p10 p11
  have hl:=h.l
  have hn:=h.n
  have hf:=h.fl (j:=j) (by omega)
  rw[L_43_71_0_0,S_43_71_0_0,Af0 (by omega)]
  simp only[Ap0 (show(0:Int)<=(j:Int) by omega) (show(j:Int)<((F.2.1.length:Nat):Int) by omega),Int.toNat_natCast,Bool.and_true,Eq0 hj]
  rw[Be0 (by omega) (by omega),wi64 (by omega) (by omega)]
  have e:F.2.1.set j (F.2.1.getD j Zd1)=F.2.1:=sg _ hj
  push_cast
  exact congrArg (fun L=>L_43_71_0_0 m F.2.1.length ((j:Int)+1) p2 p3 p4 p5 p6 p7 L p9 p10 p11) e) (fun m=>by
  show L_43_71_0_0 (m+1) F.2.1.length F.2.1.length p2 p3 p4 p5 p6 p7 F.2.1 p9 p10 p11=_
  rw[L_43_71_0_0,S_43_71_0_0,Ad0 (by omega)])
 exact h1
noncomputable def Sp.resF(F:FsT)(k:Nat)(bad:Bool)(frame:List Int):FsT×Int×Unit:=((F.1,F.2.1.set k (Sp.res1 (F.1.getD k Zd0) F.2.2.1 bad frame (F.2.1.getD k Zd1)),F.2.2),0,())
theorem Mq2{n:Int}{c:CfT}(h0: -1000<=n)(h1:n<=1000)(h2:1<=c.2.1)(h3:c.2.1<=100):(if wrap .i64 ((if(0:Int)>n then(0:Int)else n)+(1:Int))<c.2.1 then wrap .i64 ((if(0:Int)>n then(0:Int)else n)+(1:Int))else c.2.1)=Sp.cnt1 c true n:=by
 have e:(if(0:Int)>n then(0:Int)else n)=(if n>0 then n else 0):=by split<;>split<;>omega
 have e2:0<=(if n>0 then n else 0)/\(if n>0 then n else 0)<=1000:=by split<;>omega
 unfold Sp.cnt1
 rw[if_pos rfl,e]
 dsimp only
 generalize (if n>0 then n else 0)=a at *
 rw[wi64 (by omega) (by omega)]
 split<;>split<;>omega
theorem Mr2{n:Int}{c:CfT}(h0: -1000<=n)(h1:n<=1000)(h2:1<=c.2.2.1)(h3:c.2.2.1<=100):(if wrap .i64 ((if(0:Int)<n then(0:Int)else n)-(1:Int))>wrap .i64 ((0:Int)-c.2.2.1)then wrap .i64 ((if(0:Int)<n then(0:Int)else n)-(1:Int))else wrap .i64 ((0:Int)-c.2.2.1))=Sp.cnt1 c false n:=by
 have e:(if(0:Int)<n then(0:Int)else n)=(if n<0 then n else 0):=by split<;>split<;>omega
 have e2: -1000<=(if n<0 then n else 0)/\(if n<0 then n else 0)<=0:=by split<;>omega
 unfold Sp.cnt1
 rw[if_neg Bool.false_ne_true,e,wi64 (n:=0-c.2.2.1) (by omega) (by omega)]
 dsimp only
 generalize (if n<0 then n else 0)=a at *
 rw[wi64 (by omega) (by omega)]
 split<;>split<;>omega
theorem Eh2{L:List FaT}{C:List CfT}{cy z:Int×Bool×Unit}{z1:List CfT}{z2:List FaT}{k:Nat}{bad:Bool}{frame:List Int}(hk:k<L.length)(hkc:k<C.length)(hfr:frame.length<=8)
 (hc:Sp.cfg (C.getD k Zd0)=true) (h:Rg (C.getD k Zd0) (L.getD k Zd1) cy.1) :
 B_43_2 (J_43_2 (k:Int) bad frame C cy L z z1 z2) (fun(y51:List CfT)(y52:Int×Bool×Unit)(y53:List FaT)=>some ((y51,y53,y52),(0:Int),PUnit.unit)) (fun(y54:Nat)(y55:List CfT)(y56:Int×Bool×Unit)(y57:List FaT)=>some ((y55,List.set y57 y54 ((getD y57 y54 Zd1).1,(getD y57 y54 Zd1).2.1,(if wrap .i64 ((getD y57 y54 Zd1).2.2.1+(1:Int))<(2:Int)then wrap .i64 ((getD y57 y54 Zd1).2.2.1+(1:Int))else(2:Int)),(getD y57 y54 Zd1).2.2.2),y56),(0:Int),PUnit.unit)) (fun(y58:Nat)(y59:List CfT)(y60:Int×Bool×Unit)(y61:List FaT)=>some ((y59,List.set y61 y58 (Sp.orI .i64 (getD y61 y58 Zd1).1 (16:Int),(getD y61 y58 Zd1).2),y60),(0:Int),PUnit.unit)) (fun(y62:Nat)(y63:List CfT)(y64:Int×Bool×Unit)(y65:List FaT)=>some ((y63,List.set y65 y62 (Sp.andnI .i64 (getD y65 y62 Zd1).1 (1:Int),(getD y65 y62 Zd1).2),y64),(0:Int),PUnit.unit))
 =some ((C,L.set k (Sp.res1 (C.getD k Zd0) cy.1 bad frame (L.getD k Zd1)),cy),0,()):=by
 have hcb:=hc
 simp only[Sp.cfg,Bool.and_eq_true,Bj0]at hcb
 unfold Sp.res1
 generalize hce:C.getD k Zd0=c at *
 generalize hx:L.getD k Zd1=x at *
 have hn0:=h.n0
 have hn1:=h.n1
 have ho0:=h.o0
 have ho1:=h.o1
 have hy0:=h.y0
 have hy1:=h.y1
 have hgs:∀v:FaT,(L.set k v).getD k Zd1=v:=fun v=>gs hk
 have hcnt1:(if wrap .i64 ((if(0:Int)>x.2.1 then(0:Int)else x.2.1)+(1:Int))<c.2.1 then wrap .i64 ((if(0:Int)>x.2.1 then(0:Int)else x.2.1)+(1:Int))else c.2.1)=Sp.cnt1 c true x.2.1:=by
  exact Mq2 (by omega) (by omega) (by omega) (by omega)
 have hcnt2:(if wrap .i64 ((if(0:Int)<x.2.1 then(0:Int)else x.2.1)-(1:Int))>wrap .i64 ((0:Int)-c.2.2.1)then wrap .i64 ((if(0:Int)<x.2.1 then(0:Int)else x.2.1)-(1:Int))else wrap .i64 ((0:Int)-c.2.2.1))=Sp.cnt1 c false x.2.1:=by
  exact Mr2 (by omega) (by omega) (by omega) (by omega)
 have hin1:inB (k:Int) L.length=true:=Wl1 (by omega) (by omega)
 have hin2:inB (k:Int) C.length=true:=Wl1 (by omega) (by omega)
 have hd:decide (k<L.length)=true:=decide_eq_true hk
 have hroom:room frame.length 8=true:=Ya0 (by omega) (by omega)
 have hw1:wrap .i64 ((0:Int)-c.2.2.1)=0-c.2.2.1:=wi64 (by omega) (by omega)
 have hw2:wrap .i64 (x.2.2.2.2.1+1)=x.2.2.2.2.1+1:=wi64 (by omega) (by omega)
 have hw3:wrap .i64 (x.2.2.1+1)=x.2.2.1+1:=wi64 (by omega) (by omega)
 have hoc:(if x.2.2.2.2.1+1<255 then x.2.2.2.2.1+1 else(255:Int))=(if 255<x.2.2.2.2.1+1 then 255 else x.2.2.2.2.1+1):=by
  split<;>split<;>omega
 have hcy:(if x.2.2.1+1<2 then x.2.2.1+1 else(2:Int))=(if 2<x.2.2.1+1 then 2 else x.2.2.1+1):=by
  split<;>split<;>omega
 have hJ3:∀n:Int,B_43_3 (J_43_3 frame k C cy (L.set k (x.1,n,x.2.2)) z z1 z2 c) (fun(y51:List CfT)(y52:Int×Bool×Unit)(y53:List FaT)=>some ((y51,y53,y52),(0:Int),PUnit.unit)) (fun(y54:Nat)(y55:List CfT)(y56:Int×Bool×Unit)(y57:List FaT)=>some ((y55,List.set y57 y54 ((getD y57 y54 Zd1).1,(getD y57 y54 Zd1).2.1,(if wrap .i64 ((getD y57 y54 Zd1).2.2.1+(1:Int))<(2:Int)then wrap .i64 ((getD y57 y54 Zd1).2.2.1+(1:Int))else(2:Int)),(getD y57 y54 Zd1).2.2.2),y56),(0:Int),PUnit.unit)) (fun(y58:Nat)(y59:List CfT)(y60:Int×Bool×Unit)(y61:List FaT)=>some ((y59,List.set y61 y58 (Sp.orI .i64 (getD y61 y58 Zd1).1 (16:Int),(getD y61 y58 Zd1).2),y60),(0:Int),PUnit.unit)) (fun(y62:Nat)(y63:List CfT)(y64:Int×Bool×Unit)(y65:List FaT)=>some ((y63,List.set y65 y62 (Sp.andnI .i64 (getD y65 y62 Zd1).1 (1:Int),(getD y65 y62 Zd1).2),y64),(0:Int),PUnit.unit)) (fun(y51:List CfT)(y52:Int×Bool×Unit)(y53:List FaT)=>some ((y51,y53,y52),(0:Int),PUnit.unit))=some ((C,L.set k (if n=c.2.1 then Sp.fail1 c cy.1 frame x n else if n=0-c.2.2.1 then(Sp.andnI .i64 (Sp.orI .i64 x.1 8) 1,n,x.2.2)else(x.1,n,x.2.2)),cy),0,()):=by
  intro n
  by_cases hA:n=c.2.1
  ·rw[if_pos hA]
   have hA':(n==c.2.1)=true:=beq_iff_eq.2 hA
   unfold Sp.fail1
   dsimp only
   cases h1:Sp.sb x.1 1<;>cases h4:Sp.sb x.1 4<;>cases hl:(x.2.2.2.2.2.2.1==cy.1)<;>cases hlm:c.2.2.2.2.2.2.1<;>by_cases hy:(if 2<x.2.2.1+1 then(2:Int)else x.2.2.1+1)<2<;>
    (first|rw[if_pos (beq_iff_eq.1 hl)]|rw[if_neg (beq_eq_false_iff_ne.1 hl)])<;>
    simp only[J_43_2,S_43_2,J_43_3,S_43_3,J_43_4,S_43_4,J_43_72_0_0,S_43_72_0_0,J_43_72_1_0,S_43_72_1_0,J_43_72_2_0,S_43_72_2_0,J_43_72_3_0,S_43_72_3_0,J_43_72_4_0,S_43_72_4_0,J_43_72_5_0,S_43_72_5_0,B_43_1,B_43_2,B_43_3,B_43_4,B_43_72_0_0,B_43_72_1_0,B_43_72_2_0,B_43_72_3_0,B_43_72_4_0,B_43_72_5_0,Ol0,Ai0,Bool.and_true,List.length_set,List.set_set,cond_true,cond_false,Bool.not_true,Bool.not_false,Tw0,hgs,hd,hA',hw2,hw3,hoc,hcy,hroom,h1,h4,hl,hlm,hy,beq_self_eq_true,if_true,if_false,Bool.false_eq_true,decide_true,decide_false]
  ·rw[if_neg hA]
   have hA':(n==c.2.1)=false:=beq_eq_false_iff_ne.2 hA
   by_cases hB:n=0-c.2.2.1
   ·rw[if_pos hB]
    have hB':(n==0-c.2.2.1)=true:=beq_iff_eq.2 hB
    simp only[J_43_2,S_43_2,J_43_3,S_43_3,J_43_4,S_43_4,J_43_72_0_0,S_43_72_0_0,J_43_72_1_0,S_43_72_1_0,J_43_72_2_0,S_43_72_2_0,J_43_72_3_0,S_43_72_3_0,J_43_72_4_0,S_43_72_4_0,J_43_72_5_0,S_43_72_5_0,B_43_1,B_43_2,B_43_3,B_43_4,B_43_72_0_0,B_43_72_1_0,B_43_72_2_0,B_43_72_3_0,B_43_72_4_0,B_43_72_5_0,Ol0,Ai0,Bool.and_true,List.length_set,List.set_set,cond_true,cond_false,Bool.not_true,Bool.not_false,Tw0,hgs,hd,hA',hw1,hB']
   ·rw[if_neg hB]
    have hB':(n==0-c.2.2.1)=false:=beq_eq_false_iff_ne.2 hB
    simp only[J_43_2,S_43_2,J_43_3,S_43_3,J_43_4,S_43_4,J_43_72_0_0,S_43_72_0_0,J_43_72_1_0,S_43_72_1_0,J_43_72_2_0,S_43_72_2_0,J_43_72_3_0,S_43_72_3_0,J_43_72_4_0,S_43_72_4_0,J_43_72_5_0,S_43_72_5_0,B_43_1,B_43_2,B_43_3,B_43_4,B_43_72_0_0,B_43_72_1_0,B_43_72_2_0,B_43_72_3_0,B_43_72_4_0,B_43_72_5_0,Ol0,Ai0,Bool.and_true,List.length_set,List.set_set,cond_true,cond_false,Bool.not_true,Bool.not_false,Tw0,hgs,hd,hA',hw1,hB']
 unfold J_43_2 S_43_2
 simp only[hin1,hin2,Ai0,Int.toNat_natCast,hx,hce,hd,Bool.and_true,hcnt1,hcnt2]
 have hBB:∀(r:Option E_43_3)(k0:List CfT->Int×Bool×Unit->List FaT->Option (FsT×Int×Unit))(k1 k2 k3:Nat->List CfT->Int×Bool×Unit->List FaT->Option (FsT×Int×Unit)),B_43_2 (B_43_3 r (fun a b c=>some (.e0 a b c)) (fun a b c d=>some (.e1 a b c d)) (fun a b c d=>some (.e2 a b c d)) (fun a b c d=>some (.e3 a b c d)) (fun a b c=>some (.e0 a b c))) k0 k1 k2 k3=B_43_3 r k0 k1 k2 k3 k0:=by
  intro r k0 k1 k2 k3
  cases r with
  |none=>rfl
  |some e=>cases e<;>rfl
 cases bad
 ·rw[At0,hBB,hJ3]
 ·rw[Cf0,hBB,hJ3]
theorem Ef2{F:FsT}{k:Nat}{bad:Bool}{frame:List Int}(h:Vf F)(hk:k<F.1.length)(hrun:F.2.2.2.1=true)(hf:Sp.frm (F.1.getD k Zd0) frame=true):F_43 F k bad frame=some (Sp.resF F k bad frame):=by
 have hl:=h.l
 have hn:=h.n
 have hcb:=h.cf hk
 have hfl:frame.length<=8:=by
  simp only[Sp.frm,Sp.cfg,Bool.and_eq_true,beq_iff_eq,Bj0]at hf hcb
  omega
 have hJ1:=Eh2 (cy:=F.2.2) (z:=(0,false,())) (z1:=[]) (z2:=[]) (bad:=bad) (frame:=frame) (show k<F.2.1.length by omega) hk hfl (h.cf hk) (Im0.1 (h.r k hk))
 unfold F_43 Sp.resF
 rw[(Mh0 h.sm).1,(Mh0 h.sm).2,Ai0,Gx0.2 h,Bool.not_true,At0,Ad0 (by omega),decide_eq_false (by omega)]
 have hJ0:∀(z:Int×Bool×Unit)(z1:List CfT)(z2:List FaT),J_43_0 (k:Int) bad frame false F z z1 z2=some (.e3 (k:Int) bad frame F z z1 z2):=by
  intro z z1 z2
  unfold J_43_0 S_43_0
  rw[At0,hrun,Bool.not_true,At0,Ap0 (by omega) (by omega),Int.toNat_natCast,(Jg1 _ _ (by omega)).1,(Jg1 _ _ (by omega)).2,Ai0,hf]
  rfl
 rw[hJ0]
 simp only[B_43_0,J_43_1,S_43_1]
 rw[Be0 (by omega) (by omega),Mb1 h]
 simp only[B_43_71_0_0]
 have hBB:∀(r:Option E_43_2)(k0:List CfT->Int×Bool×Unit->List FaT->Option (FsT×Int×Unit))(k1 k2 k3:Nat->List CfT->Int×Bool×Unit->List FaT->Option (FsT×Int×Unit)),B_43_1 (B_43_2 r (fun a b c=>some (.e0 a b c)) (fun a b c d=>some (.e1 a b c d)) (fun a b c d=>some (.e2 a b c d)) (fun a b c d=>some (.e3 a b c d))) k0 k1 k2 k3=B_43_2 r k0 k1 k2 k3:=by
  intro r k0 k1 k2 k3
  cases r with
  |none=>rfl
  |some e=>cases e<;>rfl
 rw[hBB]
 exact hJ1
theorem Ee2{F:FsT}{k:Nat}{bad:Bool}{frame:List Int}(h:Vf F)(hk:k<F.1.length)(hrun:F.2.2.2.1=true)(hf:Sp.frm (F.1.getD k Zd0) frame=true):p_43 F k bad frame=true/\v_43 F k bad frame=Sp.resF F k bad frame:=Em2 F k bad frame (Ef2 h hk hrun hf)
theorem Vk1{F:FsT}{k:Nat}{bad:Bool}{frame:List Int}(h:Vf F)(hk:k<F.1.length)(hrun:F.2.2.2.1=false):p_43 F k bad frame=true/\v_43 F k bad frame=(([],[],0,false,()),6,()):=by
 refine Em2 F k bad frame ?_
 have hl:=h.l
 unfold F_43
 rw[(Mh0 h.sm).1,(Mh0 h.sm).2,Ai0,Gx0.2 h,Bool.not_true,At0,Ad0 (by omega),decide_eq_false (by omega)]
 unfold J_43_0 S_43_0
 rw[At0,hrun]
 rfl
abbrev ActT:=Int×Int×(Int×Int×Unit)×Unit
theorem Ei2(x:Int):∀n:Nat,n<=8->F_44 [x] (n:Int)=some (replicate n x,())
 |0,_=>by kernel_rfl
 |1,_=>by kernel_rfl
 |2,_=>by kernel_rfl
 |3,_=>by kernel_rfl
 |4,_=>by kernel_rfl
 |5,_=>by kernel_rfl
 |6,_=>by kernel_rfl
 |7,_=>by kernel_rfl
 |8,_=>by kernel_rfl
 |n+9,h=>by omega
theorem Fp2{n:Int}(h0:0<=n)(h1:n<=8):(if(if n<(8:Int)then n else(8:Int))>(0:Int)then if n<(8:Int)then n else(8:Int)else(0:Int))=n:=by
 have e:(if n<(8:Int)then n else(8:Int))=n:=by split<;>omega
 rw[e]
 split<;>omega
theorem Vl1{c:CfT}(hc:Sp.cfg c=true){x:Int}(h0:0<=x)(h1:x<=255):Sp.frm c (replicate c.2.2.2.2.2.2.2.1.toNat x)=true:=by
 simp only[Sp.cfg,Bool.and_eq_true,Bj0]at hc
 simp only[Sp.frm,Sp.vals,Bool.and_eq_true,beq_iff_eq,List.length_replicate,List.all_eq_true,List.mem_range]
 refine⟨by omega,fun j hj=> ?_⟩
 rw[getD_at 0 (by simpa using hj),List.getElem_replicate]
 exact Bj0.2 ⟨by omega,by omega⟩
theorem Eg2{F:FsT}{k:Nat}{bad:Bool}{frame:List Int}(h:Vf F)(hk:k<F.1.length)(hrun:F.2.2.2.1=true)(hf:Sp.frm (F.1.getD k Zd0) frame=true):Vf (Sp.resF F k bad frame).1:=by
 have hl:=h.l
 have hk':k<F.2.1.length:=by omega
 have hr:=h.run hrun
 unfold Sp.resF
 refine⟨h.n,h.c,h.d,by rw[List.length_set];exact hl,h.y0,h.y1,h.run,fun j hj=> ?_⟩
 dsimp only
 rw[Qa1 _ _ _ _ _ hk']
 split
 ·rename_i e
  subst e
  exact Im0.2 (Ed2 (h.cf hj) hr hf (Im0.1 (h.r k hj)))
 ·exact h.r j hj
theorem Gc2{F:FsT}(h:Vf F)(hrun:F.2.2.2.1=true):(Sp.endF F).2.1=0/\Vf (Sp.endF F).1/\(Sp.endF F).1.1=F.1/\F.2.2.1<=(Sp.endF F).1.2.2.1:=by
 have hl:=h.l
 unfold Sp.endF
 rw[if_pos (Gx0.2 h),if_pos hrun]
 refine⟨rfl,⟨h.n,h.c,h.d,by rw[Dd0];exact hl,h.y0,h.y1,(by intro h;cases h),fun j hj=> ?_⟩,rfl,Int.le_refl _⟩
 dsimp only at hj⊢
 rw[Fd0 _ (by omega),if_pos (by omega)]
 exact Im0.2 (Fz2 (h.cf hj) (Im0.1 (h.r j hj)))
theorem Gs2{F:FsT}(h:Vf F)(hrun:F.2.2.2.1=false)(hy:¬F.2.2.1=1073741824):(Sp.begF F).2.1=0/\Vf (Sp.begF F).1/\(Sp.begF F).1.1=F.1/\F.2.2.1<=(Sp.begF F).1.2.2.1:=by
 have hl:=h.l
 have hy0:=h.y0
 have hy1:=h.y1
 unfold Sp.begF
 rw[if_pos (Gx0.2 h),if_neg (by rw[hrun];decide),if_neg hy]
 refine⟨rfl,?_,rfl,by dsimp only;omega⟩
 refine⟨h.n,h.c,h.d,by rw[Dd0];exact hl,?_,?_,?_,fun j hj=> ?_⟩<;>dsimp only at *
 ·omega
 ·omega
 ·intro _;omega
 ·rw[Fd0 _ (by omega),if_pos (by omega)]
  exact Im0.2 (Gp2 (h.cf hj) (Im0.1 (h.r j hj)))
theorem Gt2{F:FsT}(h:Vf F)(hrun:F.2.2.2.1=false)(hy:F.2.2.1=1073741824):(Sp.begF F).2.1=9:=by
 unfold Sp.begF
 rw[if_pos (Gx0.2 h),if_neg (by rw[hrun];decide),if_pos hy]
 rfl
theorem do_h{f:FsT}(h:Vf f)(a:ActT)(a0:0<=a.2.1)(a1:a.2.1<=255):∃n:FsT,(p_12 f a=true/\v_12 f a=(n,()))/\Vf n/\n.1=f.1/\f.2.2.1<=n.2.2.1:=by
 suffices z:∃n:FsT,F_12 f a=some (n,())/\Vf n/\n.1=f.1/\f.2.2.1<=n.2.2.1 by
  obtain⟨n,z,q⟩:=z
  exact⟨n,Lz2 f a z,q⟩
 have same:Vf f/\f.1=f.1/\f.2.2.1<=f.2.2.1:=⟨h,rfl,Int.le_refl _⟩
 unfold F_12
 by_cases k0:a.1=0
 ·rw[Aw0 k0]
  cases hr:f.2.2.2.1
  ·have b:=Gq2 h.sm
   rw[At0]
   unfold J_12_0 S_12_0
   rw[Aw0 k0,b.1,Ai0]
   show ∃n:FsT,(bif(v_42 f).2.1 !=0 then some (f,())else some ((v_42 f).1,()))=some (n,())/\_
   rw[b.2]
   by_cases y:f.2.2.1=1073741824
   ·rw[Gt2 h hr y]
    exact⟨f,rfl,same⟩
   ·have n:=Gs2 h hr y
    rw[n.1]
    exact⟨_,rfl,n.2⟩
  ·have e:=Ga2 h.sm
   have n:=Gc2 h hr
   rw[Cf0,e.1,Ai0,e.2,n.1]
   exact⟨_,rfl,n.2⟩
 rw[Ax0 k0]
 have hn:=h.n
 by_cases n0:(f.1.length:Int)=0
 ·unfold J_12_0 S_12_0
  rw[Ax0 k0,Aw0 n0]
  exact⟨f,rfl,same⟩
 obtain⟨i,hi,ei⟩:∃i:Nat,i<f.1.length/\Int.tmod (wrap .i64 a.2.1) (f.1.length:Int)=(i:Int):=by
  refine⟨a.2.1.toNat%f.1.length,Nat.mod_lt _ (by omega),?_⟩
  rw[wi64 (by omega) (by omega),<-Int.toNat_of_nonneg a0]
  exact(Int.ofNat_tmod _ _).symm
 have cf:=h.cf hi
 have fb:0<=(f.1.getD i Zd0).2.2.2.2.2.2.2.1/\(f.1.getD i Zd0).2.2.2.2.2.2.2.1<=8:=by
  simp only[Sp.cfg,Bool.and_eq_true,Bj0]at cf
  omega
 have rp:p_44 [a.2.1] (f.1.getD i Zd0).2.2.2.2.2.2.2.1=true/\v_44 [a.2.1] (f.1.getD i Zd0).2.2.2.2.2.2.2.1=(replicate (f.1.getD i Zd0).2.2.2.2.2.2.2.1.toNat a.2.1,()):=by
  refine Ld2 _ _ ?_
  have:=Ei2 a.2.1 (f.1.getD i Zd0).2.2.2.2.2.2.2.1.toNat (by omega)
  rw[Int.toNat_of_nonneg fb.1]at this
  exact this
 have fm:=Vl1 cf a0 a1
 have R:p_43 f i (a.1==1) (replicate (f.1.getD i Zd0).2.2.2.2.2.2.2.1.toNat a.2.1)=true/\∃n:FsT,(bif(v_43 f i (a.1==1) (replicate (f.1.getD i Zd0).2.2.2.2.2.2.2.1.toNat a.2.1)).2.1 !=0 then some (f,())else some ((v_43 f i (a.1==1) (replicate (f.1.getD i Zd0).2.2.2.2.2.2.2.1.toNat a.2.1)).1,()))=some (n,())/\Vf n/\n.1=f.1/\f.2.2.1<=n.2.2.1:=by
  cases hr:f.2.2.2.1
  ·have e:=Vk1 (bad:=(a.1==1)) (frame:=replicate (f.1.getD i Zd0).2.2.2.2.2.2.2.1.toNat a.2.1) h hi hr
   refine⟨e.1,f,?_,same⟩
   rw[e.2];rfl
  ·have e:=Ee2 (bad:=(a.1==1)) h hi hr fm
   refine⟨e.1,_,?_,Eg2 (bad:=(a.1==1)) h hi hr fm,rfl,Int.le_refl _⟩
   rw[e.2];rfl
 have wa:wrap .i64 a.2.1=a.2.1:=wi64 (by omega) (by omega)
 have J:J_12_0 f a (0,false,()) [] [] (0,false,()) [] []=some (.e2 f a (0,false,()) [] [] [] []):=by
  unfold J_12_0 S_12_0
  have nb:(!((f.1.length:Int)==0))=true:=by rw[beq_eq_false_iff_ne.2 n0];rfl
  rw[Ax0 k0,Ax0 n0,nb,Ai0,ei,Ap0 (by omega) (by omega),Int.toNat_natCast,Fp2 fb.1 fb.2,wa,rp.1,Ai0,rp.2,R.1,Ai0]
 rw[J]
 simp only[B_12_0]
 rw[ei,Int.toNat_natCast,Fp2 fb.1 fb.2,wa,rp.2]
 exact R.2
theorem acts{l:List ActT}(h:wfD (.slice (.pair (.int .u8) (.pair (.int .u8) (.pair (.pair (.int .i64) (.pair (.int .u32) .unit)) .unit)))) l):∀x∈l,0<=x.2.1/\x.2.1<=255:=by
 intro x hx
 have h:=(h x hx).2.1
 simp[wfD,Lit.wf,IntKind.min,IntKind.max,IntKind.signed,IntKind.bits]at h
 omega
theorem Pd1{cs:List CfT}{b:Nat}{may:List FsT}{m:MeT}{f:FsT}(L:LI cs b may m f)(hl:may.length<=1000)(h4:cs.length<=4)(l:List ActT)(n j:Int)(f':FsT):J_3_1 cs l n j m f' may=some (.e1 cs l n j m)/\v_8 m.1 0 8=(m,0,())/\∃x:FsT,v_9 m cs=(x,0,())/\LI cs b [x] m x:=by
 obtain⟨x,e,lo,li⟩:=Pi1 L
 have o:=Pc1 L.I.w 0 8
 have me:((m.1,0,8,()):MeT)=m:=by rw[<-L.I.a]
 have d:=Gk0 L.I.v
 have oe:Sp.opn m.1 0 8=(m,0,()):=by
  unfold Sp.opn
  rw[me,if_pos d.1,if_pos d.2.1,if_pos d.2.2]
 rw[oe]at o
 have l1:=Ph1 L.I.w cs
 rw[e]at l1
 have v:=Mh0 (Gx0.1 lo.v).sm
 rw[lo.v]at v
 have ft:=Fr2 lo (fun g hg=>⟨(L.mv g hg).1,(L.mv g hg).2.1⟩) hl h4
 refine⟨?_,o.2,x,l1.2,li⟩
 rw[J_3_1,S_3_1,o.1,Ai0,o.2]
 dsimp only
 rw[l1.1,Ai0,l1.2,Ar0 rfl]
 dsimp only
 rw[Ar0 rfl,Ar0 (show(x.2.1.length:Int)=(cs.length:Int) by rw[lo.l]),v.1,Ai0,v.2]
 dsimp only
 rw[Bool.not_true,At0,ft.1,Ai0,ft.2]
 rfl
theorem Ez2{cs:List CfT}(h4:cs.length<=4){l:List ActT}(wl:∀x∈l,0<=x.2.1/\x.2.1<=255)(hl:l.length<=60):∀(d q j b:Nat)(m:MeT)(f g:FsT),LI cs b [g] m f->j+d=l.length->b+5*d<=900->d<q->L_3_0 q cs l l.length j m f [g]=some .e1
 |0,q,j,b,m,f,g,L,hj,hb,hq=>by
  obtain⟨q,rfl⟩:∃k,q=k+1:=⟨q-1,by omega⟩
  rw[L_3_0,S_3_0,Ad0 (by omega)]
 |d+1,q,j,b,m,f,g,L,hj,hb,hq=>by
  obtain⟨q,rfl⟩:∃k,q=k+1:=⟨q-1,by omega⟩
  have ih:=fun(b':Nat)(m':MeT)(f' g':FsT)(L':LI cs b' [g'] m' f')(hb':b'<=b+5)=>Ez2 h4 wl hl d q (j+1) b' m' f' g' L' (by omega) (by omega) (by omega)
  rw[L_3_0,S_3_0,Af0 (by omega),Ap0 (by omega) (by omega),Int.toNat_natCast]
  have wj:wrap .i64 ((j:Int)+1)=((j+1:Nat):Int):=by rw[wi64 (by omega) (by omega)];push_cast;rfl
  have am:l.getD j Zd5∈l:=by rw[getD_at _ (show j<l.length by omega)];exact List.getElem_mem _
  have ab:=wl _ am
  generalize l.getD j Zd5=a at ab
  by_cases k3:Int.tmod a.1 5=3
  ·rw[Aw0 k3]
   generalize hp:(if(if(1073741824:Int)<a.2.2.1.1 then(1073741824:Int)else a.2.2.1.1)>(0:Int)then if(1073741824:Int)<a.2.2.1.1 then(1073741824:Int)else a.2.2.1.1 else(0:Int))=P
   have pb:0<=P/\P<=1073741824:=by
    rw[<-hp]
    split<;>split<;>omega
   have sp:=Vg1 L.I.w (Gx0.1 L.v).sm (P,a.2.2.1.2)
   have S:=Bv2 L h4 (by omega) (p:=(P,a.2.2.1.2)) pb.1 (by show P<_;omega)
   rw[sp.1,Ai0,sp.2]
   generalize Sp.svv m f (P,a.2.2.1.2)=r at S⊢
   rcases S with⟨e,S⟩|⟨e,S⟩
   ·rw[Aw0 e,Aw0 e,wj]
    exact ih (b+5) r.1 f f S (Nat.le_refl _)
   ·rw[Ax0 (by rw[e];decide),Aw0 e,List.length_singleton,Be0 (by omega) (by omega),Ax0 (by rw[e];decide)]
    obtain⟨o1,o2,x,o3,o4⟩:=Pd1 S (by rw[List.length_append,List.length_singleton,List.length_singleton];omega) h4 l l.length j f
    rw[o1]
    simp only[B_3_1]
    rw[o2]
    dsimp only
    rw[o3,wj]
    exact ih (b+5) r.1 x x o4 (Nat.le_refl _)
  rw[Ax0 k3]
  by_cases k4:Int.tmod a.1 5=4
  ·rw[Aw0 k4]
   obtain⟨o1,o2,x,o3,o4⟩:=Pd1 L (by rw[List.length_singleton];omega) h4 l l.length j f
   rw[o1]
   simp only[B_3_1]
   rw[o2]
   dsimp only
   rw[o3,wj]
   exact ih b m x x o4 (by omega)
  rw[Ax0 k4]
  obtain⟨n,e,n1,n2,n3⟩:=do_h (Gx0.1 L.v) (Int.tmod a.1 5,a.2) ab.1 ab.2
  have v:=Mh0 n1.sm
  rw[e.1,Ai0,e.2]
  dsimp only
  have nl:n.2.1.length=cs.length:=by rw[n1.l,n2,L.c]
  rw[v.1,Ai0,v.2,Gx0.2 n1,Bool.not_true,At0,Ar0 (by rw[nl]),wj]
  exact ih b m n g (L.act (Gx0.2 n1) n2 n3) (by omega)
theorem Vx1(cs:List CfT)(l:List ActT)(_:wfD (.slice (.pair (.int .i64) (.pair (.int .i64) (.pair (.int .i64) (.pair (.int .i64) (.pair (.int .i64) (.pair (.int .i64) (.pair .bool (.pair (.int .i64) .unit))))))))) cs)(wl:wfD (.slice (.pair (.int .u8) (.pair (.int .u8) (.pair (.pair (.int .i64) (.pair (.int .u32) .unit)) .unit)))) l):F_3 cs l=some true:=by
 unfold F_3
 by_cases h4:(cs.length:Int)>4
 ·rw[Af0 h4]
 rw[Ad0 h4]
 by_cases h60:(l.length:Int)>60
 ·rw[Af0 h60]
 rw[Ad0 h60,new8.1,Ai0,new8.2]
 dsimp only
 rw[Ar0 rfl]
 obtain⟨b1,b2,b3⟩:=Go2 cs
 have nw:=Pe1 cs
 rw[b1,Ai0,nw.1,Ai0,nw.2]
 by_cases hr:Sp.rcc cs=0
 ·obtain⟨x,e,xl,L⟩:=b3 hr
  have n0:(Sp.newF cs).2.1=0:=by unfold Sp.newF;rw[Aw0 hr]
  rw[Ar0 n0,e]
  dsimp only
  rw[Ar0 rfl,Ar0 (show(x.2.1.length:Int)=(cs.length:Int) by rw[xl])]
  have R:=Ez2 (cs:=cs) (by omega) (acts wl) (by omega) l.length 4611686018427387904 0 1 Sp.m0 x x L (by omega) (by omega) (by omega)
  have R:L_3_0 4611686018427387904 cs l l.length 0 Sp.m0 x [x]=some .e1:=R
  rw[R]
  rfl
 ·have n0:(Sp.newF cs).2.1=Sp.rcc cs:=by unfold Sp.newF;rw[Ax0 hr]
  rw[n0,Bh0 hr,b2 hr,beq_self_eq_true]
end Go.Ev
